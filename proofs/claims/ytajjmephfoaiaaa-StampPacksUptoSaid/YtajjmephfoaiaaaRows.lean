/-
  No cell of these rows narrows 'for every input' (looked for: loops, veiled, ifaces, maps, wideKeys, modest, calm, conditions, laid).
  DERIVED. THE GIVEN ROWS OF THIS SEAT. 12 by the template 'for every input the law returns true; each argument reads behind the call as it read before'; 0 by the template 'total and deterministic' (their statements: YtajjmephfoaiaaaTotals.lean).
  GIVEN WITH THE SEED: the statements are not yours to turn. If you find one false, say at which input.
  Laid BY PROGRAM, IN A SANDBOX (cutbox-rows.mjs): the forced cells as the released guide's own fill.sh prints them over the translation bce70401f58fcd7e… (all of the seat's roots in one cut). By AI agents, Wed Nov 11 2026. No macro, syntax, notation, axiom, sorry.
-/
import Derived.Test.YtajjmephfoaiaaaChecked
import GoSem.Claim
import GoSem.ClaimJoined
import GoSem.ClaimMapViews
import Derived.JoinedTies
import Derived.KernelRfl
namespace Go.Proofs.Ytajjmephfoaiaaa
/- THE CELL 'sum', in the pinned program and in every row, IS THE sha256 OF THE DUMP (.gsa) THAT YtajjmephfoaiaaaProg.lean LOADS. Nothing in Lean hashes anything: it is a label: what it is worth is what the hold of that sum in a sandbox is worth. -/
noncomputable def Try.pinned : Pinned := { name := "ytajjmephfoaiaaa", sum := "bce70401f58fcd7e12a745739c07a6fb2f8ea415134b4f651c41a3578771293e", checked := Try.checked }
namespace Rows
def none {H : Type} : Left H := { results := [], args := [] }

/-- 'fareboxlaw03.CrcSums': WHATEVER THE INPUT: true; the input reads as it did. -/
def crcSumsSpec : ChangeSpec := { name := "crcSums", fn := fun _ => fun
  | [d1, d2, d3] => { results := [.lit (.bool true)], args := [d1, d2, d3] }
  | _ => none }
def crcSumsRow : OpenClaim := { program := "ytajjmephfoaiaaa", sum := "bce70401f58fcd7e12a745739c07a6fb2f8ea415134b4f651c41a3578771293e", func := "farebox/fareboxlaw03.CrcSums", spec := "crcSums", apart := false }
def CrcSumsSaid : Prop := crcSumsRow.holds Try.pinned (OpenSpec.ofChange crcSumsSpec)

/-- ITS FALSE NEIGHBOUR: 'it returns false'. Refute it at one input. -/
def crcSumsWrong : ChangeSpec := { name := "crcSums", fn := fun _ => fun
  | [d1, d2, d3] => { results := [.lit (.bool false)], args := [d1, d2, d3] }
  | _ => none }
def CrcSumsWrongFalsely : Prop := crcSumsRow.holds Try.pinned (OpenSpec.ofChange crcSumsWrong)

/-- 'fareboxlaw02.StampSteps': WHATEVER THE INPUT: true; the input reads as it did. -/
def stampStepsSpec : ChangeSpec := { name := "stampSteps", fn := fun _ => fun
  | [d1, d2, d3] => { results := [.lit (.bool true)], args := [d1, d2, d3] }
  | _ => none }
def stampStepsRow : OpenClaim := { program := "ytajjmephfoaiaaa", sum := "bce70401f58fcd7e12a745739c07a6fb2f8ea415134b4f651c41a3578771293e", func := "farebox/fareboxlaw02.StampSteps", spec := "stampSteps", apart := false }
def StampStepsSaid : Prop := stampStepsRow.holds Try.pinned (OpenSpec.ofChange stampStepsSpec)

/-- ITS FALSE NEIGHBOUR: 'it returns false'. Refute it at one input. -/
def stampStepsWrong : ChangeSpec := { name := "stampSteps", fn := fun _ => fun
  | [d1, d2, d3] => { results := [.lit (.bool false)], args := [d1, d2, d3] }
  | _ => none }
def StampStepsWrongFalsely : Prop := stampStepsRow.holds Try.pinned (OpenSpec.ofChange stampStepsWrong)

/-- 'fareboxlaw02.StampTexts': WHATEVER THE INPUT: true; the input reads as it did. -/
def stampTextsSpec : ChangeSpec := { name := "stampTexts", fn := fun _ => fun
  | [d1, d2, d3] => { results := [.lit (.bool true)], args := [d1, d2, d3] }
  | _ => none }
def stampTextsRow : OpenClaim := { program := "ytajjmephfoaiaaa", sum := "bce70401f58fcd7e12a745739c07a6fb2f8ea415134b4f651c41a3578771293e", func := "farebox/fareboxlaw02.StampTexts", spec := "stampTexts", apart := false }
def StampTextsSaid : Prop := stampTextsRow.holds Try.pinned (OpenSpec.ofChange stampTextsSpec)

/-- ITS FALSE NEIGHBOUR: 'it returns false'. Refute it at one input. -/
def stampTextsWrong : ChangeSpec := { name := "stampTexts", fn := fun _ => fun
  | [d1, d2, d3] => { results := [.lit (.bool false)], args := [d1, d2, d3] }
  | _ => none }
def StampTextsWrongFalsely : Prop := stampTextsRow.holds Try.pinned (OpenSpec.ofChange stampTextsWrong)

/-- 'fareboxlaw03.CrcOpens': WHATEVER THE INPUT: true; the input reads as it did. -/
def crcOpensSpec : ChangeSpec := { name := "crcOpens", fn := fun _ => fun
  | [d] => { results := [.lit (.bool true)], args := [d] }
  | _ => none }
def crcOpensRow : OpenClaim := { program := "ytajjmephfoaiaaa", sum := "bce70401f58fcd7e12a745739c07a6fb2f8ea415134b4f651c41a3578771293e", func := "farebox/fareboxlaw03.CrcOpens", spec := "crcOpens", apart := false }
def CrcOpensSaid : Prop := crcOpensRow.holds Try.pinned (OpenSpec.ofChange crcOpensSpec)

/-- ITS FALSE NEIGHBOUR: 'it returns false'. Refute it at one input. -/
def crcOpensWrong : ChangeSpec := { name := "crcOpens", fn := fun _ => fun
  | [d] => { results := [.lit (.bool false)], args := [d] }
  | _ => none }
def CrcOpensWrongFalsely : Prop := crcOpensRow.holds Try.pinned (OpenSpec.ofChange crcOpensWrong)

/-- 'fareboxlaw03.CrcBursts': WHATEVER THE INPUT: true; the input reads as it did. -/
def crcBurstsSpec : ChangeSpec := { name := "crcBursts", fn := fun _ => fun
  | [d1, d2, d3] => { results := [.lit (.bool true)], args := [d1, d2, d3] }
  | _ => none }
def crcBurstsRow : OpenClaim := { program := "ytajjmephfoaiaaa", sum := "bce70401f58fcd7e12a745739c07a6fb2f8ea415134b4f651c41a3578771293e", func := "farebox/fareboxlaw03.CrcBursts", spec := "crcBursts", apart := false }
def CrcBurstsSaid : Prop := crcBurstsRow.holds Try.pinned (OpenSpec.ofChange crcBurstsSpec)

/-- ITS FALSE NEIGHBOUR: 'it returns false'. Refute it at one input. -/
def crcBurstsWrong : ChangeSpec := { name := "crcBursts", fn := fun _ => fun
  | [d1, d2, d3] => { results := [.lit (.bool false)], args := [d1, d2, d3] }
  | _ => none }
def CrcBurstsWrongFalsely : Prop := crcBurstsRow.holds Try.pinned (OpenSpec.ofChange crcBurstsWrong)

/-- 'fareboxlaw03.CrcNought': WHATEVER THE INPUT: true; the input reads as it did. -/
def crcNoughtSpec : ChangeSpec := { name := "crcNought", fn := fun _ => fun
  | [d] => { results := [.lit (.bool true)], args := [d] }
  | _ => none }
def crcNoughtRow : OpenClaim := { program := "ytajjmephfoaiaaa", sum := "bce70401f58fcd7e12a745739c07a6fb2f8ea415134b4f651c41a3578771293e", func := "farebox/fareboxlaw03.CrcNought", spec := "crcNought", apart := false }
def CrcNoughtSaid : Prop := crcNoughtRow.holds Try.pinned (OpenSpec.ofChange crcNoughtSpec)

/-- ITS FALSE NEIGHBOUR: 'it returns false'. Refute it at one input. -/
def crcNoughtWrong : ChangeSpec := { name := "crcNought", fn := fun _ => fun
  | [d] => { results := [.lit (.bool false)], args := [d] }
  | _ => none }
def CrcNoughtWrongFalsely : Prop := crcNoughtRow.holds Try.pinned (OpenSpec.ofChange crcNoughtWrong)

/-- 'fareboxlaw02.StampAdds': WHATEVER THE INPUT: true; the input reads as it did. -/
def stampAddsSpec : ChangeSpec := { name := "stampAdds", fn := fun _ => fun
  | [d1, d2] => { results := [.lit (.bool true)], args := [d1, d2] }
  | _ => none }
def stampAddsRow : OpenClaim := { program := "ytajjmephfoaiaaa", sum := "bce70401f58fcd7e12a745739c07a6fb2f8ea415134b4f651c41a3578771293e", func := "farebox/fareboxlaw02.StampAdds", spec := "stampAdds", apart := false }
def StampAddsSaid : Prop := stampAddsRow.holds Try.pinned (OpenSpec.ofChange stampAddsSpec)

/-- ITS FALSE NEIGHBOUR: 'it returns false'. Refute it at one input. -/
def stampAddsWrong : ChangeSpec := { name := "stampAdds", fn := fun _ => fun
  | [d1, d2] => { results := [.lit (.bool false)], args := [d1, d2] }
  | _ => none }
def StampAddsWrongFalsely : Prop := stampAddsRow.holds Try.pinned (OpenSpec.ofChange stampAddsWrong)

/-- 'fareboxlaw02.StampDigits': WHATEVER THE INPUT: true; the input reads as it did. -/
def stampDigitsSpec : ChangeSpec := { name := "stampDigits", fn := fun _ => fun
  | [d1, d2, d3] => { results := [.lit (.bool true)], args := [d1, d2, d3] }
  | _ => none }
def stampDigitsRow : OpenClaim := { program := "ytajjmephfoaiaaa", sum := "bce70401f58fcd7e12a745739c07a6fb2f8ea415134b4f651c41a3578771293e", func := "farebox/fareboxlaw02.StampDigits", spec := "stampDigits", apart := false }
def StampDigitsSaid : Prop := stampDigitsRow.holds Try.pinned (OpenSpec.ofChange stampDigitsSpec)

/-- ITS FALSE NEIGHBOUR: 'it returns false'. Refute it at one input. -/
def stampDigitsWrong : ChangeSpec := { name := "stampDigits", fn := fun _ => fun
  | [d1, d2, d3] => { results := [.lit (.bool false)], args := [d1, d2, d3] }
  | _ => none }
def StampDigitsWrongFalsely : Prop := stampDigitsRow.holds Try.pinned (OpenSpec.ofChange stampDigitsWrong)

/-- 'fareboxlaw02.StampBack': WHATEVER THE INPUT: true; the input reads as it did. -/
def stampBackSpec : ChangeSpec := { name := "stampBack", fn := fun _ => fun
  | [d1, d2] => { results := [.lit (.bool true)], args := [d1, d2] }
  | _ => none }
def stampBackRow : OpenClaim := { program := "ytajjmephfoaiaaa", sum := "bce70401f58fcd7e12a745739c07a6fb2f8ea415134b4f651c41a3578771293e", func := "farebox/fareboxlaw02.StampBack", spec := "stampBack", apart := false }
def StampBackSaid : Prop := stampBackRow.holds Try.pinned (OpenSpec.ofChange stampBackSpec)

/-- ITS FALSE NEIGHBOUR: 'it returns false'. Refute it at one input. -/
def stampBackWrong : ChangeSpec := { name := "stampBack", fn := fun _ => fun
  | [d1, d2] => { results := [.lit (.bool false)], args := [d1, d2] }
  | _ => none }
def StampBackWrongFalsely : Prop := stampBackRow.holds Try.pinned (OpenSpec.ofChange stampBackWrong)

/-- 'fareboxlaw02.StampLatest': WHATEVER THE INPUT: true; the input reads as it did. -/
def stampLatestSpec : ChangeSpec := { name := "stampLatest", fn := fun _ => fun
  | [d] => { results := [.lit (.bool true)], args := [d] }
  | _ => none }
def stampLatestRow : OpenClaim := { program := "ytajjmephfoaiaaa", sum := "bce70401f58fcd7e12a745739c07a6fb2f8ea415134b4f651c41a3578771293e", func := "farebox/fareboxlaw02.StampLatest", spec := "stampLatest", apart := false }
def StampLatestSaid : Prop := stampLatestRow.holds Try.pinned (OpenSpec.ofChange stampLatestSpec)

/-- ITS FALSE NEIGHBOUR: 'it returns false'. Refute it at one input. -/
def stampLatestWrong : ChangeSpec := { name := "stampLatest", fn := fun _ => fun
  | [d] => { results := [.lit (.bool false)], args := [d] }
  | _ => none }
def StampLatestWrongFalsely : Prop := stampLatestRow.holds Try.pinned (OpenSpec.ofChange stampLatestWrong)

/-- 'fareboxlaw02.StampOrder': WHATEVER THE INPUT: true; the input reads as it did. -/
def stampOrderSpec : ChangeSpec := { name := "stampOrder", fn := fun _ => fun
  | [d1, d2] => { results := [.lit (.bool true)], args := [d1, d2] }
  | _ => none }
def stampOrderRow : OpenClaim := { program := "ytajjmephfoaiaaa", sum := "bce70401f58fcd7e12a745739c07a6fb2f8ea415134b4f651c41a3578771293e", func := "farebox/fareboxlaw02.StampOrder", spec := "stampOrder", apart := false }
def StampOrderSaid : Prop := stampOrderRow.holds Try.pinned (OpenSpec.ofChange stampOrderSpec)

/-- ITS FALSE NEIGHBOUR: 'it returns false'. Refute it at one input. -/
def stampOrderWrong : ChangeSpec := { name := "stampOrder", fn := fun _ => fun
  | [d1, d2] => { results := [.lit (.bool false)], args := [d1, d2] }
  | _ => none }
def StampOrderWrongFalsely : Prop := stampOrderRow.holds Try.pinned (OpenSpec.ofChange stampOrderWrong)

/-- 'fareboxlaw02.StampPacks': WHATEVER THE INPUT: true; the input reads as it did. -/
def stampPacksSpec : ChangeSpec := { name := "stampPacks", fn := fun _ => fun
  | [d1, d2] => { results := [.lit (.bool true)], args := [d1, d2] }
  | _ => none }
def stampPacksRow : OpenClaim := { program := "ytajjmephfoaiaaa", sum := "bce70401f58fcd7e12a745739c07a6fb2f8ea415134b4f651c41a3578771293e", func := "farebox/fareboxlaw02.StampPacks", spec := "stampPacks", apart := false }
def StampPacksSaid : Prop := stampPacksRow.holds Try.pinned (OpenSpec.ofChange stampPacksSpec)

/-- ITS FALSE NEIGHBOUR: 'it returns false'. Refute it at one input. -/
def stampPacksWrong : ChangeSpec := { name := "stampPacks", fn := fun _ => fun
  | [d1, d2] => { results := [.lit (.bool false)], args := [d1, d2] }
  | _ => none }
def StampPacksWrongFalsely : Prop := stampPacksRow.holds Try.pinned (OpenSpec.ofChange stampPacksWrong)

/- THE SECOND FORM. 'bulk': how many values and letters a reading holds, each counted each time it is reached (what is shared counts as often as it is met; a slice's spare places count too). A statement '..UptoSaid' is the law's where the arguments, and the package variables that the reading takes, are together of bulk at most 1048576: NARROWER than '..Said'. Prove '..Said' where nothing that the law and all that it calls make is longer than what came in: it says more and counts as full. Else prove '..UptoSaid'. A law counts once. -/
mutual
def uptoBulk {H : Type} : DataW H → Nat
  | .lit (.string bytes) => bytes.length + 1
  | .lit _ => 1
  | .nil => 1
  | .ptr d => uptoBulk d + 1
  | .slice elems spare => uptoBulkAll elems + uptoBulkAll spare + 1
  | .agg parts => uptoBulkAll parts + 1
  | .iface _ d => uptoBulk d + 1
  | .map entries => uptoBulkEntries entries + 1
  | .held _ => 1
def uptoBulkAll {H : Type} : List (DataW H) → Nat
  | [] => 0
  | d :: r => uptoBulk d + uptoBulkAll r
def uptoBulkEntries {H : Type} : List (Lit × DataW H) → Nat
  | [] => 0
  | x :: r => uptoBulkEntry x + uptoBulkEntries r
def uptoBulkEntry {H : Type} : Lit × DataW H → Nat
  | (.string bytes, d) => bytes.length + uptoBulk d + 1
  | (_, d) => uptoBulk d + 1
 end
def uptoSmall : (H : Type) → List (DataW H) → Bool := fun _ ds => decide (uptoBulkAll ds ≤ 1048576)
def OpenSpec.upto (s : _root_.Go.ChangeSpec) : _root_.Go.OpenSpec := { _root_.Go.OpenSpec.ofChange s with cond := some uptoSmall }

/-- 'fareboxlaw03.CrcSums', WHERE WHAT IT READS IS OF BULK AT MOST 1048576: true; the input reads as it did. -/
def crcSumsUptoRow : OpenClaim := { program := "ytajjmephfoaiaaa", sum := "bce70401f58fcd7e12a745739c07a6fb2f8ea415134b4f651c41a3578771293e", func := "farebox/fareboxlaw03.CrcSums", spec := "crcSums", apart := false, narrowed := true }
def CrcSumsUptoSaid : Prop := crcSumsUptoRow.holds Try.pinned (OpenSpec.upto crcSumsSpec)

/-- 'fareboxlaw02.StampSteps', WHERE WHAT IT READS IS OF BULK AT MOST 1048576: true; the input reads as it did. -/
def stampStepsUptoRow : OpenClaim := { program := "ytajjmephfoaiaaa", sum := "bce70401f58fcd7e12a745739c07a6fb2f8ea415134b4f651c41a3578771293e", func := "farebox/fareboxlaw02.StampSteps", spec := "stampSteps", apart := false, narrowed := true }
def StampStepsUptoSaid : Prop := stampStepsUptoRow.holds Try.pinned (OpenSpec.upto stampStepsSpec)

/-- 'fareboxlaw02.StampTexts', WHERE WHAT IT READS IS OF BULK AT MOST 1048576: true; the input reads as it did. -/
def stampTextsUptoRow : OpenClaim := { program := "ytajjmephfoaiaaa", sum := "bce70401f58fcd7e12a745739c07a6fb2f8ea415134b4f651c41a3578771293e", func := "farebox/fareboxlaw02.StampTexts", spec := "stampTexts", apart := false, narrowed := true }
def StampTextsUptoSaid : Prop := stampTextsUptoRow.holds Try.pinned (OpenSpec.upto stampTextsSpec)

/-- 'fareboxlaw03.CrcOpens', WHERE WHAT IT READS IS OF BULK AT MOST 1048576: true; the input reads as it did. -/
def crcOpensUptoRow : OpenClaim := { program := "ytajjmephfoaiaaa", sum := "bce70401f58fcd7e12a745739c07a6fb2f8ea415134b4f651c41a3578771293e", func := "farebox/fareboxlaw03.CrcOpens", spec := "crcOpens", apart := false, narrowed := true }
def CrcOpensUptoSaid : Prop := crcOpensUptoRow.holds Try.pinned (OpenSpec.upto crcOpensSpec)

/-- 'fareboxlaw03.CrcBursts', WHERE WHAT IT READS IS OF BULK AT MOST 1048576: true; the input reads as it did. -/
def crcBurstsUptoRow : OpenClaim := { program := "ytajjmephfoaiaaa", sum := "bce70401f58fcd7e12a745739c07a6fb2f8ea415134b4f651c41a3578771293e", func := "farebox/fareboxlaw03.CrcBursts", spec := "crcBursts", apart := false, narrowed := true }
def CrcBurstsUptoSaid : Prop := crcBurstsUptoRow.holds Try.pinned (OpenSpec.upto crcBurstsSpec)

/-- 'fareboxlaw03.CrcNought', WHERE WHAT IT READS IS OF BULK AT MOST 1048576: true; the input reads as it did. -/
def crcNoughtUptoRow : OpenClaim := { program := "ytajjmephfoaiaaa", sum := "bce70401f58fcd7e12a745739c07a6fb2f8ea415134b4f651c41a3578771293e", func := "farebox/fareboxlaw03.CrcNought", spec := "crcNought", apart := false, narrowed := true }
def CrcNoughtUptoSaid : Prop := crcNoughtUptoRow.holds Try.pinned (OpenSpec.upto crcNoughtSpec)

/-- 'fareboxlaw02.StampAdds', WHERE WHAT IT READS IS OF BULK AT MOST 1048576: true; the input reads as it did. -/
def stampAddsUptoRow : OpenClaim := { program := "ytajjmephfoaiaaa", sum := "bce70401f58fcd7e12a745739c07a6fb2f8ea415134b4f651c41a3578771293e", func := "farebox/fareboxlaw02.StampAdds", spec := "stampAdds", apart := false, narrowed := true }
def StampAddsUptoSaid : Prop := stampAddsUptoRow.holds Try.pinned (OpenSpec.upto stampAddsSpec)

/-- 'fareboxlaw02.StampDigits', WHERE WHAT IT READS IS OF BULK AT MOST 1048576: true; the input reads as it did. -/
def stampDigitsUptoRow : OpenClaim := { program := "ytajjmephfoaiaaa", sum := "bce70401f58fcd7e12a745739c07a6fb2f8ea415134b4f651c41a3578771293e", func := "farebox/fareboxlaw02.StampDigits", spec := "stampDigits", apart := false, narrowed := true }
def StampDigitsUptoSaid : Prop := stampDigitsUptoRow.holds Try.pinned (OpenSpec.upto stampDigitsSpec)

/-- 'fareboxlaw02.StampBack', WHERE WHAT IT READS IS OF BULK AT MOST 1048576: true; the input reads as it did. -/
def stampBackUptoRow : OpenClaim := { program := "ytajjmephfoaiaaa", sum := "bce70401f58fcd7e12a745739c07a6fb2f8ea415134b4f651c41a3578771293e", func := "farebox/fareboxlaw02.StampBack", spec := "stampBack", apart := false, narrowed := true }
def StampBackUptoSaid : Prop := stampBackUptoRow.holds Try.pinned (OpenSpec.upto stampBackSpec)

/-- 'fareboxlaw02.StampLatest', WHERE WHAT IT READS IS OF BULK AT MOST 1048576: true; the input reads as it did. -/
def stampLatestUptoRow : OpenClaim := { program := "ytajjmephfoaiaaa", sum := "bce70401f58fcd7e12a745739c07a6fb2f8ea415134b4f651c41a3578771293e", func := "farebox/fareboxlaw02.StampLatest", spec := "stampLatest", apart := false, narrowed := true }
def StampLatestUptoSaid : Prop := stampLatestUptoRow.holds Try.pinned (OpenSpec.upto stampLatestSpec)

/-- 'fareboxlaw02.StampOrder', WHERE WHAT IT READS IS OF BULK AT MOST 1048576: true; the input reads as it did. -/
def stampOrderUptoRow : OpenClaim := { program := "ytajjmephfoaiaaa", sum := "bce70401f58fcd7e12a745739c07a6fb2f8ea415134b4f651c41a3578771293e", func := "farebox/fareboxlaw02.StampOrder", spec := "stampOrder", apart := false, narrowed := true }
def StampOrderUptoSaid : Prop := stampOrderUptoRow.holds Try.pinned (OpenSpec.upto stampOrderSpec)

/-- 'fareboxlaw02.StampPacks', WHERE WHAT IT READS IS OF BULK AT MOST 1048576: true; the input reads as it did. -/
def stampPacksUptoRow : OpenClaim := { program := "ytajjmephfoaiaaa", sum := "bce70401f58fcd7e12a745739c07a6fb2f8ea415134b4f651c41a3578771293e", func := "farebox/fareboxlaw02.StampPacks", spec := "stampPacks", apart := false, narrowed := true }
def StampPacksUptoSaid : Prop := stampPacksUptoRow.holds Try.pinned (OpenSpec.upto stampPacksSpec)

end Rows
end Go.Proofs.Ytajjmephfoaiaaa
