/-
  No cell of these rows narrows 'for every input' (looked for: loops, veiled, ifaces, maps, wideKeys, modest, calm, conditions, laid).
  DERIVED. THE GIVEN ROWS OF THIS SEAT. 11 by the template 'for every input the law returns true; each argument reads behind the call as it read before'; 0 by the template 'total and deterministic' (their statements: YteopadjihklkmaaTotals.lean).
  GIVEN WITH THE SEED: the statements are not yours to turn. If you find one false, say at which input.
  Laid BY PROGRAM, IN A SANDBOX (cutbox-rows.mjs): the forced cells as the released guide's own fill.sh prints them over the translation b10ea58f8bd06cc5… (all of the seat's roots in one cut). By AI agents, Wed Nov 11 2026. No macro, syntax, notation, axiom, sorry.
-/
import Derived.Test.YteopadjihklkmaaChecked
import GoSem.Claim
import GoSem.ClaimJoined
import GoSem.ClaimMapViews
import Derived.JoinedTies
import Derived.KernelRfl
namespace Go.Proofs.Yteopadjihklkmaa
/- THE CELL 'sum', in the pinned program and in every row, IS THE sha256 OF THE DUMP (.gsa) THAT YteopadjihklkmaaProg.lean LOADS. Nothing in Lean hashes anything: it is a label: what it is worth is what the hold of that sum in a sandbox is worth. -/
noncomputable def Try.pinned : Pinned := { name := "yteopadjihklkmaa", sum := "b10ea58f8bd06cc5550807beec172af62dfd9f25883a5c527146dc2eb89579db", checked := Try.checked }
namespace Rows
def none {H : Type} : Left H := { results := [], args := [] }

/-- 'fareboxlaw25.AuditTells': WHATEVER THE INPUT: true; the input reads as it did. -/
def auditTellsSpec : ChangeSpec := { name := "auditTells", fn := fun _ => fun
  | [d] => { results := [.lit (.bool true)], args := [d] }
  | _ => none }
def auditTellsRow : OpenClaim := { program := "yteopadjihklkmaa", sum := "b10ea58f8bd06cc5550807beec172af62dfd9f25883a5c527146dc2eb89579db", func := "farebox/fareboxlaw25.AuditTells", spec := "auditTells", unfollowed := true, recurses := true, plainKeys := false, apart := false }
def AuditTellsSaid : Prop := auditTellsRow.holds Try.pinned (OpenSpec.ofChange auditTellsSpec)

/-- ITS FALSE NEIGHBOUR: 'it returns false'. Refute it at one input. -/
def auditTellsWrong : ChangeSpec := { name := "auditTells", fn := fun _ => fun
  | [d] => { results := [.lit (.bool false)], args := [d] }
  | _ => none }
def AuditTellsWrongFalsely : Prop := auditTellsRow.holds Try.pinned (OpenSpec.ofChange auditTellsWrong)

/-- 'fareboxlaw25.AuditSums': WHATEVER THE INPUT: true; the input reads as it did. -/
def auditSumsSpec : ChangeSpec := { name := "auditSums", fn := fun _ => fun
  | [d] => { results := [.lit (.bool true)], args := [d] }
  | _ => none }
def auditSumsRow : OpenClaim := { program := "yteopadjihklkmaa", sum := "b10ea58f8bd06cc5550807beec172af62dfd9f25883a5c527146dc2eb89579db", func := "farebox/fareboxlaw25.AuditSums", spec := "auditSums", unfollowed := true, recurses := true, plainKeys := false, apart := false }
def AuditSumsSaid : Prop := auditSumsRow.holds Try.pinned (OpenSpec.ofChange auditSumsSpec)

/-- ITS FALSE NEIGHBOUR: 'it returns false'. Refute it at one input. -/
def auditSumsWrong : ChangeSpec := { name := "auditSums", fn := fun _ => fun
  | [d] => { results := [.lit (.bool false)], args := [d] }
  | _ => none }
def AuditSumsWrongFalsely : Prop := auditSumsRow.holds Try.pinned (OpenSpec.ofChange auditSumsWrong)

/-- 'fareboxlaw25.AuditParts': WHATEVER THE INPUT: true; the input reads as it did. -/
def auditPartsSpec : ChangeSpec := { name := "auditParts", fn := fun _ => fun
  | [d1, d2] => { results := [.lit (.bool true)], args := [d1, d2] }
  | _ => none }
def auditPartsRow : OpenClaim := { program := "yteopadjihklkmaa", sum := "b10ea58f8bd06cc5550807beec172af62dfd9f25883a5c527146dc2eb89579db", func := "farebox/fareboxlaw25.AuditParts", spec := "auditParts", unfollowed := true, recurses := true, plainKeys := false, apart := false }
def AuditPartsSaid : Prop := auditPartsRow.holds Try.pinned (OpenSpec.ofChange auditPartsSpec)

/-- ITS FALSE NEIGHBOUR: 'it returns false'. Refute it at one input. -/
def auditPartsWrong : ChangeSpec := { name := "auditParts", fn := fun _ => fun
  | [d1, d2] => { results := [.lit (.bool false)], args := [d1, d2] }
  | _ => none }
def AuditPartsWrongFalsely : Prop := auditPartsRow.holds Try.pinned (OpenSpec.ofChange auditPartsWrong)

/-- 'fareboxlaw16.JournalKeeps': WHATEVER THE INPUT: true; the input reads as it did. -/
def journalKeepsSpec : ChangeSpec := { name := "journalKeeps", fn := fun _ => fun
  | [d] => { results := [.lit (.bool true)], args := [d] }
  | _ => none }
def journalKeepsRow : OpenClaim := { program := "yteopadjihklkmaa", sum := "b10ea58f8bd06cc5550807beec172af62dfd9f25883a5c527146dc2eb89579db", func := "farebox/fareboxlaw16.JournalKeeps", spec := "journalKeeps", unfollowed := true, recurses := true, plainKeys := false, apart := false }
def JournalKeepsSaid : Prop := journalKeepsRow.holds Try.pinned (OpenSpec.ofChange journalKeepsSpec)

/-- ITS FALSE NEIGHBOUR: 'it returns false'. Refute it at one input. -/
def journalKeepsWrong : ChangeSpec := { name := "journalKeeps", fn := fun _ => fun
  | [d] => { results := [.lit (.bool false)], args := [d] }
  | _ => none }
def JournalKeepsWrongFalsely : Prop := journalKeepsRow.holds Try.pinned (OpenSpec.ofChange journalKeepsWrong)

/-- 'fareboxlaw16.JournalAgain': WHATEVER THE INPUT: true; the input reads as it did. -/
def journalAgainSpec : ChangeSpec := { name := "journalAgain", fn := fun _ => fun
  | [d1, d2] => { results := [.lit (.bool true)], args := [d1, d2] }
  | _ => none }
def journalAgainRow : OpenClaim := { program := "yteopadjihklkmaa", sum := "b10ea58f8bd06cc5550807beec172af62dfd9f25883a5c527146dc2eb89579db", func := "farebox/fareboxlaw16.JournalAgain", spec := "journalAgain", unfollowed := true, recurses := true, plainKeys := false, apart := false }
def JournalAgainSaid : Prop := journalAgainRow.holds Try.pinned (OpenSpec.ofChange journalAgainSpec)

/-- ITS FALSE NEIGHBOUR: 'it returns false'. Refute it at one input. -/
def journalAgainWrong : ChangeSpec := { name := "journalAgain", fn := fun _ => fun
  | [d1, d2] => { results := [.lit (.bool false)], args := [d1, d2] }
  | _ => none }
def JournalAgainWrongFalsely : Prop := journalAgainRow.holds Try.pinned (OpenSpec.ofChange journalAgainWrong)

/-- 'fareboxlaw16.JournalSnaps': WHATEVER THE INPUT: true; the input reads as it did. -/
def journalSnapsSpec : ChangeSpec := { name := "journalSnaps", fn := fun _ => fun
  | [d1, d2, d3] => { results := [.lit (.bool true)], args := [d1, d2, d3] }
  | _ => none }
def journalSnapsRow : OpenClaim := { program := "yteopadjihklkmaa", sum := "b10ea58f8bd06cc5550807beec172af62dfd9f25883a5c527146dc2eb89579db", func := "farebox/fareboxlaw16.JournalSnaps", spec := "journalSnaps", unfollowed := true, recurses := true, plainKeys := false, apart := false }
def JournalSnapsSaid : Prop := journalSnapsRow.holds Try.pinned (OpenSpec.ofChange journalSnapsSpec)

/-- ITS FALSE NEIGHBOUR: 'it returns false'. Refute it at one input. -/
def journalSnapsWrong : ChangeSpec := { name := "journalSnaps", fn := fun _ => fun
  | [d1, d2, d3] => { results := [.lit (.bool false)], args := [d1, d2, d3] }
  | _ => none }
def JournalSnapsWrongFalsely : Prop := journalSnapsRow.holds Try.pinned (OpenSpec.ofChange journalSnapsWrong)

/-- 'fareboxlaw16.JournalOpens': WHATEVER THE INPUT: true; the input reads as it did. -/
def journalOpensSpec : ChangeSpec := { name := "journalOpens", fn := fun _ => fun
  | [d] => { results := [.lit (.bool true)], args := [d] }
  | _ => none }
def journalOpensRow : OpenClaim := { program := "yteopadjihklkmaa", sum := "b10ea58f8bd06cc5550807beec172af62dfd9f25883a5c527146dc2eb89579db", func := "farebox/fareboxlaw16.JournalOpens", spec := "journalOpens", unfollowed := true, recurses := true, plainKeys := false, apart := false }
def JournalOpensSaid : Prop := journalOpensRow.holds Try.pinned (OpenSpec.ofChange journalOpensSpec)

/-- ITS FALSE NEIGHBOUR: 'it returns false'. Refute it at one input. -/
def journalOpensWrong : ChangeSpec := { name := "journalOpens", fn := fun _ => fun
  | [d] => { results := [.lit (.bool false)], args := [d] }
  | _ => none }
def JournalOpensWrongFalsely : Prop := journalOpensRow.holds Try.pinned (OpenSpec.ofChange journalOpensWrong)

/-- 'fareboxlaw07.ShellReads': WHATEVER THE INPUT: true; the input reads as it did. -/
def shellReadsSpec : ChangeSpec := { name := "shellReads", fn := fun _ => fun
  | [d] => { results := [.lit (.bool true)], args := [d] }
  | _ => none }
def shellReadsRow : OpenClaim := { program := "yteopadjihklkmaa", sum := "b10ea58f8bd06cc5550807beec172af62dfd9f25883a5c527146dc2eb89579db", func := "farebox/fareboxlaw07.ShellReads", spec := "shellReads", unfollowed := true, recurses := true, plainKeys := false, apart := false }
def ShellReadsSaid : Prop := shellReadsRow.holds Try.pinned (OpenSpec.ofChange shellReadsSpec)

/-- ITS FALSE NEIGHBOUR: 'it returns false'. Refute it at one input. -/
def shellReadsWrong : ChangeSpec := { name := "shellReads", fn := fun _ => fun
  | [d] => { results := [.lit (.bool false)], args := [d] }
  | _ => none }
def ShellReadsWrongFalsely : Prop := shellReadsRow.holds Try.pinned (OpenSpec.ofChange shellReadsWrong)

/-- 'fareboxlaw07.ShellFormats': WHATEVER THE INPUT: true; the input reads as it did. -/
def shellFormatsSpec : ChangeSpec := { name := "shellFormats", fn := fun _ => fun
  | [d] => { results := [.lit (.bool true)], args := [d] }
  | _ => none }
def shellFormatsRow : OpenClaim := { program := "yteopadjihklkmaa", sum := "b10ea58f8bd06cc5550807beec172af62dfd9f25883a5c527146dc2eb89579db", func := "farebox/fareboxlaw07.ShellFormats", spec := "shellFormats", unfollowed := true, recurses := true, plainKeys := false, apart := false }
def ShellFormatsSaid : Prop := shellFormatsRow.holds Try.pinned (OpenSpec.ofChange shellFormatsSpec)

/-- ITS FALSE NEIGHBOUR: 'it returns false'. Refute it at one input. -/
def shellFormatsWrong : ChangeSpec := { name := "shellFormats", fn := fun _ => fun
  | [d] => { results := [.lit (.bool false)], args := [d] }
  | _ => none }
def ShellFormatsWrongFalsely : Prop := shellFormatsRow.holds Try.pinned (OpenSpec.ofChange shellFormatsWrong)

/-- 'fareboxlaw07.ShellKeeps': WHATEVER THE INPUT: true; the input reads as it did. -/
def shellKeepsSpec : ChangeSpec := { name := "shellKeeps", fn := fun _ => fun
  | [d1, d2] => { results := [.lit (.bool true)], args := [d1, d2] }
  | _ => none }
def shellKeepsRow : OpenClaim := { program := "yteopadjihklkmaa", sum := "b10ea58f8bd06cc5550807beec172af62dfd9f25883a5c527146dc2eb89579db", func := "farebox/fareboxlaw07.ShellKeeps", spec := "shellKeeps", unfollowed := true, recurses := true, plainKeys := false, apart := false }
def ShellKeepsSaid : Prop := shellKeepsRow.holds Try.pinned (OpenSpec.ofChange shellKeepsSpec)

/-- ITS FALSE NEIGHBOUR: 'it returns false'. Refute it at one input. -/
def shellKeepsWrong : ChangeSpec := { name := "shellKeeps", fn := fun _ => fun
  | [d1, d2] => { results := [.lit (.bool false)], args := [d1, d2] }
  | _ => none }
def ShellKeepsWrongFalsely : Prop := shellKeepsRow.holds Try.pinned (OpenSpec.ofChange shellKeepsWrong)

/-- 'fareboxlaw07.ShellChanges': WHATEVER THE INPUT: true; the input reads as it did. -/
def shellChangesSpec : ChangeSpec := { name := "shellChanges", fn := fun _ => fun
  | [d1, d2] => { results := [.lit (.bool true)], args := [d1, d2] }
  | _ => none }
def shellChangesRow : OpenClaim := { program := "yteopadjihklkmaa", sum := "b10ea58f8bd06cc5550807beec172af62dfd9f25883a5c527146dc2eb89579db", func := "farebox/fareboxlaw07.ShellChanges", spec := "shellChanges", unfollowed := true, recurses := true, plainKeys := false, apart := false }
def ShellChangesSaid : Prop := shellChangesRow.holds Try.pinned (OpenSpec.ofChange shellChangesSpec)

/-- ITS FALSE NEIGHBOUR: 'it returns false'. Refute it at one input. -/
def shellChangesWrong : ChangeSpec := { name := "shellChanges", fn := fun _ => fun
  | [d1, d2] => { results := [.lit (.bool false)], args := [d1, d2] }
  | _ => none }
def ShellChangesWrongFalsely : Prop := shellChangesRow.holds Try.pinned (OpenSpec.ofChange shellChangesWrong)

/- THE SECOND FORM. 'bulk': how many values and letters a reading holds, each counted each time it is reached (what is shared counts as often as it is met; a slice's spare places count too). A statement '..UptoSaid' is the law's where the arguments, and the package variables that the reading takes, are together of bulk at most 1048576: NARROWER than '..Said'. Prove '..Said' where nothing that the law and all that it calls make is longer than what came in: it says more and counts as full. Else prove '..UptoSaid'. A law counts once. -/
mutual
def uptoBulk {H : Type} : DataW H → Nat
  | .lit (.string bytes) => bytes.length + 1
  | .lit _ => 1
  | .nil => 1
  | .ptr d => uptoBulk d + 1
  | .slice elems spare => uptoBulkAll elems + uptoBulkAll spare + 1
  | .agg parts => uptoBulkAll parts + 1
  | .iface _ d => uptoBulk d + 1
  | .map entries => uptoBulkEntries entries + 1
  | .held _ => 1
def uptoBulkAll {H : Type} : List (DataW H) → Nat
  | [] => 0
  | d :: r => uptoBulk d + uptoBulkAll r
def uptoBulkEntries {H : Type} : List (Lit × DataW H) → Nat
  | [] => 0
  | x :: r => uptoBulkEntry x + uptoBulkEntries r
def uptoBulkEntry {H : Type} : Lit × DataW H → Nat
  | (.string bytes, d) => bytes.length + uptoBulk d + 1
  | (_, d) => uptoBulk d + 1
 end
def uptoSmall : (H : Type) → List (DataW H) → Bool := fun _ ds => decide (uptoBulkAll ds ≤ 1048576)
def OpenSpec.upto (s : _root_.Go.ChangeSpec) : _root_.Go.OpenSpec := { _root_.Go.OpenSpec.ofChange s with cond := some uptoSmall }

/-- 'fareboxlaw25.AuditTells', WHERE WHAT IT READS IS OF BULK AT MOST 1048576: true; the input reads as it did. -/
def auditTellsUptoRow : OpenClaim := { program := "yteopadjihklkmaa", sum := "b10ea58f8bd06cc5550807beec172af62dfd9f25883a5c527146dc2eb89579db", func := "farebox/fareboxlaw25.AuditTells", spec := "auditTells", unfollowed := true, recurses := true, plainKeys := false, apart := false, narrowed := true }
def AuditTellsUptoSaid : Prop := auditTellsUptoRow.holds Try.pinned (OpenSpec.upto auditTellsSpec)

/-- 'fareboxlaw25.AuditSums', WHERE WHAT IT READS IS OF BULK AT MOST 1048576: true; the input reads as it did. -/
def auditSumsUptoRow : OpenClaim := { program := "yteopadjihklkmaa", sum := "b10ea58f8bd06cc5550807beec172af62dfd9f25883a5c527146dc2eb89579db", func := "farebox/fareboxlaw25.AuditSums", spec := "auditSums", unfollowed := true, recurses := true, plainKeys := false, apart := false, narrowed := true }
def AuditSumsUptoSaid : Prop := auditSumsUptoRow.holds Try.pinned (OpenSpec.upto auditSumsSpec)

/-- 'fareboxlaw25.AuditParts', WHERE WHAT IT READS IS OF BULK AT MOST 1048576: true; the input reads as it did. -/
def auditPartsUptoRow : OpenClaim := { program := "yteopadjihklkmaa", sum := "b10ea58f8bd06cc5550807beec172af62dfd9f25883a5c527146dc2eb89579db", func := "farebox/fareboxlaw25.AuditParts", spec := "auditParts", unfollowed := true, recurses := true, plainKeys := false, apart := false, narrowed := true }
def AuditPartsUptoSaid : Prop := auditPartsUptoRow.holds Try.pinned (OpenSpec.upto auditPartsSpec)

/-- 'fareboxlaw16.JournalKeeps', WHERE WHAT IT READS IS OF BULK AT MOST 1048576: true; the input reads as it did. -/
def journalKeepsUptoRow : OpenClaim := { program := "yteopadjihklkmaa", sum := "b10ea58f8bd06cc5550807beec172af62dfd9f25883a5c527146dc2eb89579db", func := "farebox/fareboxlaw16.JournalKeeps", spec := "journalKeeps", unfollowed := true, recurses := true, plainKeys := false, apart := false, narrowed := true }
def JournalKeepsUptoSaid : Prop := journalKeepsUptoRow.holds Try.pinned (OpenSpec.upto journalKeepsSpec)

/-- 'fareboxlaw16.JournalAgain', WHERE WHAT IT READS IS OF BULK AT MOST 1048576: true; the input reads as it did. -/
def journalAgainUptoRow : OpenClaim := { program := "yteopadjihklkmaa", sum := "b10ea58f8bd06cc5550807beec172af62dfd9f25883a5c527146dc2eb89579db", func := "farebox/fareboxlaw16.JournalAgain", spec := "journalAgain", unfollowed := true, recurses := true, plainKeys := false, apart := false, narrowed := true }
def JournalAgainUptoSaid : Prop := journalAgainUptoRow.holds Try.pinned (OpenSpec.upto journalAgainSpec)

/-- 'fareboxlaw16.JournalSnaps', WHERE WHAT IT READS IS OF BULK AT MOST 1048576: true; the input reads as it did. -/
def journalSnapsUptoRow : OpenClaim := { program := "yteopadjihklkmaa", sum := "b10ea58f8bd06cc5550807beec172af62dfd9f25883a5c527146dc2eb89579db", func := "farebox/fareboxlaw16.JournalSnaps", spec := "journalSnaps", unfollowed := true, recurses := true, plainKeys := false, apart := false, narrowed := true }
def JournalSnapsUptoSaid : Prop := journalSnapsUptoRow.holds Try.pinned (OpenSpec.upto journalSnapsSpec)

/-- 'fareboxlaw16.JournalOpens', WHERE WHAT IT READS IS OF BULK AT MOST 1048576: true; the input reads as it did. -/
def journalOpensUptoRow : OpenClaim := { program := "yteopadjihklkmaa", sum := "b10ea58f8bd06cc5550807beec172af62dfd9f25883a5c527146dc2eb89579db", func := "farebox/fareboxlaw16.JournalOpens", spec := "journalOpens", unfollowed := true, recurses := true, plainKeys := false, apart := false, narrowed := true }
def JournalOpensUptoSaid : Prop := journalOpensUptoRow.holds Try.pinned (OpenSpec.upto journalOpensSpec)

/-- 'fareboxlaw07.ShellReads', WHERE WHAT IT READS IS OF BULK AT MOST 1048576: true; the input reads as it did. -/
def shellReadsUptoRow : OpenClaim := { program := "yteopadjihklkmaa", sum := "b10ea58f8bd06cc5550807beec172af62dfd9f25883a5c527146dc2eb89579db", func := "farebox/fareboxlaw07.ShellReads", spec := "shellReads", unfollowed := true, recurses := true, plainKeys := false, apart := false, narrowed := true }
def ShellReadsUptoSaid : Prop := shellReadsUptoRow.holds Try.pinned (OpenSpec.upto shellReadsSpec)

/-- 'fareboxlaw07.ShellFormats', WHERE WHAT IT READS IS OF BULK AT MOST 1048576: true; the input reads as it did. -/
def shellFormatsUptoRow : OpenClaim := { program := "yteopadjihklkmaa", sum := "b10ea58f8bd06cc5550807beec172af62dfd9f25883a5c527146dc2eb89579db", func := "farebox/fareboxlaw07.ShellFormats", spec := "shellFormats", unfollowed := true, recurses := true, plainKeys := false, apart := false, narrowed := true }
def ShellFormatsUptoSaid : Prop := shellFormatsUptoRow.holds Try.pinned (OpenSpec.upto shellFormatsSpec)

/-- 'fareboxlaw07.ShellKeeps', WHERE WHAT IT READS IS OF BULK AT MOST 1048576: true; the input reads as it did. -/
def shellKeepsUptoRow : OpenClaim := { program := "yteopadjihklkmaa", sum := "b10ea58f8bd06cc5550807beec172af62dfd9f25883a5c527146dc2eb89579db", func := "farebox/fareboxlaw07.ShellKeeps", spec := "shellKeeps", unfollowed := true, recurses := true, plainKeys := false, apart := false, narrowed := true }
def ShellKeepsUptoSaid : Prop := shellKeepsUptoRow.holds Try.pinned (OpenSpec.upto shellKeepsSpec)

/-- 'fareboxlaw07.ShellChanges', WHERE WHAT IT READS IS OF BULK AT MOST 1048576: true; the input reads as it did. -/
def shellChangesUptoRow : OpenClaim := { program := "yteopadjihklkmaa", sum := "b10ea58f8bd06cc5550807beec172af62dfd9f25883a5c527146dc2eb89579db", func := "farebox/fareboxlaw07.ShellChanges", spec := "shellChanges", unfollowed := true, recurses := true, plainKeys := false, apart := false, narrowed := true }
def ShellChangesUptoSaid : Prop := shellChangesUptoRow.holds Try.pinned (OpenSpec.upto shellChangesSpec)

end Rows
end Go.Proofs.Yteopadjihklkmaa
