/-
  No cell of these rows narrows 'for every input' (looked for: loops, veiled, ifaces, maps, wideKeys, modest, calm, conditions, laid).
  DERIVED. THE GIVEN ROWS OF THIS SEAT. 14 by the template 'for every input the law returns true; each argument reads behind the call as it read before'; 0 by the template 'total and deterministic' (their statements: YtnmhkhobjaklhaaTotals.lean).
  GIVEN WITH THE SEED: the statements are not yours to turn. If you find one false, say at which input.
  Laid BY PROGRAM, IN A SANDBOX (cutbox-rows.mjs): the forced cells as the released guide's own fill.sh prints them over the translation 274a9e0f60427ad5… (all of the seat's roots in one cut). By AI agents, Wed Nov 11 2026. No macro, syntax, notation, axiom, sorry.
-/
import Derived.Test.YtnmhkhobjaklhaaChecked
import GoSem.Claim
import GoSem.ClaimJoined
import GoSem.ClaimMapViews
import Derived.JoinedTies
import Derived.KernelRfl
namespace Go.Proofs.Ytnmhkhobjaklhaa
/- THE CELL 'sum', in the pinned program and in every row, IS THE sha256 OF THE DUMP (.gsa) THAT YtnmhkhobjaklhaaProg.lean LOADS. Nothing in Lean hashes anything: it is a label: what it is worth is what the hold of that sum in a sandbox is worth. -/
noncomputable def Try.pinned : Pinned := { name := "ytnmhkhobjaklhaa", sum := "274a9e0f60427ad578784d68b35c6dfefdf9c317b87cdd273b91aea4904ecdff", checked := Try.checked }
namespace Rows
def none {H : Type} : Left H := { results := [], args := [] }

/-- 'podestalaw09.CodeReads': WHATEVER THE INPUT: true; the input reads as it did. -/
def codeReadsSpec : ChangeSpec := { name := "codeReads", fn := fun _ => fun
  | [d] => { results := [.lit (.bool true)], args := [d] }
  | _ => none }
def codeReadsRow : OpenClaim := { program := "ytnmhkhobjaklhaa", sum := "274a9e0f60427ad578784d68b35c6dfefdf9c317b87cdd273b91aea4904ecdff", func := "podesta/podestalaw09.CodeReads", spec := "codeReads", unfollowed := true, recurses := true, apart := false }
def CodeReadsSaid : Prop := codeReadsRow.holds Try.pinned (OpenSpec.ofChange codeReadsSpec)

/-- ITS FALSE NEIGHBOUR: 'it returns false'. Refute it at one input. -/
def codeReadsWrong : ChangeSpec := { name := "codeReads", fn := fun _ => fun
  | [d] => { results := [.lit (.bool false)], args := [d] }
  | _ => none }
def CodeReadsWrongFalsely : Prop := codeReadsRow.holds Try.pinned (OpenSpec.ofChange codeReadsWrong)

/-- 'podestalaw09.CodeCut': WHATEVER THE INPUT: true; the input reads as it did. -/
def codeCutSpec : ChangeSpec := { name := "codeCut", fn := fun _ => fun
  | [d1, d2, d3] => { results := [.lit (.bool true)], args := [d1, d2, d3] }
  | _ => none }
def codeCutRow : OpenClaim := { program := "ytnmhkhobjaklhaa", sum := "274a9e0f60427ad578784d68b35c6dfefdf9c317b87cdd273b91aea4904ecdff", func := "podesta/podestalaw09.CodeCut", spec := "codeCut", unfollowed := true, recurses := true, apart := false }
def CodeCutSaid : Prop := codeCutRow.holds Try.pinned (OpenSpec.ofChange codeCutSpec)

/-- ITS FALSE NEIGHBOUR: 'it returns false'. Refute it at one input. -/
def codeCutWrong : ChangeSpec := { name := "codeCut", fn := fun _ => fun
  | [d1, d2, d3] => { results := [.lit (.bool false)], args := [d1, d2, d3] }
  | _ => none }
def CodeCutWrongFalsely : Prop := codeCutRow.holds Try.pinned (OpenSpec.ofChange codeCutWrong)

/-- 'podestalaw09.CodeTurned': WHATEVER THE INPUT: true; the input reads as it did. -/
def codeTurnedSpec : ChangeSpec := { name := "codeTurned", fn := fun _ => fun
  | [d1, d2, d3] => { results := [.lit (.bool true)], args := [d1, d2, d3] }
  | _ => none }
def codeTurnedRow : OpenClaim := { program := "ytnmhkhobjaklhaa", sum := "274a9e0f60427ad578784d68b35c6dfefdf9c317b87cdd273b91aea4904ecdff", func := "podesta/podestalaw09.CodeTurned", spec := "codeTurned", unfollowed := true, recurses := true, apart := false }
def CodeTurnedSaid : Prop := codeTurnedRow.holds Try.pinned (OpenSpec.ofChange codeTurnedSpec)

/-- ITS FALSE NEIGHBOUR: 'it returns false'. Refute it at one input. -/
def codeTurnedWrong : ChangeSpec := { name := "codeTurned", fn := fun _ => fun
  | [d1, d2, d3] => { results := [.lit (.bool false)], args := [d1, d2, d3] }
  | _ => none }
def CodeTurnedWrongFalsely : Prop := codeTurnedRow.holds Try.pinned (OpenSpec.ofChange codeTurnedWrong)

/-- 'podestalaw05.RuleOwn': WHATEVER THE INPUT: true; the input reads as it did. -/
def ruleOwnSpec : ChangeSpec := { name := "ruleOwn", fn := fun _ => fun
  | [d] => { results := [.lit (.bool true)], args := [d] }
  | _ => none }
def ruleOwnRow : OpenClaim := { program := "ytnmhkhobjaklhaa", sum := "274a9e0f60427ad578784d68b35c6dfefdf9c317b87cdd273b91aea4904ecdff", func := "podesta/podestalaw05.RuleOwn", spec := "ruleOwn", inPlace := ["slices.overlaps[podesta/api.Rule]"], unfollowed := true, recurses := true, apart := false }
def RuleOwnSaid : Prop := ruleOwnRow.holds Try.pinned (OpenSpec.ofChange ruleOwnSpec)

/-- ITS FALSE NEIGHBOUR: 'it returns false'. Refute it at one input. -/
def ruleOwnWrong : ChangeSpec := { name := "ruleOwn", fn := fun _ => fun
  | [d] => { results := [.lit (.bool false)], args := [d] }
  | _ => none }
def RuleOwnWrongFalsely : Prop := ruleOwnRow.holds Try.pinned (OpenSpec.ofChange ruleOwnWrong)

/-- 'podestalaw09.CodeBytes': WHATEVER THE INPUT: true; the input reads as it did. -/
def codeBytesSpec : ChangeSpec := { name := "codeBytes", fn := fun _ => fun
  | [d] => { results := [.lit (.bool true)], args := [d] }
  | _ => none }
def codeBytesRow : OpenClaim := { program := "ytnmhkhobjaklhaa", sum := "274a9e0f60427ad578784d68b35c6dfefdf9c317b87cdd273b91aea4904ecdff", func := "podesta/podestalaw09.CodeBytes", spec := "codeBytes", unfollowed := true, recurses := true, apart := false }
def CodeBytesSaid : Prop := codeBytesRow.holds Try.pinned (OpenSpec.ofChange codeBytesSpec)

/-- ITS FALSE NEIGHBOUR: 'it returns false'. Refute it at one input. -/
def codeBytesWrong : ChangeSpec := { name := "codeBytes", fn := fun _ => fun
  | [d] => { results := [.lit (.bool false)], args := [d] }
  | _ => none }
def CodeBytesWrongFalsely : Prop := codeBytesRow.holds Try.pinned (OpenSpec.ofChange codeBytesWrong)

/-- 'podestalaw09.CodeSame': WHATEVER THE INPUT: true; the input reads as it did. -/
def codeSameSpec : ChangeSpec := { name := "codeSame", fn := fun _ => fun
  | [d1, d2] => { results := [.lit (.bool true)], args := [d1, d2] }
  | _ => none }
def codeSameRow : OpenClaim := { program := "ytnmhkhobjaklhaa", sum := "274a9e0f60427ad578784d68b35c6dfefdf9c317b87cdd273b91aea4904ecdff", func := "podesta/podestalaw09.CodeSame", spec := "codeSame", unfollowed := true, recurses := true, apart := false }
def CodeSameSaid : Prop := codeSameRow.holds Try.pinned (OpenSpec.ofChange codeSameSpec)

/-- ITS FALSE NEIGHBOUR: 'it returns false'. Refute it at one input. -/
def codeSameWrong : ChangeSpec := { name := "codeSame", fn := fun _ => fun
  | [d1, d2] => { results := [.lit (.bool false)], args := [d1, d2] }
  | _ => none }
def CodeSameWrongFalsely : Prop := codeSameRow.holds Try.pinned (OpenSpec.ofChange codeSameWrong)

/-- 'podestalaw07.ModsApply': WHATEVER THE INPUT: true; the input reads as it did. -/
def modsApplySpec : ChangeSpec := { name := "modsApply", fn := fun _ => fun
  | [d1, d2, d3] => { results := [.lit (.bool true)], args := [d1, d2, d3] }
  | _ => none }
def modsApplyRow : OpenClaim := { program := "ytnmhkhobjaklhaa", sum := "274a9e0f60427ad578784d68b35c6dfefdf9c317b87cdd273b91aea4904ecdff", func := "podesta/podestalaw07.ModsApply", spec := "modsApply", inPlace := ["slices.overlaps[podesta/api.Rule]"], unfollowed := true, recurses := true, apart := false }
def ModsApplySaid : Prop := modsApplyRow.holds Try.pinned (OpenSpec.ofChange modsApplySpec)

/-- ITS FALSE NEIGHBOUR: 'it returns false'. Refute it at one input. -/
def modsApplyWrong : ChangeSpec := { name := "modsApply", fn := fun _ => fun
  | [d1, d2, d3] => { results := [.lit (.bool false)], args := [d1, d2, d3] }
  | _ => none }
def ModsApplyWrongFalsely : Prop := modsApplyRow.holds Try.pinned (OpenSpec.ofChange modsApplyWrong)

/-- 'podestalaw07.ModsApart': WHATEVER THE INPUT: true; the input reads as it did. -/
def modsApartSpec : ChangeSpec := { name := "modsApart", fn := fun _ => fun
  | [d1, d2, d3] => { results := [.lit (.bool true)], args := [d1, d2, d3] }
  | _ => none }
def modsApartRow : OpenClaim := { program := "ytnmhkhobjaklhaa", sum := "274a9e0f60427ad578784d68b35c6dfefdf9c317b87cdd273b91aea4904ecdff", func := "podesta/podestalaw07.ModsApart", spec := "modsApart", inPlace := ["slices.overlaps[podesta/api.Rule]"], unfollowed := true, recurses := true, apart := false }
def ModsApartSaid : Prop := modsApartRow.holds Try.pinned (OpenSpec.ofChange modsApartSpec)

/-- ITS FALSE NEIGHBOUR: 'it returns false'. Refute it at one input. -/
def modsApartWrong : ChangeSpec := { name := "modsApart", fn := fun _ => fun
  | [d1, d2, d3] => { results := [.lit (.bool false)], args := [d1, d2, d3] }
  | _ => none }
def ModsApartWrongFalsely : Prop := modsApartRow.holds Try.pinned (OpenSpec.ofChange modsApartWrong)

/-- 'podestalaw07.ModsKeeps': WHATEVER THE INPUT: true; the input reads as it did. -/
def modsKeepsSpec : ChangeSpec := { name := "modsKeeps", fn := fun _ => fun
  | [d1, d2] => { results := [.lit (.bool true)], args := [d1, d2] }
  | _ => none }
def modsKeepsRow : OpenClaim := { program := "ytnmhkhobjaklhaa", sum := "274a9e0f60427ad578784d68b35c6dfefdf9c317b87cdd273b91aea4904ecdff", func := "podesta/podestalaw07.ModsKeeps", spec := "modsKeeps", inPlace := ["slices.overlaps[podesta/api.Rule]"], unfollowed := true, recurses := true, apart := false }
def ModsKeepsSaid : Prop := modsKeepsRow.holds Try.pinned (OpenSpec.ofChange modsKeepsSpec)

/-- ITS FALSE NEIGHBOUR: 'it returns false'. Refute it at one input. -/
def modsKeepsWrong : ChangeSpec := { name := "modsKeeps", fn := fun _ => fun
  | [d1, d2] => { results := [.lit (.bool false)], args := [d1, d2] }
  | _ => none }
def ModsKeepsWrongFalsely : Prop := modsKeepsRow.holds Try.pinned (OpenSpec.ofChange modsKeepsWrong)

/-- 'podestalaw08.UndoChanges': WHATEVER THE INPUT: true; the input reads as it did. -/
def undoChangesSpec : ChangeSpec := { name := "undoChanges", fn := fun _ => fun
  | [d1, d2, d3] => { results := [.lit (.bool true)], args := [d1, d2, d3] }
  | _ => none }
def undoChangesRow : OpenClaim := { program := "ytnmhkhobjaklhaa", sum := "274a9e0f60427ad578784d68b35c6dfefdf9c317b87cdd273b91aea4904ecdff", func := "podesta/podestalaw08.UndoChanges", spec := "undoChanges", inPlace := ["slices.overlaps[podesta/api.Rule]"], unfollowed := true, recurses := true, apart := false }
def UndoChangesSaid : Prop := undoChangesRow.holds Try.pinned (OpenSpec.ofChange undoChangesSpec)

/-- ITS FALSE NEIGHBOUR: 'it returns false'. Refute it at one input. -/
def undoChangesWrong : ChangeSpec := { name := "undoChanges", fn := fun _ => fun
  | [d1, d2, d3] => { results := [.lit (.bool false)], args := [d1, d2, d3] }
  | _ => none }
def UndoChangesWrongFalsely : Prop := undoChangesRow.holds Try.pinned (OpenSpec.ofChange undoChangesWrong)

/-- 'podestalaw20.LockPlays': WHATEVER THE INPUT: true; the input reads as it did. -/
def lockPlaysSpec : ChangeSpec := { name := "lockPlays", fn := fun _ => fun
  | [d1, d2, d3] => { results := [.lit (.bool true)], args := [d1, d2, d3] }
  | _ => none }
def lockPlaysRow : OpenClaim := { program := "ytnmhkhobjaklhaa", sum := "274a9e0f60427ad578784d68b35c6dfefdf9c317b87cdd273b91aea4904ecdff", func := "podesta/podestalaw20.LockPlays", spec := "lockPlays", unfollowed := true, recurses := true, apart := false }
def LockPlaysSaid : Prop := lockPlaysRow.holds Try.pinned (OpenSpec.ofChange lockPlaysSpec)

/-- ITS FALSE NEIGHBOUR: 'it returns false'. Refute it at one input. -/
def lockPlaysWrong : ChangeSpec := { name := "lockPlays", fn := fun _ => fun
  | [d1, d2, d3] => { results := [.lit (.bool false)], args := [d1, d2, d3] }
  | _ => none }
def LockPlaysWrongFalsely : Prop := lockPlaysRow.holds Try.pinned (OpenSpec.ofChange lockPlaysWrong)

/-- 'podestalaw20.LockApart': WHATEVER THE INPUT: true; the input reads as it did. -/
def lockApartSpec : ChangeSpec := { name := "lockApart", fn := fun _ => fun
  | [d] => { results := [.lit (.bool true)], args := [d] }
  | _ => none }
def lockApartRow : OpenClaim := { program := "ytnmhkhobjaklhaa", sum := "274a9e0f60427ad578784d68b35c6dfefdf9c317b87cdd273b91aea4904ecdff", func := "podesta/podestalaw20.LockApart", spec := "lockApart", unfollowed := true, recurses := true, apart := false }
def LockApartSaid : Prop := lockApartRow.holds Try.pinned (OpenSpec.ofChange lockApartSpec)

/-- ITS FALSE NEIGHBOUR: 'it returns false'. Refute it at one input. -/
def lockApartWrong : ChangeSpec := { name := "lockApart", fn := fun _ => fun
  | [d] => { results := [.lit (.bool false)], args := [d] }
  | _ => none }
def LockApartWrongFalsely : Prop := lockApartRow.holds Try.pinned (OpenSpec.ofChange lockApartWrong)

/-- 'podestalaw20.LockNone': WHATEVER THE INPUT: true; the input reads as it did. -/
def lockNoneSpec : ChangeSpec := { name := "lockNone", fn := fun _ => fun
  | [d1, d2, d3] => { results := [.lit (.bool true)], args := [d1, d2, d3] }
  | _ => none }
def lockNoneRow : OpenClaim := { program := "ytnmhkhobjaklhaa", sum := "274a9e0f60427ad578784d68b35c6dfefdf9c317b87cdd273b91aea4904ecdff", func := "podesta/podestalaw20.LockNone", spec := "lockNone", unfollowed := true, recurses := true, apart := false }
def LockNoneSaid : Prop := lockNoneRow.holds Try.pinned (OpenSpec.ofChange lockNoneSpec)

/-- ITS FALSE NEIGHBOUR: 'it returns false'. Refute it at one input. -/
def lockNoneWrong : ChangeSpec := { name := "lockNone", fn := fun _ => fun
  | [d1, d2, d3] => { results := [.lit (.bool false)], args := [d1, d2, d3] }
  | _ => none }
def LockNoneWrongFalsely : Prop := lockNoneRow.holds Try.pinned (OpenSpec.ofChange lockNoneWrong)

/-- 'podestalaw20.LockAgain': WHATEVER THE INPUT: true; the input reads as it did. -/
def lockAgainSpec : ChangeSpec := { name := "lockAgain", fn := fun _ => fun
  | [d1, d2, d3] => { results := [.lit (.bool true)], args := [d1, d2, d3] }
  | _ => none }
def lockAgainRow : OpenClaim := { program := "ytnmhkhobjaklhaa", sum := "274a9e0f60427ad578784d68b35c6dfefdf9c317b87cdd273b91aea4904ecdff", func := "podesta/podestalaw20.LockAgain", spec := "lockAgain", unfollowed := true, recurses := true, apart := false }
def LockAgainSaid : Prop := lockAgainRow.holds Try.pinned (OpenSpec.ofChange lockAgainSpec)

/-- ITS FALSE NEIGHBOUR: 'it returns false'. Refute it at one input. -/
def lockAgainWrong : ChangeSpec := { name := "lockAgain", fn := fun _ => fun
  | [d1, d2, d3] => { results := [.lit (.bool false)], args := [d1, d2, d3] }
  | _ => none }
def LockAgainWrongFalsely : Prop := lockAgainRow.holds Try.pinned (OpenSpec.ofChange lockAgainWrong)

/- THE SECOND FORM. 'bulk': how many values and letters a reading holds, each counted each time it is reached (what is shared counts as often as it is met; a slice's spare places count too). A statement '..UptoSaid' is the law's where the arguments, and the package variables that the reading takes, are together of bulk at most 1048576: NARROWER than '..Said'. Prove '..Said' where nothing that the law and all that it calls make is longer than what came in: it says more and counts as full. Else prove '..UptoSaid'. A law counts once. -/
mutual
def uptoBulk {H : Type} : DataW H → Nat
  | .lit (.string bytes) => bytes.length + 1
  | .lit _ => 1
  | .nil => 1
  | .ptr d => uptoBulk d + 1
  | .slice elems spare => uptoBulkAll elems + uptoBulkAll spare + 1
  | .agg parts => uptoBulkAll parts + 1
  | .iface _ d => uptoBulk d + 1
  | .map entries => uptoBulkEntries entries + 1
  | .held _ => 1
def uptoBulkAll {H : Type} : List (DataW H) → Nat
  | [] => 0
  | d :: r => uptoBulk d + uptoBulkAll r
def uptoBulkEntries {H : Type} : List (Lit × DataW H) → Nat
  | [] => 0
  | x :: r => uptoBulkEntry x + uptoBulkEntries r
def uptoBulkEntry {H : Type} : Lit × DataW H → Nat
  | (.string bytes, d) => bytes.length + uptoBulk d + 1
  | (_, d) => uptoBulk d + 1
 end
def uptoSmall : (H : Type) → List (DataW H) → Bool := fun _ ds => decide (uptoBulkAll ds ≤ 1048576)
def OpenSpec.upto (s : _root_.Go.ChangeSpec) : _root_.Go.OpenSpec := { _root_.Go.OpenSpec.ofChange s with cond := some uptoSmall }

/-- 'podestalaw09.CodeReads', WHERE WHAT IT READS IS OF BULK AT MOST 1048576: true; the input reads as it did. -/
def codeReadsUptoRow : OpenClaim := { program := "ytnmhkhobjaklhaa", sum := "274a9e0f60427ad578784d68b35c6dfefdf9c317b87cdd273b91aea4904ecdff", func := "podesta/podestalaw09.CodeReads", spec := "codeReads", unfollowed := true, recurses := true, apart := false, narrowed := true }
def CodeReadsUptoSaid : Prop := codeReadsUptoRow.holds Try.pinned (OpenSpec.upto codeReadsSpec)

/-- 'podestalaw09.CodeCut', WHERE WHAT IT READS IS OF BULK AT MOST 1048576: true; the input reads as it did. -/
def codeCutUptoRow : OpenClaim := { program := "ytnmhkhobjaklhaa", sum := "274a9e0f60427ad578784d68b35c6dfefdf9c317b87cdd273b91aea4904ecdff", func := "podesta/podestalaw09.CodeCut", spec := "codeCut", unfollowed := true, recurses := true, apart := false, narrowed := true }
def CodeCutUptoSaid : Prop := codeCutUptoRow.holds Try.pinned (OpenSpec.upto codeCutSpec)

/-- 'podestalaw09.CodeTurned', WHERE WHAT IT READS IS OF BULK AT MOST 1048576: true; the input reads as it did. -/
def codeTurnedUptoRow : OpenClaim := { program := "ytnmhkhobjaklhaa", sum := "274a9e0f60427ad578784d68b35c6dfefdf9c317b87cdd273b91aea4904ecdff", func := "podesta/podestalaw09.CodeTurned", spec := "codeTurned", unfollowed := true, recurses := true, apart := false, narrowed := true }
def CodeTurnedUptoSaid : Prop := codeTurnedUptoRow.holds Try.pinned (OpenSpec.upto codeTurnedSpec)

/-- 'podestalaw05.RuleOwn', WHERE WHAT IT READS IS OF BULK AT MOST 1048576: true; the input reads as it did. -/
def ruleOwnUptoRow : OpenClaim := { program := "ytnmhkhobjaklhaa", sum := "274a9e0f60427ad578784d68b35c6dfefdf9c317b87cdd273b91aea4904ecdff", func := "podesta/podestalaw05.RuleOwn", spec := "ruleOwn", inPlace := ["slices.overlaps[podesta/api.Rule]"], unfollowed := true, recurses := true, apart := false, narrowed := true }
def RuleOwnUptoSaid : Prop := ruleOwnUptoRow.holds Try.pinned (OpenSpec.upto ruleOwnSpec)

/-- 'podestalaw09.CodeBytes', WHERE WHAT IT READS IS OF BULK AT MOST 1048576: true; the input reads as it did. -/
def codeBytesUptoRow : OpenClaim := { program := "ytnmhkhobjaklhaa", sum := "274a9e0f60427ad578784d68b35c6dfefdf9c317b87cdd273b91aea4904ecdff", func := "podesta/podestalaw09.CodeBytes", spec := "codeBytes", unfollowed := true, recurses := true, apart := false, narrowed := true }
def CodeBytesUptoSaid : Prop := codeBytesUptoRow.holds Try.pinned (OpenSpec.upto codeBytesSpec)

/-- 'podestalaw09.CodeSame', WHERE WHAT IT READS IS OF BULK AT MOST 1048576: true; the input reads as it did. -/
def codeSameUptoRow : OpenClaim := { program := "ytnmhkhobjaklhaa", sum := "274a9e0f60427ad578784d68b35c6dfefdf9c317b87cdd273b91aea4904ecdff", func := "podesta/podestalaw09.CodeSame", spec := "codeSame", unfollowed := true, recurses := true, apart := false, narrowed := true }
def CodeSameUptoSaid : Prop := codeSameUptoRow.holds Try.pinned (OpenSpec.upto codeSameSpec)

/-- 'podestalaw07.ModsApply', WHERE WHAT IT READS IS OF BULK AT MOST 1048576: true; the input reads as it did. -/
def modsApplyUptoRow : OpenClaim := { program := "ytnmhkhobjaklhaa", sum := "274a9e0f60427ad578784d68b35c6dfefdf9c317b87cdd273b91aea4904ecdff", func := "podesta/podestalaw07.ModsApply", spec := "modsApply", inPlace := ["slices.overlaps[podesta/api.Rule]"], unfollowed := true, recurses := true, apart := false, narrowed := true }
def ModsApplyUptoSaid : Prop := modsApplyUptoRow.holds Try.pinned (OpenSpec.upto modsApplySpec)

/-- 'podestalaw07.ModsApart', WHERE WHAT IT READS IS OF BULK AT MOST 1048576: true; the input reads as it did. -/
def modsApartUptoRow : OpenClaim := { program := "ytnmhkhobjaklhaa", sum := "274a9e0f60427ad578784d68b35c6dfefdf9c317b87cdd273b91aea4904ecdff", func := "podesta/podestalaw07.ModsApart", spec := "modsApart", inPlace := ["slices.overlaps[podesta/api.Rule]"], unfollowed := true, recurses := true, apart := false, narrowed := true }
def ModsApartUptoSaid : Prop := modsApartUptoRow.holds Try.pinned (OpenSpec.upto modsApartSpec)

/-- 'podestalaw07.ModsKeeps', WHERE WHAT IT READS IS OF BULK AT MOST 1048576: true; the input reads as it did. -/
def modsKeepsUptoRow : OpenClaim := { program := "ytnmhkhobjaklhaa", sum := "274a9e0f60427ad578784d68b35c6dfefdf9c317b87cdd273b91aea4904ecdff", func := "podesta/podestalaw07.ModsKeeps", spec := "modsKeeps", inPlace := ["slices.overlaps[podesta/api.Rule]"], unfollowed := true, recurses := true, apart := false, narrowed := true }
def ModsKeepsUptoSaid : Prop := modsKeepsUptoRow.holds Try.pinned (OpenSpec.upto modsKeepsSpec)

/-- 'podestalaw08.UndoChanges', WHERE WHAT IT READS IS OF BULK AT MOST 1048576: true; the input reads as it did. -/
def undoChangesUptoRow : OpenClaim := { program := "ytnmhkhobjaklhaa", sum := "274a9e0f60427ad578784d68b35c6dfefdf9c317b87cdd273b91aea4904ecdff", func := "podesta/podestalaw08.UndoChanges", spec := "undoChanges", inPlace := ["slices.overlaps[podesta/api.Rule]"], unfollowed := true, recurses := true, apart := false, narrowed := true }
def UndoChangesUptoSaid : Prop := undoChangesUptoRow.holds Try.pinned (OpenSpec.upto undoChangesSpec)

/-- 'podestalaw20.LockPlays', WHERE WHAT IT READS IS OF BULK AT MOST 1048576: true; the input reads as it did. -/
def lockPlaysUptoRow : OpenClaim := { program := "ytnmhkhobjaklhaa", sum := "274a9e0f60427ad578784d68b35c6dfefdf9c317b87cdd273b91aea4904ecdff", func := "podesta/podestalaw20.LockPlays", spec := "lockPlays", unfollowed := true, recurses := true, apart := false, narrowed := true }
def LockPlaysUptoSaid : Prop := lockPlaysUptoRow.holds Try.pinned (OpenSpec.upto lockPlaysSpec)

/-- 'podestalaw20.LockApart', WHERE WHAT IT READS IS OF BULK AT MOST 1048576: true; the input reads as it did. -/
def lockApartUptoRow : OpenClaim := { program := "ytnmhkhobjaklhaa", sum := "274a9e0f60427ad578784d68b35c6dfefdf9c317b87cdd273b91aea4904ecdff", func := "podesta/podestalaw20.LockApart", spec := "lockApart", unfollowed := true, recurses := true, apart := false, narrowed := true }
def LockApartUptoSaid : Prop := lockApartUptoRow.holds Try.pinned (OpenSpec.upto lockApartSpec)

/-- 'podestalaw20.LockNone', WHERE WHAT IT READS IS OF BULK AT MOST 1048576: true; the input reads as it did. -/
def lockNoneUptoRow : OpenClaim := { program := "ytnmhkhobjaklhaa", sum := "274a9e0f60427ad578784d68b35c6dfefdf9c317b87cdd273b91aea4904ecdff", func := "podesta/podestalaw20.LockNone", spec := "lockNone", unfollowed := true, recurses := true, apart := false, narrowed := true }
def LockNoneUptoSaid : Prop := lockNoneUptoRow.holds Try.pinned (OpenSpec.upto lockNoneSpec)

/-- 'podestalaw20.LockAgain', WHERE WHAT IT READS IS OF BULK AT MOST 1048576: true; the input reads as it did. -/
def lockAgainUptoRow : OpenClaim := { program := "ytnmhkhobjaklhaa", sum := "274a9e0f60427ad578784d68b35c6dfefdf9c317b87cdd273b91aea4904ecdff", func := "podesta/podestalaw20.LockAgain", spec := "lockAgain", unfollowed := true, recurses := true, apart := false, narrowed := true }
def LockAgainUptoSaid : Prop := lockAgainUptoRow.holds Try.pinned (OpenSpec.upto lockAgainSpec)

end Rows
end Go.Proofs.Ytnmhkhobjaklhaa
