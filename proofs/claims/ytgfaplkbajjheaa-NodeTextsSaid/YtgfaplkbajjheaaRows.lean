/-
  NARROWER THAN 'FOR EVERY INPUT', by the rows' own cells (each row's printed sentence says how): NodeFroms: loops · NodeReads: loops.
  DERIVED. THE GIVEN ROWS OF THIS SEAT. 12 by the template 'for every input the law returns true; each argument reads behind the call as it read before'; 0 by the template 'total and deterministic' (their statements: YtgfaplkbajjheaaTotals.lean).
  GIVEN WITH THE SEED: the statements are not yours to turn. If you find one false, say at which input.
  Laid BY PROGRAM, IN A SANDBOX (cutbox-rows.mjs): the forced cells as the released guide's own fill.sh prints them over the translation 3581fe4107ffd21f… (all of the seat's roots in one cut). By AI agents, Wed Nov 11 2026. No macro, syntax, notation, axiom, sorry.
-/
import Derived.Test.YtgfaplkbajjheaaChecked
import GoSem.Claim
import GoSem.ClaimJoined
import GoSem.ClaimMapViews
import Derived.JoinedTies
import Derived.KernelRfl
namespace Go.Proofs.Ytgfaplkbajjheaa
/- THE CELL 'sum', in the pinned program and in every row, IS THE sha256 OF THE DUMP (.gsa) THAT YtgfaplkbajjheaaProg.lean LOADS. Nothing in Lean hashes anything: it is a label: what it is worth is what the hold of that sum in a sandbox is worth. -/
noncomputable def Try.pinned : Pinned := { name := "ytgfaplkbajjheaa", sum := "3581fe4107ffd21f3f756a7454ef710af382fc250b96448bfc957776b993ea17", checked := Try.checked }
namespace Rows
def none {H : Type} : Left H := { results := [], args := [] }

/-- 'lethelaw06.NodeRights': WHATEVER THE INPUT: true; the input reads as it did. -/
def nodeRightsSpec : ChangeSpec := { name := "nodeRights", fn := fun _ => fun
  | [d1, d2, d3] => { results := [.lit (.bool true)], args := [d1, d2, d3] }
  | _ => none }
def nodeRightsRow : OpenClaim := { program := "ytgfaplkbajjheaa", sum := "3581fe4107ffd21f3f756a7454ef710af382fc250b96448bfc957776b993ea17", func := "lethe/lethelaw06.NodeRights", spec := "nodeRights", apart := false }
def NodeRightsSaid : Prop := nodeRightsRow.holds Try.pinned (OpenSpec.ofChange nodeRightsSpec)

/-- ITS FALSE NEIGHBOUR: 'it returns false'. Refute it at one input. -/
def nodeRightsWrong : ChangeSpec := { name := "nodeRights", fn := fun _ => fun
  | [d1, d2, d3] => { results := [.lit (.bool false)], args := [d1, d2, d3] }
  | _ => none }
def NodeRightsWrongFalsely : Prop := nodeRightsRow.holds Try.pinned (OpenSpec.ofChange nodeRightsWrong)

/-- 'lethelaw06.NodeTerms': WHATEVER THE INPUT: true; the input reads as it did. -/
def nodeTermsSpec : ChangeSpec := { name := "nodeTerms", fn := fun _ => fun
  | [d1, d2] => { results := [.lit (.bool true)], args := [d1, d2] }
  | _ => none }
def nodeTermsRow : OpenClaim := { program := "ytgfaplkbajjheaa", sum := "3581fe4107ffd21f3f756a7454ef710af382fc250b96448bfc957776b993ea17", func := "lethe/lethelaw06.NodeTerms", spec := "nodeTerms", unfollowed := true, recurses := true, apart := false }
def NodeTermsSaid : Prop := nodeTermsRow.holds Try.pinned (OpenSpec.ofChange nodeTermsSpec)

/-- ITS FALSE NEIGHBOUR: 'it returns false'. Refute it at one input. -/
def nodeTermsWrong : ChangeSpec := { name := "nodeTerms", fn := fun _ => fun
  | [d1, d2] => { results := [.lit (.bool false)], args := [d1, d2] }
  | _ => none }
def NodeTermsWrongFalsely : Prop := nodeTermsRow.holds Try.pinned (OpenSpec.ofChange nodeTermsWrong)

/-- 'lethelaw06.NodeFroms': WHATEVER THE INPUT: true; the input reads as it did. -/
def nodeFromsSpec : ChangeSpec := { name := "nodeFroms", fn := fun _ => fun
  | [d1, d2] => { results := [.lit (.bool true)], args := [d1, d2] }
  | _ => none }
def nodeFromsRow : OpenClaim := { program := "ytgfaplkbajjheaa", sum := "3581fe4107ffd21f3f756a7454ef710af382fc250b96448bfc957776b993ea17", func := "lethe/lethelaw06.NodeFroms", spec := "nodeFroms", unfollowed := true, recurses := true, loops := true, apart := false }
def NodeFromsSaid : Prop := nodeFromsRow.holds Try.pinned (OpenSpec.ofChange nodeFromsSpec)

/-- ITS FALSE NEIGHBOUR: 'it returns false'. Refute it at one input. -/
def nodeFromsWrong : ChangeSpec := { name := "nodeFroms", fn := fun _ => fun
  | [d1, d2] => { results := [.lit (.bool false)], args := [d1, d2] }
  | _ => none }
def NodeFromsWrongFalsely : Prop := nodeFromsRow.holds Try.pinned (OpenSpec.ofChange nodeFromsWrong)

/-- 'lethelaw17.CommitBytes': WHATEVER THE INPUT: true; the input reads as it did. -/
def commitBytesSpec : ChangeSpec := { name := "commitBytes", fn := fun _ => fun
  | [d1, d2] => { results := [.lit (.bool true)], args := [d1, d2] }
  | _ => none }
def commitBytesRow : OpenClaim := { program := "ytgfaplkbajjheaa", sum := "3581fe4107ffd21f3f756a7454ef710af382fc250b96448bfc957776b993ea17", func := "lethe/lethelaw17.CommitBytes", spec := "commitBytes", unfollowed := true, recurses := true, apart := false }
def CommitBytesSaid : Prop := commitBytesRow.holds Try.pinned (OpenSpec.ofChange commitBytesSpec)

/-- ITS FALSE NEIGHBOUR: 'it returns false'. Refute it at one input. -/
def commitBytesWrong : ChangeSpec := { name := "commitBytes", fn := fun _ => fun
  | [d1, d2] => { results := [.lit (.bool false)], args := [d1, d2] }
  | _ => none }
def CommitBytesWrongFalsely : Prop := commitBytesRow.holds Try.pinned (OpenSpec.ofChange commitBytesWrong)

/-- 'lethelaw06.NodeReads': WHATEVER THE INPUT: true; the input reads as it did. -/
def nodeReadsSpec : ChangeSpec := { name := "nodeReads", fn := fun _ => fun
  | [d1, d2] => { results := [.lit (.bool true)], args := [d1, d2] }
  | _ => none }
def nodeReadsRow : OpenClaim := { program := "ytgfaplkbajjheaa", sum := "3581fe4107ffd21f3f756a7454ef710af382fc250b96448bfc957776b993ea17", func := "lethe/lethelaw06.NodeReads", spec := "nodeReads", unfollowed := true, recurses := true, loops := true, apart := false }
def NodeReadsSaid : Prop := nodeReadsRow.holds Try.pinned (OpenSpec.ofChange nodeReadsSpec)

/-- ITS FALSE NEIGHBOUR: 'it returns false'. Refute it at one input. -/
def nodeReadsWrong : ChangeSpec := { name := "nodeReads", fn := fun _ => fun
  | [d1, d2] => { results := [.lit (.bool false)], args := [d1, d2] }
  | _ => none }
def NodeReadsWrongFalsely : Prop := nodeReadsRow.holds Try.pinned (OpenSpec.ofChange nodeReadsWrong)

/-- 'lethelaw17.CommitNumbers': WHATEVER THE INPUT: true; the input reads as it did. -/
def commitNumbersSpec : ChangeSpec := { name := "commitNumbers", fn := fun _ => fun
  | [d1, d2, d3] => { results := [.lit (.bool true)], args := [d1, d2, d3] }
  | _ => none }
def commitNumbersRow : OpenClaim := { program := "ytgfaplkbajjheaa", sum := "3581fe4107ffd21f3f756a7454ef710af382fc250b96448bfc957776b993ea17", func := "lethe/lethelaw17.CommitNumbers", spec := "commitNumbers", unfollowed := true, recurses := true, apart := false }
def CommitNumbersSaid : Prop := commitNumbersRow.holds Try.pinned (OpenSpec.ofChange commitNumbersSpec)

/-- ITS FALSE NEIGHBOUR: 'it returns false'. Refute it at one input. -/
def commitNumbersWrong : ChangeSpec := { name := "commitNumbers", fn := fun _ => fun
  | [d1, d2, d3] => { results := [.lit (.bool false)], args := [d1, d2, d3] }
  | _ => none }
def CommitNumbersWrongFalsely : Prop := commitNumbersRow.holds Try.pinned (OpenSpec.ofChange commitNumbersWrong)

/-- 'lethelaw17.CommitPlays': WHATEVER THE INPUT: true; the input reads as it did. -/
def commitPlaysSpec : ChangeSpec := { name := "commitPlays", fn := fun _ => fun
  | [d] => { results := [.lit (.bool true)], args := [d] }
  | _ => none }
def commitPlaysRow : OpenClaim := { program := "ytgfaplkbajjheaa", sum := "3581fe4107ffd21f3f756a7454ef710af382fc250b96448bfc957776b993ea17", func := "lethe/lethelaw17.CommitPlays", spec := "commitPlays", unfollowed := true, recurses := true, apart := false }
def CommitPlaysSaid : Prop := commitPlaysRow.holds Try.pinned (OpenSpec.ofChange commitPlaysSpec)

/-- ITS FALSE NEIGHBOUR: 'it returns false'. Refute it at one input. -/
def commitPlaysWrong : ChangeSpec := { name := "commitPlays", fn := fun _ => fun
  | [d] => { results := [.lit (.bool false)], args := [d] }
  | _ => none }
def CommitPlaysWrongFalsely : Prop := commitPlaysRow.holds Try.pinned (OpenSpec.ofChange commitPlaysWrong)

/-- 'lethelaw06.NodeOwn': WHATEVER THE INPUT: true; the input reads as it did. -/
def nodeOwnSpec : ChangeSpec := { name := "nodeOwn", fn := fun _ => fun
  | [d1, d2] => { results := [.lit (.bool true)], args := [d1, d2] }
  | _ => none }
def nodeOwnRow : OpenClaim := { program := "ytgfaplkbajjheaa", sum := "3581fe4107ffd21f3f756a7454ef710af382fc250b96448bfc957776b993ea17", func := "lethe/lethelaw06.NodeOwn", spec := "nodeOwn", unfollowed := true, recurses := true, apart := false }
def NodeOwnSaid : Prop := nodeOwnRow.holds Try.pinned (OpenSpec.ofChange nodeOwnSpec)

/-- ITS FALSE NEIGHBOUR: 'it returns false'. Refute it at one input. -/
def nodeOwnWrong : ChangeSpec := { name := "nodeOwn", fn := fun _ => fun
  | [d1, d2] => { results := [.lit (.bool false)], args := [d1, d2] }
  | _ => none }
def NodeOwnWrongFalsely : Prop := nodeOwnRow.holds Try.pinned (OpenSpec.ofChange nodeOwnWrong)

/-- 'lethelaw06.NodeSeals': WHATEVER THE INPUT: true; the input reads as it did. -/
def nodeSealsSpec : ChangeSpec := { name := "nodeSeals", fn := fun _ => fun
  | [d1, d2, d3, d4] => { results := [.lit (.bool true)], args := [d1, d2, d3, d4] }
  | _ => none }
def nodeSealsRow : OpenClaim := { program := "ytgfaplkbajjheaa", sum := "3581fe4107ffd21f3f756a7454ef710af382fc250b96448bfc957776b993ea17", func := "lethe/lethelaw06.NodeSeals", spec := "nodeSeals", unfollowed := true, recurses := true, apart := false }
def NodeSealsSaid : Prop := nodeSealsRow.holds Try.pinned (OpenSpec.ofChange nodeSealsSpec)

/-- ITS FALSE NEIGHBOUR: 'it returns false'. Refute it at one input. -/
def nodeSealsWrong : ChangeSpec := { name := "nodeSeals", fn := fun _ => fun
  | [d1, d2, d3, d4] => { results := [.lit (.bool false)], args := [d1, d2, d3, d4] }
  | _ => none }
def NodeSealsWrongFalsely : Prop := nodeSealsRow.holds Try.pinned (OpenSpec.ofChange nodeSealsWrong)

/-- 'lethelaw06.NodeBack': WHATEVER THE INPUT: true; the input reads as it did. -/
def nodeBackSpec : ChangeSpec := { name := "nodeBack", fn := fun _ => fun
  | [d1, d2, d3, d4] => { results := [.lit (.bool true)], args := [d1, d2, d3, d4] }
  | _ => none }
def nodeBackRow : OpenClaim := { program := "ytgfaplkbajjheaa", sum := "3581fe4107ffd21f3f756a7454ef710af382fc250b96448bfc957776b993ea17", func := "lethe/lethelaw06.NodeBack", spec := "nodeBack", unfollowed := true, recurses := true, apart := false }
def NodeBackSaid : Prop := nodeBackRow.holds Try.pinned (OpenSpec.ofChange nodeBackSpec)

/-- ITS FALSE NEIGHBOUR: 'it returns false'. Refute it at one input. -/
def nodeBackWrong : ChangeSpec := { name := "nodeBack", fn := fun _ => fun
  | [d1, d2, d3, d4] => { results := [.lit (.bool false)], args := [d1, d2, d3, d4] }
  | _ => none }
def NodeBackWrongFalsely : Prop := nodeBackRow.holds Try.pinned (OpenSpec.ofChange nodeBackWrong)

/-- 'lethelaw06.NodeTexts': WHATEVER THE INPUT: true; the input reads as it did. -/
def nodeTextsSpec : ChangeSpec := { name := "nodeTexts", fn := fun _ => fun
  | [d1, d2] => { results := [.lit (.bool true)], args := [d1, d2] }
  | _ => none }
def nodeTextsRow : OpenClaim := { program := "ytgfaplkbajjheaa", sum := "3581fe4107ffd21f3f756a7454ef710af382fc250b96448bfc957776b993ea17", func := "lethe/lethelaw06.NodeTexts", spec := "nodeTexts", unfollowed := true, recurses := true, apart := false }
def NodeTextsSaid : Prop := nodeTextsRow.holds Try.pinned (OpenSpec.ofChange nodeTextsSpec)

/-- ITS FALSE NEIGHBOUR: 'it returns false'. Refute it at one input. -/
def nodeTextsWrong : ChangeSpec := { name := "nodeTexts", fn := fun _ => fun
  | [d1, d2] => { results := [.lit (.bool false)], args := [d1, d2] }
  | _ => none }
def NodeTextsWrongFalsely : Prop := nodeTextsRow.holds Try.pinned (OpenSpec.ofChange nodeTextsWrong)

/-- 'lethelaw17.CommitSafe': WHATEVER THE INPUT: true; the input reads as it did. -/
def commitSafeSpec : ChangeSpec := { name := "commitSafe", fn := fun _ => fun
  | [d1, d2] => { results := [.lit (.bool true)], args := [d1, d2] }
  | _ => none }
def commitSafeRow : OpenClaim := { program := "ytgfaplkbajjheaa", sum := "3581fe4107ffd21f3f756a7454ef710af382fc250b96448bfc957776b993ea17", func := "lethe/lethelaw17.CommitSafe", spec := "commitSafe", unfollowed := true, recurses := true, apart := false }
def CommitSafeSaid : Prop := commitSafeRow.holds Try.pinned (OpenSpec.ofChange commitSafeSpec)

/-- ITS FALSE NEIGHBOUR: 'it returns false'. Refute it at one input. -/
def commitSafeWrong : ChangeSpec := { name := "commitSafe", fn := fun _ => fun
  | [d1, d2] => { results := [.lit (.bool false)], args := [d1, d2] }
  | _ => none }
def CommitSafeWrongFalsely : Prop := commitSafeRow.holds Try.pinned (OpenSpec.ofChange commitSafeWrong)

/- THE SECOND FORM. 'bulk': how many values and letters a reading holds, each counted each time it is reached (what is shared counts as often as it is met; a slice's spare places count too). A statement '..UptoSaid' is the law's where the arguments, and the package variables that the reading takes, are together of bulk at most 1048576: NARROWER than '..Said'. Prove '..Said' where nothing that the law and all that it calls make is longer than what came in: it says more and counts as full. Else prove '..UptoSaid'. A law counts once. -/
mutual
def uptoBulk {H : Type} : DataW H → Nat
  | .lit (.string bytes) => bytes.length + 1
  | .lit _ => 1
  | .nil => 1
  | .ptr d => uptoBulk d + 1
  | .slice elems spare => uptoBulkAll elems + uptoBulkAll spare + 1
  | .agg parts => uptoBulkAll parts + 1
  | .iface _ d => uptoBulk d + 1
  | .map entries => uptoBulkEntries entries + 1
  | .held _ => 1
def uptoBulkAll {H : Type} : List (DataW H) → Nat
  | [] => 0
  | d :: r => uptoBulk d + uptoBulkAll r
def uptoBulkEntries {H : Type} : List (Lit × DataW H) → Nat
  | [] => 0
  | x :: r => uptoBulkEntry x + uptoBulkEntries r
def uptoBulkEntry {H : Type} : Lit × DataW H → Nat
  | (.string bytes, d) => bytes.length + uptoBulk d + 1
  | (_, d) => uptoBulk d + 1
 end
def uptoSmall : (H : Type) → List (DataW H) → Bool := fun _ ds => decide (uptoBulkAll ds ≤ 1048576)
def OpenSpec.upto (s : _root_.Go.ChangeSpec) : _root_.Go.OpenSpec := { _root_.Go.OpenSpec.ofChange s with cond := some uptoSmall }

/-- 'lethelaw06.NodeRights', WHERE WHAT IT READS IS OF BULK AT MOST 1048576: true; the input reads as it did. -/
def nodeRightsUptoRow : OpenClaim := { program := "ytgfaplkbajjheaa", sum := "3581fe4107ffd21f3f756a7454ef710af382fc250b96448bfc957776b993ea17", func := "lethe/lethelaw06.NodeRights", spec := "nodeRights", apart := false, narrowed := true }
def NodeRightsUptoSaid : Prop := nodeRightsUptoRow.holds Try.pinned (OpenSpec.upto nodeRightsSpec)

/-- 'lethelaw06.NodeTerms', WHERE WHAT IT READS IS OF BULK AT MOST 1048576: true; the input reads as it did. -/
def nodeTermsUptoRow : OpenClaim := { program := "ytgfaplkbajjheaa", sum := "3581fe4107ffd21f3f756a7454ef710af382fc250b96448bfc957776b993ea17", func := "lethe/lethelaw06.NodeTerms", spec := "nodeTerms", unfollowed := true, recurses := true, apart := false, narrowed := true }
def NodeTermsUptoSaid : Prop := nodeTermsUptoRow.holds Try.pinned (OpenSpec.upto nodeTermsSpec)

/-- 'lethelaw06.NodeFroms', WHERE WHAT IT READS IS OF BULK AT MOST 1048576: true; the input reads as it did. -/
def nodeFromsUptoRow : OpenClaim := { program := "ytgfaplkbajjheaa", sum := "3581fe4107ffd21f3f756a7454ef710af382fc250b96448bfc957776b993ea17", func := "lethe/lethelaw06.NodeFroms", spec := "nodeFroms", unfollowed := true, recurses := true, loops := true, apart := false, narrowed := true }
def NodeFromsUptoSaid : Prop := nodeFromsUptoRow.holds Try.pinned (OpenSpec.upto nodeFromsSpec)

/-- 'lethelaw17.CommitBytes', WHERE WHAT IT READS IS OF BULK AT MOST 1048576: true; the input reads as it did. -/
def commitBytesUptoRow : OpenClaim := { program := "ytgfaplkbajjheaa", sum := "3581fe4107ffd21f3f756a7454ef710af382fc250b96448bfc957776b993ea17", func := "lethe/lethelaw17.CommitBytes", spec := "commitBytes", unfollowed := true, recurses := true, apart := false, narrowed := true }
def CommitBytesUptoSaid : Prop := commitBytesUptoRow.holds Try.pinned (OpenSpec.upto commitBytesSpec)

/-- 'lethelaw06.NodeReads', WHERE WHAT IT READS IS OF BULK AT MOST 1048576: true; the input reads as it did. -/
def nodeReadsUptoRow : OpenClaim := { program := "ytgfaplkbajjheaa", sum := "3581fe4107ffd21f3f756a7454ef710af382fc250b96448bfc957776b993ea17", func := "lethe/lethelaw06.NodeReads", spec := "nodeReads", unfollowed := true, recurses := true, loops := true, apart := false, narrowed := true }
def NodeReadsUptoSaid : Prop := nodeReadsUptoRow.holds Try.pinned (OpenSpec.upto nodeReadsSpec)

/-- 'lethelaw17.CommitNumbers', WHERE WHAT IT READS IS OF BULK AT MOST 1048576: true; the input reads as it did. -/
def commitNumbersUptoRow : OpenClaim := { program := "ytgfaplkbajjheaa", sum := "3581fe4107ffd21f3f756a7454ef710af382fc250b96448bfc957776b993ea17", func := "lethe/lethelaw17.CommitNumbers", spec := "commitNumbers", unfollowed := true, recurses := true, apart := false, narrowed := true }
def CommitNumbersUptoSaid : Prop := commitNumbersUptoRow.holds Try.pinned (OpenSpec.upto commitNumbersSpec)

/-- 'lethelaw17.CommitPlays', WHERE WHAT IT READS IS OF BULK AT MOST 1048576: true; the input reads as it did. -/
def commitPlaysUptoRow : OpenClaim := { program := "ytgfaplkbajjheaa", sum := "3581fe4107ffd21f3f756a7454ef710af382fc250b96448bfc957776b993ea17", func := "lethe/lethelaw17.CommitPlays", spec := "commitPlays", unfollowed := true, recurses := true, apart := false, narrowed := true }
def CommitPlaysUptoSaid : Prop := commitPlaysUptoRow.holds Try.pinned (OpenSpec.upto commitPlaysSpec)

/-- 'lethelaw06.NodeOwn', WHERE WHAT IT READS IS OF BULK AT MOST 1048576: true; the input reads as it did. -/
def nodeOwnUptoRow : OpenClaim := { program := "ytgfaplkbajjheaa", sum := "3581fe4107ffd21f3f756a7454ef710af382fc250b96448bfc957776b993ea17", func := "lethe/lethelaw06.NodeOwn", spec := "nodeOwn", unfollowed := true, recurses := true, apart := false, narrowed := true }
def NodeOwnUptoSaid : Prop := nodeOwnUptoRow.holds Try.pinned (OpenSpec.upto nodeOwnSpec)

/-- 'lethelaw06.NodeSeals', WHERE WHAT IT READS IS OF BULK AT MOST 1048576: true; the input reads as it did. -/
def nodeSealsUptoRow : OpenClaim := { program := "ytgfaplkbajjheaa", sum := "3581fe4107ffd21f3f756a7454ef710af382fc250b96448bfc957776b993ea17", func := "lethe/lethelaw06.NodeSeals", spec := "nodeSeals", unfollowed := true, recurses := true, apart := false, narrowed := true }
def NodeSealsUptoSaid : Prop := nodeSealsUptoRow.holds Try.pinned (OpenSpec.upto nodeSealsSpec)

/-- 'lethelaw06.NodeBack', WHERE WHAT IT READS IS OF BULK AT MOST 1048576: true; the input reads as it did. -/
def nodeBackUptoRow : OpenClaim := { program := "ytgfaplkbajjheaa", sum := "3581fe4107ffd21f3f756a7454ef710af382fc250b96448bfc957776b993ea17", func := "lethe/lethelaw06.NodeBack", spec := "nodeBack", unfollowed := true, recurses := true, apart := false, narrowed := true }
def NodeBackUptoSaid : Prop := nodeBackUptoRow.holds Try.pinned (OpenSpec.upto nodeBackSpec)

/-- 'lethelaw06.NodeTexts', WHERE WHAT IT READS IS OF BULK AT MOST 1048576: true; the input reads as it did. -/
def nodeTextsUptoRow : OpenClaim := { program := "ytgfaplkbajjheaa", sum := "3581fe4107ffd21f3f756a7454ef710af382fc250b96448bfc957776b993ea17", func := "lethe/lethelaw06.NodeTexts", spec := "nodeTexts", unfollowed := true, recurses := true, apart := false, narrowed := true }
def NodeTextsUptoSaid : Prop := nodeTextsUptoRow.holds Try.pinned (OpenSpec.upto nodeTextsSpec)

/-- 'lethelaw17.CommitSafe', WHERE WHAT IT READS IS OF BULK AT MOST 1048576: true; the input reads as it did. -/
def commitSafeUptoRow : OpenClaim := { program := "ytgfaplkbajjheaa", sum := "3581fe4107ffd21f3f756a7454ef710af382fc250b96448bfc957776b993ea17", func := "lethe/lethelaw17.CommitSafe", spec := "commitSafe", unfollowed := true, recurses := true, apart := false, narrowed := true }
def CommitSafeUptoSaid : Prop := commitSafeUptoRow.holds Try.pinned (OpenSpec.upto commitSafeSpec)

end Rows
end Go.Proofs.Ytgfaplkbajjheaa
