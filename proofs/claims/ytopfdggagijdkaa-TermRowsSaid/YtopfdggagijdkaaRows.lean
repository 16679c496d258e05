/-
  NARROWER THAN 'FOR EVERY INPUT', by the rows' own cells (each row's printed sentence says how): TermMakes: loops · TermBytes: loops · BoxSeals: loops · TermRows: loops · BoxWraps: loops · BoxOrders: loops · TermCuts: loops · TermBack: loops · BoxPacks: loops · BoxOpens: loops.
  DERIVED. THE GIVEN ROWS OF THIS SEAT. 14 by the template 'for every input the law returns true; each argument reads behind the call as it read before'; 0 by the template 'total and deterministic' (their statements: YtopfdggagijdkaaTotals.lean).
  GIVEN WITH THE SEED: the statements are not yours to turn. If you find one false, say at which input.
  Laid BY PROGRAM, IN A SANDBOX (cutbox-rows.mjs): the forced cells as the released guide's own fill.sh prints them over the translation faba3fc16613ac4b… (all of the seat's roots in one cut). By AI agents, Wed Nov 11 2026. No macro, syntax, notation, axiom, sorry.
-/
import Derived.Test.YtopfdggagijdkaaChecked
import GoSem.Claim
import GoSem.ClaimJoined
import GoSem.ClaimMapViews
import Derived.JoinedTies
import Derived.KernelRfl
namespace Go.Proofs.Ytopfdggagijdkaa
/- THE CELL 'sum', in the pinned program and in every row, IS THE sha256 OF THE DUMP (.gsa) THAT YtopfdggagijdkaaProg.lean LOADS. Nothing in Lean hashes anything: it is a label: what it is worth is what the hold of that sum in a sandbox is worth. -/
noncomputable def Try.pinned : Pinned := { name := "ytopfdggagijdkaa", sum := "faba3fc16613ac4b52977ee760ef0ead31854230fd89f0b573e890752a4febd1", checked := Try.checked }
namespace Rows
def none {H : Type} : Left H := { results := [], args := [] }

/-- 'lethelaw02.TermMakes': WHATEVER THE INPUT: true; the input reads as it did. -/
def termMakesSpec : ChangeSpec := { name := "termMakes", fn := fun _ => fun
  | [d1, d2, d3] => { results := [.lit (.bool true)], args := [d1, d2, d3] }
  | _ => none }
def termMakesRow : OpenClaim := { program := "ytopfdggagijdkaa", sum := "faba3fc16613ac4b52977ee760ef0ead31854230fd89f0b573e890752a4febd1", func := "lethe/lethelaw02.TermMakes", spec := "termMakes", recurses := true, loops := true, apart := false }
def TermMakesSaid : Prop := termMakesRow.holds Try.pinned (OpenSpec.ofChange termMakesSpec)

/-- ITS FALSE NEIGHBOUR: 'it returns false'. Refute it at one input. -/
def termMakesWrong : ChangeSpec := { name := "termMakes", fn := fun _ => fun
  | [d1, d2, d3] => { results := [.lit (.bool false)], args := [d1, d2, d3] }
  | _ => none }
def TermMakesWrongFalsely : Prop := termMakesRow.holds Try.pinned (OpenSpec.ofChange termMakesWrong)

/-- 'lethelaw02.TermNumbers': WHATEVER THE INPUT: true; the input reads as it did. -/
def termNumbersSpec : ChangeSpec := { name := "termNumbers", fn := fun _ => fun
  | [d1, d2] => { results := [.lit (.bool true)], args := [d1, d2] }
  | _ => none }
def termNumbersRow : OpenClaim := { program := "ytopfdggagijdkaa", sum := "faba3fc16613ac4b52977ee760ef0ead31854230fd89f0b573e890752a4febd1", func := "lethe/lethelaw02.TermNumbers", spec := "termNumbers", apart := false }
def TermNumbersSaid : Prop := termNumbersRow.holds Try.pinned (OpenSpec.ofChange termNumbersSpec)

/-- ITS FALSE NEIGHBOUR: 'it returns false'. Refute it at one input. -/
def termNumbersWrong : ChangeSpec := { name := "termNumbers", fn := fun _ => fun
  | [d1, d2] => { results := [.lit (.bool false)], args := [d1, d2] }
  | _ => none }
def TermNumbersWrongFalsely : Prop := termNumbersRow.holds Try.pinned (OpenSpec.ofChange termNumbersWrong)

/-- 'lethelaw02.TermNumbersBack': WHATEVER THE INPUT: true; the input reads as it did. -/
def termNumbersBackSpec : ChangeSpec := { name := "termNumbersBack", fn := fun _ => fun
  | [d1, d2] => { results := [.lit (.bool true)], args := [d1, d2] }
  | _ => none }
def termNumbersBackRow : OpenClaim := { program := "ytopfdggagijdkaa", sum := "faba3fc16613ac4b52977ee760ef0ead31854230fd89f0b573e890752a4febd1", func := "lethe/lethelaw02.TermNumbersBack", spec := "termNumbersBack", apart := false }
def TermNumbersBackSaid : Prop := termNumbersBackRow.holds Try.pinned (OpenSpec.ofChange termNumbersBackSpec)

/-- ITS FALSE NEIGHBOUR: 'it returns false'. Refute it at one input. -/
def termNumbersBackWrong : ChangeSpec := { name := "termNumbersBack", fn := fun _ => fun
  | [d1, d2] => { results := [.lit (.bool false)], args := [d1, d2] }
  | _ => none }
def TermNumbersBackWrongFalsely : Prop := termNumbersBackRow.holds Try.pinned (OpenSpec.ofChange termNumbersBackWrong)

/-- 'lethelaw02.TermDecodes': WHATEVER THE INPUT: true; the input reads as it did. -/
def termDecodesSpec : ChangeSpec := { name := "termDecodes", fn := fun _ => fun
  | [d] => { results := [.lit (.bool true)], args := [d] }
  | _ => none }
def termDecodesRow : OpenClaim := { program := "ytopfdggagijdkaa", sum := "faba3fc16613ac4b52977ee760ef0ead31854230fd89f0b573e890752a4febd1", func := "lethe/lethelaw02.TermDecodes", spec := "termDecodes", recurses := true, apart := false }
def TermDecodesSaid : Prop := termDecodesRow.holds Try.pinned (OpenSpec.ofChange termDecodesSpec)

/-- ITS FALSE NEIGHBOUR: 'it returns false'. Refute it at one input. -/
def termDecodesWrong : ChangeSpec := { name := "termDecodes", fn := fun _ => fun
  | [d] => { results := [.lit (.bool false)], args := [d] }
  | _ => none }
def TermDecodesWrongFalsely : Prop := termDecodesRow.holds Try.pinned (OpenSpec.ofChange termDecodesWrong)

/-- 'lethelaw02.TermBytes': WHATEVER THE INPUT: true; the input reads as it did. -/
def termBytesSpec : ChangeSpec := { name := "termBytes", fn := fun _ => fun
  | [d] => { results := [.lit (.bool true)], args := [d] }
  | _ => none }
def termBytesRow : OpenClaim := { program := "ytopfdggagijdkaa", sum := "faba3fc16613ac4b52977ee760ef0ead31854230fd89f0b573e890752a4febd1", func := "lethe/lethelaw02.TermBytes", spec := "termBytes", unfollowed := true, recurses := true, loops := true, apart := false }
def TermBytesSaid : Prop := termBytesRow.holds Try.pinned (OpenSpec.ofChange termBytesSpec)

/-- ITS FALSE NEIGHBOUR: 'it returns false'. Refute it at one input. -/
def termBytesWrong : ChangeSpec := { name := "termBytes", fn := fun _ => fun
  | [d] => { results := [.lit (.bool false)], args := [d] }
  | _ => none }
def TermBytesWrongFalsely : Prop := termBytesRow.holds Try.pinned (OpenSpec.ofChange termBytesWrong)

/-- 'lethelaw03.BoxSeals': WHATEVER THE INPUT: true; the input reads as it did. -/
def boxSealsSpec : ChangeSpec := { name := "boxSeals", fn := fun _ => fun
  | [d1, d2] => { results := [.lit (.bool true)], args := [d1, d2] }
  | _ => none }
def boxSealsRow : OpenClaim := { program := "ytopfdggagijdkaa", sum := "faba3fc16613ac4b52977ee760ef0ead31854230fd89f0b573e890752a4febd1", func := "lethe/lethelaw03.BoxSeals", spec := "boxSeals", unfollowed := true, recurses := true, loops := true, apart := false }
def BoxSealsSaid : Prop := boxSealsRow.holds Try.pinned (OpenSpec.ofChange boxSealsSpec)

/-- ITS FALSE NEIGHBOUR: 'it returns false'. Refute it at one input. -/
def boxSealsWrong : ChangeSpec := { name := "boxSeals", fn := fun _ => fun
  | [d1, d2] => { results := [.lit (.bool false)], args := [d1, d2] }
  | _ => none }
def BoxSealsWrongFalsely : Prop := boxSealsRow.holds Try.pinned (OpenSpec.ofChange boxSealsWrong)

/-- 'lethelaw02.TermRows': WHATEVER THE INPUT: true; the input reads as it did. -/
def termRowsSpec : ChangeSpec := { name := "termRows", fn := fun _ => fun
  | [d1, d2] => { results := [.lit (.bool true)], args := [d1, d2] }
  | _ => none }
def termRowsRow : OpenClaim := { program := "ytopfdggagijdkaa", sum := "faba3fc16613ac4b52977ee760ef0ead31854230fd89f0b573e890752a4febd1", func := "lethe/lethelaw02.TermRows", spec := "termRows", unfollowed := true, recurses := true, loops := true, apart := false }
def TermRowsSaid : Prop := termRowsRow.holds Try.pinned (OpenSpec.ofChange termRowsSpec)

/-- ITS FALSE NEIGHBOUR: 'it returns false'. Refute it at one input. -/
def termRowsWrong : ChangeSpec := { name := "termRows", fn := fun _ => fun
  | [d1, d2] => { results := [.lit (.bool false)], args := [d1, d2] }
  | _ => none }
def TermRowsWrongFalsely : Prop := termRowsRow.holds Try.pinned (OpenSpec.ofChange termRowsWrong)

/-- 'lethelaw03.BoxWraps': WHATEVER THE INPUT: true; the input reads as it did. -/
def boxWrapsSpec : ChangeSpec := { name := "boxWraps", fn := fun _ => fun
  | [d1, d2] => { results := [.lit (.bool true)], args := [d1, d2] }
  | _ => none }
def boxWrapsRow : OpenClaim := { program := "ytopfdggagijdkaa", sum := "faba3fc16613ac4b52977ee760ef0ead31854230fd89f0b573e890752a4febd1", func := "lethe/lethelaw03.BoxWraps", spec := "boxWraps", unfollowed := true, recurses := true, loops := true, apart := false }
def BoxWrapsSaid : Prop := boxWrapsRow.holds Try.pinned (OpenSpec.ofChange boxWrapsSpec)

/-- ITS FALSE NEIGHBOUR: 'it returns false'. Refute it at one input. -/
def boxWrapsWrong : ChangeSpec := { name := "boxWraps", fn := fun _ => fun
  | [d1, d2] => { results := [.lit (.bool false)], args := [d1, d2] }
  | _ => none }
def BoxWrapsWrongFalsely : Prop := boxWrapsRow.holds Try.pinned (OpenSpec.ofChange boxWrapsWrong)

/-- 'lethelaw03.BoxOrders': WHATEVER THE INPUT: true; the input reads as it did. -/
def boxOrdersSpec : ChangeSpec := { name := "boxOrders", fn := fun _ => fun
  | [d1, d2, d3, d4] => { results := [.lit (.bool true)], args := [d1, d2, d3, d4] }
  | _ => none }
def boxOrdersRow : OpenClaim := { program := "ytopfdggagijdkaa", sum := "faba3fc16613ac4b52977ee760ef0ead31854230fd89f0b573e890752a4febd1", func := "lethe/lethelaw03.BoxOrders", spec := "boxOrders", unfollowed := true, recurses := true, loops := true, apart := false }
def BoxOrdersSaid : Prop := boxOrdersRow.holds Try.pinned (OpenSpec.ofChange boxOrdersSpec)

/-- ITS FALSE NEIGHBOUR: 'it returns false'. Refute it at one input. -/
def boxOrdersWrong : ChangeSpec := { name := "boxOrders", fn := fun _ => fun
  | [d1, d2, d3, d4] => { results := [.lit (.bool false)], args := [d1, d2, d3, d4] }
  | _ => none }
def BoxOrdersWrongFalsely : Prop := boxOrdersRow.holds Try.pinned (OpenSpec.ofChange boxOrdersWrong)

/-- 'lethelaw02.TermReads': WHATEVER THE INPUT: true; the input reads as it did. -/
def termReadsSpec : ChangeSpec := { name := "termReads", fn := fun _ => fun
  | [d] => { results := [.lit (.bool true)], args := [d] }
  | _ => none }
def termReadsRow : OpenClaim := { program := "ytopfdggagijdkaa", sum := "faba3fc16613ac4b52977ee760ef0ead31854230fd89f0b573e890752a4febd1", func := "lethe/lethelaw02.TermReads", spec := "termReads", unfollowed := true, recurses := true, apart := false }
def TermReadsSaid : Prop := termReadsRow.holds Try.pinned (OpenSpec.ofChange termReadsSpec)

/-- ITS FALSE NEIGHBOUR: 'it returns false'. Refute it at one input. -/
def termReadsWrong : ChangeSpec := { name := "termReads", fn := fun _ => fun
  | [d] => { results := [.lit (.bool false)], args := [d] }
  | _ => none }
def TermReadsWrongFalsely : Prop := termReadsRow.holds Try.pinned (OpenSpec.ofChange termReadsWrong)

/-- 'lethelaw02.TermCuts': WHATEVER THE INPUT: true; the input reads as it did. -/
def termCutsSpec : ChangeSpec := { name := "termCuts", fn := fun _ => fun
  | [d1, d2, d3] => { results := [.lit (.bool true)], args := [d1, d2, d3] }
  | _ => none }
def termCutsRow : OpenClaim := { program := "ytopfdggagijdkaa", sum := "faba3fc16613ac4b52977ee760ef0ead31854230fd89f0b573e890752a4febd1", func := "lethe/lethelaw02.TermCuts", spec := "termCuts", unfollowed := true, recurses := true, loops := true, apart := false }
def TermCutsSaid : Prop := termCutsRow.holds Try.pinned (OpenSpec.ofChange termCutsSpec)

/-- ITS FALSE NEIGHBOUR: 'it returns false'. Refute it at one input. -/
def termCutsWrong : ChangeSpec := { name := "termCuts", fn := fun _ => fun
  | [d1, d2, d3] => { results := [.lit (.bool false)], args := [d1, d2, d3] }
  | _ => none }
def TermCutsWrongFalsely : Prop := termCutsRow.holds Try.pinned (OpenSpec.ofChange termCutsWrong)

/-- 'lethelaw02.TermBack': WHATEVER THE INPUT: true; the input reads as it did. -/
def termBackSpec : ChangeSpec := { name := "termBack", fn := fun _ => fun
  | [d1, d2] => { results := [.lit (.bool true)], args := [d1, d2] }
  | _ => none }
def termBackRow : OpenClaim := { program := "ytopfdggagijdkaa", sum := "faba3fc16613ac4b52977ee760ef0ead31854230fd89f0b573e890752a4febd1", func := "lethe/lethelaw02.TermBack", spec := "termBack", unfollowed := true, recurses := true, loops := true, apart := false }
def TermBackSaid : Prop := termBackRow.holds Try.pinned (OpenSpec.ofChange termBackSpec)

/-- ITS FALSE NEIGHBOUR: 'it returns false'. Refute it at one input. -/
def termBackWrong : ChangeSpec := { name := "termBack", fn := fun _ => fun
  | [d1, d2] => { results := [.lit (.bool false)], args := [d1, d2] }
  | _ => none }
def TermBackWrongFalsely : Prop := termBackRow.holds Try.pinned (OpenSpec.ofChange termBackWrong)

/-- 'lethelaw03.BoxPacks': WHATEVER THE INPUT: true; the input reads as it did. -/
def boxPacksSpec : ChangeSpec := { name := "boxPacks", fn := fun _ => fun
  | [d1, d2, d3] => { results := [.lit (.bool true)], args := [d1, d2, d3] }
  | _ => none }
def boxPacksRow : OpenClaim := { program := "ytopfdggagijdkaa", sum := "faba3fc16613ac4b52977ee760ef0ead31854230fd89f0b573e890752a4febd1", func := "lethe/lethelaw03.BoxPacks", spec := "boxPacks", unfollowed := true, recurses := true, loops := true, apart := false }
def BoxPacksSaid : Prop := boxPacksRow.holds Try.pinned (OpenSpec.ofChange boxPacksSpec)

/-- ITS FALSE NEIGHBOUR: 'it returns false'. Refute it at one input. -/
def boxPacksWrong : ChangeSpec := { name := "boxPacks", fn := fun _ => fun
  | [d1, d2, d3] => { results := [.lit (.bool false)], args := [d1, d2, d3] }
  | _ => none }
def BoxPacksWrongFalsely : Prop := boxPacksRow.holds Try.pinned (OpenSpec.ofChange boxPacksWrong)

/-- 'lethelaw03.BoxOpens': WHATEVER THE INPUT: true; the input reads as it did. -/
def boxOpensSpec : ChangeSpec := { name := "boxOpens", fn := fun _ => fun
  | [d1, d2, d3] => { results := [.lit (.bool true)], args := [d1, d2, d3] }
  | _ => none }
def boxOpensRow : OpenClaim := { program := "ytopfdggagijdkaa", sum := "faba3fc16613ac4b52977ee760ef0ead31854230fd89f0b573e890752a4febd1", func := "lethe/lethelaw03.BoxOpens", spec := "boxOpens", unfollowed := true, recurses := true, loops := true, apart := false }
def BoxOpensSaid : Prop := boxOpensRow.holds Try.pinned (OpenSpec.ofChange boxOpensSpec)

/-- ITS FALSE NEIGHBOUR: 'it returns false'. Refute it at one input. -/
def boxOpensWrong : ChangeSpec := { name := "boxOpens", fn := fun _ => fun
  | [d1, d2, d3] => { results := [.lit (.bool false)], args := [d1, d2, d3] }
  | _ => none }
def BoxOpensWrongFalsely : Prop := boxOpensRow.holds Try.pinned (OpenSpec.ofChange boxOpensWrong)

/- THE SECOND FORM. 'bulk': how many values and letters a reading holds, each counted each time it is reached (what is shared counts as often as it is met; a slice's spare places count too). A statement '..UptoSaid' is the law's where the arguments, and the package variables that the reading takes, are together of bulk at most 1048576: NARROWER than '..Said'. Prove '..Said' where nothing that the law and all that it calls make is longer than what came in: it says more and counts as full. Else prove '..UptoSaid'. A law counts once. -/
mutual
def uptoBulk {H : Type} : DataW H → Nat
  | .lit (.string bytes) => bytes.length + 1
  | .lit _ => 1
  | .nil => 1
  | .ptr d => uptoBulk d + 1
  | .slice elems spare => uptoBulkAll elems + uptoBulkAll spare + 1
  | .agg parts => uptoBulkAll parts + 1
  | .iface _ d => uptoBulk d + 1
  | .map entries => uptoBulkEntries entries + 1
  | .held _ => 1
def uptoBulkAll {H : Type} : List (DataW H) → Nat
  | [] => 0
  | d :: r => uptoBulk d + uptoBulkAll r
def uptoBulkEntries {H : Type} : List (Lit × DataW H) → Nat
  | [] => 0
  | x :: r => uptoBulkEntry x + uptoBulkEntries r
def uptoBulkEntry {H : Type} : Lit × DataW H → Nat
  | (.string bytes, d) => bytes.length + uptoBulk d + 1
  | (_, d) => uptoBulk d + 1
 end
def uptoSmall : (H : Type) → List (DataW H) → Bool := fun _ ds => decide (uptoBulkAll ds ≤ 1048576)
def OpenSpec.upto (s : _root_.Go.ChangeSpec) : _root_.Go.OpenSpec := { _root_.Go.OpenSpec.ofChange s with cond := some uptoSmall }

/-- 'lethelaw02.TermMakes', WHERE WHAT IT READS IS OF BULK AT MOST 1048576: true; the input reads as it did. -/
def termMakesUptoRow : OpenClaim := { program := "ytopfdggagijdkaa", sum := "faba3fc16613ac4b52977ee760ef0ead31854230fd89f0b573e890752a4febd1", func := "lethe/lethelaw02.TermMakes", spec := "termMakes", recurses := true, loops := true, apart := false, narrowed := true }
def TermMakesUptoSaid : Prop := termMakesUptoRow.holds Try.pinned (OpenSpec.upto termMakesSpec)

/-- 'lethelaw02.TermNumbers', WHERE WHAT IT READS IS OF BULK AT MOST 1048576: true; the input reads as it did. -/
def termNumbersUptoRow : OpenClaim := { program := "ytopfdggagijdkaa", sum := "faba3fc16613ac4b52977ee760ef0ead31854230fd89f0b573e890752a4febd1", func := "lethe/lethelaw02.TermNumbers", spec := "termNumbers", apart := false, narrowed := true }
def TermNumbersUptoSaid : Prop := termNumbersUptoRow.holds Try.pinned (OpenSpec.upto termNumbersSpec)

/-- 'lethelaw02.TermNumbersBack', WHERE WHAT IT READS IS OF BULK AT MOST 1048576: true; the input reads as it did. -/
def termNumbersBackUptoRow : OpenClaim := { program := "ytopfdggagijdkaa", sum := "faba3fc16613ac4b52977ee760ef0ead31854230fd89f0b573e890752a4febd1", func := "lethe/lethelaw02.TermNumbersBack", spec := "termNumbersBack", apart := false, narrowed := true }
def TermNumbersBackUptoSaid : Prop := termNumbersBackUptoRow.holds Try.pinned (OpenSpec.upto termNumbersBackSpec)

/-- 'lethelaw02.TermDecodes', WHERE WHAT IT READS IS OF BULK AT MOST 1048576: true; the input reads as it did. -/
def termDecodesUptoRow : OpenClaim := { program := "ytopfdggagijdkaa", sum := "faba3fc16613ac4b52977ee760ef0ead31854230fd89f0b573e890752a4febd1", func := "lethe/lethelaw02.TermDecodes", spec := "termDecodes", recurses := true, apart := false, narrowed := true }
def TermDecodesUptoSaid : Prop := termDecodesUptoRow.holds Try.pinned (OpenSpec.upto termDecodesSpec)

/-- 'lethelaw02.TermBytes', WHERE WHAT IT READS IS OF BULK AT MOST 1048576: true; the input reads as it did. -/
def termBytesUptoRow : OpenClaim := { program := "ytopfdggagijdkaa", sum := "faba3fc16613ac4b52977ee760ef0ead31854230fd89f0b573e890752a4febd1", func := "lethe/lethelaw02.TermBytes", spec := "termBytes", unfollowed := true, recurses := true, loops := true, apart := false, narrowed := true }
def TermBytesUptoSaid : Prop := termBytesUptoRow.holds Try.pinned (OpenSpec.upto termBytesSpec)

/-- 'lethelaw03.BoxSeals', WHERE WHAT IT READS IS OF BULK AT MOST 1048576: true; the input reads as it did. -/
def boxSealsUptoRow : OpenClaim := { program := "ytopfdggagijdkaa", sum := "faba3fc16613ac4b52977ee760ef0ead31854230fd89f0b573e890752a4febd1", func := "lethe/lethelaw03.BoxSeals", spec := "boxSeals", unfollowed := true, recurses := true, loops := true, apart := false, narrowed := true }
def BoxSealsUptoSaid : Prop := boxSealsUptoRow.holds Try.pinned (OpenSpec.upto boxSealsSpec)

/-- 'lethelaw02.TermRows', WHERE WHAT IT READS IS OF BULK AT MOST 1048576: true; the input reads as it did. -/
def termRowsUptoRow : OpenClaim := { program := "ytopfdggagijdkaa", sum := "faba3fc16613ac4b52977ee760ef0ead31854230fd89f0b573e890752a4febd1", func := "lethe/lethelaw02.TermRows", spec := "termRows", unfollowed := true, recurses := true, loops := true, apart := false, narrowed := true }
def TermRowsUptoSaid : Prop := termRowsUptoRow.holds Try.pinned (OpenSpec.upto termRowsSpec)

/-- 'lethelaw03.BoxWraps', WHERE WHAT IT READS IS OF BULK AT MOST 1048576: true; the input reads as it did. -/
def boxWrapsUptoRow : OpenClaim := { program := "ytopfdggagijdkaa", sum := "faba3fc16613ac4b52977ee760ef0ead31854230fd89f0b573e890752a4febd1", func := "lethe/lethelaw03.BoxWraps", spec := "boxWraps", unfollowed := true, recurses := true, loops := true, apart := false, narrowed := true }
def BoxWrapsUptoSaid : Prop := boxWrapsUptoRow.holds Try.pinned (OpenSpec.upto boxWrapsSpec)

/-- 'lethelaw03.BoxOrders', WHERE WHAT IT READS IS OF BULK AT MOST 1048576: true; the input reads as it did. -/
def boxOrdersUptoRow : OpenClaim := { program := "ytopfdggagijdkaa", sum := "faba3fc16613ac4b52977ee760ef0ead31854230fd89f0b573e890752a4febd1", func := "lethe/lethelaw03.BoxOrders", spec := "boxOrders", unfollowed := true, recurses := true, loops := true, apart := false, narrowed := true }
def BoxOrdersUptoSaid : Prop := boxOrdersUptoRow.holds Try.pinned (OpenSpec.upto boxOrdersSpec)

/-- 'lethelaw02.TermReads', WHERE WHAT IT READS IS OF BULK AT MOST 1048576: true; the input reads as it did. -/
def termReadsUptoRow : OpenClaim := { program := "ytopfdggagijdkaa", sum := "faba3fc16613ac4b52977ee760ef0ead31854230fd89f0b573e890752a4febd1", func := "lethe/lethelaw02.TermReads", spec := "termReads", unfollowed := true, recurses := true, apart := false, narrowed := true }
def TermReadsUptoSaid : Prop := termReadsUptoRow.holds Try.pinned (OpenSpec.upto termReadsSpec)

/-- 'lethelaw02.TermCuts', WHERE WHAT IT READS IS OF BULK AT MOST 1048576: true; the input reads as it did. -/
def termCutsUptoRow : OpenClaim := { program := "ytopfdggagijdkaa", sum := "faba3fc16613ac4b52977ee760ef0ead31854230fd89f0b573e890752a4febd1", func := "lethe/lethelaw02.TermCuts", spec := "termCuts", unfollowed := true, recurses := true, loops := true, apart := false, narrowed := true }
def TermCutsUptoSaid : Prop := termCutsUptoRow.holds Try.pinned (OpenSpec.upto termCutsSpec)

/-- 'lethelaw02.TermBack', WHERE WHAT IT READS IS OF BULK AT MOST 1048576: true; the input reads as it did. -/
def termBackUptoRow : OpenClaim := { program := "ytopfdggagijdkaa", sum := "faba3fc16613ac4b52977ee760ef0ead31854230fd89f0b573e890752a4febd1", func := "lethe/lethelaw02.TermBack", spec := "termBack", unfollowed := true, recurses := true, loops := true, apart := false, narrowed := true }
def TermBackUptoSaid : Prop := termBackUptoRow.holds Try.pinned (OpenSpec.upto termBackSpec)

/-- 'lethelaw03.BoxPacks', WHERE WHAT IT READS IS OF BULK AT MOST 1048576: true; the input reads as it did. -/
def boxPacksUptoRow : OpenClaim := { program := "ytopfdggagijdkaa", sum := "faba3fc16613ac4b52977ee760ef0ead31854230fd89f0b573e890752a4febd1", func := "lethe/lethelaw03.BoxPacks", spec := "boxPacks", unfollowed := true, recurses := true, loops := true, apart := false, narrowed := true }
def BoxPacksUptoSaid : Prop := boxPacksUptoRow.holds Try.pinned (OpenSpec.upto boxPacksSpec)

/-- 'lethelaw03.BoxOpens', WHERE WHAT IT READS IS OF BULK AT MOST 1048576: true; the input reads as it did. -/
def boxOpensUptoRow : OpenClaim := { program := "ytopfdggagijdkaa", sum := "faba3fc16613ac4b52977ee760ef0ead31854230fd89f0b573e890752a4febd1", func := "lethe/lethelaw03.BoxOpens", spec := "boxOpens", unfollowed := true, recurses := true, loops := true, apart := false, narrowed := true }
def BoxOpensUptoSaid : Prop := boxOpensUptoRow.holds Try.pinned (OpenSpec.upto boxOpensSpec)

end Rows
end Go.Proofs.Ytopfdggagijdkaa
