/-
  NARROWER THAN 'FOR EVERY INPUT', by the rows' own cells (each row's printed sentence says how): TermAtoms: loops · TermGathers: loops.
  DERIVED. THE GIVEN ROWS OF THIS SEAT. 5 by the template 'for every input the law returns true; each argument reads behind the call as it read before'; 0 by the template 'total and deterministic' (their statements: YteoggpajjljfmaaTotals.lean).
  GIVEN WITH THE SEED: the statements are not yours to turn. If you find one false, say at which input.
  Laid BY PROGRAM, IN A SANDBOX (cutbox-rows.mjs): the forced cells as the released guide's own fill.sh prints them over the translation 15fe428581258418… (all of the seat's roots in one cut). By AI agents, Wed Nov 11 2026. No macro, syntax, notation, axiom, sorry.
-/
import Derived.Test.YteoggpajjljfmaaChecked
import GoSem.Claim
import GoSem.ClaimJoined
import GoSem.ClaimMapViews
import Derived.JoinedTies
import Derived.KernelRfl
namespace Go.Proofs.Yteoggpajjljfmaa
/- THE CELL 'sum', in the pinned program and in every row, IS THE sha256 OF THE DUMP (.gsa) THAT YteoggpajjljfmaaProg.lean LOADS. Nothing in Lean hashes anything: it is a label: what it is worth is what the hold of that sum in a sandbox is worth. -/
noncomputable def Try.pinned : Pinned := { name := "yteoggpajjljfmaa", sum := "15fe428581258418e705fd95349fa701f0295dc6ff2dc55f13b789b458766d98", checked := Try.checked }
namespace Rows
def none {H : Type} : Left H := { results := [], args := [] }

/-- 'lethelaw01.DiceFresh': WHATEVER THE INPUT: true; the input reads as it did. -/
def diceFreshSpec : ChangeSpec := { name := "diceFresh", fn := fun _ => fun
  | [d] => { results := [.lit (.bool true)], args := [d] }
  | _ => none }
def diceFreshRow : OpenClaim := { program := "yteoggpajjljfmaa", sum := "15fe428581258418e705fd95349fa701f0295dc6ff2dc55f13b789b458766d98", func := "lethe/lethelaw01.DiceFresh", spec := "diceFresh", recurses := true, apart := false }
def DiceFreshSaid : Prop := diceFreshRow.holds Try.pinned (OpenSpec.ofChange diceFreshSpec)

/-- ITS FALSE NEIGHBOUR: 'it returns false'. Refute it at one input. -/
def diceFreshWrong : ChangeSpec := { name := "diceFresh", fn := fun _ => fun
  | [d] => { results := [.lit (.bool false)], args := [d] }
  | _ => none }
def DiceFreshWrongFalsely : Prop := diceFreshRow.holds Try.pinned (OpenSpec.ofChange diceFreshWrong)

/-- 'lethelaw01.DiceNever': WHATEVER THE INPUT: true; the input reads as it did. -/
def diceNeverSpec : ChangeSpec := { name := "diceNever", fn := fun _ => fun
  | [d1, d2] => { results := [.lit (.bool true)], args := [d1, d2] }
  | _ => none }
def diceNeverRow : OpenClaim := { program := "yteoggpajjljfmaa", sum := "15fe428581258418e705fd95349fa701f0295dc6ff2dc55f13b789b458766d98", func := "lethe/lethelaw01.DiceNever", spec := "diceNever", recurses := true, apart := false }
def DiceNeverSaid : Prop := diceNeverRow.holds Try.pinned (OpenSpec.ofChange diceNeverSpec)

/-- ITS FALSE NEIGHBOUR: 'it returns false'. Refute it at one input. -/
def diceNeverWrong : ChangeSpec := { name := "diceNever", fn := fun _ => fun
  | [d1, d2] => { results := [.lit (.bool false)], args := [d1, d2] }
  | _ => none }
def DiceNeverWrongFalsely : Prop := diceNeverRow.holds Try.pinned (OpenSpec.ofChange diceNeverWrong)

/-- 'lethelaw05.EntryTexts': WHATEVER THE INPUT: true; the input reads as it did. -/
def entryTextsSpec : ChangeSpec := { name := "entryTexts", fn := fun _ => fun
  | [d] => { results := [.lit (.bool true)], args := [d] }
  | _ => none }
def entryTextsRow : OpenClaim := { program := "yteoggpajjljfmaa", sum := "15fe428581258418e705fd95349fa701f0295dc6ff2dc55f13b789b458766d98", func := "lethe/lethelaw05.EntryTexts", spec := "entryTexts", recurses := true, apart := false }
def EntryTextsSaid : Prop := entryTextsRow.holds Try.pinned (OpenSpec.ofChange entryTextsSpec)

/-- ITS FALSE NEIGHBOUR: 'it returns false'. Refute it at one input. -/
def entryTextsWrong : ChangeSpec := { name := "entryTexts", fn := fun _ => fun
  | [d] => { results := [.lit (.bool false)], args := [d] }
  | _ => none }
def EntryTextsWrongFalsely : Prop := entryTextsRow.holds Try.pinned (OpenSpec.ofChange entryTextsWrong)

/-- 'lethelaw02.TermAtoms': WHATEVER THE INPUT: true; the input reads as it did. -/
def termAtomsSpec : ChangeSpec := { name := "termAtoms", fn := fun _ => fun
  | [d] => { results := [.lit (.bool true)], args := [d] }
  | _ => none }
def termAtomsRow : OpenClaim := { program := "yteoggpajjljfmaa", sum := "15fe428581258418e705fd95349fa701f0295dc6ff2dc55f13b789b458766d98", func := "lethe/lethelaw02.TermAtoms", spec := "termAtoms", unfollowed := true, recurses := true, loops := true, apart := false }
def TermAtomsSaid : Prop := termAtomsRow.holds Try.pinned (OpenSpec.ofChange termAtomsSpec)

/-- ITS FALSE NEIGHBOUR: 'it returns false'. Refute it at one input. -/
def termAtomsWrong : ChangeSpec := { name := "termAtoms", fn := fun _ => fun
  | [d] => { results := [.lit (.bool false)], args := [d] }
  | _ => none }
def TermAtomsWrongFalsely : Prop := termAtomsRow.holds Try.pinned (OpenSpec.ofChange termAtomsWrong)

/-- 'lethelaw02.TermGathers': WHATEVER THE INPUT: true; the input reads as it did. -/
def termGathersSpec : ChangeSpec := { name := "termGathers", fn := fun _ => fun
  | [d1, d2, d3] => { results := [.lit (.bool true)], args := [d1, d2, d3] }
  | _ => none }
def termGathersRow : OpenClaim := { program := "yteoggpajjljfmaa", sum := "15fe428581258418e705fd95349fa701f0295dc6ff2dc55f13b789b458766d98", func := "lethe/lethelaw02.TermGathers", spec := "termGathers", unfollowed := true, recurses := true, loops := true, apart := false }
def TermGathersSaid : Prop := termGathersRow.holds Try.pinned (OpenSpec.ofChange termGathersSpec)

/-- ITS FALSE NEIGHBOUR: 'it returns false'. Refute it at one input. -/
def termGathersWrong : ChangeSpec := { name := "termGathers", fn := fun _ => fun
  | [d1, d2, d3] => { results := [.lit (.bool false)], args := [d1, d2, d3] }
  | _ => none }
def TermGathersWrongFalsely : Prop := termGathersRow.holds Try.pinned (OpenSpec.ofChange termGathersWrong)

/- THE SECOND FORM. 'bulk': how many values and letters a reading holds, each counted each time it is reached (what is shared counts as often as it is met; a slice's spare places count too). A statement '..UptoSaid' is the law's where the arguments, and the package variables that the reading takes, are together of bulk at most 1048576: NARROWER than '..Said'. Prove '..Said' where nothing that the law and all that it calls make is longer than what came in: it says more and counts as full. Else prove '..UptoSaid'. A law counts once. -/
mutual
def uptoBulk {H : Type} : DataW H → Nat
  | .lit (.string bytes) => bytes.length + 1
  | .lit _ => 1
  | .nil => 1
  | .ptr d => uptoBulk d + 1
  | .slice elems spare => uptoBulkAll elems + uptoBulkAll spare + 1
  | .agg parts => uptoBulkAll parts + 1
  | .iface _ d => uptoBulk d + 1
  | .map entries => uptoBulkEntries entries + 1
  | .held _ => 1
def uptoBulkAll {H : Type} : List (DataW H) → Nat
  | [] => 0
  | d :: r => uptoBulk d + uptoBulkAll r
def uptoBulkEntries {H : Type} : List (Lit × DataW H) → Nat
  | [] => 0
  | x :: r => uptoBulkEntry x + uptoBulkEntries r
def uptoBulkEntry {H : Type} : Lit × DataW H → Nat
  | (.string bytes, d) => bytes.length + uptoBulk d + 1
  | (_, d) => uptoBulk d + 1
 end
def uptoSmall : (H : Type) → List (DataW H) → Bool := fun _ ds => decide (uptoBulkAll ds ≤ 1048576)
def OpenSpec.upto (s : _root_.Go.ChangeSpec) : _root_.Go.OpenSpec := { _root_.Go.OpenSpec.ofChange s with cond := some uptoSmall }

/-- 'lethelaw01.DiceFresh', WHERE WHAT IT READS IS OF BULK AT MOST 1048576: true; the input reads as it did. -/
def diceFreshUptoRow : OpenClaim := { program := "yteoggpajjljfmaa", sum := "15fe428581258418e705fd95349fa701f0295dc6ff2dc55f13b789b458766d98", func := "lethe/lethelaw01.DiceFresh", spec := "diceFresh", recurses := true, apart := false, narrowed := true }
def DiceFreshUptoSaid : Prop := diceFreshUptoRow.holds Try.pinned (OpenSpec.upto diceFreshSpec)

/-- 'lethelaw01.DiceNever', WHERE WHAT IT READS IS OF BULK AT MOST 1048576: true; the input reads as it did. -/
def diceNeverUptoRow : OpenClaim := { program := "yteoggpajjljfmaa", sum := "15fe428581258418e705fd95349fa701f0295dc6ff2dc55f13b789b458766d98", func := "lethe/lethelaw01.DiceNever", spec := "diceNever", recurses := true, apart := false, narrowed := true }
def DiceNeverUptoSaid : Prop := diceNeverUptoRow.holds Try.pinned (OpenSpec.upto diceNeverSpec)

/-- 'lethelaw05.EntryTexts', WHERE WHAT IT READS IS OF BULK AT MOST 1048576: true; the input reads as it did. -/
def entryTextsUptoRow : OpenClaim := { program := "yteoggpajjljfmaa", sum := "15fe428581258418e705fd95349fa701f0295dc6ff2dc55f13b789b458766d98", func := "lethe/lethelaw05.EntryTexts", spec := "entryTexts", recurses := true, apart := false, narrowed := true }
def EntryTextsUptoSaid : Prop := entryTextsUptoRow.holds Try.pinned (OpenSpec.upto entryTextsSpec)

/-- 'lethelaw02.TermAtoms', WHERE WHAT IT READS IS OF BULK AT MOST 1048576: true; the input reads as it did. -/
def termAtomsUptoRow : OpenClaim := { program := "yteoggpajjljfmaa", sum := "15fe428581258418e705fd95349fa701f0295dc6ff2dc55f13b789b458766d98", func := "lethe/lethelaw02.TermAtoms", spec := "termAtoms", unfollowed := true, recurses := true, loops := true, apart := false, narrowed := true }
def TermAtomsUptoSaid : Prop := termAtomsUptoRow.holds Try.pinned (OpenSpec.upto termAtomsSpec)

/-- 'lethelaw02.TermGathers', WHERE WHAT IT READS IS OF BULK AT MOST 1048576: true; the input reads as it did. -/
def termGathersUptoRow : OpenClaim := { program := "yteoggpajjljfmaa", sum := "15fe428581258418e705fd95349fa701f0295dc6ff2dc55f13b789b458766d98", func := "lethe/lethelaw02.TermGathers", spec := "termGathers", unfollowed := true, recurses := true, loops := true, apart := false, narrowed := true }
def TermGathersUptoSaid : Prop := termGathersUptoRow.holds Try.pinned (OpenSpec.upto termGathersSpec)

end Rows
end Go.Proofs.Yteoggpajjljfmaa
