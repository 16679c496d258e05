/-
  No cell of these rows narrows 'for every input' (looked for: loops, veiled, ifaces, maps, wideKeys, modest, calm, conditions, laid).
  DERIVED. THE GIVEN ROWS OF THIS SEAT. 10 by the template 'for every input the law returns true; each argument reads behind the call as it read before'; 0 by the template 'total and deterministic' (their statements: YtpnjchejnghplaaTotals.lean).
  GIVEN WITH THE SEED: the statements are not yours to turn. If you find one false, say at which input.
  Laid BY PROGRAM, IN A SANDBOX (cutbox-rows.mjs): the forced cells as the released guide's own fill.sh prints them over the translation 5ca2db1d6f16657a… (all of the seat's roots in one cut). By AI agents, Wed Nov 11 2026. No macro, syntax, notation, axiom, sorry.
-/
import Derived.Test.YtpnjchejnghplaaChecked
import GoSem.Claim
import GoSem.ClaimJoined
import GoSem.ClaimMapViews
import Derived.JoinedTies
import Derived.KernelRfl
namespace Go.Proofs.Ytpnjchejnghplaa
/- THE CELL 'sum', in the pinned program and in every row, IS THE sha256 OF THE DUMP (.gsa) THAT YtpnjchejnghplaaProg.lean LOADS. Nothing in Lean hashes anything: it is a label: what it is worth is what the hold of that sum in a sandbox is worth. -/
noncomputable def Try.pinned : Pinned := { name := "ytpnjchejnghplaa", sum := "5ca2db1d6f16657abb984474055bc14ab7ee8395854ccd753a8ae70a6e94aff7", checked := Try.checked }
namespace Rows
def none {H : Type} : Left H := { results := [], args := [] }

/-- 'lethelaw05.EntryAsks': WHATEVER THE INPUT: true; the input reads as it did. -/
def entryAsksSpec : ChangeSpec := { name := "entryAsks", fn := fun _ => fun
  | [d1, d2] => { results := [.lit (.bool true)], args := [d1, d2] }
  | _ => none }
def entryAsksRow : OpenClaim := { program := "ytpnjchejnghplaa", sum := "5ca2db1d6f16657abb984474055bc14ab7ee8395854ccd753a8ae70a6e94aff7", func := "lethe/lethelaw05.EntryAsks", spec := "entryAsks", apart := false }
def EntryAsksSaid : Prop := entryAsksRow.holds Try.pinned (OpenSpec.ofChange entryAsksSpec)

/-- ITS FALSE NEIGHBOUR: 'it returns false'. Refute it at one input. -/
def entryAsksWrong : ChangeSpec := { name := "entryAsks", fn := fun _ => fun
  | [d1, d2] => { results := [.lit (.bool false)], args := [d1, d2] }
  | _ => none }
def EntryAsksWrongFalsely : Prop := entryAsksRow.holds Try.pinned (OpenSpec.ofChange entryAsksWrong)

/-- 'lethelaw01.DiceLong': WHATEVER THE INPUT: true; the input reads as it did. -/
def diceLongSpec : ChangeSpec := { name := "diceLong", fn := fun _ => fun
  | [d] => { results := [.lit (.bool true)], args := [d] }
  | _ => none }
def diceLongRow : OpenClaim := { program := "ytpnjchejnghplaa", sum := "5ca2db1d6f16657abb984474055bc14ab7ee8395854ccd753a8ae70a6e94aff7", func := "lethe/lethelaw01.DiceLong", spec := "diceLong", apart := false }
def DiceLongSaid : Prop := diceLongRow.holds Try.pinned (OpenSpec.ofChange diceLongSpec)

/-- ITS FALSE NEIGHBOUR: 'it returns false'. Refute it at one input. -/
def diceLongWrong : ChangeSpec := { name := "diceLong", fn := fun _ => fun
  | [d] => { results := [.lit (.bool false)], args := [d] }
  | _ => none }
def DiceLongWrongFalsely : Prop := diceLongRow.holds Try.pinned (OpenSpec.ofChange diceLongWrong)

/-- 'lethelaw01.DiceOwn': WHATEVER THE INPUT: true; the input reads as it did. -/
def diceOwnSpec : ChangeSpec := { name := "diceOwn", fn := fun _ => fun
  | [d] => { results := [.lit (.bool true)], args := [d] }
  | _ => none }
def diceOwnRow : OpenClaim := { program := "ytpnjchejnghplaa", sum := "5ca2db1d6f16657abb984474055bc14ab7ee8395854ccd753a8ae70a6e94aff7", func := "lethe/lethelaw01.DiceOwn", spec := "diceOwn", apart := false }
def DiceOwnSaid : Prop := diceOwnRow.holds Try.pinned (OpenSpec.ofChange diceOwnSpec)

/-- ITS FALSE NEIGHBOUR: 'it returns false'. Refute it at one input. -/
def diceOwnWrong : ChangeSpec := { name := "diceOwn", fn := fun _ => fun
  | [d] => { results := [.lit (.bool false)], args := [d] }
  | _ => none }
def DiceOwnWrongFalsely : Prop := diceOwnRow.holds Try.pinned (OpenSpec.ofChange diceOwnWrong)

/-- 'lethelaw01.DicePlays': WHATEVER THE INPUT: true; the input reads as it did. -/
def dicePlaysSpec : ChangeSpec := { name := "dicePlays", fn := fun _ => fun
  | [d1, d2] => { results := [.lit (.bool true)], args := [d1, d2] }
  | _ => none }
def dicePlaysRow : OpenClaim := { program := "ytpnjchejnghplaa", sum := "5ca2db1d6f16657abb984474055bc14ab7ee8395854ccd753a8ae70a6e94aff7", func := "lethe/lethelaw01.DicePlays", spec := "dicePlays", apart := false }
def DicePlaysSaid : Prop := dicePlaysRow.holds Try.pinned (OpenSpec.ofChange dicePlaysSpec)

/-- ITS FALSE NEIGHBOUR: 'it returns false'. Refute it at one input. -/
def dicePlaysWrong : ChangeSpec := { name := "dicePlays", fn := fun _ => fun
  | [d1, d2] => { results := [.lit (.bool false)], args := [d1, d2] }
  | _ => none }
def DicePlaysWrongFalsely : Prop := dicePlaysRow.holds Try.pinned (OpenSpec.ofChange dicePlaysWrong)

/-- 'lethelaw05.EntryRights': WHATEVER THE INPUT: true; the input reads as it did. -/
def entryRightsSpec : ChangeSpec := { name := "entryRights", fn := fun _ => fun
  | [d1, d2] => { results := [.lit (.bool true)], args := [d1, d2] }
  | _ => none }
def entryRightsRow : OpenClaim := { program := "ytpnjchejnghplaa", sum := "5ca2db1d6f16657abb984474055bc14ab7ee8395854ccd753a8ae70a6e94aff7", func := "lethe/lethelaw05.EntryRights", spec := "entryRights", apart := false }
def EntryRightsSaid : Prop := entryRightsRow.holds Try.pinned (OpenSpec.ofChange entryRightsSpec)

/-- ITS FALSE NEIGHBOUR: 'it returns false'. Refute it at one input. -/
def entryRightsWrong : ChangeSpec := { name := "entryRights", fn := fun _ => fun
  | [d1, d2] => { results := [.lit (.bool false)], args := [d1, d2] }
  | _ => none }
def EntryRightsWrongFalsely : Prop := entryRightsRow.holds Try.pinned (OpenSpec.ofChange entryRightsWrong)

/-- 'lethelaw05.EntryPuts': WHATEVER THE INPUT: true; the input reads as it did. -/
def entryPutsSpec : ChangeSpec := { name := "entryPuts", fn := fun _ => fun
  | [d1, d2, d3, d4] => { results := [.lit (.bool true)], args := [d1, d2, d3, d4] }
  | _ => none }
def entryPutsRow : OpenClaim := { program := "ytpnjchejnghplaa", sum := "5ca2db1d6f16657abb984474055bc14ab7ee8395854ccd753a8ae70a6e94aff7", func := "lethe/lethelaw05.EntryPuts", spec := "entryPuts", apart := false }
def EntryPutsSaid : Prop := entryPutsRow.holds Try.pinned (OpenSpec.ofChange entryPutsSpec)

/-- ITS FALSE NEIGHBOUR: 'it returns false'. Refute it at one input. -/
def entryPutsWrong : ChangeSpec := { name := "entryPuts", fn := fun _ => fun
  | [d1, d2, d3, d4] => { results := [.lit (.bool false)], args := [d1, d2, d3, d4] }
  | _ => none }
def EntryPutsWrongFalsely : Prop := entryPutsRow.holds Try.pinned (OpenSpec.ofChange entryPutsWrong)

/-- 'lethelaw05.EntryOwn': WHATEVER THE INPUT: true; the input reads as it did. -/
def entryOwnSpec : ChangeSpec := { name := "entryOwn", fn := fun _ => fun
  | [d1, d2, d3, d4] => { results := [.lit (.bool true)], args := [d1, d2, d3, d4] }
  | _ => none }
def entryOwnRow : OpenClaim := { program := "ytpnjchejnghplaa", sum := "5ca2db1d6f16657abb984474055bc14ab7ee8395854ccd753a8ae70a6e94aff7", func := "lethe/lethelaw05.EntryOwn", spec := "entryOwn", apart := false }
def EntryOwnSaid : Prop := entryOwnRow.holds Try.pinned (OpenSpec.ofChange entryOwnSpec)

/-- ITS FALSE NEIGHBOUR: 'it returns false'. Refute it at one input. -/
def entryOwnWrong : ChangeSpec := { name := "entryOwn", fn := fun _ => fun
  | [d1, d2, d3, d4] => { results := [.lit (.bool false)], args := [d1, d2, d3, d4] }
  | _ => none }
def EntryOwnWrongFalsely : Prop := entryOwnRow.holds Try.pinned (OpenSpec.ofChange entryOwnWrong)

/-- 'lethelaw05.EntryHistory': WHATEVER THE INPUT: true; the input reads as it did. -/
def entryHistorySpec : ChangeSpec := { name := "entryHistory", fn := fun _ => fun
  | [d1, d2, d3] => { results := [.lit (.bool true)], args := [d1, d2, d3] }
  | _ => none }
def entryHistoryRow : OpenClaim := { program := "ytpnjchejnghplaa", sum := "5ca2db1d6f16657abb984474055bc14ab7ee8395854ccd753a8ae70a6e94aff7", func := "lethe/lethelaw05.EntryHistory", spec := "entryHistory", unfollowed := true, recurses := true, apart := false }
def EntryHistorySaid : Prop := entryHistoryRow.holds Try.pinned (OpenSpec.ofChange entryHistorySpec)

/-- ITS FALSE NEIGHBOUR: 'it returns false'. Refute it at one input. -/
def entryHistoryWrong : ChangeSpec := { name := "entryHistory", fn := fun _ => fun
  | [d1, d2, d3] => { results := [.lit (.bool false)], args := [d1, d2, d3] }
  | _ => none }
def EntryHistoryWrongFalsely : Prop := entryHistoryRow.holds Try.pinned (OpenSpec.ofChange entryHistoryWrong)

/-- 'lethelaw05.EntryFinds': WHATEVER THE INPUT: true; the input reads as it did. -/
def entryFindsSpec : ChangeSpec := { name := "entryFinds", fn := fun _ => fun
  | [d1, d2, d3, d4] => { results := [.lit (.bool true)], args := [d1, d2, d3, d4] }
  | _ => none }
def entryFindsRow : OpenClaim := { program := "ytpnjchejnghplaa", sum := "5ca2db1d6f16657abb984474055bc14ab7ee8395854ccd753a8ae70a6e94aff7", func := "lethe/lethelaw05.EntryFinds", spec := "entryFinds", apart := false }
def EntryFindsSaid : Prop := entryFindsRow.holds Try.pinned (OpenSpec.ofChange entryFindsSpec)

/-- ITS FALSE NEIGHBOUR: 'it returns false'. Refute it at one input. -/
def entryFindsWrong : ChangeSpec := { name := "entryFinds", fn := fun _ => fun
  | [d1, d2, d3, d4] => { results := [.lit (.bool false)], args := [d1, d2, d3, d4] }
  | _ => none }
def EntryFindsWrongFalsely : Prop := entryFindsRow.holds Try.pinned (OpenSpec.ofChange entryFindsWrong)

/-- 'lethelaw05.EntryKeeps': WHATEVER THE INPUT: true; the input reads as it did. -/
def entryKeepsSpec : ChangeSpec := { name := "entryKeeps", fn := fun _ => fun
  | [d1, d2, d3, d4] => { results := [.lit (.bool true)], args := [d1, d2, d3, d4] }
  | _ => none }
def entryKeepsRow : OpenClaim := { program := "ytpnjchejnghplaa", sum := "5ca2db1d6f16657abb984474055bc14ab7ee8395854ccd753a8ae70a6e94aff7", func := "lethe/lethelaw05.EntryKeeps", spec := "entryKeeps", apart := false }
def EntryKeepsSaid : Prop := entryKeepsRow.holds Try.pinned (OpenSpec.ofChange entryKeepsSpec)

/-- ITS FALSE NEIGHBOUR: 'it returns false'. Refute it at one input. -/
def entryKeepsWrong : ChangeSpec := { name := "entryKeeps", fn := fun _ => fun
  | [d1, d2, d3, d4] => { results := [.lit (.bool false)], args := [d1, d2, d3, d4] }
  | _ => none }
def EntryKeepsWrongFalsely : Prop := entryKeepsRow.holds Try.pinned (OpenSpec.ofChange entryKeepsWrong)

/- THE SECOND FORM. 'bulk': how many values and letters a reading holds, each counted each time it is reached (what is shared counts as often as it is met; a slice's spare places count too). A statement '..UptoSaid' is the law's where the arguments, and the package variables that the reading takes, are together of bulk at most 1048576: NARROWER than '..Said'. Prove '..Said' where nothing that the law and all that it calls make is longer than what came in: it says more and counts as full. Else prove '..UptoSaid'. A law counts once. -/
mutual
def uptoBulk {H : Type} : DataW H → Nat
  | .lit (.string bytes) => bytes.length + 1
  | .lit _ => 1
  | .nil => 1
  | .ptr d => uptoBulk d + 1
  | .slice elems spare => uptoBulkAll elems + uptoBulkAll spare + 1
  | .agg parts => uptoBulkAll parts + 1
  | .iface _ d => uptoBulk d + 1
  | .map entries => uptoBulkEntries entries + 1
  | .held _ => 1
def uptoBulkAll {H : Type} : List (DataW H) → Nat
  | [] => 0
  | d :: r => uptoBulk d + uptoBulkAll r
def uptoBulkEntries {H : Type} : List (Lit × DataW H) → Nat
  | [] => 0
  | x :: r => uptoBulkEntry x + uptoBulkEntries r
def uptoBulkEntry {H : Type} : Lit × DataW H → Nat
  | (.string bytes, d) => bytes.length + uptoBulk d + 1
  | (_, d) => uptoBulk d + 1
 end
def uptoSmall : (H : Type) → List (DataW H) → Bool := fun _ ds => decide (uptoBulkAll ds ≤ 1048576)
def OpenSpec.upto (s : _root_.Go.ChangeSpec) : _root_.Go.OpenSpec := { _root_.Go.OpenSpec.ofChange s with cond := some uptoSmall }

/-- 'lethelaw05.EntryAsks', WHERE WHAT IT READS IS OF BULK AT MOST 1048576: true; the input reads as it did. -/
def entryAsksUptoRow : OpenClaim := { program := "ytpnjchejnghplaa", sum := "5ca2db1d6f16657abb984474055bc14ab7ee8395854ccd753a8ae70a6e94aff7", func := "lethe/lethelaw05.EntryAsks", spec := "entryAsks", apart := false, narrowed := true }
def EntryAsksUptoSaid : Prop := entryAsksUptoRow.holds Try.pinned (OpenSpec.upto entryAsksSpec)

/-- 'lethelaw01.DiceLong', WHERE WHAT IT READS IS OF BULK AT MOST 1048576: true; the input reads as it did. -/
def diceLongUptoRow : OpenClaim := { program := "ytpnjchejnghplaa", sum := "5ca2db1d6f16657abb984474055bc14ab7ee8395854ccd753a8ae70a6e94aff7", func := "lethe/lethelaw01.DiceLong", spec := "diceLong", apart := false, narrowed := true }
def DiceLongUptoSaid : Prop := diceLongUptoRow.holds Try.pinned (OpenSpec.upto diceLongSpec)

/-- 'lethelaw01.DiceOwn', WHERE WHAT IT READS IS OF BULK AT MOST 1048576: true; the input reads as it did. -/
def diceOwnUptoRow : OpenClaim := { program := "ytpnjchejnghplaa", sum := "5ca2db1d6f16657abb984474055bc14ab7ee8395854ccd753a8ae70a6e94aff7", func := "lethe/lethelaw01.DiceOwn", spec := "diceOwn", apart := false, narrowed := true }
def DiceOwnUptoSaid : Prop := diceOwnUptoRow.holds Try.pinned (OpenSpec.upto diceOwnSpec)

/-- 'lethelaw01.DicePlays', WHERE WHAT IT READS IS OF BULK AT MOST 1048576: true; the input reads as it did. -/
def dicePlaysUptoRow : OpenClaim := { program := "ytpnjchejnghplaa", sum := "5ca2db1d6f16657abb984474055bc14ab7ee8395854ccd753a8ae70a6e94aff7", func := "lethe/lethelaw01.DicePlays", spec := "dicePlays", apart := false, narrowed := true }
def DicePlaysUptoSaid : Prop := dicePlaysUptoRow.holds Try.pinned (OpenSpec.upto dicePlaysSpec)

/-- 'lethelaw05.EntryRights', WHERE WHAT IT READS IS OF BULK AT MOST 1048576: true; the input reads as it did. -/
def entryRightsUptoRow : OpenClaim := { program := "ytpnjchejnghplaa", sum := "5ca2db1d6f16657abb984474055bc14ab7ee8395854ccd753a8ae70a6e94aff7", func := "lethe/lethelaw05.EntryRights", spec := "entryRights", apart := false, narrowed := true }
def EntryRightsUptoSaid : Prop := entryRightsUptoRow.holds Try.pinned (OpenSpec.upto entryRightsSpec)

/-- 'lethelaw05.EntryPuts', WHERE WHAT IT READS IS OF BULK AT MOST 1048576: true; the input reads as it did. -/
def entryPutsUptoRow : OpenClaim := { program := "ytpnjchejnghplaa", sum := "5ca2db1d6f16657abb984474055bc14ab7ee8395854ccd753a8ae70a6e94aff7", func := "lethe/lethelaw05.EntryPuts", spec := "entryPuts", apart := false, narrowed := true }
def EntryPutsUptoSaid : Prop := entryPutsUptoRow.holds Try.pinned (OpenSpec.upto entryPutsSpec)

/-- 'lethelaw05.EntryOwn', WHERE WHAT IT READS IS OF BULK AT MOST 1048576: true; the input reads as it did. -/
def entryOwnUptoRow : OpenClaim := { program := "ytpnjchejnghplaa", sum := "5ca2db1d6f16657abb984474055bc14ab7ee8395854ccd753a8ae70a6e94aff7", func := "lethe/lethelaw05.EntryOwn", spec := "entryOwn", apart := false, narrowed := true }
def EntryOwnUptoSaid : Prop := entryOwnUptoRow.holds Try.pinned (OpenSpec.upto entryOwnSpec)

/-- 'lethelaw05.EntryHistory', WHERE WHAT IT READS IS OF BULK AT MOST 1048576: true; the input reads as it did. -/
def entryHistoryUptoRow : OpenClaim := { program := "ytpnjchejnghplaa", sum := "5ca2db1d6f16657abb984474055bc14ab7ee8395854ccd753a8ae70a6e94aff7", func := "lethe/lethelaw05.EntryHistory", spec := "entryHistory", unfollowed := true, recurses := true, apart := false, narrowed := true }
def EntryHistoryUptoSaid : Prop := entryHistoryUptoRow.holds Try.pinned (OpenSpec.upto entryHistorySpec)

/-- 'lethelaw05.EntryFinds', WHERE WHAT IT READS IS OF BULK AT MOST 1048576: true; the input reads as it did. -/
def entryFindsUptoRow : OpenClaim := { program := "ytpnjchejnghplaa", sum := "5ca2db1d6f16657abb984474055bc14ab7ee8395854ccd753a8ae70a6e94aff7", func := "lethe/lethelaw05.EntryFinds", spec := "entryFinds", apart := false, narrowed := true }
def EntryFindsUptoSaid : Prop := entryFindsUptoRow.holds Try.pinned (OpenSpec.upto entryFindsSpec)

/-- 'lethelaw05.EntryKeeps', WHERE WHAT IT READS IS OF BULK AT MOST 1048576: true; the input reads as it did. -/
def entryKeepsUptoRow : OpenClaim := { program := "ytpnjchejnghplaa", sum := "5ca2db1d6f16657abb984474055bc14ab7ee8395854ccd753a8ae70a6e94aff7", func := "lethe/lethelaw05.EntryKeeps", spec := "entryKeeps", apart := false, narrowed := true }
def EntryKeepsUptoSaid : Prop := entryKeepsUptoRow.holds Try.pinned (OpenSpec.upto entryKeepsSpec)

end Rows
end Go.Proofs.Ytpnjchejnghplaa
