/-
  No cell of these rows narrows 'for every input' (looked for: loops, veiled, ifaces, maps, wideKeys, modest, calm, conditions, laid).
  DERIVED. THE GIVEN ROWS OF THIS SEAT. 10 by the template 'for every input the law returns true; each argument reads behind the call as it read before'; 0 by the template 'total and deterministic' (their statements: YtieanabokifjpaaTotals.lean).
  GIVEN WITH THE SEED: the statements are not yours to turn. If you find one false, say at which input.
  Laid BY PROGRAM, IN A SANDBOX (cutbox-rows.mjs): the forced cells as the released guide's own fill.sh prints them over the translation 4b72a10639c17373… (all of the seat's roots in one cut). By AI agents, Wed Nov 11 2026. No macro, syntax, notation, axiom, sorry.
-/
import Derived.Test.YtieanabokifjpaaChecked
import GoSem.Claim
import GoSem.ClaimJoined
import GoSem.ClaimMapViews
import Derived.JoinedTies
import Derived.KernelRfl
namespace Go.Proofs.Ytieanabokifjpaa
/- THE CELL 'sum', in the pinned program and in every row, IS THE sha256 OF THE DUMP (.gsa) THAT YtieanabokifjpaaProg.lean LOADS. Nothing in Lean hashes anything: it is a label: what it is worth is what the hold of that sum in a sandbox is worth. -/
noncomputable def Try.pinned : Pinned := { name := "ytieanabokifjpaa", sum := "4b72a10639c1737357b940b4555c4e222d6277a9b8d40d7e78aa72da1d6b972b", checked := Try.checked }
namespace Rows
def none {H : Type} : Left H := { results := [], args := [] }

/-- 'lethelaw09.BookHistory': WHATEVER THE INPUT: true; the input reads as it did. -/
def bookHistorySpec : ChangeSpec := { name := "bookHistory", fn := fun _ => fun
  | [d1, d2] => { results := [.lit (.bool true)], args := [d1, d2] }
  | _ => none }
def bookHistoryRow : OpenClaim := { program := "ytieanabokifjpaa", sum := "4b72a10639c1737357b940b4555c4e222d6277a9b8d40d7e78aa72da1d6b972b", func := "lethe/lethelaw09.BookHistory", spec := "bookHistory", inPlace := ["maps.clone"], unfollowed := true, recurses := true, apart := false }
def BookHistorySaid : Prop := bookHistoryRow.holds Try.pinned (OpenSpec.ofChange bookHistorySpec)

/-- ITS FALSE NEIGHBOUR: 'it returns false'. Refute it at one input. -/
def bookHistoryWrong : ChangeSpec := { name := "bookHistory", fn := fun _ => fun
  | [d1, d2] => { results := [.lit (.bool false)], args := [d1, d2] }
  | _ => none }
def BookHistoryWrongFalsely : Prop := bookHistoryRow.holds Try.pinned (OpenSpec.ofChange bookHistoryWrong)

/-- 'lethelaw09.BookNames': WHATEVER THE INPUT: true; the input reads as it did. -/
def bookNamesSpec : ChangeSpec := { name := "bookNames", fn := fun _ => fun
  | [d1, d2, d3] => { results := [.lit (.bool true)], args := [d1, d2, d3] }
  | _ => none }
def bookNamesRow : OpenClaim := { program := "ytieanabokifjpaa", sum := "4b72a10639c1737357b940b4555c4e222d6277a9b8d40d7e78aa72da1d6b972b", func := "lethe/lethelaw09.BookNames", spec := "bookNames", inPlace := ["maps.clone"], unfollowed := true, recurses := true, apart := false }
def BookNamesSaid : Prop := bookNamesRow.holds Try.pinned (OpenSpec.ofChange bookNamesSpec)

/-- ITS FALSE NEIGHBOUR: 'it returns false'. Refute it at one input. -/
def bookNamesWrong : ChangeSpec := { name := "bookNames", fn := fun _ => fun
  | [d1, d2, d3] => { results := [.lit (.bool false)], args := [d1, d2, d3] }
  | _ => none }
def BookNamesWrongFalsely : Prop := bookNamesRow.holds Try.pinned (OpenSpec.ofChange bookNamesWrong)

/-- 'lethelaw09.BookShows': WHATEVER THE INPUT: true; the input reads as it did. -/
def bookShowsSpec : ChangeSpec := { name := "bookShows", fn := fun _ => fun
  | [d1, d2, d3] => { results := [.lit (.bool true)], args := [d1, d2, d3] }
  | _ => none }
def bookShowsRow : OpenClaim := { program := "ytieanabokifjpaa", sum := "4b72a10639c1737357b940b4555c4e222d6277a9b8d40d7e78aa72da1d6b972b", func := "lethe/lethelaw09.BookShows", spec := "bookShows", inPlace := ["maps.clone"], unfollowed := true, recurses := true, apart := false }
def BookShowsSaid : Prop := bookShowsRow.holds Try.pinned (OpenSpec.ofChange bookShowsSpec)

/-- ITS FALSE NEIGHBOUR: 'it returns false'. Refute it at one input. -/
def bookShowsWrong : ChangeSpec := { name := "bookShows", fn := fun _ => fun
  | [d1, d2, d3] => { results := [.lit (.bool false)], args := [d1, d2, d3] }
  | _ => none }
def BookShowsWrongFalsely : Prop := bookShowsRow.holds Try.pinned (OpenSpec.ofChange bookShowsWrong)

/-- 'lethelaw09.BookOwn': WHATEVER THE INPUT: true; the input reads as it did. -/
def bookOwnSpec : ChangeSpec := { name := "bookOwn", fn := fun _ => fun
  | [d1, d2, d3] => { results := [.lit (.bool true)], args := [d1, d2, d3] }
  | _ => none }
def bookOwnRow : OpenClaim := { program := "ytieanabokifjpaa", sum := "4b72a10639c1737357b940b4555c4e222d6277a9b8d40d7e78aa72da1d6b972b", func := "lethe/lethelaw09.BookOwn", spec := "bookOwn", inPlace := ["maps.clone"], unfollowed := true, recurses := true, apart := false }
def BookOwnSaid : Prop := bookOwnRow.holds Try.pinned (OpenSpec.ofChange bookOwnSpec)

/-- ITS FALSE NEIGHBOUR: 'it returns false'. Refute it at one input. -/
def bookOwnWrong : ChangeSpec := { name := "bookOwn", fn := fun _ => fun
  | [d1, d2, d3] => { results := [.lit (.bool false)], args := [d1, d2, d3] }
  | _ => none }
def BookOwnWrongFalsely : Prop := bookOwnRow.holds Try.pinned (OpenSpec.ofChange bookOwnWrong)

/-- 'lethelaw09.BookQuota': WHATEVER THE INPUT: true; the input reads as it did. -/
def bookQuotaSpec : ChangeSpec := { name := "bookQuota", fn := fun _ => fun
  | [d1, d2, d3] => { results := [.lit (.bool true)], args := [d1, d2, d3] }
  | _ => none }
def bookQuotaRow : OpenClaim := { program := "ytieanabokifjpaa", sum := "4b72a10639c1737357b940b4555c4e222d6277a9b8d40d7e78aa72da1d6b972b", func := "lethe/lethelaw09.BookQuota", spec := "bookQuota", inPlace := ["maps.clone"], unfollowed := true, recurses := true, apart := false }
def BookQuotaSaid : Prop := bookQuotaRow.holds Try.pinned (OpenSpec.ofChange bookQuotaSpec)

/-- ITS FALSE NEIGHBOUR: 'it returns false'. Refute it at one input. -/
def bookQuotaWrong : ChangeSpec := { name := "bookQuota", fn := fun _ => fun
  | [d1, d2, d3] => { results := [.lit (.bool false)], args := [d1, d2, d3] }
  | _ => none }
def BookQuotaWrongFalsely : Prop := bookQuotaRow.holds Try.pinned (OpenSpec.ofChange bookQuotaWrong)

/-- 'lethelaw09.BookGone': WHATEVER THE INPUT: true; the input reads as it did. -/
def bookGoneSpec : ChangeSpec := { name := "bookGone", fn := fun _ => fun
  | [d1, d2] => { results := [.lit (.bool true)], args := [d1, d2] }
  | _ => none }
def bookGoneRow : OpenClaim := { program := "ytieanabokifjpaa", sum := "4b72a10639c1737357b940b4555c4e222d6277a9b8d40d7e78aa72da1d6b972b", func := "lethe/lethelaw09.BookGone", spec := "bookGone", inPlace := ["maps.clone"], unfollowed := true, recurses := true, apart := false }
def BookGoneSaid : Prop := bookGoneRow.holds Try.pinned (OpenSpec.ofChange bookGoneSpec)

/-- ITS FALSE NEIGHBOUR: 'it returns false'. Refute it at one input. -/
def bookGoneWrong : ChangeSpec := { name := "bookGone", fn := fun _ => fun
  | [d1, d2] => { results := [.lit (.bool false)], args := [d1, d2] }
  | _ => none }
def BookGoneWrongFalsely : Prop := bookGoneRow.holds Try.pinned (OpenSpec.ofChange bookGoneWrong)

/-- 'lethelaw09.BookEmpties': WHATEVER THE INPUT: true; the input reads as it did. -/
def bookEmptiesSpec : ChangeSpec := { name := "bookEmpties", fn := fun _ => fun
  | [d1, d2] => { results := [.lit (.bool true)], args := [d1, d2] }
  | _ => none }
def bookEmptiesRow : OpenClaim := { program := "ytieanabokifjpaa", sum := "4b72a10639c1737357b940b4555c4e222d6277a9b8d40d7e78aa72da1d6b972b", func := "lethe/lethelaw09.BookEmpties", spec := "bookEmpties", inPlace := ["maps.clone"], unfollowed := true, recurses := true, apart := false }
def BookEmptiesSaid : Prop := bookEmptiesRow.holds Try.pinned (OpenSpec.ofChange bookEmptiesSpec)

/-- ITS FALSE NEIGHBOUR: 'it returns false'. Refute it at one input. -/
def bookEmptiesWrong : ChangeSpec := { name := "bookEmpties", fn := fun _ => fun
  | [d1, d2] => { results := [.lit (.bool false)], args := [d1, d2] }
  | _ => none }
def BookEmptiesWrongFalsely : Prop := bookEmptiesRow.holds Try.pinned (OpenSpec.ofChange bookEmptiesWrong)

/-- 'lethelaw09.BookCommutes': WHATEVER THE INPUT: true; the input reads as it did. -/
def bookCommutesSpec : ChangeSpec := { name := "bookCommutes", fn := fun _ => fun
  | [d1, d2, d3, d4] => { results := [.lit (.bool true)], args := [d1, d2, d3, d4] }
  | _ => none }
def bookCommutesRow : OpenClaim := { program := "ytieanabokifjpaa", sum := "4b72a10639c1737357b940b4555c4e222d6277a9b8d40d7e78aa72da1d6b972b", func := "lethe/lethelaw09.BookCommutes", spec := "bookCommutes", inPlace := ["maps.clone"], unfollowed := true, recurses := true, apart := false }
def BookCommutesSaid : Prop := bookCommutesRow.holds Try.pinned (OpenSpec.ofChange bookCommutesSpec)

/-- ITS FALSE NEIGHBOUR: 'it returns false'. Refute it at one input. -/
def bookCommutesWrong : ChangeSpec := { name := "bookCommutes", fn := fun _ => fun
  | [d1, d2, d3, d4] => { results := [.lit (.bool false)], args := [d1, d2, d3, d4] }
  | _ => none }
def BookCommutesWrongFalsely : Prop := bookCommutesRow.holds Try.pinned (OpenSpec.ofChange bookCommutesWrong)

/-- 'lethelaw09.BookAtomic': WHATEVER THE INPUT: true; the input reads as it did. -/
def bookAtomicSpec : ChangeSpec := { name := "bookAtomic", fn := fun _ => fun
  | [d1, d2, d3] => { results := [.lit (.bool true)], args := [d1, d2, d3] }
  | _ => none }
def bookAtomicRow : OpenClaim := { program := "ytieanabokifjpaa", sum := "4b72a10639c1737357b940b4555c4e222d6277a9b8d40d7e78aa72da1d6b972b", func := "lethe/lethelaw09.BookAtomic", spec := "bookAtomic", inPlace := ["maps.clone"], unfollowed := true, recurses := true, apart := false }
def BookAtomicSaid : Prop := bookAtomicRow.holds Try.pinned (OpenSpec.ofChange bookAtomicSpec)

/-- ITS FALSE NEIGHBOUR: 'it returns false'. Refute it at one input. -/
def bookAtomicWrong : ChangeSpec := { name := "bookAtomic", fn := fun _ => fun
  | [d1, d2, d3] => { results := [.lit (.bool false)], args := [d1, d2, d3] }
  | _ => none }
def BookAtomicWrongFalsely : Prop := bookAtomicRow.holds Try.pinned (OpenSpec.ofChange bookAtomicWrong)

/-- 'lethelaw09.BookPlays': WHATEVER THE INPUT: true; the input reads as it did. -/
def bookPlaysSpec : ChangeSpec := { name := "bookPlays", fn := fun _ => fun
  | [d1, d2] => { results := [.lit (.bool true)], args := [d1, d2] }
  | _ => none }
def bookPlaysRow : OpenClaim := { program := "ytieanabokifjpaa", sum := "4b72a10639c1737357b940b4555c4e222d6277a9b8d40d7e78aa72da1d6b972b", func := "lethe/lethelaw09.BookPlays", spec := "bookPlays", inPlace := ["maps.clone"], unfollowed := true, recurses := true, apart := false }
def BookPlaysSaid : Prop := bookPlaysRow.holds Try.pinned (OpenSpec.ofChange bookPlaysSpec)

/-- ITS FALSE NEIGHBOUR: 'it returns false'. Refute it at one input. -/
def bookPlaysWrong : ChangeSpec := { name := "bookPlays", fn := fun _ => fun
  | [d1, d2] => { results := [.lit (.bool false)], args := [d1, d2] }
  | _ => none }
def BookPlaysWrongFalsely : Prop := bookPlaysRow.holds Try.pinned (OpenSpec.ofChange bookPlaysWrong)

/- THE SECOND FORM. 'bulk': how many values and letters a reading holds, each counted each time it is reached (what is shared counts as often as it is met; a slice's spare places count too). A statement '..UptoSaid' is the law's where the arguments, and the package variables that the reading takes, are together of bulk at most 1048576: NARROWER than '..Said'. Prove '..Said' where nothing that the law and all that it calls make is longer than what came in: it says more and counts as full. Else prove '..UptoSaid'. A law counts once. -/
mutual
def uptoBulk {H : Type} : DataW H → Nat
  | .lit (.string bytes) => bytes.length + 1
  | .lit _ => 1
  | .nil => 1
  | .ptr d => uptoBulk d + 1
  | .slice elems spare => uptoBulkAll elems + uptoBulkAll spare + 1
  | .agg parts => uptoBulkAll parts + 1
  | .iface _ d => uptoBulk d + 1
  | .map entries => uptoBulkEntries entries + 1
  | .held _ => 1
def uptoBulkAll {H : Type} : List (DataW H) → Nat
  | [] => 0
  | d :: r => uptoBulk d + uptoBulkAll r
def uptoBulkEntries {H : Type} : List (Lit × DataW H) → Nat
  | [] => 0
  | x :: r => uptoBulkEntry x + uptoBulkEntries r
def uptoBulkEntry {H : Type} : Lit × DataW H → Nat
  | (.string bytes, d) => bytes.length + uptoBulk d + 1
  | (_, d) => uptoBulk d + 1
 end
def uptoSmall : (H : Type) → List (DataW H) → Bool := fun _ ds => decide (uptoBulkAll ds ≤ 1048576)
def OpenSpec.upto (s : _root_.Go.ChangeSpec) : _root_.Go.OpenSpec := { _root_.Go.OpenSpec.ofChange s with cond := some uptoSmall }

/-- 'lethelaw09.BookHistory', WHERE WHAT IT READS IS OF BULK AT MOST 1048576: true; the input reads as it did. -/
def bookHistoryUptoRow : OpenClaim := { program := "ytieanabokifjpaa", sum := "4b72a10639c1737357b940b4555c4e222d6277a9b8d40d7e78aa72da1d6b972b", func := "lethe/lethelaw09.BookHistory", spec := "bookHistory", inPlace := ["maps.clone"], unfollowed := true, recurses := true, apart := false, narrowed := true }
def BookHistoryUptoSaid : Prop := bookHistoryUptoRow.holds Try.pinned (OpenSpec.upto bookHistorySpec)

/-- 'lethelaw09.BookNames', WHERE WHAT IT READS IS OF BULK AT MOST 1048576: true; the input reads as it did. -/
def bookNamesUptoRow : OpenClaim := { program := "ytieanabokifjpaa", sum := "4b72a10639c1737357b940b4555c4e222d6277a9b8d40d7e78aa72da1d6b972b", func := "lethe/lethelaw09.BookNames", spec := "bookNames", inPlace := ["maps.clone"], unfollowed := true, recurses := true, apart := false, narrowed := true }
def BookNamesUptoSaid : Prop := bookNamesUptoRow.holds Try.pinned (OpenSpec.upto bookNamesSpec)

/-- 'lethelaw09.BookShows', WHERE WHAT IT READS IS OF BULK AT MOST 1048576: true; the input reads as it did. -/
def bookShowsUptoRow : OpenClaim := { program := "ytieanabokifjpaa", sum := "4b72a10639c1737357b940b4555c4e222d6277a9b8d40d7e78aa72da1d6b972b", func := "lethe/lethelaw09.BookShows", spec := "bookShows", inPlace := ["maps.clone"], unfollowed := true, recurses := true, apart := false, narrowed := true }
def BookShowsUptoSaid : Prop := bookShowsUptoRow.holds Try.pinned (OpenSpec.upto bookShowsSpec)

/-- 'lethelaw09.BookOwn', WHERE WHAT IT READS IS OF BULK AT MOST 1048576: true; the input reads as it did. -/
def bookOwnUptoRow : OpenClaim := { program := "ytieanabokifjpaa", sum := "4b72a10639c1737357b940b4555c4e222d6277a9b8d40d7e78aa72da1d6b972b", func := "lethe/lethelaw09.BookOwn", spec := "bookOwn", inPlace := ["maps.clone"], unfollowed := true, recurses := true, apart := false, narrowed := true }
def BookOwnUptoSaid : Prop := bookOwnUptoRow.holds Try.pinned (OpenSpec.upto bookOwnSpec)

/-- 'lethelaw09.BookQuota', WHERE WHAT IT READS IS OF BULK AT MOST 1048576: true; the input reads as it did. -/
def bookQuotaUptoRow : OpenClaim := { program := "ytieanabokifjpaa", sum := "4b72a10639c1737357b940b4555c4e222d6277a9b8d40d7e78aa72da1d6b972b", func := "lethe/lethelaw09.BookQuota", spec := "bookQuota", inPlace := ["maps.clone"], unfollowed := true, recurses := true, apart := false, narrowed := true }
def BookQuotaUptoSaid : Prop := bookQuotaUptoRow.holds Try.pinned (OpenSpec.upto bookQuotaSpec)

/-- 'lethelaw09.BookGone', WHERE WHAT IT READS IS OF BULK AT MOST 1048576: true; the input reads as it did. -/
def bookGoneUptoRow : OpenClaim := { program := "ytieanabokifjpaa", sum := "4b72a10639c1737357b940b4555c4e222d6277a9b8d40d7e78aa72da1d6b972b", func := "lethe/lethelaw09.BookGone", spec := "bookGone", inPlace := ["maps.clone"], unfollowed := true, recurses := true, apart := false, narrowed := true }
def BookGoneUptoSaid : Prop := bookGoneUptoRow.holds Try.pinned (OpenSpec.upto bookGoneSpec)

/-- 'lethelaw09.BookEmpties', WHERE WHAT IT READS IS OF BULK AT MOST 1048576: true; the input reads as it did. -/
def bookEmptiesUptoRow : OpenClaim := { program := "ytieanabokifjpaa", sum := "4b72a10639c1737357b940b4555c4e222d6277a9b8d40d7e78aa72da1d6b972b", func := "lethe/lethelaw09.BookEmpties", spec := "bookEmpties", inPlace := ["maps.clone"], unfollowed := true, recurses := true, apart := false, narrowed := true }
def BookEmptiesUptoSaid : Prop := bookEmptiesUptoRow.holds Try.pinned (OpenSpec.upto bookEmptiesSpec)

/-- 'lethelaw09.BookCommutes', WHERE WHAT IT READS IS OF BULK AT MOST 1048576: true; the input reads as it did. -/
def bookCommutesUptoRow : OpenClaim := { program := "ytieanabokifjpaa", sum := "4b72a10639c1737357b940b4555c4e222d6277a9b8d40d7e78aa72da1d6b972b", func := "lethe/lethelaw09.BookCommutes", spec := "bookCommutes", inPlace := ["maps.clone"], unfollowed := true, recurses := true, apart := false, narrowed := true }
def BookCommutesUptoSaid : Prop := bookCommutesUptoRow.holds Try.pinned (OpenSpec.upto bookCommutesSpec)

/-- 'lethelaw09.BookAtomic', WHERE WHAT IT READS IS OF BULK AT MOST 1048576: true; the input reads as it did. -/
def bookAtomicUptoRow : OpenClaim := { program := "ytieanabokifjpaa", sum := "4b72a10639c1737357b940b4555c4e222d6277a9b8d40d7e78aa72da1d6b972b", func := "lethe/lethelaw09.BookAtomic", spec := "bookAtomic", inPlace := ["maps.clone"], unfollowed := true, recurses := true, apart := false, narrowed := true }
def BookAtomicUptoSaid : Prop := bookAtomicUptoRow.holds Try.pinned (OpenSpec.upto bookAtomicSpec)

/-- 'lethelaw09.BookPlays', WHERE WHAT IT READS IS OF BULK AT MOST 1048576: true; the input reads as it did. -/
def bookPlaysUptoRow : OpenClaim := { program := "ytieanabokifjpaa", sum := "4b72a10639c1737357b940b4555c4e222d6277a9b8d40d7e78aa72da1d6b972b", func := "lethe/lethelaw09.BookPlays", spec := "bookPlays", inPlace := ["maps.clone"], unfollowed := true, recurses := true, apart := false, narrowed := true }
def BookPlaysUptoSaid : Prop := bookPlaysUptoRow.holds Try.pinned (OpenSpec.upto bookPlaysSpec)

end Rows
end Go.Proofs.Ytieanabokifjpaa
