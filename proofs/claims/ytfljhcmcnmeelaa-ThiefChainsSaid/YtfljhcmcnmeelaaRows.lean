/-
  NARROWER THAN 'FOR EVERY INPUT', by the rows' own cells (each row's printed sentence says how): ThiefPlain: loops · ThiefShut: loops.
  DERIVED. THE GIVEN ROWS OF THIS SEAT. 6 by the template 'for every input the law returns true; each argument reads behind the call as it read before'; 0 by the template 'total and deterministic' (their statements: YtfljhcmcnmeelaaTotals.lean).
  GIVEN WITH THE SEED: the statements are not yours to turn. If you find one false, say at which input.
  Laid BY PROGRAM, IN A SANDBOX (cutbox-rows.mjs): the forced cells as the released guide's own fill.sh prints them over the translation 96e1f4f7e0b6f64f… (all of the seat's roots in one cut). By AI agents, Wed Nov 11 2026. No macro, syntax, notation, axiom, sorry.
-/
import Derived.Test.YtfljhcmcnmeelaaChecked
import GoSem.Claim
import GoSem.ClaimJoined
import GoSem.ClaimMapViews
import Derived.JoinedTies
import Derived.KernelRfl
namespace Go.Proofs.Ytfljhcmcnmeelaa
/- THE CELL 'sum', in the pinned program and in every row, IS THE sha256 OF THE DUMP (.gsa) THAT YtfljhcmcnmeelaaProg.lean LOADS. Nothing in Lean hashes anything: it is a label: what it is worth is what the hold of that sum in a sandbox is worth. -/
noncomputable def Try.pinned : Pinned := { name := "ytfljhcmcnmeelaa", sum := "96e1f4f7e0b6f64f0624bc1b5cad7d92227b2d3196ca8018745c6c5e11c4934f", checked := Try.checked }
namespace Rows
def none {H : Type} : Left H := { results := [], args := [] }

/-- 'lethelaw10.ThiefGrows': WHATEVER THE INPUT: true; the input reads as it did. -/
def thiefGrowsSpec : ChangeSpec := { name := "thiefGrows", fn := fun _ => fun
  | [d1, d2] => { results := [.lit (.bool true)], args := [d1, d2] }
  | _ => none }
def thiefGrowsRow : OpenClaim := { program := "ytfljhcmcnmeelaa", sum := "96e1f4f7e0b6f64f0624bc1b5cad7d92227b2d3196ca8018745c6c5e11c4934f", func := "lethe/lethelaw10.ThiefGrows", spec := "thiefGrows", unfollowed := true, recurses := true, apart := false }
def ThiefGrowsSaid : Prop := thiefGrowsRow.holds Try.pinned (OpenSpec.ofChange thiefGrowsSpec)

/-- ITS FALSE NEIGHBOUR: 'it returns false'. Refute it at one input. -/
def thiefGrowsWrong : ChangeSpec := { name := "thiefGrows", fn := fun _ => fun
  | [d1, d2] => { results := [.lit (.bool false)], args := [d1, d2] }
  | _ => none }
def ThiefGrowsWrongFalsely : Prop := thiefGrowsRow.holds Try.pinned (OpenSpec.ofChange thiefGrowsWrong)

/-- 'lethelaw10.ThiefGets': WHATEVER THE INPUT: true; the input reads as it did. -/
def thiefGetsSpec : ChangeSpec := { name := "thiefGets", fn := fun _ => fun
  | [d1, d2] => { results := [.lit (.bool true)], args := [d1, d2] }
  | _ => none }
def thiefGetsRow : OpenClaim := { program := "ytfljhcmcnmeelaa", sum := "96e1f4f7e0b6f64f0624bc1b5cad7d92227b2d3196ca8018745c6c5e11c4934f", func := "lethe/lethelaw10.ThiefGets", spec := "thiefGets", unfollowed := true, recurses := true, apart := false }
def ThiefGetsSaid : Prop := thiefGetsRow.holds Try.pinned (OpenSpec.ofChange thiefGetsSpec)

/-- ITS FALSE NEIGHBOUR: 'it returns false'. Refute it at one input. -/
def thiefGetsWrong : ChangeSpec := { name := "thiefGets", fn := fun _ => fun
  | [d1, d2] => { results := [.lit (.bool false)], args := [d1, d2] }
  | _ => none }
def ThiefGetsWrongFalsely : Prop := thiefGetsRow.holds Try.pinned (OpenSpec.ofChange thiefGetsWrong)

/-- 'lethelaw10.ThiefTwice': WHATEVER THE INPUT: true; the input reads as it did. -/
def thiefTwiceSpec : ChangeSpec := { name := "thiefTwice", fn := fun _ => fun
  | [d] => { results := [.lit (.bool true)], args := [d] }
  | _ => none }
def thiefTwiceRow : OpenClaim := { program := "ytfljhcmcnmeelaa", sum := "96e1f4f7e0b6f64f0624bc1b5cad7d92227b2d3196ca8018745c6c5e11c4934f", func := "lethe/lethelaw10.ThiefTwice", spec := "thiefTwice", unfollowed := true, recurses := true, apart := false }
def ThiefTwiceSaid : Prop := thiefTwiceRow.holds Try.pinned (OpenSpec.ofChange thiefTwiceSpec)

/-- ITS FALSE NEIGHBOUR: 'it returns false'. Refute it at one input. -/
def thiefTwiceWrong : ChangeSpec := { name := "thiefTwice", fn := fun _ => fun
  | [d] => { results := [.lit (.bool false)], args := [d] }
  | _ => none }
def ThiefTwiceWrongFalsely : Prop := thiefTwiceRow.holds Try.pinned (OpenSpec.ofChange thiefTwiceWrong)

/-- 'lethelaw10.ThiefPlain': WHATEVER THE INPUT: true; the input reads as it did. -/
def thiefPlainSpec : ChangeSpec := { name := "thiefPlain", fn := fun _ => fun
  | [d1, d2] => { results := [.lit (.bool true)], args := [d1, d2] }
  | _ => none }
def thiefPlainRow : OpenClaim := { program := "ytfljhcmcnmeelaa", sum := "96e1f4f7e0b6f64f0624bc1b5cad7d92227b2d3196ca8018745c6c5e11c4934f", func := "lethe/lethelaw10.ThiefPlain", spec := "thiefPlain", unfollowed := true, recurses := true, loops := true, apart := false }
def ThiefPlainSaid : Prop := thiefPlainRow.holds Try.pinned (OpenSpec.ofChange thiefPlainSpec)

/-- ITS FALSE NEIGHBOUR: 'it returns false'. Refute it at one input. -/
def thiefPlainWrong : ChangeSpec := { name := "thiefPlain", fn := fun _ => fun
  | [d1, d2] => { results := [.lit (.bool false)], args := [d1, d2] }
  | _ => none }
def ThiefPlainWrongFalsely : Prop := thiefPlainRow.holds Try.pinned (OpenSpec.ofChange thiefPlainWrong)

/-- 'lethelaw10.ThiefChains': WHATEVER THE INPUT: true; the input reads as it did. -/
def thiefChainsSpec : ChangeSpec := { name := "thiefChains", fn := fun _ => fun
  | [d1, d2, d3] => { results := [.lit (.bool true)], args := [d1, d2, d3] }
  | _ => none }
def thiefChainsRow : OpenClaim := { program := "ytfljhcmcnmeelaa", sum := "96e1f4f7e0b6f64f0624bc1b5cad7d92227b2d3196ca8018745c6c5e11c4934f", func := "lethe/lethelaw10.ThiefChains", spec := "thiefChains", unfollowed := true, recurses := true, apart := false }
def ThiefChainsSaid : Prop := thiefChainsRow.holds Try.pinned (OpenSpec.ofChange thiefChainsSpec)

/-- ITS FALSE NEIGHBOUR: 'it returns false'. Refute it at one input. -/
def thiefChainsWrong : ChangeSpec := { name := "thiefChains", fn := fun _ => fun
  | [d1, d2, d3] => { results := [.lit (.bool false)], args := [d1, d2, d3] }
  | _ => none }
def ThiefChainsWrongFalsely : Prop := thiefChainsRow.holds Try.pinned (OpenSpec.ofChange thiefChainsWrong)

/-- 'lethelaw10.ThiefShut': WHATEVER THE INPUT: true; the input reads as it did. -/
def thiefShutSpec : ChangeSpec := { name := "thiefShut", fn := fun _ => fun
  | [d1, d2, d3] => { results := [.lit (.bool true)], args := [d1, d2, d3] }
  | _ => none }
def thiefShutRow : OpenClaim := { program := "ytfljhcmcnmeelaa", sum := "96e1f4f7e0b6f64f0624bc1b5cad7d92227b2d3196ca8018745c6c5e11c4934f", func := "lethe/lethelaw10.ThiefShut", spec := "thiefShut", unfollowed := true, recurses := true, loops := true, apart := false }
def ThiefShutSaid : Prop := thiefShutRow.holds Try.pinned (OpenSpec.ofChange thiefShutSpec)

/-- ITS FALSE NEIGHBOUR: 'it returns false'. Refute it at one input. -/
def thiefShutWrong : ChangeSpec := { name := "thiefShut", fn := fun _ => fun
  | [d1, d2, d3] => { results := [.lit (.bool false)], args := [d1, d2, d3] }
  | _ => none }
def ThiefShutWrongFalsely : Prop := thiefShutRow.holds Try.pinned (OpenSpec.ofChange thiefShutWrong)

/- THE SECOND FORM. 'bulk': how many values and letters a reading holds, each counted each time it is reached (what is shared counts as often as it is met; a slice's spare places count too). A statement '..UptoSaid' is the law's where the arguments, and the package variables that the reading takes, are together of bulk at most 1048576: NARROWER than '..Said'. Prove '..Said' where nothing that the law and all that it calls make is longer than what came in: it says more and counts as full. Else prove '..UptoSaid'. A law counts once. -/
mutual
def uptoBulk {H : Type} : DataW H → Nat
  | .lit (.string bytes) => bytes.length + 1
  | .lit _ => 1
  | .nil => 1
  | .ptr d => uptoBulk d + 1
  | .slice elems spare => uptoBulkAll elems + uptoBulkAll spare + 1
  | .agg parts => uptoBulkAll parts + 1
  | .iface _ d => uptoBulk d + 1
  | .map entries => uptoBulkEntries entries + 1
  | .held _ => 1
def uptoBulkAll {H : Type} : List (DataW H) → Nat
  | [] => 0
  | d :: r => uptoBulk d + uptoBulkAll r
def uptoBulkEntries {H : Type} : List (Lit × DataW H) → Nat
  | [] => 0
  | x :: r => uptoBulkEntry x + uptoBulkEntries r
def uptoBulkEntry {H : Type} : Lit × DataW H → Nat
  | (.string bytes, d) => bytes.length + uptoBulk d + 1
  | (_, d) => uptoBulk d + 1
 end
def uptoSmall : (H : Type) → List (DataW H) → Bool := fun _ ds => decide (uptoBulkAll ds ≤ 1048576)
def OpenSpec.upto (s : _root_.Go.ChangeSpec) : _root_.Go.OpenSpec := { _root_.Go.OpenSpec.ofChange s with cond := some uptoSmall }

/-- 'lethelaw10.ThiefGrows', WHERE WHAT IT READS IS OF BULK AT MOST 1048576: true; the input reads as it did. -/
def thiefGrowsUptoRow : OpenClaim := { program := "ytfljhcmcnmeelaa", sum := "96e1f4f7e0b6f64f0624bc1b5cad7d92227b2d3196ca8018745c6c5e11c4934f", func := "lethe/lethelaw10.ThiefGrows", spec := "thiefGrows", unfollowed := true, recurses := true, apart := false, narrowed := true }
def ThiefGrowsUptoSaid : Prop := thiefGrowsUptoRow.holds Try.pinned (OpenSpec.upto thiefGrowsSpec)

/-- 'lethelaw10.ThiefGets', WHERE WHAT IT READS IS OF BULK AT MOST 1048576: true; the input reads as it did. -/
def thiefGetsUptoRow : OpenClaim := { program := "ytfljhcmcnmeelaa", sum := "96e1f4f7e0b6f64f0624bc1b5cad7d92227b2d3196ca8018745c6c5e11c4934f", func := "lethe/lethelaw10.ThiefGets", spec := "thiefGets", unfollowed := true, recurses := true, apart := false, narrowed := true }
def ThiefGetsUptoSaid : Prop := thiefGetsUptoRow.holds Try.pinned (OpenSpec.upto thiefGetsSpec)

/-- 'lethelaw10.ThiefTwice', WHERE WHAT IT READS IS OF BULK AT MOST 1048576: true; the input reads as it did. -/
def thiefTwiceUptoRow : OpenClaim := { program := "ytfljhcmcnmeelaa", sum := "96e1f4f7e0b6f64f0624bc1b5cad7d92227b2d3196ca8018745c6c5e11c4934f", func := "lethe/lethelaw10.ThiefTwice", spec := "thiefTwice", unfollowed := true, recurses := true, apart := false, narrowed := true }
def ThiefTwiceUptoSaid : Prop := thiefTwiceUptoRow.holds Try.pinned (OpenSpec.upto thiefTwiceSpec)

/-- 'lethelaw10.ThiefPlain', WHERE WHAT IT READS IS OF BULK AT MOST 1048576: true; the input reads as it did. -/
def thiefPlainUptoRow : OpenClaim := { program := "ytfljhcmcnmeelaa", sum := "96e1f4f7e0b6f64f0624bc1b5cad7d92227b2d3196ca8018745c6c5e11c4934f", func := "lethe/lethelaw10.ThiefPlain", spec := "thiefPlain", unfollowed := true, recurses := true, loops := true, apart := false, narrowed := true }
def ThiefPlainUptoSaid : Prop := thiefPlainUptoRow.holds Try.pinned (OpenSpec.upto thiefPlainSpec)

/-- 'lethelaw10.ThiefChains', WHERE WHAT IT READS IS OF BULK AT MOST 1048576: true; the input reads as it did. -/
def thiefChainsUptoRow : OpenClaim := { program := "ytfljhcmcnmeelaa", sum := "96e1f4f7e0b6f64f0624bc1b5cad7d92227b2d3196ca8018745c6c5e11c4934f", func := "lethe/lethelaw10.ThiefChains", spec := "thiefChains", unfollowed := true, recurses := true, apart := false, narrowed := true }
def ThiefChainsUptoSaid : Prop := thiefChainsUptoRow.holds Try.pinned (OpenSpec.upto thiefChainsSpec)

/-- 'lethelaw10.ThiefShut', WHERE WHAT IT READS IS OF BULK AT MOST 1048576: true; the input reads as it did. -/
def thiefShutUptoRow : OpenClaim := { program := "ytfljhcmcnmeelaa", sum := "96e1f4f7e0b6f64f0624bc1b5cad7d92227b2d3196ca8018745c6c5e11c4934f", func := "lethe/lethelaw10.ThiefShut", spec := "thiefShut", unfollowed := true, recurses := true, loops := true, apart := false, narrowed := true }
def ThiefShutUptoSaid : Prop := thiefShutUptoRow.holds Try.pinned (OpenSpec.upto thiefShutSpec)

end Rows
end Go.Proofs.Ytfljhcmcnmeelaa
