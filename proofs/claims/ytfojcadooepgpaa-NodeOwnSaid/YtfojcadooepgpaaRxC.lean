/- A plain evaluator over the translated code: places in the code. Under no condition. -/
import Derived.Test.YtfojcadooepgpaaRxR
namespace Go.Proofs.Ytfojcadooepgpaa.Rx
open Go Go.RowKit
/-- What is to do from a cut on: a loop's (by its key), or a region's. -/
def atKey (key : Nat) : Code → List It → Option (List It)
  | .seq a b, k => match atKey key a (.c b :: k) with | some r => some r | none => atKey key b k
  | .cond _ a b, k => match atKey key a k with | some r => some r | none => atKey key b k
  | .block id c, k => atKey key c (.bl id :: k)
  | .loop c, k => bif Nat.beq (loopKey c) key then some (.c c :: .lp c :: k) else atKey key c (.lp c :: k)
  | .region id ops d, k => bif Nat.beq id key then some (.c (.region id ops d) :: k) else none
  | _, _ => none
def todoAt (fn : Func) (key : Nat) : List It :=
  match fn.body with
  | some c => (match atKey key c [] with | some l => l | none => [])
  | none => []
end Go.Proofs.Ytfojcadooepgpaa.Rx
