/- The pure statement of the law TermMakes: what is left of it without Go and memory. -/
import Derived.Test.YtopfdggagijdkaaFn3
import Derived.Test.YtopfdggagijdkaaOpenT
namespace Go.Proofs.Ytopfdggagijdkaa.Pure
open Go.RowKit Go.Proofs.Ytopfdggagijdkaa.F Go.Proofs.Ytopfdggagijdkaa.Open Go.Proofs.YtopfdggagijdkaaW.PrintWords Go.Proofs.YtopfdggagijdkaaW.PrintLast Go.Proofs.YtopfdggagijdkaaW.PrintMore
def TermMakesPure : Prop := ∀ (x0 : (List S25)) (x1 : Int) (x2 : ByteArray), okL 56 (ok25) x0 → (Lit.int .u64 x1).wf = true → x2.size ≤ 140737488351232 → ∃ k, lethelaw02_TermMakes.f k x0 x1 x2 = some true
end Go.Proofs.Ytopfdggagijdkaa.Pure
