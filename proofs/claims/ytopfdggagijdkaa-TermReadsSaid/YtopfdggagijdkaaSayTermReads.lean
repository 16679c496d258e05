/- The pure statement of the law TermReads: what is left of it without Go and memory. -/
import Derived.Test.YtopfdggagijdkaaFn12
import Derived.Test.YtopfdggagijdkaaOpenT
namespace Go.Proofs.Ytopfdggagijdkaa.Pure
open Go.RowKit Go.Proofs.Ytopfdggagijdkaa.F Go.Proofs.Ytopfdggagijdkaa.Open Go.Proofs.YtopfdggagijdkaaW.PrintWords Go.Proofs.YtopfdggagijdkaaW.PrintLast Go.Proofs.YtopfdggagijdkaaW.PrintMore
def TermReadsPure : Prop := ∀ (x0 : ByteArray), x0.size ≤ 140737488351232 → ∃ k, lethelaw02_TermReads.f k x0 = some true
end Go.Proofs.Ytopfdggagijdkaa.Pure
