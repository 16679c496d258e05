/- The pure statement of the law TermBytes: what is left of it without Go and memory. -/
import Derived.Test.YtopfdggagijdkaaFn7
import Derived.Test.YtopfdggagijdkaaOpenT
namespace Go.Proofs.Ytopfdggagijdkaa.Pure
open Go.RowKit Go.Proofs.Ytopfdggagijdkaa.F Go.Proofs.Ytopfdggagijdkaa.Open Go.Proofs.YtopfdggagijdkaaW.PrintWords Go.Proofs.YtopfdggagijdkaaW.PrintLast Go.Proofs.YtopfdggagijdkaaW.PrintMore
def TermBytesPure : Prop := ∀ (x0 : S25), ok25 x0 → ∃ k, lethelaw02_TermBytes.f k x0.f0 x0.f1 x0.f2 x0.f3 = some true
end Go.Proofs.Ytopfdggagijdkaa.Pure
