/- The pure statement of the law TermCuts: what is left of it without Go and memory. -/
import Derived.Test.YtopfdggagijdkaaFn13
import Derived.Test.YtopfdggagijdkaaOpenT
namespace Go.Proofs.Ytopfdggagijdkaa.Pure
open Go.RowKit Go.Proofs.Ytopfdggagijdkaa.F Go.Proofs.Ytopfdggagijdkaa.Open Go.Proofs.YtopfdggagijdkaaW.PrintWords Go.Proofs.YtopfdggagijdkaaW.PrintLast Go.Proofs.YtopfdggagijdkaaW.PrintMore
def TermCutsPure : Prop := ∀ (x0 : S25) (x1 : Int) (x2 : ByteArray), ok25 x0 → (Lit.int .i64 x1).wf = true → x2.size ≤ 140737488351232 → ∃ k, lethelaw02_TermCuts.f k x0.f0 x0.f1 x0.f2 x0.f3 x1 x2 = some true
end Go.Proofs.Ytopfdggagijdkaa.Pure
