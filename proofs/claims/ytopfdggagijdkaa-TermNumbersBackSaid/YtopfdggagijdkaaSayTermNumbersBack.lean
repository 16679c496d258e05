/- The pure statement of the law TermNumbersBack: what is left of it without Go and memory. -/
import Derived.Test.YtopfdggagijdkaaFn5
import Derived.Test.YtopfdggagijdkaaOpenT
namespace Go.Proofs.Ytopfdggagijdkaa.Pure
open Go.RowKit Go.Proofs.Ytopfdggagijdkaa.F Go.Proofs.Ytopfdggagijdkaa.Open Go.Proofs.YtopfdggagijdkaaW.PrintWords Go.Proofs.YtopfdggagijdkaaW.PrintLast Go.Proofs.YtopfdggagijdkaaW.PrintMore
def TermNumbersBackPure : Prop := ∀ (x0 : Int) (x1 : ByteArray), (Lit.int .u64 x0).wf = true → x1.size ≤ 140737488351232 → ∃ k, lethelaw02_TermNumbersBack.f k x0 x1 = some true
end Go.Proofs.Ytopfdggagijdkaa.Pure
