/- The pure statement of the law EntryAsks: what is left of it without Go and memory. -/
import Derived.Test.YtpnjchejnghplaaFn3
import Derived.Test.YtpnjchejnghplaaOpenT
namespace Go.Proofs.Ytpnjchejnghplaa.Pure
open Go.RowKit Go.Proofs.Ytpnjchejnghplaa.F Go.Proofs.Ytpnjchejnghplaa.Open Go.Proofs.YtpnjchejnghplaaW.PrintWords Go.Proofs.YtpnjchejnghplaaW.PrintLast Go.Proofs.YtpnjchejnghplaaW.PrintMore
def EntryAsksPure : Prop := ∀ (x0 : S24) (x1 : Int), ok24 x0 → (Lit.int .i64 x1).wf = true → ∃ k, lethelaw05_EntryAsks.f k x0.f0 x0.f1 x1 = some true
end Go.Proofs.Ytpnjchejnghplaa.Pure
