/- The pure statement of the law EntryRights: what is left of it without Go and memory. -/
import Derived.Test.YtpnjchejnghplaaFn7
import Derived.Test.YtpnjchejnghplaaOpenT
namespace Go.Proofs.Ytpnjchejnghplaa.Pure
open Go.RowKit Go.Proofs.Ytpnjchejnghplaa.F Go.Proofs.Ytpnjchejnghplaa.Open Go.Proofs.YtpnjchejnghplaaW.PrintWords Go.Proofs.YtpnjchejnghplaaW.PrintLast Go.Proofs.YtpnjchejnghplaaW.PrintMore
def EntryRightsPure : Prop := ∀ (x0 : S47) (x1 : S24), ok47 x0 → ok24 x1 → ∃ k, lethelaw05_EntryRights.f k x0.f0 x0.f1 x0.f2 x0.f3 x0.f4 x0.f5 x0.f6 x1.f0 x1.f1 = some true
end Go.Proofs.Ytpnjchejnghplaa.Pure
