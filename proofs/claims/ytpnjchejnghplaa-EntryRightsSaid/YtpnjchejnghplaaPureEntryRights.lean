/- Whether anything is a secret that may be is told as the document says. Under no condition. -/
import Derived.Test.YtpnjchejnghplaaSayEntryRights
import Derived.Test.YtpnjchejnghplaaNamed
set_option linter.unusedVariables false
namespace Go.Proofs.Ytpnjchejnghplaa.Pure
open Go.RowKit Go.Proofs.Ytpnjchejnghplaa.F Go.Proofs.Ytpnjchejnghplaa.Open Go.Proofs.Ytpnjchejnghplaa.Aid Go.Proofs.YtpnjchejnghplaaW.PrintWords Go.Proofs.YtpnjchejnghplaaW.PrintLast Go.Proofs.YtpnjchejnghplaaW.PrintMore

-- ∀ (x0 : S47) (x1 : S24), ok47 x0 → ok24 x1 → ∃ k, lethelaw05_EntryRights.f k x0.f0 x0.f1 x0.f2 x0.f3 x0.f4 x0.f5 x0.f6 x1.f0 x1.f1 = some true
theorem EntryRights : EntryRightsPure := by
  intro q e hq he
  obtain ⟨_, _, hl, _⟩ := he
  obtain ⟨k, h1, h2⟩ := Ev.both (named_ev q.f0 q.f1 q.f2 q.f3 q.f4 q.f5 q.f6 e.f0 e.f1 hl) (Named_ev q.f0 q.f1 q.f2 q.f3 q.f4 q.f5 q.f6 e.f0 e.f1 hl)
  refine ⟨k, ?_⟩
  unfold lethelaw05_EntryRights.f entry_Right.f letheref05_Right.f
  rw [h1, h2]
  simp only [Option.bind_some]
  split
  · split <;> simp
  · simp

end Go.Proofs.Ytpnjchejnghplaa.Pure
