/- The pure law TermDecodes: for all arguments. -/
import Derived.Test.YtopfdggagijdkaaSayTermDecodes
import Derived.Test.YtopfdggagijdkaaReadR
import Derived.Test.YtopfdggagijdkaaAlike
set_option linter.unusedVariables false
set_option linter.unusedSimpArgs false
namespace Go.Proofs.Ytopfdggagijdkaa.Pure
open Go.RowKit Go.Proofs.Ytopfdggagijdkaa.F Go.Proofs.Ytopfdggagijdkaa.Open Go.Proofs.Ytopfdggagijdkaa.Aid Go.Proofs.YtopfdggagijdkaaW.PrintWords Go.Proofs.YtopfdggagijdkaaW.PrintLast Go.Proofs.YtopfdggagijdkaaW.PrintMore

theorem TermDecodes : TermDecodesPure := by
  intro x0 h0
  unfold lethelaw02_TermDecodes.f
  refine Ev.rounds (Ev.bind (Decode_ev x0 (Nat.le_trans h0 (by decide))) (Ev.bind (DecodeR_ev x0 (Nat.le_trans h0 (by decide))) ?_))
  rcases decode_is x0 with ⟨x, e, _, hx, _⟩ | ⟨err, he, e⟩
  · rw [e]
    simp only [if_true]
    exact Ev.bind (like_ev hx) (Ev.now _)
  · rw [e]
    simp only [if_true]
    exact Ev.bind (like_ev (ok25.leaf (n := 0) (f := 0) (s := ⟨#[]⟩) (by decide) (by decide) (by simp [ByteArray.size]))) (Ev.now _)

end Go.Proofs.Ytopfdggagijdkaa.Pure
