/- The pure law TermBytes: for all arguments. -/
import Derived.Test.YtopfdggagijdkaaSayTermBytes
import Derived.Test.YtopfdggagijdkaaEnc
set_option linter.unusedVariables false
set_option linter.unusedSimpArgs false
namespace Go.Proofs.Ytopfdggagijdkaa.Pure
open Go.RowKit Go.Proofs.Ytopfdggagijdkaa.F Go.Proofs.Ytopfdggagijdkaa.Open Go.Proofs.Ytopfdggagijdkaa.Aid Go.Proofs.YtopfdggagijdkaaW.PrintWords Go.Proofs.YtopfdggagijdkaaW.PrintLast Go.Proofs.YtopfdggagijdkaaW.PrintMore

theorem TermBytes : TermBytesPure := by
  intro x0 h0
  unfold lethelaw02_TermBytes.f
  refine Ev.rounds (Ev.bind (Encode_ev h0) (Ev.bind (EncodeR_ev h0) ?_))
  have hs : Ev (fun k => term_Size.f k x0.f0 x0.f1 x0.f2 x0.f3) (((encode x0).1.size : Int), (encode x0).2) := by
    unfold term_Size.f
    exact Ev.bind (Encode_ev h0) (Ev.now _)
  refine Ev.bind hs ?_
  simp only [if_true, beq_self_eq_true]
  exact Ev.now _

end Go.Proofs.Ytopfdggagijdkaa.Pure
