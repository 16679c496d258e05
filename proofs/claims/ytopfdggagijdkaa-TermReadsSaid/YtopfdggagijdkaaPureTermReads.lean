/- The pure law TermReads: for all arguments. -/
import Derived.Test.YtopfdggagijdkaaSayTermReads
import Derived.Test.YtopfdggagijdkaaReadR
import Derived.Test.YtopfdggagijdkaaEnc
set_option linter.unusedVariables false
set_option linter.unusedSimpArgs false
namespace Go.Proofs.Ytopfdggagijdkaa.Pure
open Go.RowKit Go.Proofs.Ytopfdggagijdkaa.F Go.Proofs.Ytopfdggagijdkaa.Open Go.Proofs.Ytopfdggagijdkaa.Aid Go.Proofs.YtopfdggagijdkaaW.PrintWords Go.Proofs.YtopfdggagijdkaaW.PrintLast Go.Proofs.YtopfdggagijdkaaW.PrintMore

theorem TermReads : TermReadsPure := by
  intro x0 h0
  unfold lethelaw02_TermReads.f
  refine Ev.rounds (Ev.bind (DecodeR_ev x0 (Nat.le_trans h0 (by decide))) (Ev.bind (Decode_ev x0 (Nat.le_trans h0 (by decide))) ?_))
  rcases decode_is x0 with ⟨x, e, hb, hx, hr⟩ | ⟨err, he, e⟩
  · rw [e]
    simp only [if_true, bne_self_eq_false]
    refine Ev.suc ?_
    simp only [lethelaw02_TermReads.j0, Bool.false_eq_true, if_false]
    refine Ev.bind (Encode_ev hx) ?_
    unfold encode
    simp only [if_pos hr, if_true]
    have : (strOfNums (encT x)).toList = x0.toList := by rw [← hb, str_bytesOf]
    simp only [if_pos this]
    refine Ev.bind (Right_ev hx) ?_
    rw [hr]
    exact Ev.now _
  · rw [e]
    simp only [if_true, bne, beqd, decide_eq_false he, Bool.not_false]
    refine Ev.suc ?_
    simp only [lethelaw02_TermReads.j0, if_true, beq_self_eq_true]
    exact Ev.now _

end Go.Proofs.Ytopfdggagijdkaa.Pure
