/- The pure law TermNumbers: for all arguments. -/
import Derived.Test.YtopfdggagijdkaaSayTermNumbers
import Derived.Test.YtopfdggagijdkaaNum
set_option linter.unusedVariables false
set_option linter.unusedSimpArgs false
namespace Go.Proofs.Ytopfdggagijdkaa.Pure
open Go.RowKit Go.Proofs.Ytopfdggagijdkaa.F Go.Proofs.Ytopfdggagijdkaa.Open Go.Proofs.Ytopfdggagijdkaa.Aid Go.Proofs.YtopfdggagijdkaaW.PrintWords Go.Proofs.YtopfdggagijdkaaW.PrintLast Go.Proofs.YtopfdggagijdkaaW.PrintMore

theorem TermNumbers : TermNumbersPure := by
  intro x0 x1 h0 h1
  have hx := wf_u64 h0
  obtain ⟨n, rfl⟩ : ∃ n : Nat, x0 = (n : Int) := ⟨x0.toNat, by omega⟩
  have hn : n < 18446744073709551616 := by omega
  have h1' : x1.size ≤ maxLen := Nat.le_trans h1 (by decide)
  unfold lethelaw02_TermNumbers.f
  refine Ev.rounds (Ev.bind (GetNum_ev x1 h1') (Ev.bind (GetNumRef_ev x1 h1') (Ev.bind (PutNum_ev hn) (Ev.bind (PutNumRef_ev hn) (Ev.const ?_)))))
  simp

end Go.Proofs.Ytopfdggagijdkaa.Pure
