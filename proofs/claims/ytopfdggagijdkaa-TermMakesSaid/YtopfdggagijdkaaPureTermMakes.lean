/- The pure law TermMakes: for all arguments. -/
import Derived.Test.YtopfdggagijdkaaSayTermMakes
import Derived.Test.YtopfdggagijdkaaTree
set_option linter.unusedVariables false
set_option linter.unusedSimpArgs false
namespace Go.Proofs.Ytopfdggagijdkaa.Pure
open Go.RowKit Go.Proofs.Ytopfdggagijdkaa.F Go.Proofs.Ytopfdggagijdkaa.Open Go.Proofs.Ytopfdggagijdkaa.Aid Go.Proofs.YtopfdggagijdkaaW.PrintWords Go.Proofs.YtopfdggagijdkaaW.PrintLast Go.Proofs.YtopfdggagijdkaaW.PrintMore

theorem TermMakes : TermMakesPure := by
  intro x0 x1 x2 h0 h1 h2
  have hO : ok25 ⟨5, 0, ⟨#[]⟩, x0⟩ := ok25.mk (show (Lit.int .i64 5).wf = true by decide) (show (Lit.int .u64 0).wf = true by decide) (by simp [ByteArray.size]) h0.1 h0.2.1 h0.2.2
  unfold lethelaw02_TermMakes.f term_Of.f
  refine Ev.rounds (Ev.bind (Ev.bind (clone_ev hO) (Ev.now _)) ?_)
  refine Ev.bind (like_ev hO) ?_
  simp only [if_true, term_Num.f, Option.bind_some]
  refine Ev.bind (like_ev (ok25.leaf (n := 1) (f := x1) (s := ⟨#[]⟩) (by decide) h1 (by simp [ByteArray.size]))) ?_
  simp only [if_true, term_Key.f, Option.bind_some]
  refine Ev.bind (like_ev (ok25.leaf (n := 3) (f := x1) (s := ⟨#[]⟩) (by decide) h1 (by simp [ByteArray.size]))) ?_
  simp only [if_true, term_Atom.f, Option.bind_some]
  refine Ev.bind (like_ev (ok25.leaf (n := 2) (f := 0) (s := x2) (by decide) (by decide) h2)) ?_
  exact Ev.now _

end Go.Proofs.Ytopfdggagijdkaa.Pure
