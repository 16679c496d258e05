/- What the types of the laws' arguments read as, told by the words of the print. Under no condition. -/
import Derived.Test.YtopfdggagijdkaaF0
import Derived.Test.YtopfdggagijdkaaOpen
import Derived.KernelRfl
set_option linter.unusedVariables false
set_option maxRecDepth 100000
namespace Go.Proofs.Ytopfdggagijdkaa.Open
open Go.RowKit Go.Proofs.Ytopfdggagijdkaa.F Go.Proofs.Ytopfdggagijdkaa.Open Go.Proofs.YtopfdggagijdkaaW.PrintWords Go.Proofs.YtopfdggagijdkaaW.PrintLast Go.Proofs.YtopfdggagijdkaaW.PrintMore
inductive ok25 : S25 → Prop
  | mk {x : S25} : (Lit.int .i64 x.f0).wf = true → (Lit.int .u64 x.f1).wf = true → x.f2.size ≤ 140737488351232 → x.f3.length * 56 ≤ 140737488351232 → x.f3.length ≤ maxLen → (∀ y ∈ x.f3, ok25 y) → ok25 x
theorem o25 (n : Nat) : OpensAt Try.prog n 25 k25 ok25 :=
  at_fix sz25 (Kd.upto_E sub25) (fun n d hd hm => at_iso (fun y => ⟨y.1, y.2.1, y.2.2.1, y.2.2.2⟩) (fun _ => rfl) (fun _ h => ok25.mk h.1 h.2.1 h.2.2.1 (h.2.2.2).1 (h.2.2.2).2.1 (h.2.2.2).2.2)
    (at_struct Try.underlying25 rfl (by kernel_rfl) (fun m hmn => (fields_cons rfl (by kernel_rfl) (at_int Try.underlying3) (fields_cons rfl (by kernel_rfl) (at_int Try.underlying23) (fields_cons rfl (by kernel_rfl) (at_string Try.underlying9) (fields_one rfl (by kernel_rfl) (at_slice Try.underlying22 (by rw [hd]; kernel_rfl) (by kernel_rfl) (fun m2 h2 => hm m2 (by omega)))))))))) mono25 n
end Go.Proofs.Ytopfdggagijdkaa.Open
