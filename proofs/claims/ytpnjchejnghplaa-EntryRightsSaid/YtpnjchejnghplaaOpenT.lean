/- What the types of the laws' arguments read as, told by the words of the print. Under no condition. -/
import Derived.Test.YtpnjchejnghplaaF0
import Derived.Test.YtpnjchejnghplaaOpen
import Derived.KernelRfl
set_option linter.unusedVariables false
set_option maxRecDepth 100000
namespace Go.Proofs.Ytpnjchejnghplaa.Open
open Go.RowKit Go.Proofs.Ytpnjchejnghplaa.F Go.Proofs.Ytpnjchejnghplaa.Open Go.Proofs.YtpnjchejnghplaaW.PrintWords Go.Proofs.YtpnjchejnghplaaW.PrintLast Go.Proofs.YtpnjchejnghplaaW.PrintMore
def ok26 (x : S26) : Prop := (Lit.int .i64 x.f0).wf = true ∧ x.f1.size ≤ 140737488351232 ∧ x.f2.size ≤ 140737488351232
theorem o26 (n : Nat) : OpensAt Try.prog n 26 k26 ok26 :=
  at_iso (fun y => ⟨y.1, y.2.1, y.2.2⟩) (fun _ => rfl) (fun _ h => h) (at_struct Try.underlying26 rfl (by kernel_rfl) (fun m _ => (fields_cons rfl (by kernel_rfl) (at_int Try.underlying3) (fields_cons rfl (by kernel_rfl) (at_string Try.underlying9) (fields_one rfl (by kernel_rfl) (at_string Try.underlying9))))))
def ok24 (x : S24) : Prop := x.f0.size ≤ 140737488351232 ∧ okL 40 (ok26) x.f1
theorem o24 (n : Nat) : OpensAt Try.prog n 24 k24 ok24 :=
  at_iso (fun y => ⟨y.1, y.2⟩) (fun _ => rfl) (fun _ h => h) (at_struct Try.underlying24 rfl (by kernel_rfl) (fun m _ => (fields_cons rfl (by kernel_rfl) (at_string Try.underlying9) (fields_one rfl (by kernel_rfl) (at_slice Try.underlying22 (by kernel_rfl) (by kernel_rfl) (fun _ _ => (o26 _)))))))
def ok47 (x : S47) : Prop := (Lit.int .i64 x.f0).wf = true ∧ (Lit.int .i64 x.f1).wf = true ∧ (Lit.int .i64 x.f2).wf = true ∧ (Lit.int .i64 x.f3).wf = true ∧ (Lit.int .i64 x.f4).wf = true ∧ (Lit.int .i64 x.f5).wf = true ∧ (Lit.int .i64 x.f6).wf = true
theorem o47 (n : Nat) : OpensAt Try.prog n 47 k47 ok47 :=
  at_iso (fun y => ⟨y.1, y.2.1, y.2.2.1, y.2.2.2.1, y.2.2.2.2.1, y.2.2.2.2.2.1, y.2.2.2.2.2.2⟩) (fun _ => rfl) (fun _ h => h) (at_struct Try.underlying47 rfl (by kernel_rfl) (fun m _ => (fields_cons rfl (by kernel_rfl) (at_int Try.underlying3) (fields_cons rfl (by kernel_rfl) (at_int Try.underlying3) (fields_cons rfl (by kernel_rfl) (at_int Try.underlying3) (fields_cons rfl (by kernel_rfl) (at_int Try.underlying3) (fields_cons rfl (by kernel_rfl) (at_int Try.underlying3) (fields_cons rfl (by kernel_rfl) (at_int Try.underlying3) (fields_one rfl (by kernel_rfl) (at_int Try.underlying3))))))))))
end Go.Proofs.Ytpnjchejnghplaa.Open
