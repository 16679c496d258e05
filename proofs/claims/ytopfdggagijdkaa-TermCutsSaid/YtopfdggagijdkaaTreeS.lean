/- Terms as trees: plain facts. Under no condition. -/
import Derived.Test.YtopfdggagijdkaaOpenT
import Derived.Test.YtopfdggagijdkaaStr
set_option linter.unusedVariables false
set_option linter.unusedSimpArgs false
namespace Go.Proofs.Ytopfdggagijdkaa.Pure
open Go.RowKit Go.Proofs.Ytopfdggagijdkaa.F Go.Proofs.Ytopfdggagijdkaa.Open Go.Proofs.Ytopfdggagijdkaa.Aid Go.Proofs.YtopfdggagijdkaaW.PrintWords Go.Proofs.YtopfdggagijdkaaW.PrintLast Go.Proofs.YtopfdggagijdkaaW.PrintMore

theorem eta25 (x : S25) : (⟨x.f0, x.f1, x.f2, x.f3⟩ : S25) = x := by cases x; rfl
theorem rdT {l : List S25} {j : Nat} (h : j < l.length) : rd_T25 l (j : Int) = l[j] := by simp [rd_T25, List.getD_eq_getElem?_getD, List.getElem?_eq_getElem h]
theorem ok25.leaf {n f : Int} {s : ByteArray} (h0 : (Lit.int .i64 n).wf = true) (h1 : (Lit.int .u64 f).wf = true) (h2 : s.size ≤ 140737488351232) : ok25 ⟨n, f, s, []⟩ := ok25.mk h0 h1 h2 (by simp) (by simp) (fun y hy => by simp at hy)
theorem ok25.len {x : S25} (h : ok25 x) : x.f3.length ≤ 2513169434843 := by
  cases h with
  | mk _ _ _ h3 _ _ => omega
theorem ok25.el {x : S25} (h : ok25 x) : ∀ y ∈ x.f3, ok25 y := by
  cases h with
  | mk _ _ _ _ _ h5 => exact h5

end Go.Proofs.Ytopfdggagijdkaa.Pure
