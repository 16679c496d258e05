/- Small plain lemmas for the pure laws. Under no condition. -/
import Derived.Test.YtpnjchejnghplaaF0
import Derived.Test.YtpnjchejnghplaaOpen
set_option linter.unusedVariables false
namespace Go.Proofs.Ytpnjchejnghplaa.Aid
open Go.RowKit Go.Proofs.Ytpnjchejnghplaa.F Go.Proofs.Ytpnjchejnghplaa.Open Go.Proofs.YtpnjchejnghplaaW.PrintWords Go.Proofs.YtpnjchejnghplaaW.PrintLast Go.Proofs.YtpnjchejnghplaaW.PrintMore

theorem w64 {x : Int} (h0 : -9223372036854775808 ≤ x) (h1 : x ≤ 9223372036854775807) : wrap64 x = x := by unfold wrap64; omega
theorem w64s {j n : Nat} (h : j < n) (hn : n ≤ 9223372036854775807) : wrap64 ((j : Int) + 1) = ((j + 1 : Nat) : Int) := by rw [w64 (by omega) (by omega)]; omega
theorem toList_data (x : ByteArray) : x.toList = x.data.toList := Go.ByteArray.toList_eq x
theorem bytes_eq {a b : ByteArray} (h : a.toList = b.toList) : a = b := by
  rw [toList_data, toList_data] at h
  cases a
  cases b
  congr
  exact Array.toList_inj.1 h
theorem Ev.iff {α : Type} {g : Nat → Option α} {r : α} (h : Ev g r) : ∃ k, g k = some r := h.rounds
theorem Ev.at {α : Type} {g : Nat → Option α} {r : α} (K : Nat) (h : ∀ k, K ≤ k → g k = some r) : Ev g r := ⟨K, h⟩
theorem Ev.both {α β : Type} {g : Nat → Option α} {f : Nat → Option β} {r : α} {q : β} (h : Ev g r) (h2 : Ev f q) : ∃ k, g k = some r ∧ f k = some q := by
  obtain ⟨K, hK⟩ := h
  obtain ⟨L, hL⟩ := h2
  exact ⟨max K L, hK _ (Nat.le_max_left _ _), hL _ (Nat.le_max_right _ _)⟩
theorem Ev.suc {α : Type} {g : Nat → Option α} {r : α} (h : Ev (fun k => g (k + 1)) r) : Ev g r := Ev.step (fun _ => rfl) h
theorem Ev.const {α : Type} {r : α} {a : Option α} (h : a = some r) : Ev (fun _ => a) r := ⟨0, fun _ _ => h⟩
end Go.Proofs.Ytpnjchejnghplaa.Aid
