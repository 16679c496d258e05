/- The law DiceLong, for all arguments. Under no condition. -/
import Derived.Test.YtpnjchejnghplaaEDiceLong
import Derived.Laws.BitsLemmas
import Derived.Laws.Bits64
set_option linter.unusedVariables false
set_option linter.unusedSimpArgs false
namespace Go.Proofs.Ytpnjchejnghplaa.DiceLongp
open Go Go.RowKit Go.Proofs.Ytpnjchejnghplaa.Rx Go.Proofs.Ytpnjchejnghplaa.DiceLongx
noncomputable section
theorem w64 {n : Int} (h0 : -9223372036854775808 ≤ n) (h1 : n ≤ 9223372036854775807) : IntKind.i64.wrap n = n := by rw [IntKind.wrap_i64]; omega
theorem w64s {j n : Nat} (h : j < n) (hn : n ≤ 9223372036854775807) : IntKind.i64.wrap ((j : Int) + 1) = ((j + 1 : Nat) : Int) := by rw [w64 (by omega) (by omega)]; omega
theorem w64p {j : Nat} (h : 0 < j) (hn : j ≤ 9223372036854775807) : IntKind.i64.wrap ((j : Int) - 1) = ((j - 1 : Nat) : Int) := by rw [w64 (by omega) (by omega)]; omega
theorem sl_len {e : TypeId} {t : Ty} {xs : List (den tab.S t)} (h : Ok tab Pr (.sl e t) xs) : xs.length ≤ 9223372036854775807 := by
  have := (Ok.inv h).2.1
  simp only [maxLen] at this
  omega
theorem ite_to {α : Type} {p : Prop} [Decidable p] {a b c : α} (h1 : p → a = c) (h2 : ¬ p → b = c) : (if p then a else b) = c := by
  by_cases h : p
  · rw [if_pos h]; exact h1 h
  · rw [if_neg h]; exact h2 h
theorem ob_eq {a b : Bool} (h1 : a = true → b = true) (h2 : b = true → a = true) : (some (a, ()) : Option (Bool × Unit)) = some (b, ()) := by rw [Bool.eq_iff_iff.2 ⟨h1, h2⟩]
theorem oi_eq {a b : Int} (h : a = b) : (some (a, ()) : Option (Int × Unit)) = some (b, ()) := by rw [h]
theorem rd_lt {α : Type} {z : α} {xs : List α} {i : Nat} (h : i < xs.length) : rd z xs (i : Int) = xs[i] := by simp [rd, h]
theorem drop_rd {α : Type} {z : α} {xs : List α} {i : Nat} (h : i < xs.length) : xs.drop i = rd z xs (i : Int) :: xs.drop (i + 1) := by rw [rd_lt h]; exact List.drop_eq_getElem_cons h
theorem inb {i n : Nat} (h : i < n) : (0 : Int) ≤ (i : Int) ∧ (i : Int) < (n : Int) := by omega
theorem ilt {i n : Nat} (h : i < n) : (i : Int) < (n : Int) := by omega
theorem subL_drop {α : Type} (xs : List α) {l : Int} {k : Nat} (h : l = (k : Int)) : subL xs l (xs.length : Int) = xs.drop k := by simp [subL, h]
theorem subL_take {α : Type} (xs : List α) {l : Int} {k : Nat} (h : l = (k : Int)) : subL xs 0 l = xs.take k := by simp [subL, h]

/-! ### dice -/
theorem cloneI_eq (xs : List Int) (h : xs.length ≤ 100000) : F33_slices_Clone xs = some (xs, ()) := by
  rw [F33_slices_Clone_eq]
  refine ite_to (fun h0 => ?_) (fun h0 => ?_)
  · rw [if_pos (by omega), List.nil_append, List.eq_nil_of_length_eq_zero h0, anyO_self]
  · rw [if_pos (by omega), List.nil_append]
theorem new_eq (xs : List Int) (h : xs.length ≤ 100000) : F17_dice_New xs = some (false, 0, 0, 0, xs, ()) := by
  rw [F17_dice_New_eq, if_neg (by omega), cloneI_eq xs h]; rfl
theorem new_long (xs : List Int) (h : 100000 < xs.length) : F17_dice_New xs = some (true, 2, 0, 0, [], ()) := by
  rw [F17_dice_New_eq, if_pos (by omega)]
def drawV (xs : List Int) (i : Nat) : Int := if i < xs.length then rd 0 xs (i : Int) else IntKind.u64.wrap ((1099511627776 : Int) + (IntKind.u64.wrap (i : Int)))
theorem long_eq (n : Nat) (h : n ≤ 200000) : ((F17_dice_New (List.replicate (Int.toNat (n : Int)) 0)).bind fun y1 =>
        if y1.1 = true then
          F4_lethelaw01_DiceLong_l4 (n : Int) y1.2.1
        else
          F4_lethelaw01_DiceLong_l4_1 (n : Int) y1.2.2.1 y1.2.2.2.1 y1.2.2.2.2.1) = some (true, ()) := by
  by_cases c1 : 100000 < n
  · rw [new_long _ (by rw [List.length_replicate]; omega)]
    simp only [Option.bind_some, if_true]
    rw [F4_lethelaw01_DiceLong_l4_eq, if_pos (by omega)]; rfl
  · rw [new_eq _ (by rw [List.length_replicate]; omega)]
    simp only [Option.bind_some, Bool.false_eq_true, if_false]
    rw [F4_lethelaw01_DiceLong_l4_1_eq, if_neg (by omega), if_pos rfl, F18_dice_Dice_Taken_eq]; rfl
theorem law (n : Int) (_ : Ok tab Pr (.int .i64) n) : F4_lethelaw01_DiceLong n = some (true, ()) := by
  rw [F4_lethelaw01_DiceLong_eq]
  have h := long_eq 100000 (by omega)
  refine ite_to (fun h0 => ?_) (fun h0 => ite_to (fun h1 => ?_) (fun h1 => ?_))
  · first | exact h | (rw [if_pos (by omega)]; exact h)
  · first | exact h | (rw [if_pos (by omega)]; exact h)
  · obtain ⟨m, rfl⟩ : ∃ m : Nat, n = (m : Int) := ⟨n.toNat, by omega⟩
    rw [if_pos (by omega)]
    exact long_eq m (by omega)

end
end Go.Proofs.Ytpnjchejnghplaa.DiceLongp
