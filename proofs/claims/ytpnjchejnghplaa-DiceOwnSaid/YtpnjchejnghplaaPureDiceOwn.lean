/- The law DiceOwn, for all arguments. Under no condition. -/
import Derived.Test.YtpnjchejnghplaaEDiceOwn
import Derived.Laws.BitsLemmas
import Derived.Laws.Bits64
set_option linter.unusedVariables false
set_option linter.unusedSimpArgs false
namespace Go.Proofs.Ytpnjchejnghplaa.DiceOwnp
open Go Go.RowKit Go.Proofs.Ytpnjchejnghplaa.Rx Go.Proofs.Ytpnjchejnghplaa.DiceOwnx
noncomputable section
theorem w64 {n : Int} (h0 : -9223372036854775808 ≤ n) (h1 : n ≤ 9223372036854775807) : IntKind.i64.wrap n = n := by rw [IntKind.wrap_i64]; omega
theorem w64s {j n : Nat} (h : j < n) (hn : n ≤ 9223372036854775807) : IntKind.i64.wrap ((j : Int) + 1) = ((j + 1 : Nat) : Int) := by rw [w64 (by omega) (by omega)]; omega
theorem w64p {j : Nat} (h : 0 < j) (hn : j ≤ 9223372036854775807) : IntKind.i64.wrap ((j : Int) - 1) = ((j - 1 : Nat) : Int) := by rw [w64 (by omega) (by omega)]; omega
theorem sl_len {e : TypeId} {t : Ty} {xs : List (den tab.S t)} (h : Ok tab Pr (.sl e t) xs) : xs.length ≤ 9223372036854775807 := by
  have := (Ok.inv h).2.1
  simp only [maxLen] at this
  omega
theorem ite_to {α : Type} {p : Prop} [Decidable p] {a b c : α} (h1 : p → a = c) (h2 : ¬ p → b = c) : (if p then a else b) = c := by
  by_cases h : p
  · rw [if_pos h]; exact h1 h
  · rw [if_neg h]; exact h2 h
theorem ob_eq {a b : Bool} (h1 : a = true → b = true) (h2 : b = true → a = true) : (some (a, ()) : Option (Bool × Unit)) = some (b, ()) := by rw [Bool.eq_iff_iff.2 ⟨h1, h2⟩]
theorem oi_eq {a b : Int} (h : a = b) : (some (a, ()) : Option (Int × Unit)) = some (b, ()) := by rw [h]
theorem rd_lt {α : Type} {z : α} {xs : List α} {i : Nat} (h : i < xs.length) : rd z xs (i : Int) = xs[i] := by simp [rd, h]
theorem drop_rd {α : Type} {z : α} {xs : List α} {i : Nat} (h : i < xs.length) : xs.drop i = rd z xs (i : Int) :: xs.drop (i + 1) := by rw [rd_lt h]; exact List.drop_eq_getElem_cons h
theorem inb {i n : Nat} (h : i < n) : (0 : Int) ≤ (i : Int) ∧ (i : Int) < (n : Int) := by omega
theorem ilt {i n : Nat} (h : i < n) : (i : Int) < (n : Int) := by omega
theorem subL_drop {α : Type} (xs : List α) {l : Int} {k : Nat} (h : l = (k : Int)) : subL xs l (xs.length : Int) = xs.drop k := by simp [subL, h]
theorem subL_take {α : Type} (xs : List α) {l : Int} {k : Nat} (h : l = (k : Int)) : subL xs 0 l = xs.take k := by simp [subL, h]

/-! ### dice -/
def drawV (xs : List Int) (i : Nat) : Int := if i < xs.length then rd 0 xs (i : Int) else IntKind.u64.wrap ((1099511627776 : Int) + (IntKind.u64.wrap (i : Int)))
theorem next_eq (xs : List Int) (i : Nat) (h : i < 1000000) : F20_dice_Dice_Next (i : Int) xs = some (drawV xs i, ((i + 1 : Nat) : Int), xs, ()) := by
  rw [F20_dice_Dice_Next_eq, w64s (n := 1000000) h (by omega)]
  unfold drawV
  by_cases c1 : i < xs.length
  · rw [if_pos (ilt c1), if_pos (inb c1), if_pos c1]
  · rw [if_neg (by omega), if_neg c1]
theorem draw_eq (xs : List Int) (i : Nat) : F21_letheref01_Draw xs (i : Int) = some (drawV xs i, ()) := by
  rw [F21_letheref01_Draw_eq, if_pos (by omega)]
  unfold drawV
  by_cases c1 : i < xs.length
  · rw [if_pos (ilt c1), if_pos (inb c1), if_pos c1]
  · rw [if_neg (by omega), if_neg c1]
theorem short_eq (xs : List Int) (n : Nat) : ∃ ys, F19_lethelaw01_short xs (n : Int) = some (ys, ()) ∧ ys.length ≤ n := by
  rw [F19_lethelaw01_short_eq]
  by_cases c1 : n < xs.length
  · rw [if_pos (by omega), if_pos (by omega), subL_take _ rfl]; exact ⟨_, rfl, by rw [List.length_take]; omega⟩
  · rw [if_neg (by omega)]; exact ⟨_, rfl, by omega⟩

theorem cloneO_eq (xs : List Int) (h : xs.length ≤ 100000) : F33_slices_Clone xs = some (xs, xs, ()) := by
  rw [F33_slices_Clone_eq]
  refine ite_to (fun h0 => ?_) (fun h0 => ?_)
  · rw [if_pos (by omega), List.nil_append, List.eq_nil_of_length_eq_zero h0, anyO_self]
  · rw [if_pos (by omega), List.nil_append]
theorem newO_eq (xs : List Int) (h : xs.length ≤ 100000) : F17_dice_New xs = some (false, 0, [], 0, xs, 0, xs, ()) := by
  rw [F17_dice_New_eq, if_neg (by omega), cloneO_eq xs h]; rfl
theorem own2_l (xs : List Int) (h : xs.length ≤ 200) : ∀ (n i : Nat), xs.length - i = n → i ≤ xs.length → F5_lethelaw01_DiceOwn_l1000012 (xs.length : Int) (i : Int) (i : Int) xs xs = some (true, ()) := by
  intro n
  induction n with
  | zero =>
    intro i hn hi
    have hi : i = xs.length := by omega
    subst hi
    rw [F5_lethelaw01_DiceOwn_l1000012_eq, if_neg (by omega), next_eq xs _ (by omega), draw_eq]; simp
  | succ n ih =>
    intro i hn hi
    rw [F5_lethelaw01_DiceOwn_l1000012_eq, if_pos (ilt (by omega)), next_eq xs _ (by omega), Option.bind_some, if_pos (inb (by omega))]
    have hd : drawV xs i = rd 0 xs (i : Int) := by unfold drawV; rw [if_pos (by omega)]
    rw [if_neg (fun hh => hh hd), w64s (n := xs.length) (by omega) (by omega)]
    exact ih (i + 1) (by omega) (by omega)
theorem own1_l (xs : List Int) (h : xs.length ≤ 200) : ∀ (n i : Nat) (g : List Int), xs.length - i = n → i ≤ xs.length → g.length = xs.length → F5_lethelaw01_DiceOwn_l1000007 (xs.length : Int) (i : Int) g 0 xs xs = some (true, ()) := by
  intro n
  induction n with
  | zero =>
    intro i g hn hi hg
    rw [F5_lethelaw01_DiceOwn_l1000007_eq, if_neg (by omega)]
    exact own2_l xs h _ 0 rfl (by omega)
  | succ n ih =>
    intro i g hn hi hg
    rw [F5_lethelaw01_DiceOwn_l1000007_eq, if_pos (ilt (by omega)), if_pos (inb (by omega)), w64s (n := xs.length) (by omega) (by omega)]
    exact ih (i + 1) _ (by omega) (by omega) (by rw [List.length_set]; exact hg)
theorem law (raw : List Int) (_ : Ok tab Pr (.sl 39 (.int .u64)) raw) : F5_lethelaw01_DiceOwn raw = some (true, ()) := by
  obtain ⟨ys, q, hl⟩ := short_eq raw 200
  rw [F5_lethelaw01_DiceOwn_eq, show F19_lethelaw01_short raw 200 = _ from q, Option.bind_some]
  dsimp only
  rw [if_pos (by omega), List.nil_append, newO_eq ys (by omega), Option.bind_some]
  simp only [Bool.false_eq_true, if_false, not_true_eq_false, List.nil_append]
  rw [if_pos (by omega)]
  exact own1_l ys hl _ 0 ys rfl (by omega) rfl

end
end Go.Proofs.Ytpnjchejnghplaa.DiceOwnp
