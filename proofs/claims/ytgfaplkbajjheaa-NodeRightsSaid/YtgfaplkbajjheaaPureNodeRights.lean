/- The law NodeRights, for all arguments. Under no condition. -/
import Derived.Test.YtgfaplkbajjheaaENodeRights
import Derived.Laws.BitsLemmas
set_option linter.unusedVariables false
set_option linter.unusedSimpArgs false
namespace Go.Proofs.Ytgfaplkbajjheaa.NodeRightsp
open Go Go.RowKit Go.Proofs.Ytgfaplkbajjheaa.Rx Go.Proofs.Ytgfaplkbajjheaa.NodeRightsx
theorem w64 {n : Int} (h0 : -9223372036854775808 ≤ n) (h1 : n ≤ 9223372036854775807) : IntKind.i64.wrap n = n := by rw [IntKind.wrap_i64]; omega
theorem w64s {j n : Nat} (h : j < n) (hn : n ≤ 9223372036854775807) : IntKind.i64.wrap ((j : Int) + 1) = ((j + 1 : Nat) : Int) := by rw [w64 (by omega) (by omega)]; omega
theorem w64p {j : Nat} (h : 0 < j) (hn : j ≤ 9223372036854775807) : IntKind.i64.wrap ((j : Int) - 1) = ((j - 1 : Nat) : Int) := by rw [w64 (by omega) (by omega)]; omega
theorem sl_len {e : TypeId} {t : Ty} {xs : List (den tab.S t)} (h : Ok tab Pr (.sl e t) xs) : xs.length ≤ 9223372036854775807 := by
  have := (Ok.inv h).2.1
  simp only [maxLen] at this
  omega

/-! ### quotas -/
def quotaOk (a b c d e f g : Int) : Bool := decide (1 ≤ a ∧ a ≤ 64 ∧ 1 ≤ b ∧ b ≤ 16 ∧ 0 ≤ c ∧ c ≤ 32 ∧ 0 ≤ d ∧ d ≤ 16 ∧ 1 ≤ e ∧ e ≤ 4 ∧ 1 ≤ f ∧ f ≤ 8 ∧ 0 ≤ g ∧ g ≤ 32)
theorem ite_to {α : Type} {p : Prop} [Decidable p] {a b c : α} (h1 : p → a = c) (h2 : ¬ p → b = c) : (if p then a else b) = c := by
  by_cases h : p
  · rw [if_pos h]; exact h1 h
  · rw [if_neg h]; exact h2 h
theorem ob_eq {a b : Bool} (h1 : a = true → b = true) (h2 : b = true → a = true) : (some (a, ()) : Option (Bool × Unit)) = some (b, ()) := by rw [Bool.eq_iff_iff.2 ⟨h1, h2⟩]
theorem q04 (a b c d e f g : Int) : F68_letheref04_Right a b c d e f g = some (quotaOk a b c d e f g, ()) := by
  rw [F68_letheref04_Right_eq]
  simp only [F68_letheref04_Right_l2_eq]
  repeat' (refine ite_to (fun _ => ?_) (fun _ => ?_))
  all_goals (apply ob_eq <;> intro hh <;> simp only [quotaOk, decide_eq_true_eq, Bool.false_eq_true] at hh ⊢ <;> omega)
theorem qin (x a b : Int) : F121_quota_in x a b = some (decide (a ≤ x ∧ x ≤ b), ()) := by
  rw [F121_quota_in_eq]
  refine ite_to (fun _ => ?_) (fun _ => ?_)
  all_goals (apply ob_eq <;> intro hh <;> simp only [decide_eq_true_eq, Bool.false_eq_true] at hh ⊢ <;> omega)
theorem oi_eq {a b : Int} (h : a = b) : (some (a, ()) : Option (Int × Unit)) = some (b, ()) := by rw [h]
theorem q66 (a b c d e f g : Int) : F66_quota_Right a b c d e f g = some ((if quotaOk a b c d e f g = true then 0 else 40), ()) := by
  rw [F66_quota_Right_eq]
  simp only [F66_quota_Right_l3_eq, qin, Option.bind_some, decide_eq_true_eq]
  repeat' (refine ite_to (fun _ => ?_) (fun _ => ?_))
  · rw [if_pos (by simp only [quotaOk, decide_eq_true_eq]; omega)]
  all_goals rw [if_neg (by simp only [quotaOk, decide_eq_true_eq]; omega)]

/-! ### entries -/
theorem texts184 (a b c d e f g : Int) (s t : ByteArray) : F184_entry_texts a b c d e f g s t = some ((if c < (s.size : Int) then 5 else if d < (t.size : Int) then 5 else 0), ()) := by
  rw [F184_entry_texts_eq]
  repeat' (refine ite_to (fun h => ?_) (fun h => ?_))
  · rw [if_pos h]
  · rw [if_neg (by assumption), if_pos (by assumption)]
  · rw [if_neg (by assumption), if_neg (by assumption)]
theorem named_loop (a b c d e f g : Int) (s : ByteArray) (xs : List S98) (hx : xs.length ≤ 9223372036854775807) : ∀ (n i : Nat) (v : Int), xs.length - i = n → i ≤ xs.length → (i = 0 → v = 0) → (0 < i → v = S98.f0 (rd S98.z xs ((i - 1 : Nat) : Int)) ∧ 1 ≤ v) →
    ∃ r, F153_entry_named_l1000011 v xs (xs.length : Int) (i : Int) a b c d e f g = some (r, ()) ∧ F154_letheref05_Named_l1000010 xs (xs.length : Int) (i : Int) a b c d e f g s xs = some (r, ()) := by
  intro n
  induction n with
  | zero =>
    intro i v hn hi h0 h1
    refine ⟨0, ?_, ?_⟩
    · rw [F153_entry_named_l1000011_eq, if_neg (by omega)]
    · rw [F154_letheref05_Named_l1000010_eq, if_neg (by omega)]
  | succ n ih =>
    intro i v hn hi h0 h1
    have hlt : (i : Int) < (xs.length : Int) := by omega
    have hin : (0 : Int) ≤ (i : Int) ∧ (i : Int) < (xs.length : Int) := by omega
    rw [F153_entry_named_l1000011_eq, F154_letheref05_Named_l1000010_eq, if_pos hlt, if_pos hin, if_pos hlt, if_pos hin, F154_letheref05_Named_l15_eq, texts184, Option.bind_some]
    generalize hy : rd S98.z xs (i : Int) = y
    by_cases c1 : S98.f0 y < 1
    · refine ⟨50, ?_, ?_⟩
      · rw [if_pos]
        rcases Nat.eq_zero_or_pos i with q | q
        · rw [h0 q]; omega
        · have := (h1 q).2; omega
      · rw [if_pos c1]
    · rw [if_neg c1]
      by_cases c2 : S98.f0 y ≤ v
      · rw [if_pos c2]
        refine ⟨50, rfl, ?_⟩
        refine ite_to (fun _ => rfl) (fun _ => ?_)
        rcases Nat.eq_zero_or_pos i with q | q
        · have := h0 q; omega
        · rw [if_pos (by omega), w64p q (by omega), if_pos (by omega), ← (h1 q).1, if_pos c2]
      · rw [if_neg c2]
        by_cases c3 : (1073741824 : Int) < S98.f0 y
        · rw [if_pos c3, if_pos c3]
          exact ⟨50, rfl, rfl⟩
        · rw [if_neg c3, if_neg c3]
          have hrest : ∃ r, (if ¬ ((if c < ((S98.f1 y).size : Int) then 5 else if d < ((S98.f2 y).size : Int) then 5 else 0 : Int), ()).1 = (0 : Int) then some (((if c < ((S98.f1 y).size : Int) then 5 else if d < ((S98.f2 y).size : Int) then 5 else 0 : Int), ()).1, ())
              else F153_entry_named_l1000011 (S98.f0 y) xs (xs.length : Int) (IntKind.i64.wrap ((i : Int) + (1 : Int))) a b c d e f g) = some (r, ()) ∧
            (if c < ((S98.f1 y).size : Int) then some (5, ()) else if d < ((S98.f2 y).size : Int) then some (5, ()) else F154_letheref05_Named_l1000010 xs (xs.length : Int) (IntKind.i64.wrap ((i : Int) + (1 : Int))) a b c d e f g s xs) = some (r, ()) := by
            by_cases c4 : c < ((S98.f1 y).size : Int)
            · exact ⟨5, by simp [c4], by simp [c4]⟩
            · by_cases c5 : d < ((S98.f2 y).size : Int)
              · exact ⟨5, by simp [c4, c5], by simp [c4, c5]⟩
              · obtain ⟨r, q1, q2⟩ := ih (i + 1) (S98.f0 y) (by omega) (by omega) (fun q => by omega) (fun _ => ⟨by rw [← hy]; rfl, by omega⟩)
                refine ⟨r, ?_, ?_⟩
                · rw [if_neg c4, if_neg c5, if_neg (by simp), w64s (n := xs.length) (by omega) hx]; exact q1
                · rw [if_neg c4, if_neg c5, w64s (n := xs.length) (by omega) hx]; exact q2
          obtain ⟨r, q1, q2⟩ := hrest
          refine ⟨r, q1, ?_⟩
          rcases Nat.eq_zero_or_pos i with q | q
          · rw [if_neg (by omega)]; exact q2
          · rw [if_pos (by omega), w64p q (by omega), if_pos (by omega), ← (h1 q).1, if_neg c2]; exact q2
theorem right_eq (a b c d e f g : Int) (s : ByteArray) (xs : List S98) (hx : xs.length ≤ 9223372036854775807) : ∃ r, F122_entry_Right a b c d e f g s xs = some (r, ()) ∧ F123_letheref05_Right a b c d e f g s xs = some (r, ()) := by
  have named : ∃ r, F153_entry_named a b c d e f g s xs = some (r, ()) ∧ F154_letheref05_Named a b c d e f g s xs = some (r, ()) := by
    rw [F153_entry_named_eq, F154_letheref05_Named_eq, q66, q04, Option.bind_some, Option.bind_some]
    cases quotaOk a b c d e f g with
    | false => exact ⟨40, by simp, by simp⟩
    | true =>
      simp only [if_true, not_true_eq_false, if_false, Bool.not_true, Bool.false_eq_true]
      by_cases c1 : s = ByteArray.empty
      · exact ⟨4, by rw [if_pos c1], by rw [if_pos c1]⟩
      · rw [if_neg c1, if_neg c1]
        by_cases c2 : b < (s.size : Int)
        · exact ⟨5, by rw [if_pos c2], by rw [if_pos c2]⟩
        · rw [if_neg c2, if_neg c2]
          by_cases c3 : e < (xs.length : Int)
          · exact ⟨50, by rw [if_pos c3], by rw [if_pos c3]⟩
          · rw [if_neg c3, if_neg c3]
            exact named_loop a b c d e f g s xs hx xs.length 0 0 (by omega) (by omega) (fun _ => rfl) (fun q => by omega)
  obtain ⟨r, q1, q2⟩ := named
  rw [F122_entry_Right_eq, F123_letheref05_Right_eq, q1, q2, Option.bind_some]
  refine ⟨if r = 0 then if (xs.length : Int) = 0 then 50 else r else r, ?_, ?_⟩
  all_goals repeat' (refine ite_to (fun _ => ?_) (fun _ => ?_))
  all_goals simp_all

/-! ### nodes -/
theorem el_len {xs : List S96} (h : Ok tab Pr (.sl 96 (.st 96)) xs) {i : Nat} (hi : i < xs.length) : (S96.f1 (rd S96.z xs (i : Int))).length ≤ 9223372036854775807 := by
  have h1 := (Ok.inv h).2.2 i xs[i] 1 ⟨.sl 98 (.st 98), xs[i].f1⟩ (List.getElem?_eq_getElem hi) rfl
  have h2 : rd S96.z xs (i : Int) = xs[i] := by simp [rd, hi]
  rw [h2]
  exact sl_len h1
theorem leaf_loop (a b c d e f g : Int) (q : Bool) (ks : List S100) (xs : List S96) (h : Ok tab Pr (.sl 96 (.st 96)) xs) : ∀ (n i : Nat), xs.length - i = n → i ≤ xs.length →
    ∃ r, F67_node_leafRight_l1000004 xs (xs.length : Int) (i : Int) a b c d e f g q xs ks = some (r, ()) ∧ F69_letheref06_leaf_l1000004 xs (xs.length : Int) (i : Int) a b c d e f g q xs ks = some (r, ()) := by
  have hx : List.length (α := S96) xs ≤ 9223372036854775807 := sl_len h
  intro n
  induction n with
  | zero =>
    intro i hn hi
    exact ⟨0, by rw [F67_node_leafRight_l1000004_eq, if_neg (by omega)], by rw [F69_letheref06_leaf_l1000004_eq, if_neg (by omega)]⟩
  | succ n ih =>
    intro i hn hi
    have hlt : (i : Int) < (xs.length : Int) := by omega
    have hin : (0 : Int) ≤ (i : Int) ∧ (i : Int) < (xs.length : Int) := by omega
    obtain ⟨r, q1, q2⟩ := right_eq a b c d e f g (S96.f0 (rd S96.z xs (i : Int))) (S96.f1 (rd S96.z xs (i : Int))) (el_len h (by omega))
    obtain ⟨r', p1, p2⟩ := ih (i + 1) (by omega) (by omega)
    rw [F67_node_leafRight_l1000004_eq, F69_letheref06_leaf_l1000004_eq, if_pos hlt, if_pos hin, if_pos hlt, if_pos hin, q1, q2]
    simp only [Option.bind_some]
    rw [w64s (n := xs.length) (by omega) hx, p1, p2]
    rcases Nat.eq_zero_or_pos i with h0 | h0
    · subst h0
      by_cases c1 : r = 0
      · exact ⟨r', by simp [c1], by simp [c1]⟩
      · exact ⟨r, by simp [c1], by simp [c1]⟩
    · have hp : (0 : Int) ≤ ((i - 1 : Nat) : Int) ∧ ((i - 1 : Nat) : Int) < (xs.length : Int) := by omega
      have hi0 : (0 : Int) < (i : Int) := by omega
      rw [w64p h0 (by omega)]
      simp only [if_pos hp, if_pos hi0]
      by_cases c1 : r = 0
      · by_cases c2 : sLt (S96.f0 (rd S96.z xs ((i - 1 : Nat) : Int))) (S96.f0 (rd S96.z xs (i : Int))) = false
        · exact ⟨60, by simp [c1, c2], by simp [c1, c2]⟩
        · exact ⟨r', by simp [c1, c2], by simp [c1, c2]⟩
      · exact ⟨r, by simp [c1], by simp [c1]⟩
theorem ref_eq (a b c d : Int) : ∃ r, F17_node_RefRight a b c d = some (r, ()) ∧ F18_letheref06_RefRight a b c d = some (r, ()) := by
  rw [F17_node_RefRight_eq, F18_letheref06_RefRight_eq]
  refine ⟨decide (0 ≤ b ∧ b ≤ 1048576 ∧ 0 ≤ c ∧ c ≤ 134217728 ∧ 1 ≤ d ∧ d ≤ 1048576), ?_, ?_⟩
  all_goals repeat' (refine ite_to (fun _ => ?_) (fun _ => ?_))
  all_goals (apply ob_eq <;> intro hh <;> simp only [decide_eq_true_eq, Bool.false_eq_true] at hh ⊢ <;> omega)
theorem inner_loop (a b c d e f g : Int) (q : Bool) (es : List S96) (xs : List S100) (hx : xs.length ≤ 9223372036854775807) : ∀ (n i : Nat), xs.length - i = n → i ≤ xs.length →
    ∃ r, F15_node_Right_l1000008 xs (xs.length : Int) (i : Int) a b c d e f g q es xs = some (r, ()) ∧ F70_letheref06_inner_l1000004 xs (xs.length : Int) (i : Int) a b c d e f g q es xs = some (r, ()) := by
  intro n
  induction n with
  | zero =>
    intro i hn hi
    exact ⟨0, by rw [F15_node_Right_l1000008_eq, if_neg (by omega)], by rw [F70_letheref06_inner_l1000004_eq, if_neg (by omega)]⟩
  | succ n ih =>
    intro i hn hi
    have hlt : (i : Int) < (xs.length : Int) := by omega
    have hin : (0 : Int) ≤ (i : Int) ∧ (i : Int) < (xs.length : Int) := by omega
    obtain ⟨r', p1, p2⟩ := ih (i + 1) (by omega) (by omega)
    rw [F15_node_Right_l1000008_eq, F70_letheref06_inner_l1000004_eq, if_pos hlt, if_pos hin, if_pos hlt, if_pos hin]
    generalize hy : rd S100.z xs (i : Int) = y
    obtain ⟨r, q1, q2⟩ := ref_eq (S100.f1 y) (S100.f2 y) (S100.f3 y) (S100.f4 y)
    rw [q1, q2]
    simp only [Option.bind_some]
    rw [w64s (n := xs.length) (by omega) hx, p1, p2]
    by_cases c1 : S100.f0 y = ByteArray.empty
    · exact ⟨4, by rw [if_pos c1], by rw [if_pos c1]⟩
    · rw [if_neg c1]
      by_cases c2 : b < ((S100.f0 y).size : Int)
      · exact ⟨5, by rw [if_pos c2], by rw [if_pos c2]⟩
      · rw [if_neg c2]
        cases r with
        | false => exact ⟨61, by simp, by simp⟩
        | true =>
          simp only [Bool.not_true, Bool.false_eq_true, if_false]
          rcases Nat.eq_zero_or_pos i with h0 | h0
          · subst h0
            exact ⟨r', by simp, by simp⟩
          · have hp : (0 : Int) ≤ ((i - 1 : Nat) : Int) ∧ ((i - 1 : Nat) : Int) < (xs.length : Int) := by omega
            have hi0 : (0 : Int) < (i : Int) := by omega
            rw [w64p h0 (by omega)]
            simp only [if_pos hp, if_pos hi0]
            by_cases c3 : sLt (S100.f0 (rd S100.z xs ((i - 1 : Nat) : Int))) (S100.f0 y) = false
            · exact ⟨60, by simp [c3], by simp [c3]⟩
            · exact ⟨r', by simp [c3], by simp [c3]⟩
theorem node_eq (a b c d e f g : Int) (q : Bool) (xs : List S96) (ks : List S100) (h : Ok tab Pr (.sl 96 (.st 96)) xs) (hk : ks.length ≤ 9223372036854775807) :
    ∃ r, F15_node_Right a b c d e f g q xs ks = some (r, ()) ∧ F16_letheref06_Right a b c d e f g q xs ks = some (r, ()) := by
  rw [F15_node_Right_eq, F16_letheref06_Right_eq, q66, q04]
  simp only [Option.bind_some]
  cases quotaOk a b c d e f g with
  | false => exact ⟨40, by simp, by simp⟩
  | true =>
    simp only [if_true, not_true_eq_false, if_false, Bool.not_true, Bool.false_eq_true]
    cases q with
    | true =>
      simp only [if_true]
      rw [F67_node_leafRight_eq, F69_letheref06_leaf_eq]
      by_cases c1 : (0 : Int) < (ks.length : Int)
      · exact ⟨60, by simp only [if_pos c1, Option.bind_some], by simp only [if_pos c1, Option.bind_some]⟩
      · by_cases c2 : (4 : Int) < (List.length (α := S96) xs : Int)
        · exact ⟨60, by simp only [if_neg c1, if_pos c2, Option.bind_some], by simp only [if_neg c1, if_pos c2, Option.bind_some]⟩
        · obtain ⟨r, q1, q2⟩ := leaf_loop a b c d e f g true ks xs h xs.length 0 (by omega) (by omega)
          refine ⟨r, ?_, ?_⟩
          · simp only [if_neg c1, if_neg c2]; rw [show F67_node_leafRight_l1000004 xs (List.length (α := S96) xs : Int) 0 a b c d e f g true xs ks = some (r, ()) from q1]; rfl
          · simp only [if_neg c1, if_neg c2]; rw [show F69_letheref06_leaf_l1000004 xs (List.length (α := S96) xs : Int) 0 a b c d e f g true xs ks = some (r, ()) from q2]; rfl
    | false =>
      simp only [Bool.false_eq_true, if_false]
      rw [F70_letheref06_inner_eq]
      by_cases c1 : (0 : Int) < (List.length (α := S96) xs : Int)
      · exact ⟨60, by simp only [if_pos c1, Option.bind_some], by simp only [if_pos c1, Option.bind_some]⟩
      · by_cases c2 : (ks.length : Int) < (2 : Int)
        · exact ⟨60, by simp only [if_neg c1, if_pos c2, Option.bind_some], by simp only [if_neg c1, if_pos c2, Option.bind_some]⟩
        · by_cases c3 : (4 : Int) < (ks.length : Int)
          · exact ⟨60, by simp only [if_neg c1, if_neg c2, if_pos c3, Option.bind_some], by simp only [if_neg c1, if_neg c2, if_pos c3, Option.bind_some]⟩
          · obtain ⟨r, q1, q2⟩ := inner_loop a b c d e f g false xs ks hk ks.length 0 (by omega) (by omega)
            refine ⟨r, ?_, ?_⟩
            · simp only [if_neg c1, if_neg c2, if_neg c3]; exact q1
            · simp only [if_neg c1, if_neg c2, if_neg c3]; rw [show F70_letheref06_inner_l1000004 ks (ks.length : Int) 0 a b c d e f g false xs ks = some (r, ()) from q2]; rfl
theorem low_eq (q : Bool) (xs : List S96) (ks : List S100) : ∃ r, F19_node_Low q xs ks = some (r, ()) ∧ F20_letheref06_Low q xs ks = some (r, ()) := by
  rw [F19_node_Low_eq, F20_letheref06_Low_eq, F19_node_Low_l5_eq]
  cases q with
  | true =>
    by_cases c1 : 0 < xs.length
    · exact ⟨S96.f0 (rd S96.z xs 0), by simp [c1], by simp [c1]⟩
    · exact ⟨ByteArray.empty, by simp [c1], by simp [c1]⟩
  | false =>
    by_cases c1 : 0 < ks.length
    · exact ⟨S100.f0 (rd S100.z ks 0), by simp [c1], by simp [c1]⟩
    · exact ⟨ByteArray.empty, by simp [c1], by simp [c1]⟩
theorem law (a b c d e f g : Int) (q : Bool) (xs : List S96) (ks : List S100) (k l m n : Int) (_ : Ok tab Pr (.int .i64) a) (_ : Ok tab Pr (.int .i64) b) (_ : Ok tab Pr (.int .i64) c) (_ : Ok tab Pr (.int .i64) d) (_ : Ok tab Pr (.int .i64) e) (_ : Ok tab Pr (.int .i64) f) (_ : Ok tab Pr (.int .i64) g) (h : Ok tab Pr (.sl 96 (.st 96)) xs) (hk : Ok tab Pr (.sl 100 (.st 100)) ks) (_ : Ok tab Pr (.int .u64) k) (_ : Ok tab Pr (.int .i64) l) (_ : Ok tab Pr (.int .i64) m) (_ : Ok tab Pr (.int .i64) n) : F3_lethelaw06_NodeRights a b c d e f g q xs ks k l m n = some (true, ()) := by
  have hkl : List.length (α := S100) ks ≤ 9223372036854775807 := sl_len hk
  obtain ⟨r1, a1, a2⟩ := node_eq a b c d e f g q xs ks h hkl
  obtain ⟨r2, b1, b2⟩ := ref_eq k l m n
  obtain ⟨r3, c1, c2⟩ := low_eq q xs ks
  rw [F3_lethelaw06_NodeRights_eq, a1, a2, b1, b2, c1, c2]
  simp

end Go.Proofs.Ytgfaplkbajjheaa.NodeRightsp
