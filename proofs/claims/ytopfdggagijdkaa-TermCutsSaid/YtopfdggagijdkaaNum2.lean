/- Numbers in sevens: what is written reads back, what reads was so written. Under no condition. -/
import Derived.Test.YtopfdggagijdkaaNum
import Derived.Test.YtopfdggagijdkaaStr
set_option linter.unusedVariables false
set_option linter.unusedSimpArgs false
namespace Go.Proofs.Ytopfdggagijdkaa.Pure
open Go.RowKit Go.Proofs.Ytopfdggagijdkaa.F Go.Proofs.Ytopfdggagijdkaa.Open Go.Proofs.Ytopfdggagijdkaa.Aid Go.Proofs.YtopfdggagijdkaaW.PrintWords Go.Proofs.YtopfdggagijdkaaW.PrintLast Go.Proofs.YtopfdggagijdkaaW.PrintMore

theorem putN_B (n : Nat) : AllB (putN n) := by
  induction n using Nat.strongRecOn with
  | _ n ih =>
    by_cases h : n < 128
    · rw [putN_lt h]
      exact AllB.cons (by omega) AllB.nil
    · rw [putN_ge h]
      exact AllB.cons (by omega) (ih _ (by omega))
theorem putN_pos (n : Nat) : 1 ≤ (putN n).length := by
  by_cases h : n < 128
  · rw [putN_lt h]; simp
  · rw [putN_ge h]; simp
theorem putN_len (k : Nat) : ∀ n, n < 128 ^ k → 1 ≤ k → (putN n).length ≤ k := by
  induction k with
  | zero => intro n _ h; omega
  | succ k ih =>
    intro n hn _
    by_cases h : n < 128
    · rw [putN_lt h]; simp
    · rw [putN_ge h]
      have h1 : n / 128 < 128 ^ k := by rw [Nat.pow_succ] at hn; omega
      have h2 : 1 ≤ k := by
        rcases Nat.eq_zero_or_pos k with rfl | h3
        · simp at h1; omega
        · exact h3
      simpa using ih _ h1 h2
theorem putN_len10 {n : Nat} (h : n < 18446744073709551616) : (putN n).length ≤ 10 := putN_len 10 n (Nat.lt_of_lt_of_le h (by decide)) (by omega)
/-- What is written reads back, whatever comes after. -/
theorem get_put (n : Nat) : ∀ (i acc : Nat) (more : List Int), n * 128 ^ i < 18446744073709551616 → (i = 0 ∨ 0 < n) → getN i acc (putN n ++ more) = (((acc + n * 128 ^ i : Nat) : Int), ((i + (putN n).length : Nat) : Int), 0) := by
  induction n using Nat.strongRecOn with
  | _ n ih =>
    intro i acc more hb hi
    have h9 : i = 9 → n ≤ 1 := by
      intro h
      subst h
      rcases Nat.lt_or_ge 1 n with h2 | h2
      · have h3 : 2 * 128 ^ 9 ≤ n * 128 ^ 9 := Nat.mul_le_mul (by omega) (Nat.le_refl _)
        have h4 : (2 * 128 ^ 9 : Nat) = 18446744073709551616 := by decide
        omega
      · exact h2
    by_cases h : n < 128
    · rw [putN_lt h]
      have c1 : ¬ (i = 9 ∧ ((n : Nat) : Int) > 1) := by omega
      have c2 : ((n : Nat) : Int) < 128 := by omega
      have c3 : ¬ (((n : Nat) : Int) = 0 ∧ 0 < i) := by omega
      simp only [List.cons_append, List.nil_append, getN, if_neg c1, if_pos c2, if_neg c3, Int.toNat_natCast, List.length_singleton]
    · rw [putN_ge h]
      have c1 : ¬ (i = 9 ∧ ((n % 128 + 128 : Nat) : Int) > 1) := by omega
      have c2 : ¬ ((n % 128 + 128 : Nat) : Int) < 128 := by omega
      simp only [List.cons_append, getN, if_neg c1, if_neg c2, Int.toNat_natCast, List.length_cons]
      have e1 : n % 128 + 128 - 128 = n % 128 := by omega
      have e2 : n / 128 * 128 ^ (i + 1) + n % 128 * 128 ^ i = n * 128 ^ i := by
        rw [Nat.pow_succ, ← Nat.mul_assoc, Nat.mul_right_comm, ← Nat.add_mul, Nat.div_add_mod' n 128]
      rw [e1, ih (n / 128) (by omega) (i + 1) _ more (by omega) (by omega)]
      have e3 : acc + n % 128 * 128 ^ i + n / 128 * 128 ^ (i + 1) = acc + n * 128 ^ i := by omega
      have e4 : i + 1 + (putN (n / 128)).length = i + ((putN (n / 128)).length + 1) := by omega
      rw [e3, e4]
/-- A part cut short is short. -/
theorem get_cut (n : Nat) : ∀ (i acc m : Nat), n * 128 ^ i < 18446744073709551616 → m < (putN n).length → getN i acc ((putN n).take m) = (0, 0, 20) := by
  induction n using Nat.strongRecOn with
  | _ n ih =>
    intro i acc m hb hm
    by_cases h : n < 128
    · rw [putN_lt h] at hm ⊢
      have : m = 0 := by simpa using hm
      subst this
      rfl
    · rw [putN_ge h] at hm ⊢
      cases m with
      | zero => rfl
      | succ m =>
        have h9 : ¬ i = 9 := by
          intro h9
          subst h9
          have h3 : 128 * 128 ^ 9 ≤ n * 128 ^ 9 := Nat.mul_le_mul (by omega) (Nat.le_refl _)
          have h4 : (18446744073709551616 : Nat) ≤ 128 * 128 ^ 9 := by decide
          omega
        have c1 : ¬ (i = 9 ∧ ((n % 128 + 128 : Nat) : Int) > 1) := fun h => h9 h.1
        have c2 : ¬ ((n % 128 + 128 : Nat) : Int) < 128 := by omega
        simp only [List.take_succ_cons, getN, if_neg c1, if_neg c2]
        have e2 : n / 128 * 128 ^ (i + 1) + n % 128 * 128 ^ i = n * 128 ^ i := by
          rw [Nat.pow_succ, ← Nat.mul_assoc, Nat.mul_right_comm, ← Nat.add_mul, Nat.div_add_mod' n 128]
        exact ih _ (by omega) _ _ _ (by omega) (by simpa using hm)
/-- What reads was so written. -/
theorem get_is (l : List Int) : ∀ (i acc : Nat), AllB l → i ≤ 9 →
    (∃ n more, l = putN n ++ more ∧ n < 128 ^ (9 - i) * 2 ∧ (i = 0 ∨ 0 < n) ∧ getN i acc l = (((acc + n * 128 ^ i : Nat) : Int), ((i + (putN n).length : Nat) : Int), 0)) ∨ getN i acc l = (0, 0, 20) ∨ getN i acc l = (0, 0, 21) := by
  induction l with
  | nil => intro i acc _ _; exact .inr (.inl rfl)
  | cons c t ih =>
    intro i acc hB hi
    have hc := hB c (by simp)
    by_cases h1 : i = 9 ∧ c > 1
    · exact .inr (.inr (by simp only [getN, if_pos h1]))
    · by_cases h2 : c < 128
      · by_cases h3 : c = 0 ∧ 0 < i
        · exact .inr (.inr (by simp only [getN, if_neg h1, if_pos h2, if_pos h3]))
        · refine .inl ⟨c.toNat, t, ?_, ?_, by omega, ?_⟩
          · rw [putN_lt (by omega)]
            simp
            omega
          · rcases Nat.lt_or_ge i 9 with h4 | h4
            · have h5 : 128 ^ 1 ≤ 128 ^ (9 - i) := Nat.pow_le_pow_right (by decide) (by omega)
              omega
            · obtain rfl : i = 9 := by omega
              simp
              omega
          · simp only [getN, if_neg h1, if_pos h2, if_neg h3]
            rw [putN_lt (by omega)]
            rfl
      · have h4 : i < 9 := by omega
        have e : getN i acc (c :: t) = getN (i + 1) (acc + (c.toNat - 128) * 128 ^ i) t := by simp only [getN, if_neg h1, if_neg h2]
        rw [e]
        rcases ih (i + 1) (acc + (c.toNat - 128) * 128 ^ i) (fun x hx => hB x (by simp [hx])) (by omega) with ⟨n, more, h5, h6, h7, h8⟩ | h5 | h5
        · refine .inl ⟨(c.toNat - 128) + 128 * n, more, ?_, ?_, by omega, ?_⟩
          · rw [putN_ge (by omega), h5]
            rw [show (c.toNat - 128 + 128 * n) / 128 = n from by omega, show (c.toNat - 128 + 128 * n) % 128 + 128 = c.toNat from by omega]
            simp
            omega
          · have h9 : 128 ^ (9 - i) = 128 ^ (9 - (i + 1)) * 128 := by rw [← Nat.pow_succ]; congr 1; omega
            rw [h9]
            omega
          · rw [h8, putN_ge (n := c.toNat - 128 + 128 * n) (by omega), show (c.toNat - 128 + 128 * n) / 128 = n from by omega]
            have e2 : (c.toNat - 128 + 128 * n) * 128 ^ i = (c.toNat - 128) * 128 ^ i + n * 128 ^ (i + 1) := by rw [Nat.add_mul, Nat.pow_succ]; congr 1; rw [Nat.mul_comm 128 n, Nat.mul_assoc, Nat.mul_comm 128]
            rw [e2, List.length_cons]
            have e3 : acc + (c.toNat - 128) * 128 ^ i + n * 128 ^ (i + 1) = acc + ((c.toNat - 128) * 128 ^ i + n * 128 ^ (i + 1)) := by omega
            have e4 : i + 1 + (putN n).length = i + ((putN n).length + 1) := by omega
            rw [e3, e4]
        · exact .inr (.inl h5)
        · exact .inr (.inr h5)
/-- What reads was so written: from the start. -/
theorem get_is0 {l : List Int} (hB : AllB l) : (∃ n more, l = putN n ++ more ∧ n < 18446744073709551616 ∧ getN 0 0 l = ((n : Int), ((putN n).length : Int), 0)) ∨ getN 0 0 l = (0, 0, 20) ∨ getN 0 0 l = (0, 0, 21) := by
  rcases get_is l 0 0 hB (by omega) with ⟨n, more, h1, h2, _, h3⟩ | h | h
  · refine .inl ⟨n, more, h1, Nat.lt_of_lt_of_le h2 (by decide), ?_⟩
    rw [h3]
    simp
  · exact .inr (.inl h)
  · exact .inr (.inr h)
theorem get_put0 {n : Nat} (h : n < 18446744073709551616) (more : List Int) : getN 0 0 (putN n ++ more) = ((n : Int), ((putN n).length : Int), 0) := by
  rw [get_put n 0 0 more (by simpa using h) (.inl rfl)]
  simp
theorem get_cut0 {n m : Nat} (h : n < 18446744073709551616) (hm : m < (putN n).length) : getN 0 0 ((putN n).take m) = (0, 0, 20) := get_cut n 0 0 m (by simpa using h) hm

end Go.Proofs.Ytopfdggagijdkaa.Pure
