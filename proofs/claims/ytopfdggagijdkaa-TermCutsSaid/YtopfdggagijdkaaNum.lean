/- Numbers in sevens: what the program writes and reads, and what the document's answer is, as plain functions. Under no condition. -/
import Derived.Test.YtopfdggagijdkaaGNums
import Derived.Test.YtopfdggagijdkaaAid
import Derived.Laws.Bits64
set_option linter.unusedVariables false
set_option linter.unusedSimpArgs false
namespace Go.Proofs.Ytopfdggagijdkaa.Pure
open Go.RowKit Go.Proofs.Ytopfdggagijdkaa.F Go.Proofs.Ytopfdggagijdkaa.Open Go.Proofs.Ytopfdggagijdkaa.Aid Go.Proofs.YtopfdggagijdkaaW.PrintWords Go.Proofs.YtopfdggagijdkaaW.PrintLast Go.Proofs.YtopfdggagijdkaaW.PrintMore

/-- A number in sevens. -/
def putN (n : Nat) : List Int := if h : n < 128 then [(n : Int)] else ((n % 128 + 128 : Nat) : Int) :: putN (n / 128)
termination_by n
decreasing_by omega
theorem putN_lt {n : Nat} (h : n < 128) : putN n = [(n : Int)] := by rw [putN, dif_pos h]
theorem putN_ge {n : Nat} (h : ¬ n < 128) : putN n = ((n % 128 + 128 : Nat) : Int) :: putN (n / 128) := by rw [putN, dif_neg h]
/-- Reading: i bytes were read ahead, worth acc. -/
def getN : Nat → Nat → List Int → Int × Int × Int
  | _, _, [] => (0, 0, 20)
  | i, acc, c :: t => if i = 9 ∧ c > 1 then (0, 0, 21) else if c < 128 then (if c = 0 ∧ 0 < i then (0, 0, 21) else (((acc + c.toNat * 128 ^ i : Nat) : Int), ((i + 1 : Nat) : Int), 0)) else getN (i + 1) (acc + (c.toNat - 128) * 128 ^ i) t
def IsByte (c : Int) : Prop := 0 ≤ c ∧ c ≤ 255

theorem strOf_append (xs : List Int) (n : Nat) : ∀ (ys : List Int), (xs ++ [(n : Int)]) ++ ys = xs ++ (((n : Int)) :: ys) := by simp
theorem put_ev (n : Nat) : ∀ (xs : List Int), xs.length + 100 < 140737488355328 → n < 128 ^ (100 - xs.length) → xs.length ≤ 99 → Ev (fun k => term_PutNum.l0 k (n : Int) xs) (strOfNums (xs ++ putN n)) := by
  induction n using Nat.strongRecOn with
  | _ n ih =>
    intro xs hx hn hx2
    refine Ev.suc ?_
    have c2 : xs.length < 140737488355328 := by omega
    by_cases h : n < 128
    · have c1 : ¬ ((n : Int) ≥ 128) := by omega
      simp only [term_PutNum.l0, if_neg c1, if_pos c2]
      rw [putN_lt h, show ((n : Int)) % 256 = (n : Int) from by omega]
      exact Ev.now _
    · have c1 : (n : Int) ≥ 128 := by omega
      simp only [term_PutNum.l0, if_pos c1, if_pos c2]
      rw [putN_ge h]
      have e1 : (n : Int) / 128 = ((n / 128 : Nat) : Int) := by omega
      have e2 : Go.bits .or .u8 ((n : Int) % 256) 128 = ((n % 128 + 128 : Nat) : Int) := by
        have e3 : ((n : Int) % 256) = ((n % 256 : Nat) : Int) := by omega
        rw [e3, show (128 : Int) = ((128 : Nat) : Int) from rfl, (bits_nat .u8 8 (by decide) wraps_u8 (n % 256) 128 (by omega) (by decide)).2]
        congr 1
        have key : ∀ m : Fin 256, (m.val ||| 128) = m.val % 128 + 128 := by decide +kernel
        have := key ⟨n % 256, by omega⟩
        simp only at this
        rw [this]
        omega
      rw [e1, e2]
      have hx3 : 2 ≤ 100 - xs.length := by
        rcases Nat.lt_or_ge (100 - xs.length) 2 with h2 | h2
        · have h3 : 100 - xs.length = 1 := by omega
          rw [h3] at hn
          omega
        · exact h2
      have := ih (n / 128) (by omega) (xs ++ [((n % 128 + 128 : Nat) : Int)]) (by simp; omega) (by
        rw [List.length_append, List.length_singleton]
        have h4 : 128 ^ (100 - xs.length) = 128 ^ (100 - (xs.length + 1)) * 128 := by rw [← Nat.pow_succ]; congr 1; omega
        rw [h4] at hn
        exact Nat.div_lt_of_lt_mul (by rw [Nat.mul_comm]; exact hn)) (by simp; omega)
      rw [List.append_assoc] at this
      exact this
theorem putRef_ev (n : Nat) : ∀ (xs : List Int), n < 18446744073709551616 → xs.length + 100 < 140737488355328 → n < 128 ^ (100 - xs.length) → xs.length ≤ 99 → Ev (fun k => letheref02_PutNum.l0 k (n : Int) xs) (strOfNums (xs ++ putN n)) := by
  induction n using Nat.strongRecOn with
  | _ n ih =>
    intro xs h64 hx hn hx2
    refine Ev.suc ?_
    have c2 : xs.length < 140737488355328 := by omega
    by_cases h : n < 128
    · have c1 : ¬ ((n : Int) > 127) := by omega
      simp only [letheref02_PutNum.l0, if_neg c1, if_pos c2]
      rw [putN_lt h, show ((n : Int)) % 256 = (n : Int) from by omega]
      exact Ev.now _
    · have c1 : (n : Int) > 127 := by omega
      simp only [letheref02_PutNum.l0, if_pos c1, if_pos c2]
      rw [putN_ge h]
      have e0 : Int.tmod (n : Int) 128 = ((n % 128 : Nat) : Int) := by rw [Int.tmod_eq_emod_of_nonneg (by omega)]; omega
      have e00 : Int.tdiv (n : Int) 128 = ((n / 128 : Nat) : Int) := by rw [Int.tdiv_eq_ediv_of_nonneg (by omega)]; omega
      have e1 : IntKind.u64.wrap (Int.tdiv (n : Int) 128) = ((n / 128 : Nat) : Int) := by rw [e00, IntKind.wrap_u64]; omega
      have e2 : (IntKind.u64.wrap ((Int.tmod (n : Int) 128) + 128)) % 256 = ((n % 128 + 128 : Nat) : Int) := by rw [e0, IntKind.wrap_u64]; omega
      rw [e1, e2]
      have hx3 : 2 ≤ 100 - xs.length := by
        rcases Nat.lt_or_ge (100 - xs.length) 2 with h2 | h2
        · have h3 : 100 - xs.length = 1 := by omega
          rw [h3] at hn
          omega
        · exact h2
      have := ih (n / 128) (by omega) (xs ++ [((n % 128 + 128 : Nat) : Int)]) (by omega) (by simp; omega) (by
        rw [List.length_append, List.length_singleton]
        have h4 : 128 ^ (100 - xs.length) = 128 ^ (100 - (xs.length + 1)) * 128 := by rw [← Nat.pow_succ]; congr 1; omega
        rw [h4] at hn
        exact Nat.div_lt_of_lt_mul (by rw [Nat.mul_comm]; exact hn)) (by simp; omega)
      rw [List.append_assoc] at this
      exact this
theorem big64 {n : Nat} (h : n < 18446744073709551616) : n < 128 ^ (100 - ([] : List Int).length) := Nat.lt_of_lt_of_le h (by decide)
theorem PutNum_ev {n : Nat} (h : n < 18446744073709551616) : Ev (fun k => term_PutNum.f k (n : Int)) (strOfNums (putN n)) := put_ev n [] (by simp) (big64 h) (by simp)
theorem PutNumRef_ev {n : Nat} (h : n < 18446744073709551616) : Ev (fun k => letheref02_PutNum.f k (n : Int)) (strOfNums (putN n)) := putRef_ev n [] h (by simp) (big64 h) (by simp)

theorem wraps_u64 (n : Int) (h₀ : 0 ≤ n) (h₁ : n < 2 ^ 64) : IntKind.u64.wrap n = n := by rw [IntKind.wrap_u64]; omega
theorem or_low (a b i : Nat) (hi : i ≤ 63) (ha : a < 2 ^ i) (hb : b * 2 ^ i < 18446744073709551616) : Go.bits .or .u64 (a : Int) ((b * 2 ^ i : Nat) : Int) = ((a + b * 2 ^ i : Nat) : Int) := by
  have ha' : a < 2 ^ 64 := Nat.lt_of_lt_of_le ha (Nat.pow_le_pow_right (by decide) (by omega))
  rw [(bits_nat .u64 64 (by decide) wraps_u64 a (b * 2 ^ i) ha' hb).2]
  congr 1
  rw [Nat.or_comm, Nat.mul_comm b, ← Nat.two_pow_add_eq_or_of_lt ha b, Nat.add_comm]
theorem and127 (c : Int) (h0 : 0 ≤ c) (h1 : c ≤ 255) : Go.bits .and .u8 c 127 = c % 128 := bits_mask .u8 8 (by decide) wraps_u8 7 (by decide) c h0 (by omega)
theorem or7 (acc i : Nat) (c : Int) (h0 : 0 ≤ c) (h1 : c ≤ 255) (hi : i ≤ 9) (hacc : acc < 128 ^ i) (h9 : i = 9 → c ≤ 1) :
    Go.bits .or .u64 (acc : Int) (shl .u64 (IntKind.u64.wrap (Go.bits .and .u8 c 127)) (IntKind.u64.wrap (wrap64 (7 * (i : Int))))) = ((acc + (c.toNat % 128) * 128 ^ i : Nat) : Int) := by
  rw [and127 c h0 h1, w64 (by omega) (by omega), wraps_u64 (7 * (i : Int)) (by omega) (by omega), wraps_u64 (c % 128) (by omega) (by omega)]
  have hp : 128 ^ i = 2 ^ (7 * i) := by rw [Nat.pow_mul]
  have hb : (c.toNat % 128) * 2 ^ (7 * i) < 18446744073709551616 := by
    rw [← hp]
    rcases Nat.lt_or_ge i 9 with h | h
    · have h2 : 128 ^ i ≤ 128 ^ 8 := Nat.pow_le_pow_right (by decide) (by omega)
      have h3 : (c.toNat % 128) * 128 ^ i ≤ 127 * 128 ^ 8 := Nat.mul_le_mul (by omega) h2
      exact Nat.lt_of_le_of_lt h3 (by decide)
    · obtain rfl : i = 9 := by omega
      have h3 := h9 rfl
      have h4 : (c.toNat % 128) * 128 ^ 9 ≤ 1 * 128 ^ 9 := Nat.mul_le_mul (by omega) (Nat.le_refl _)
      exact Nat.lt_of_le_of_lt h4 (by decide)
  have hs : shl .u64 (c % 128) (7 * (i : Int)) = (((c.toNat % 128) * 2 ^ (7 * i) : Nat) : Int) := by
    unfold shl
    rw [show (7 * (i : Int)).toNat = 7 * i from by omega, Nat.min_eq_left (show 7 * i ≤ IntKind.u64.bits from by show 7 * i ≤ 64; omega)]
    rw [show (c % 128) = ((c.toNat % 128 : Nat) : Int) from by omega]
    have : (((c.toNat % 128 : Nat) : Int) * 2 ^ (7 * i)) = (((c.toNat % 128) * 2 ^ (7 * i) : Nat) : Int) := by simp
    rw [this]
    exact wraps_u64 _ (by omega) (by exact_mod_cast hb)
  rw [hs, or_low acc _ (7 * i) (by omega) (by rw [← hp]; exact hacc) hb, hp]
theorem bt_byte (s : ByteArray) (i : Int) : IsByte (bt s i) := bt_range s i
theorem bytes_drop {s : ByteArray} {j : Nat} (h : j < s.size) : (bytesOf s).drop j = bt s (j : Int) :: (bytesOf s).drop (j + 1) := by
  have hl : j < (bytesOf s).length := by rw [bytesOf_length]; exact h
  rw [List.drop_eq_getElem_cons hl]
  congr 1
  rw [← rd_bytesOf]
  simp [rd, List.getD, hl]
theorem get_l0 (s : ByteArray) (hs : s.size ≤ maxLen) (d : Nat) : ∀ (i acc : Nat), i ≤ s.size → 9 - i + 1 = d → i ≤ 9 → acc < 128 ^ i → Ev (fun k => term_GetNum.l0 k s (acc : Int) (i : Int)) (getN i acc ((bytesOf s).drop i)) := by
  unfold maxLen at hs
  induction d with
  | zero => intro i acc _ h; omega
  | succ d ih =>
    intro i acc hi hd h9 hacc
    rcases Nat.lt_or_ge i s.size with hlt | hge
    · rw [bytes_drop hlt]
      have hb := bt_byte s (i : Int)
      generalize hc : bt s (i : Int) = c at hb
      obtain ⟨h0, h1⟩ := hb
      have key : Ev (fun k => term_GetNum.j1 k s (acc : Int) (i : Int) c (decide (i = 9 ∧ c > 1))) (getN i acc (c :: (bytesOf s).drop (i + 1))) := by
        refine Ev.suc ?_
        simp only [term_GetNum.j1, decide_eq_true_eq, getN]
        by_cases hx : i = 9 ∧ c > 1
        · simp only [if_pos hx]
          exact Ev.now _
        · simp only [if_neg hx]
          have c1 : 0 ≤ IntKind.u64.wrap (wrap64 (7 * (i : Int))) := by rw [w64 (by omega) (by omega), wraps_u64 _ (by omega) (by omega)]; omega
          have h9' : i = 9 → c ≤ 1 := fun h => by omega
          simp only [if_pos c1, or7 acc i c h0 h1 h9 hacc h9']
          by_cases h2 : c < 128
          · have c2 : c / 128 = 0 := by omega
            simp only [if_pos c2, if_pos h2]
            by_cases h3 : c = 0
            · by_cases h4 : 0 < i
              · have c4 : (i : Int) > 0 := by omega
                simp only [if_pos h3, if_pos c4, if_pos (And.intro h3 h4)]
                exact Ev.now _
              · have c4 : ¬ (i : Int) > 0 := by omega
                have c5 : ¬ (c = 0 ∧ 0 < i) := by omega
                simp only [if_pos h3, if_neg c4, if_neg c5]
                rw [w64s (n := 10) (by omega) (by omega), Nat.mod_eq_of_lt (show c.toNat < 128 by omega)]
                exact Ev.now _
            · have c5 : ¬ (c = 0 ∧ 0 < i) := by omega
              simp only [if_neg h3, if_neg c5]
              rw [w64s (n := 10) (by omega) (by omega), Nat.mod_eq_of_lt (show c.toNat < 128 by omega)]
              exact Ev.now _
          · have c2 : ¬ c / 128 = 0 := by omega
            simp only [if_neg c2, if_neg h2]
            have hi9 : i < 9 := by omega
            rw [w64s (n := 10) (by omega) (by omega), show c.toNat % 128 = c.toNat - 128 from by omega]
            refine ih (i + 1) _ (by omega) (by omega) (by omega) ?_
            have h5 : (c.toNat - 128) * 128 ^ i ≤ 127 * 128 ^ i := Nat.mul_le_mul (by omega) (Nat.le_refl _)
            rw [Nat.pow_succ]
            omega
      refine Ev.suc ?_
      have c1 : (i : Int) < (s.size : Int) := by omega
      have c2 : 0 ≤ (i : Int) := by omega
      simp only [term_GetNum.l0, if_pos c1, if_pos c2, hc]
      by_cases h : i = 9
      · have c3 : (i : Int) = 9 := by omega
        simp only [if_pos c3]
        rw [show decide (i = 9 ∧ c > 1) = decide (c > 1) from decide_eq_decide.2 (by omega)] at key
        exact key
      · have c3 : ¬ (i : Int) = 9 := by omega
        simp only [if_neg c3]
        rw [decide_eq_false (by omega)] at key
        exact key
    · refine Ev.suc ?_
      have c1 : ¬ (i : Int) < (s.size : Int) := by omega
      simp only [term_GetNum.l0, if_neg c1]
      rw [List.drop_eq_nil_of_le (by rw [bytesOf_length]; exact hge)]
      exact Ev.now _
theorem GetNum_ev (s : ByteArray) (hs : s.size ≤ maxLen) : Ev (fun k => term_GetNum.f k s) (getN 0 0 (bytesOf s)) := get_l0 s hs 10 0 0 (by omega) rfl (by omega) (by decide)
theorem ref7 (acc i : Nat) (c : Int) (h0 : 0 ≤ c) (h1 : c ≤ 255) (hi : i ≤ 9) (hacc : acc < 128 ^ i) (h9 : i = 9 → c ≤ 1) :
    IntKind.u64.wrap ((acc : Int) + (IntKind.u64.wrap ((IntKind.u64.wrap (Int.tmod c 128)) * ((128 ^ i : Nat) : Int)))) = ((acc + (c.toNat % 128) * 128 ^ i : Nat) : Int) := by
  have e0 : Int.tmod c 128 = ((c.toNat % 128 : Nat) : Int) := by rw [Int.tmod_eq_emod_of_nonneg h0]; omega
  rw [e0, wraps_u64 ((c.toNat % 128 : Nat) : Int) (by omega) (by omega)]
  have hb : acc + (c.toNat % 128) * 128 ^ i < 18446744073709551616 := by
    rcases Nat.lt_or_ge i 9 with h | h
    · have h2 : 128 ^ i ≤ 128 ^ 8 := Nat.pow_le_pow_right (by decide) (by omega)
      have h3 : (c.toNat % 128) * 128 ^ i ≤ 127 * 128 ^ 8 := Nat.mul_le_mul (by omega) h2
      have h4 : (127 * 128 ^ 8 + 128 ^ 8 : Nat) < 18446744073709551616 := by decide
      omega
    · obtain rfl : i = 9 := by omega
      have h3 := h9 rfl
      have h4 : (c.toNat % 128) * 128 ^ 9 ≤ 1 * 128 ^ 9 := Nat.mul_le_mul (by omega) (Nat.le_refl _)
      have h5 : (1 * 128 ^ 9 + 128 ^ 9 : Nat) ≤ 18446744073709551616 := by decide
      omega
  have e1 : (((c.toNat % 128 : Nat) : Int) * ((128 ^ i : Nat) : Int)) = (((c.toNat % 128) * 128 ^ i : Nat) : Int) := by rw [Int.natCast_mul]
  rw [e1, wraps_u64 (((c.toNat % 128) * 128 ^ i : Nat) : Int) (by omega) (by omega), wraps_u64 _ (by omega) (by omega)]
  omega
theorem getRef_l0 (s : ByteArray) (hs : s.size ≤ maxLen) (d : Nat) : ∀ (i acc : Nat), i ≤ s.size → 9 - i + 1 = d → i ≤ 9 → acc < 128 ^ i → Ev (fun k => letheref02_GetNum.l0 k s (acc : Int) ((128 ^ i : Nat) : Int) (i : Int)) (getN i acc ((bytesOf s).drop i)) := by
  unfold maxLen at hs
  induction d with
  | zero => intro i acc _ h; omega
  | succ d ih =>
    intro i acc hi hd h9 hacc
    have c10 : (i : Int) < 10 := by omega
    rcases Nat.lt_or_ge i s.size with hlt | hge
    · rw [bytes_drop hlt]
      have hb := bt_byte s (i : Int)
      generalize hc : bt s (i : Int) = c at hb
      obtain ⟨h0, h1⟩ := hb
      have c1 : (i : Int) < (s.size : Int) := by omega
      have c2 : 0 ≤ (i : Int) := by omega
      have key : Ev (fun k => letheref02_GetNum.j2 k s (acc : Int) ((128 ^ i : Nat) : Int) (i : Int) (decide (i = 9 ∧ c > 1))) (getN i acc (c :: (bytesOf s).drop (i + 1))) := by
        refine Ev.suc ?_
        simp only [letheref02_GetNum.j2, decide_eq_true_eq, getN, hc]
        by_cases hx : i = 9 ∧ c > 1
        · simp only [if_pos hx]
          exact Ev.now _
        · have h9' : i = 9 → c ≤ 1 := fun h => by omega
          simp only [if_neg hx, if_pos c1, if_pos c2, ref7 acc i c h0 h1 h9 hacc h9']
          by_cases h2 : c < 128
          · simp only [if_pos h2]
            by_cases h3 : c = 0
            · by_cases h4 : 0 < i
              · have c4 : (i : Int) > 0 := by omega
                simp only [if_pos h3, if_pos c4, if_pos (And.intro h3 h4)]
                exact Ev.now _
              · have c4 : ¬ (i : Int) > 0 := by omega
                have c5 : ¬ (c = 0 ∧ 0 < i) := by omega
                simp only [if_pos h3, if_neg c4, if_neg c5]
                rw [w64s (n := 10) (by omega) (by omega), Nat.mod_eq_of_lt (show c.toNat < 128 by omega)]
                exact Ev.now _
            · have c5 : ¬ (c = 0 ∧ 0 < i) := by omega
              simp only [if_neg h3, if_neg c5]
              rw [w64s (n := 10) (by omega) (by omega), Nat.mod_eq_of_lt (show c.toNat < 128 by omega)]
              exact Ev.now _
          · simp only [if_neg h2]
            have hi9 : i < 9 := by omega
            have e1 : IntKind.u64.wrap (((128 ^ i : Nat) : Int) * 128) = ((128 ^ (i + 1) : Nat) : Int) := by
              have h6 : 128 ^ (i + 1) ≤ 128 ^ 9 := Nat.pow_le_pow_right (by decide) (by omega)
              have h7 : (128 ^ 9 : Nat) < 18446744073709551616 := by decide
              have h8 : (((128 ^ i : Nat) : Int) * 128) = ((128 ^ (i + 1) : Nat) : Int) := by rw [Nat.pow_succ, Int.natCast_mul]; rfl
              rw [h8]
              exact wraps_u64 _ (by omega) (by omega)
            rw [e1, w64s (n := 10) (by omega) (by omega), show c.toNat % 128 = c.toNat - 128 from by omega]
            refine ih (i + 1) _ (by omega) (by omega) (by omega) ?_
            have h5 : (c.toNat - 128) * 128 ^ i ≤ 127 * 128 ^ i := Nat.mul_le_mul (by omega) (Nat.le_refl _)
            rw [Nat.pow_succ]
            omega
      refine Ev.suc ?_
      simp only [letheref02_GetNum.l0, if_pos c1]
      rw [decide_eq_true c10]
      refine Ev.suc ?_
      simp only [letheref02_GetNum.j1, if_true]
      by_cases h : i = 9
      · have c3 : (i : Int) = 9 := by omega
        simp only [if_pos c3, if_pos c1, if_pos c2, hc]
        rw [show decide (i = 9 ∧ c > 1) = decide (c > 1) from decide_eq_decide.2 (by omega)] at key
        exact key
      · have c3 : ¬ (i : Int) = 9 := by omega
        simp only [if_neg c3]
        rw [decide_eq_false (by omega)] at key
        exact key
    · refine Ev.suc ?_
      have c1 : ¬ (i : Int) < (s.size : Int) := by omega
      simp only [letheref02_GetNum.l0, if_neg c1]
      refine Ev.suc ?_
      simp only [letheref02_GetNum.j1]
      rw [List.drop_eq_nil_of_le (by rw [bytesOf_length]; exact hge)]
      exact Ev.now _
theorem GetNumRef_ev (s : ByteArray) (hs : s.size ≤ maxLen) : Ev (fun k => letheref02_GetNum.f k s) (getN 0 0 (bytesOf s)) := getRef_l0 s hs 10 0 0 (by omega) rfl (by omega) (by decide)
end Go.Proofs.Ytopfdggagijdkaa.Pure
