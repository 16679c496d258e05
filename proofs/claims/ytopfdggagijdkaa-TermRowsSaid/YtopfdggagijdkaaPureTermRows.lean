/- The law TermRows, for all arguments. Under no condition. -/
import Derived.Test.YtopfdggagijdkaaETermRows
import Derived.Laws.BitsLemmas
import Derived.Laws.Bits64
set_option linter.unusedVariables false
set_option linter.unusedSimpArgs false
namespace Go.Proofs.Ytopfdggagijdkaa.TermRowsp
open Go Go.RowKit Go.Proofs.Ytopfdggagijdkaa.Rx Go.Proofs.Ytopfdggagijdkaa.TermRowsx
noncomputable section
theorem w64 {n : Int} (h0 : -9223372036854775808 ≤ n) (h1 : n ≤ 9223372036854775807) : IntKind.i64.wrap n = n := by rw [IntKind.wrap_i64]; omega
theorem w64s {j n : Nat} (h : j < n) (hn : n ≤ 9223372036854775807) : IntKind.i64.wrap ((j : Int) + 1) = ((j + 1 : Nat) : Int) := by rw [w64 (by omega) (by omega)]; omega
theorem w64p {j : Nat} (h : 0 < j) (hn : j ≤ 9223372036854775807) : IntKind.i64.wrap ((j : Int) - 1) = ((j - 1 : Nat) : Int) := by rw [w64 (by omega) (by omega)]; omega
theorem sl_len {e : TypeId} {t : Ty} {xs : List (den tab.S t)} (h : Ok tab Pr (.sl e t) xs) : xs.length ≤ 9223372036854775807 := by
  have := (Ok.inv h).2.1
  simp only [maxLen] at this
  omega
theorem ite_to {α : Type} {p : Prop} [Decidable p] {a b c : α} (h1 : p → a = c) (h2 : ¬ p → b = c) : (if p then a else b) = c := by
  by_cases h : p
  · rw [if_pos h]; exact h1 h
  · rw [if_neg h]; exact h2 h
theorem ob_eq {a b : Bool} (h1 : a = true → b = true) (h2 : b = true → a = true) : (some (a, ()) : Option (Bool × Unit)) = some (b, ()) := by rw [Bool.eq_iff_iff.2 ⟨h1, h2⟩]
theorem oi_eq {a b : Int} (h : a = b) : (some (a, ()) : Option (Int × Unit)) = some (b, ()) := by rw [h]
theorem rd_lt {α : Type} {z : α} {xs : List α} {i : Nat} (h : i < xs.length) : rd z xs (i : Int) = xs[i] := by simp [rd, h]
theorem drop_rd {α : Type} {z : α} {xs : List α} {i : Nat} (h : i < xs.length) : xs.drop i = rd z xs (i : Int) :: xs.drop (i + 1) := by rw [rd_lt h]; exact List.drop_eq_getElem_cons h
theorem inb {i n : Nat} (h : i < n) : (0 : Int) ≤ (i : Int) ∧ (i : Int) < (n : Int) := by omega
theorem ilt {i n : Nat} (h : i < n) : (i : Int) < (n : Int) := by omega
theorem subL_drop {α : Type} (xs : List α) {l : Int} {k : Nat} (h : l = (k : Int)) : subL xs l (xs.length : Int) = xs.drop k := by simp [subL, h]
theorem subL_take {α : Type} (xs : List α) {l : Int} {k : Nat} (h : l = (k : Int)) : subL xs 0 l = xs.take k := by simp [subL, h]

/-! ### terms -/
theorem term_eta (t : S25) : S25.mk (S25.f0 t) (S25.f1 t) (S25.f2 t) (S25.f3 t) = t := by cases t; rfl
@[simp] theorem T_f0 (a b : Int) (s : ByteArray) (l : List S25) : S25.f0 (S25.mk a b s l) = a := rfl
@[simp] theorem T_f1 (a b : Int) (s : ByteArray) (l : List S25) : S25.f1 (S25.mk a b s l) = b := rfl
@[simp] theorem T_f2 (a b : Int) (s : ByteArray) (l : List S25) : S25.f2 (S25.mk a b s l) = s := rfl
@[simp] theorem T_f3 (a b : Int) (s : ByteArray) (l : List S25) : S25.f3 (S25.mk a b s l) = l := rfl
/-- A term with no list that is too long. -/
inductive Tn : S25 → Prop
  | mk (k n : Int) (b : ByteArray) (l : List S25) (h : l.length * 56 ≤ 140737488355328) (hl : ∀ x ∈ l, Tn x) : Tn (S25.mk k n b l)
abbrev T4 := Int × Int × ByteArray × List S25 × Unit
def ofT (t : S25) : Option T4 := some (S25.f0 t, S25.f1 t, S25.f2 t, S25.f3 t, ())

theorem clone_l (l : List S25) (hl : l.length * 56 ≤ 140737488355328) (hc : ∀ x ∈ l, F46_term_clone (S25.f0 x) (S25.f1 x) (S25.f2 x) (S25.f3 x) = ofT x) (k n : Int) (b : ByteArray) (l' : List S25) (o o' : Int) (s : ByteArray) (g : List S25) : ∀ (m i : Nat), l.length - i = m → i ≤ l.length →
    F46_term_clone_l1000003 l (l.length : Int) (i : Int) k n b l' o o' s (l.take i) g = some (k, n, b, l, ()) := by
  intro m
  induction m with
  | zero =>
    intro i hm hi
    rw [F46_term_clone_l1000003_eq, if_neg (by omega), List.take_of_length_le (by omega)]
  | succ m ih =>
    intro i hm hi
    rw [F46_term_clone_l1000003_eq, if_pos (ilt (by omega)), if_pos (inb (by omega)), rd_lt (by omega : i < l.length), hc _ (List.getElem_mem _)]
    show (if _ then _ else none) = _
    rw [if_pos (by simp only [List.length_take, List.length_singleton]; omega), w64s (n := l.length) (by omega) (by omega)]
    have := ih (i + 1) (by omega) (by omega)
    rw [List.take_add_one, List.getElem?_eq_getElem (by omega)] at this
    rw [term_eta]
    exact this
theorem clone_eq {t : S25} (h : Tn t) : F46_term_clone (S25.f0 t) (S25.f1 t) (S25.f2 t) (S25.f3 t) = ofT t := by
  induction h with
  | mk k n b l h hl ih =>
    show F46_term_clone k n b l = some (k, n, b, l, ())
    rw [F46_term_clone_eq]
    exact clone_l l h ih k n b l 0 0 ByteArray.empty [] l.length 0 (by omega) (by omega)

/-! ### strings as lists of numbers -/
/-- A list of bytes. -/
def AllB (l : List Int) : Prop := ∀ c ∈ l, 0 ≤ c ∧ c ≤ 255
theorem AllB.nil : AllB [] := fun _ h => by simp at h
theorem AllB.cons {c : Int} {l : List Int} (h : 0 ≤ c ∧ c ≤ 255) (hl : AllB l) : AllB (c :: l) := fun x hx => by
  rcases List.mem_cons.1 hx with rfl | hx
  · exact h
  · exact hl x hx
theorem AllB.app {a b : List Int} (ha : AllB a) (hb : AllB b) : AllB (a ++ b) := fun x hx => by
  rcases List.mem_append.1 hx with hx | hx
  · exact ha x hx
  · exact hb x hx
theorem AllB.take {a : List Int} (ha : AllB a) (n : Nat) : AllB (a.take n) := fun x hx => ha x (List.mem_of_mem_take hx)
theorem AllB.drop {a : List Int} (ha : AllB a) (n : Nat) : AllB (a.drop n) := fun x hx => ha x (List.mem_of_mem_drop hx)
theorem AllB.of_bytes (s : ByteArray) : AllB (bytesOf s) := fun x hx => by
  obtain ⟨b, _, rfl⟩ := List.mem_map.1 hx
  have := b.toNat_lt
  omega
theorem bytesOf_str {l : List Int} (h : AllB l) : bytesOf (strOf l) = l := by
  unfold bytesOf strOf
  simp only [List.map_map]
  rw [show (List.map ((fun b : UInt8 => (b.toNat : Int)) ∘ fun n : Int => UInt8.ofNat n.toNat) l) = List.map id l from List.map_congr_left (fun x hx => by
    have := h x hx
    simp only [Function.comp, id, UInt8.toNat_ofNat']
    omega)]
  simp
theorem str_bytesOf (s : ByteArray) : strOf (bytesOf s) = s := by
  unfold bytesOf strOf
  simp only [List.map_map]
  rw [show (List.map ((fun n : Int => UInt8.ofNat n.toNat) ∘ fun b : UInt8 => (b.toNat : Int)) s.data.toList) = List.map id s.data.toList from List.map_congr_left (fun x hx => by
    simp [Function.comp])]
  simp
theorem bytesOf_inj {a b : ByteArray} (h : bytesOf a = bytesOf b) : a = b := by rw [← str_bytesOf a, ← str_bytesOf b, h]
theorem bytesOf_append (a b : ByteArray) : bytesOf (a ++ b) = bytesOf a ++ bytesOf b := by simp [bytesOf]
theorem bytesOf_extract (a : ByteArray) (i j : Nat) : bytesOf (a.extract i j) = ((bytesOf a).take j).drop i := by
  simp [bytesOf, List.extract_eq_take_drop, List.map_take, List.map_drop, List.drop_take]
theorem bytesOf_empty : bytesOf ByteArray.empty = [] := rfl
theorem bytesOf_length (s : ByteArray) : (bytesOf s).length = s.size := by rw [bytesOf, List.length_map, Array.length_toList]; rfl
theorem size_bytesOf (s : ByteArray) : s.size = (bytesOf s).length := (bytesOf_length s).symm
theorem size_str (l : List Int) : (strOf l).size = l.length := by simp [strOf, ByteArray.size]
theorem str_append (a b : List Int) : strOf (a ++ b) = strOf a ++ strOf b := by
  apply ByteArray.ext
  simp [strOf]
theorem str_take (l : List Int) (j : Nat) : (strOf l).extract 0 j = strOf (l.take j) := by
  apply ByteArray.ext
  simp [strOf, List.map_take]


/-! ### numbers in sevens -/
/-- A number in sevens. -/
def putN (n : Nat) : List Int := if h : n < 128 then [(n : Int)] else ((n % 128 + 128 : Nat) : Int) :: putN (n / 128)
termination_by n
decreasing_by omega
theorem putN_lt {n : Nat} (h : n < 128) : putN n = [(n : Int)] := by rw [putN, dif_pos h]
theorem putN_ge {n : Nat} (h : ¬ n < 128) : putN n = ((n % 128 + 128 : Nat) : Int) :: putN (n / 128) := by rw [putN, dif_neg h]
/-- Reading: i bytes were read ahead, worth acc. -/
def getN : Nat → Nat → List Int → Int × Int × Int
  | _, _, [] => (0, 0, 20)
  | i, acc, c :: t => if i = 9 ∧ c > 1 then (0, 0, 21) else if c < 128 then (if c = 0 ∧ 0 < i then (0, 0, 21) else (((acc + c.toNat * 128 ^ i : Nat) : Int), ((i + 1 : Nat) : Int), 0)) else getN (i + 1) (acc + (c.toNat - 128) * 128 ^ i) t
def IsByte (c : Int) : Prop := 0 ≤ c ∧ c ≤ 255

theorem strOf_append (xs : List Int) (n : Nat) : ∀ (ys : List Int), (xs ++ [(n : Int)]) ++ ys = xs ++ (((n : Int)) :: ys) := by simp
theorem big64 {n : Nat} (h : n < 18446744073709551616) : n < 128 ^ (100 - ([] : List Int).length) := Nat.lt_of_lt_of_le h (by decide)
theorem wraps_u64 (n : Int) (h₀ : 0 ≤ n) (h₁ : n < 2 ^ 64) : IntKind.u64.wrap n = n := by rw [IntKind.wrap_u64]; omega
theorem or_low (a b i : Nat) (hi : i ≤ 63) (ha : a < 2 ^ i) (hb : b * 2 ^ i < 18446744073709551616) : bitsR .or .u64 (a : Int) ((b * 2 ^ i : Nat) : Int) = ((a + b * 2 ^ i : Nat) : Int) := by
  have ha' : a < 2 ^ 64 := Nat.lt_of_lt_of_le ha (Nat.pow_le_pow_right (by decide) (by omega))
  rw [show bitsR .or .u64 (a : Int) ((b * 2 ^ i : Nat) : Int) = _ from (bits_nat .u64 64 (by decide) wraps_u64 a (b * 2 ^ i) ha' hb).2]
  congr 1
  rw [Nat.or_comm, Nat.mul_comm b, ← Nat.two_pow_add_eq_or_of_lt ha b, Nat.add_comm]
theorem and127 (c : Int) (h0 : 0 ≤ c) (h1 : c ≤ 255) : bitsR .and .u8 c 127 = c % 128 := bits_mask .u8 8 (by decide) wraps_u8 7 (by decide) c h0 (by omega)
theorem or7 (acc i : Nat) (c : Int) (h0 : 0 ≤ c) (h1 : c ≤ 255) (hi : i ≤ 9) (hacc : acc < 128 ^ i) (h9 : i = 9 → c ≤ 1) :
    bitsR .or .u64 (acc : Int) (shlR .u64 (IntKind.u64.wrap (bitsR .and .u8 c 127)) (IntKind.u64.wrap (IntKind.i64.wrap (7 * (i : Int))))) = ((acc + (c.toNat % 128) * 128 ^ i : Nat) : Int) := by
  rw [and127 c h0 h1, w64 (by omega) (by omega), wraps_u64 (7 * (i : Int)) (by omega) (by omega), wraps_u64 (c % 128) (by omega) (by omega)]
  have hp : 128 ^ i = 2 ^ (7 * i) := by rw [Nat.pow_mul]
  have hb : (c.toNat % 128) * 2 ^ (7 * i) < 18446744073709551616 := by
    rw [← hp]
    rcases Nat.lt_or_ge i 9 with h | h
    · have h2 : 128 ^ i ≤ 128 ^ 8 := Nat.pow_le_pow_right (by decide) (by omega)
      have h3 : (c.toNat % 128) * 128 ^ i ≤ 127 * 128 ^ 8 := Nat.mul_le_mul (by omega) h2
      exact Nat.lt_of_le_of_lt h3 (by decide)
    · obtain rfl : i = 9 := by omega
      have h3 := h9 rfl
      have h4 : (c.toNat % 128) * 128 ^ 9 ≤ 1 * 128 ^ 9 := Nat.mul_le_mul (by omega) (Nat.le_refl _)
      exact Nat.lt_of_le_of_lt h4 (by decide)
  have hs : shlR .u64 (c % 128) (7 * (i : Int)) = (((c.toNat % 128) * 2 ^ (7 * i) : Nat) : Int) := by
    unfold shlR
    rw [show (7 * (i : Int)).toNat = 7 * i from by omega, Nat.min_eq_left (show 7 * i ≤ IntKind.u64.bits from by show 7 * i ≤ 64; omega)]
    rw [show (c % 128) = ((c.toNat % 128 : Nat) : Int) from by omega]
    have : (((c.toNat % 128 : Nat) : Int) * 2 ^ (7 * i)) = (((c.toNat % 128) * 2 ^ (7 * i) : Nat) : Int) := by simp
    rw [this]
    exact wraps_u64 _ (by omega) (by exact_mod_cast hb)
  rw [hs, or_low acc _ (7 * i) (by omega) (by rw [← hp]; exact hacc) hb, hp]
theorem bt_eq {s : ByteArray} {j : Nat} (h : j < s.size) : bt s (j : Int) = (bytesOf s)[j]'(by rw [bytesOf_length]; exact h) := by
  unfold bt bytesOf
  rw [dif_pos (by simpa using h)]
  simp only [List.getElem_map, Int.toNat_natCast]
  rfl
theorem bt_byte (s : ByteArray) (i : Int) : IsByte (bt s i) := by
  unfold bt IsByte
  split
  · rename_i h; have := (s[i.toNat]'h).toNat_lt; omega
  · omega
theorem bytes_drop {s : ByteArray} {j : Nat} (h : j < s.size) : (bytesOf s).drop j = bt s (j : Int) :: (bytesOf s).drop (j + 1) := by
  have hl : j < (bytesOf s).length := by rw [bytesOf_length]; exact h
  rw [List.drop_eq_getElem_cons hl, bt_eq h]
theorem shr7 {c : Int} (h0 : 0 ≤ c) (k : IntKind) (hk : 7 ≤ k.bits) : shrR k c 7 = c / 128 := by
  unfold shrR
  rw [show (7 : Int).toNat = 7 from rfl, Nat.min_eq_left hk, Int.fdiv_eq_ediv_of_nonneg _ (by decide)]
  rfl
theorem or128 (n : Nat) : bitsR .or .u8 (IntKind.u8.wrap (n : Int)) 128 = ((n % 128 + 128 : Nat) : Int) := by
  have e3 : IntKind.u8.wrap (n : Int) = ((n % 256 : Nat) : Int) := by rw [IntKind.wrap_u8]; omega
  have e4 : bitsR .or .u8 ((n % 256 : Nat) : Int) ((128 : Nat) : Int) = (((n % 256) ||| 128 : Nat) : Int) := (bits_nat .u8 8 (by decide) wraps_u8 (n % 256) 128 (by omega) (by decide)).2
  rw [e3, show (128 : Int) = ((128 : Nat) : Int) from rfl, e4]
  congr 1
  have key : ∀ m : Fin 256, (m.val ||| 128) = m.val % 128 + 128 := by decide +kernel
  have := key ⟨n % 256, by omega⟩
  simp only at this
  rw [this]
  omega
theorem u8_small {n : Nat} (h : n < 256) : IntKind.u8.wrap (n : Int) = (n : Int) := by rw [IntKind.wrap_u8]; omega
theorem ref7 (acc i : Nat) (c : Int) (h0 : 0 ≤ c) (h1 : c ≤ 255) (hi : i ≤ 9) (hacc : acc < 128 ^ i) (h9 : i = 9 → c ≤ 1) :
    IntKind.u64.wrap ((acc : Int) + (IntKind.u64.wrap ((IntKind.u64.wrap (Int.tmod c 128)) * ((128 ^ i : Nat) : Int)))) = ((acc + (c.toNat % 128) * 128 ^ i : Nat) : Int) := by
  have e0 : Int.tmod c 128 = ((c.toNat % 128 : Nat) : Int) := by rw [Int.tmod_eq_emod_of_nonneg h0]; omega
  rw [e0, wraps_u64 ((c.toNat % 128 : Nat) : Int) (by omega) (by omega)]
  have hb : acc + (c.toNat % 128) * 128 ^ i < 18446744073709551616 := by
    rcases Nat.lt_or_ge i 9 with h | h
    · have h2 : 128 ^ i ≤ 128 ^ 8 := Nat.pow_le_pow_right (by decide) (by omega)
      have h3 : (c.toNat % 128) * 128 ^ i ≤ 127 * 128 ^ 8 := Nat.mul_le_mul (by omega) h2
      have h4 : (127 * 128 ^ 8 + 128 ^ 8 : Nat) < 18446744073709551616 := by decide
      omega
    · obtain rfl : i = 9 := by omega
      have h3 := h9 rfl
      have h4 : (c.toNat % 128) * 128 ^ 9 ≤ 1 * 128 ^ 9 := Nat.mul_le_mul (by omega) (Nat.le_refl _)
      have h5 : (1 * 128 ^ 9 + 128 ^ 9 : Nat) ≤ 18446744073709551616 := by decide
      omega
  have e1 : (((c.toNat % 128 : Nat) : Int) * ((128 ^ i : Nat) : Int)) = (((c.toNat % 128) * 128 ^ i : Nat) : Int) := by rw [Int.natCast_mul]
  rw [e1, wraps_u64 (((c.toNat % 128) * 128 ^ i : Nat) : Int) (by omega) (by omega), wraps_u64 _ (by omega) (by omega)]
  omega
theorem putN_B (n : Nat) : AllB (putN n) := by
  induction n using Nat.strongRecOn with
  | _ n ih =>
    by_cases h : n < 128
    · rw [putN_lt h]
      exact AllB.cons (by omega) AllB.nil
    · rw [putN_ge h]
      exact AllB.cons (by omega) (ih _ (by omega))
theorem putN_pos (n : Nat) : 1 ≤ (putN n).length := by
  by_cases h : n < 128
  · rw [putN_lt h]; simp
  · rw [putN_ge h]; simp
theorem putN_len (k : Nat) : ∀ n, n < 128 ^ k → 1 ≤ k → (putN n).length ≤ k := by
  induction k with
  | zero => intro n _ h; omega
  | succ k ih =>
    intro n hn _
    by_cases h : n < 128
    · rw [putN_lt h]; simp
    · rw [putN_ge h]
      have h1 : n / 128 < 128 ^ k := by rw [Nat.pow_succ] at hn; omega
      have h2 : 1 ≤ k := by
        rcases Nat.eq_zero_or_pos k with rfl | h3
        · simp at h1; omega
        · exact h3
      simpa using ih _ h1 h2
theorem putN_len10 {n : Nat} (h : n < 18446744073709551616) : (putN n).length ≤ 10 := putN_len 10 n (Nat.lt_of_lt_of_le h (by decide)) (by omega)
/-- What is written reads back, whatever comes after. -/
theorem get_put (n : Nat) : ∀ (i acc : Nat) (more : List Int), n * 128 ^ i < 18446744073709551616 → (i = 0 ∨ 0 < n) → getN i acc (putN n ++ more) = (((acc + n * 128 ^ i : Nat) : Int), ((i + (putN n).length : Nat) : Int), 0) := by
  induction n using Nat.strongRecOn with
  | _ n ih =>
    intro i acc more hb hi
    have h9 : i = 9 → n ≤ 1 := by
      intro h
      subst h
      rcases Nat.lt_or_ge 1 n with h2 | h2
      · have h3 : 2 * 128 ^ 9 ≤ n * 128 ^ 9 := Nat.mul_le_mul (by omega) (Nat.le_refl _)
        have h4 : (2 * 128 ^ 9 : Nat) = 18446744073709551616 := by decide
        omega
      · exact h2
    by_cases h : n < 128
    · rw [putN_lt h]
      have c1 : ¬ (i = 9 ∧ ((n : Nat) : Int) > 1) := by omega
      have c2 : ((n : Nat) : Int) < 128 := by omega
      have c3 : ¬ (((n : Nat) : Int) = 0 ∧ 0 < i) := by omega
      simp only [List.cons_append, List.nil_append, getN, if_neg c1, if_pos c2, if_neg c3, Int.toNat_natCast, List.length_singleton]
    · rw [putN_ge h]
      have c1 : ¬ (i = 9 ∧ ((n % 128 + 128 : Nat) : Int) > 1) := by omega
      have c2 : ¬ ((n % 128 + 128 : Nat) : Int) < 128 := by omega
      simp only [List.cons_append, getN, if_neg c1, if_neg c2, Int.toNat_natCast, List.length_cons]
      have e1 : n % 128 + 128 - 128 = n % 128 := by omega
      have e2 : n / 128 * 128 ^ (i + 1) + n % 128 * 128 ^ i = n * 128 ^ i := by
        rw [Nat.pow_succ, ← Nat.mul_assoc, Nat.mul_right_comm, ← Nat.add_mul, Nat.div_add_mod' n 128]
      rw [e1, ih (n / 128) (by omega) (i + 1) _ more (by omega) (by omega)]
      have e3 : acc + n % 128 * 128 ^ i + n / 128 * 128 ^ (i + 1) = acc + n * 128 ^ i := by omega
      have e4 : i + 1 + (putN (n / 128)).length = i + ((putN (n / 128)).length + 1) := by omega
      rw [e3, e4]
/-- A part cut short is short. -/
theorem get_cut (n : Nat) : ∀ (i acc m : Nat), n * 128 ^ i < 18446744073709551616 → m < (putN n).length → getN i acc ((putN n).take m) = (0, 0, 20) := by
  induction n using Nat.strongRecOn with
  | _ n ih =>
    intro i acc m hb hm
    by_cases h : n < 128
    · rw [putN_lt h] at hm ⊢
      have : m = 0 := by simpa using hm
      subst this
      rfl
    · rw [putN_ge h] at hm ⊢
      cases m with
      | zero => rfl
      | succ m =>
        have h9 : ¬ i = 9 := by
          intro h9
          subst h9
          have h3 : 128 * 128 ^ 9 ≤ n * 128 ^ 9 := Nat.mul_le_mul (by omega) (Nat.le_refl _)
          have h4 : (18446744073709551616 : Nat) ≤ 128 * 128 ^ 9 := by decide
          omega
        have c1 : ¬ (i = 9 ∧ ((n % 128 + 128 : Nat) : Int) > 1) := fun h => h9 h.1
        have c2 : ¬ ((n % 128 + 128 : Nat) : Int) < 128 := by omega
        simp only [List.take_succ_cons, getN, if_neg c1, if_neg c2]
        have e2 : n / 128 * 128 ^ (i + 1) + n % 128 * 128 ^ i = n * 128 ^ i := by
          rw [Nat.pow_succ, ← Nat.mul_assoc, Nat.mul_right_comm, ← Nat.add_mul, Nat.div_add_mod' n 128]
        exact ih _ (by omega) _ _ _ (by omega) (by simpa using hm)
/-- What reads was so written. -/
theorem get_is (l : List Int) : ∀ (i acc : Nat), AllB l → i ≤ 9 →
    (∃ n more, l = putN n ++ more ∧ n < 128 ^ (9 - i) * 2 ∧ (i = 0 ∨ 0 < n) ∧ getN i acc l = (((acc + n * 128 ^ i : Nat) : Int), ((i + (putN n).length : Nat) : Int), 0)) ∨ getN i acc l = (0, 0, 20) ∨ getN i acc l = (0, 0, 21) := by
  induction l with
  | nil => intro i acc _ _; exact .inr (.inl rfl)
  | cons c t ih =>
    intro i acc hB hi
    have hc := hB c (by simp)
    by_cases h1 : i = 9 ∧ c > 1
    · exact .inr (.inr (by simp only [getN, if_pos h1]))
    · by_cases h2 : c < 128
      · by_cases h3 : c = 0 ∧ 0 < i
        · exact .inr (.inr (by simp only [getN, if_neg h1, if_pos h2, if_pos h3]))
        · refine .inl ⟨c.toNat, t, ?_, ?_, by omega, ?_⟩
          · rw [putN_lt (by omega)]
            simp
            omega
          · rcases Nat.lt_or_ge i 9 with h4 | h4
            · have h5 : 128 ^ 1 ≤ 128 ^ (9 - i) := Nat.pow_le_pow_right (by decide) (by omega)
              omega
            · obtain rfl : i = 9 := by omega
              simp
              omega
          · simp only [getN, if_neg h1, if_pos h2, if_neg h3]
            rw [putN_lt (by omega)]
            rfl
      · have h4 : i < 9 := by omega
        have e : getN i acc (c :: t) = getN (i + 1) (acc + (c.toNat - 128) * 128 ^ i) t := by simp only [getN, if_neg h1, if_neg h2]
        rw [e]
        rcases ih (i + 1) (acc + (c.toNat - 128) * 128 ^ i) (fun x hx => hB x (by simp [hx])) (by omega) with ⟨n, more, h5, h6, h7, h8⟩ | h5 | h5
        · refine .inl ⟨(c.toNat - 128) + 128 * n, more, ?_, ?_, by omega, ?_⟩
          · rw [putN_ge (by omega), h5]
            rw [show (c.toNat - 128 + 128 * n) / 128 = n from by omega, show (c.toNat - 128 + 128 * n) % 128 + 128 = c.toNat from by omega]
            simp
            omega
          · have h9 : 128 ^ (9 - i) = 128 ^ (9 - (i + 1)) * 128 := by rw [← Nat.pow_succ]; congr 1; omega
            rw [h9]
            omega
          · rw [h8, putN_ge (n := c.toNat - 128 + 128 * n) (by omega), show (c.toNat - 128 + 128 * n) / 128 = n from by omega]
            have e2 : (c.toNat - 128 + 128 * n) * 128 ^ i = (c.toNat - 128) * 128 ^ i + n * 128 ^ (i + 1) := by rw [Nat.add_mul, Nat.pow_succ]; congr 1; rw [Nat.mul_comm 128 n, Nat.mul_assoc, Nat.mul_comm 128]
            rw [e2, List.length_cons]
            have e3 : acc + (c.toNat - 128) * 128 ^ i + n * 128 ^ (i + 1) = acc + ((c.toNat - 128) * 128 ^ i + n * 128 ^ (i + 1)) := by omega
            have e4 : i + 1 + (putN n).length = i + ((putN n).length + 1) := by omega
            rw [e3, e4]
        · exact .inr (.inl h5)
        · exact .inr (.inr h5)
/-- What reads was so written: from the start. -/
theorem get_is0 {l : List Int} (hB : AllB l) : (∃ n more, l = putN n ++ more ∧ n < 18446744073709551616 ∧ getN 0 0 l = ((n : Int), ((putN n).length : Int), 0)) ∨ getN 0 0 l = (0, 0, 20) ∨ getN 0 0 l = (0, 0, 21) := by
  rcases get_is l 0 0 hB (by omega) with ⟨n, more, h1, h2, _, h3⟩ | h | h
  · refine .inl ⟨n, more, h1, Nat.lt_of_lt_of_le h2 (by decide), ?_⟩
    rw [h3]
    simp
  · exact .inr (.inl h)
  · exact .inr (.inr h)
theorem get_put0 {n : Nat} (h : n < 18446744073709551616) (more : List Int) : getN 0 0 (putN n ++ more) = ((n : Int), ((putN n).length : Int), 0) := by
  rw [get_put n 0 0 more (by simpa using h) (.inl rfl)]
  simp
theorem get_cut0 {n m : Nat} (h : n < 18446744073709551616) (hm : m < (putN n).length) : getN 0 0 ((putN n).take m) = (0, 0, 20) := get_cut n 0 0 m (by simpa using h) hm


/-! ### whether a term may be -/
mutual
def parts : S25 → Nat
  | ⟨_, _, _, l⟩ => 1 + partsL l
def partsL : List S25 → Nat
  | [] => 0
  | x :: t => parts x + partsL t
end
mutual
def depth : S25 → Nat
  | ⟨_, _, _, l⟩ => 1 + depthL l
def depthL : List S25 → Nat
  | [] => 0
  | x :: t => max (depth x) (depthL t)
end
/-- The shape of a term by itself. -/
def one (n f : Int) (s : ByteArray) (len : Nat) : Bool :=
  if n = 1 ∨ n = 3 then decide (bytesOf s = [] ∧ len = 0) else if n = 2 then decide (f = 0 ∧ s.size ≤ 4000 ∧ len = 0) else if n = 4 then decide (bytesOf s = [] ∧ len = 1) else if n = 5 then decide (f = 0 ∧ bytesOf s = []) else false
mutual
def shp : S25 → Bool
  | ⟨n, f, s, l⟩ => one n f s l.length && shpL l
def shpL : List S25 → Bool
  | [] => true
  | x :: t => shp x && shpL t
end
theorem str_nil_iff {s : ByteArray} : bytesOf s = [] ↔ s = ByteArray.empty := ⟨fun h => bytesOf_inj (by rw [h]; rfl), fun h => by rw [h]; rfl⟩
theorem beqd (a b : Int) : (a == b) = decide (a = b) := by rw [Bool.eq_iff_iff, beq_iff_eq, decide_eq_true_eq]
theorem parts_eq (x : S25) : parts x = 1 + partsL x.f3 := by cases x; rw [parts]; rfl
theorem depth_eq (x : S25) : depth x = 1 + depthL x.f3 := by cases x; rw [depth]; rfl
theorem shp_eq (x : S25) : shp x = (one x.f0 x.f1 x.f2 x.f3.length && shpL x.f3) := by cases x; rw [shp]; rfl
theorem shp_mk (n f : Int) (s : ByteArray) (l : List S25) : shp (S25.mk n f s l) = (one n f s l.length && shpL l) := by rw [shp]
theorem parts_pos (x : S25) : 1 ≤ parts x := by rw [parts_eq]; omega
theorem depth_pos (x : S25) : 1 ≤ depth x := by rw [depth_eq]; omega
def rightT (x : S25) : Int := if 4000 < parts x then 23 else if 12 < depth x then 22 else if shp x = true then 0 else 25

theorem right_is {x : S25} (hr : rightT x = 0) : parts x ≤ 4000 ∧ depth x ≤ 12 ∧ shp x = true := by
  unfold rightT at hr
  split at hr
  · simp at hr
  · split at hr
    · simp at hr
    · split at hr
      · rename_i c1 c2 c3
        exact ⟨by omega, by omega, c3⟩
      · simp at hr


inductive okT : S25 → Prop
  | mk {x : S25} : (Lit.int .i64 (S25.f0 x)).wf = true → (Lit.int .u64 (S25.f1 x)).wf = true → (S25.f2 x).size ≤ 140737488351232 → (S25.f3 x).length * 56 ≤ 140737488351232 → (S25.f3 x).length ≤ maxLen → (∀ y ∈ S25.f3 x, okT y) → okT x
theorem etaT (x : S25) : (S25.mk (S25.f0 x) (S25.f1 x) (S25.f2 x) (S25.f3 x)) = x := by cases x; rfl
theorem okT.leaf {n f : Int} {s : ByteArray} (h0 : (Lit.int .i64 n).wf = true) (h1 : (Lit.int .u64 f).wf = true) (h2 : s.size ≤ 140737488351232) : okT (S25.mk n f s []) := okT.mk h0 h1 h2 (by show 0 * 56 ≤ _; omega) (by show 0 ≤ _; omega) (fun y hy => by cases hy)
theorem okT.len {x : S25} (h : okT x) : (S25.f3 x).length ≤ 2513169434843 := by
  cases h with
  | mk _ _ _ h3 _ _ => omega
theorem okT.el {x : S25} (h : okT x) : ∀ y ∈ S25.f3 x, okT y := by
  cases h with
  | mk _ _ _ _ _ h5 => exact h5
theorem okT.tn {x : S25} (h : okT x) : Tn x := by
  induction h with
  | @mk x h0 h1 h2 h3 h4 h5 ih => rw [← etaT x]; exact Tn.mk _ _ _ _ (by omega) ih
theorem okT_of (n : Nat) : ∀ x : S25, SizeOf.sizeOf x < n → Ok tab Pr (.int .i64) (S25.f0 x) → Ok tab Pr (.int .u64) (S25.f1 x) → Ok tab Pr .str (S25.f2 x) → Ok tab Pr (.sl 25 (.st 25)) (S25.f3 x) → okT x := by
  induction n with
  | zero => intro x hx; omega
  | succ n ih =>
    intro x hx h0 h1 h2 h3
    have hb := (Ok.inv h3).1
    rw [show Program.bytesOf Pr 25 = 56 by kernel_rfl] at hb
    refine okT.mk (Ok.inv h0) (Ok.inv h1) (Ok.inv h2) ?_ (Ok.inv h3).2.1 (fun y hy => ?_)
    · exact hb
    · obtain ⟨i, hi, rfl⟩ := List.getElem_of_mem hy
      have hs : SizeOf.sizeOf (S25.f3 x)[i] < n := by
        have h9 := List.sizeOf_lt_of_mem hy
        have h8 : SizeOf.sizeOf (S25.f3 x) < SizeOf.sizeOf x := by cases x; simp [S25.f3]; omega
        omega
      have hc := (Ok.inv h3).2.2 i (S25.f3 x)[i]
      exact ih _ hs (hc 0 ⟨.int .i64, _⟩ (List.getElem?_eq_getElem hi) rfl) (hc 1 ⟨.int .u64, _⟩ (List.getElem?_eq_getElem hi) rfl) (hc 2 ⟨.str, _⟩ (List.getElem?_eq_getElem hi) rfl) (hc 3 ⟨.sl 25 (.st 25), _⟩ (List.getElem?_eq_getElem hi) rfl)

theorem wf_u64 {x : Int} (h : (Lit.int .u64 x).wf = true) : 0 ≤ x ∧ x < 18446744073709551616 := by
  simp [Lit.wf, IntKind.min, IntKind.max, IntKind.bits, IntKind.signed] at h
  omega
theorem wf_i64 {x : Int} (h : (Lit.int .i64 x).wf = true) : -9223372036854775808 ≤ x ∧ x ≤ 9223372036854775807 := by
  simp [Lit.wf, IntKind.min, IntKind.max, IntKind.bits, IntKind.signed] at h
  omega
theorem wrap_u64 {n : Int} (h0 : 0 ≤ n) (h1 : n < 18446744073709551616) : IntKind.u64.wrap n = n := by
  have h : IntKind.u64.wrap n = n % 18446744073709551616 := by simp [IntKind.wrap, IntKind.bits, IntKind.signed]
  rw [h]; omega

/-! ### bytes of terms -/
/-- The first bytes of a term: its sort, and the number behind it, and an atom's own bytes. -/
def hd (n f : Int) (s : ByteArray) (len : Nat) : List Int :=
  (n % 256) :: (if n = 1 ∨ n = 3 ∨ n = 4 then putN f.toNat else if n = 2 then putN s.size ++ bytesOf s else if n = 5 then putN len else [])
mutual
def encT : S25 → List Int
  | ⟨n, f, s, l⟩ => hd n f s l.length ++ encL l
def encL : List S25 → List Int
  | [] => []
  | x :: t => encT x ++ encL t
end
theorem encT_eq (x : S25) : encT x = hd x.f0 x.f1 x.f2 x.f3.length ++ encL x.f3 := by cases x; rw [encT]; rfl
theorem encT_mk (n f : Int) (s : ByteArray) (l : List S25) : encT (S25.mk n f s l) = hd n f s l.length ++ encL l := by rw [encT]
theorem hd_B (n f : Int) (s : ByteArray) (len : Nat) : AllB (hd n f s len) := by
  unfold hd
  refine AllB.cons (by omega) ?_
  split
  · exact putN_B _
  · split
    · exact (putN_B _).app (AllB.of_bytes s)
    · split
      · exact putN_B _
      · exact AllB.nil
theorem encL_B (l : List S25) (ih : ∀ y ∈ l, AllB (encT y)) : AllB (encL l) := by
  induction l with
  | nil => rw [encL]; exact AllB.nil
  | cons x t iht =>
    rw [encL]
    exact (ih x (by simp)).app (iht (fun y hy => ih y (by simp [hy])))
theorem encT_B {x : S25} (h : okT x) : AllB (encT x) := by
  induction h with
  | @mk x h0 h1 h2 h3 h4 h5 ih =>
    rw [encT_eq]
    exact (hd_B _ _ _ _).app (encL_B _ ih)
theorem hd_len {n f : Int} {s : ByteArray} {len : Nat} (h0 : 0 ≤ f ∧ f < 18446744073709551616) (h1 : len ≤ 2513169434843) (h : one n f s len = true) : (hd n f s len).length ≤ 4011 := by
  unfold hd
  unfold one at h
  rw [List.length_cons]
  have e1 : (putN f.toNat).length ≤ 10 := putN_len10 (by omega)
  have e2 : (putN len).length ≤ 10 := putN_len10 (by omega)
  split
  · omega
  · rename_i c
    split
    · rename_i c2
      rw [if_neg (by omega), if_pos c2, decide_eq_true_eq] at h
      have e3 : (putN s.size).length ≤ 10 := putN_len10 (by omega)
      rw [List.length_append, bytesOf_length]
      omega
    · split
      · omega
      · simp
theorem encL_len (l : List S25) (ih : ∀ y ∈ l, shp y = true → (encT y).length ≤ parts y * 4011) (h : shpL l = true) : (encL l).length ≤ partsL l * 4011 := by
  induction l with
  | nil => rw [encL]; simp
  | cons x t iht =>
    rw [shpL, Bool.and_eq_true] at h
    rw [encL, partsL, List.length_append]
    have a := ih x (by simp) h.1
    have b := iht (fun y hy => ih y (by simp [hy])) h.2
    omega
theorem encT_len {x : S25} (h : okT x) (hs : shp x = true) : (encT x).length ≤ parts x * 4011 := by
  revert hs
  induction h with
  | @mk x h0 h1 h2 h3 h4 h5 ih =>
    intro hs
    rw [shp_eq, Bool.and_eq_true] at hs
    rw [encT_eq, parts_eq, List.length_append]
    have a := hd_len (wf_u64 h1) (by omega) hs.1
    have b := encL_len _ ih hs.2
    omega
theorem right_len {x : S25} (h : okT x) (hr : rightT x = 0) : (encT x).length ≤ 16044000 := by
  unfold rightT at hr
  split at hr
  · simp at hr
  · split at hr
    · simp at hr
    · split at hr
      · rename_i c1 c2 c3
        have := encT_len h c3
        omega
      · simp at hr
/-- The bytes of a term, and why there are none. -/
def encode (x : S25) : ByteArray × Int := if rightT x = 0 then (strOf (encT x), 0) else (ByteArray.empty, rightT x)


theorem put_l (n : Nat) : ∀ (xs : List Int), n < 18446744073709551616 → xs.length + 100 < 140737488355328 → n < 128 ^ (100 - xs.length) → xs.length ≤ 99 → F24_term_PutNum_l1000002 (n : Int) xs = some (strOf (xs ++ putN n), ()) := by
  induction n using Nat.strongRecOn with
  | _ n ih =>
    intro xs h64 hx hn hx2
    rw [F24_term_PutNum_l1000002_eq]
    by_cases h : n < 128
    · rw [if_neg (by omega), if_pos (by rw [List.length_singleton]; omega), putN_lt h, u8_small (by omega)]
    · rw [if_pos (by omega)]
      simp only []
      rw [if_pos (by rw [List.length_singleton]; omega), putN_ge h, or128, shr7 (by omega) _ (by decide)]
      have e1 : (n : Int) / 128 = ((n / 128 : Nat) : Int) := by omega
      rw [e1]
      have hx3 : 2 ≤ 100 - xs.length := by
        rcases Nat.lt_or_ge (100 - xs.length) 2 with h2 | h2
        · have h3 : 100 - xs.length = 1 := by omega
          rw [h3] at hn
          omega
        · exact h2
      have := ih (n / 128) (by omega) (xs ++ [((n % 128 + 128 : Nat) : Int)]) (by omega) (by simp; omega) (by
        rw [List.length_append, List.length_singleton]
        have h4 : 128 ^ (100 - xs.length) = 128 ^ (100 - (xs.length + 1)) * 128 := by rw [← Nat.pow_succ]; congr 1; omega
        rw [h4] at hn
        exact Nat.div_lt_of_lt_mul (by rw [Nat.mul_comm]; exact hn)) (by simp; omega)
      rw [List.append_assoc] at this
      exact this
theorem put_eq {n : Nat} (h : n < 18446744073709551616) : F24_term_PutNum (n : Int) = some (strOf (putN n), ()) := by rw [F24_term_PutNum_eq]; exact put_l n [] h (by simp) (big64 h) (by simp)
def t3 (r : Int × Int × Int) : Int × Int × Int × Unit := (r.1, r.2.1, r.2.2, ())
abbrev bigL : Nat := 2513169434843
theorem parts_l (l : List S25) (hl : l.length ≤ bigL) (ih : ∀ x ∈ l, ∀ m : Nat, 1 ≤ m → m ≤ 1000000 → F58_term_parts (S25.f0 x) (S25.f1 x) (S25.f2 x) (S25.f3 x) (m : Int) = some (((min (parts x) m : Nat) : Int), ())) (m : Nat) (hm : m ≤ 1000000) : ∀ k i n, l.length - i = k → i ≤ l.length → n ≤ m → 1 ≤ n →
    F58_term_parts_l1000003 (m : Int) (n : Int) l (l.length : Int) (i : Int) = some (((min (n + partsL (l.drop i)) m : Nat) : Int), ()) := by
  intro k
  induction k with
  | zero =>
    intro i n hk hi hn h1
    rw [F58_term_parts_l1000003_eq, if_neg (by omega), List.drop_of_length_le (by omega)]
    exact oi_eq (by simp only [partsL]; omega)
  | succ k ihk =>
    intro i n hk hi hn h1
    simp only [bigL] at hl
    rw [F58_term_parts_l1000003_eq, if_pos (ilt (by omega)), if_pos (inb (by omega)), drop_rd (z := S25.z) (by omega : i < l.length)]
    by_cases c1 : m ≤ n
    · rw [if_pos (by omega)]
      exact oi_eq (by simp only [partsL]; omega)
    · rw [if_neg (by omega), w64 (by omega) (by omega), show (m : Int) - (n : Int) = ((m - n : Nat) : Int) by omega, rd_lt (by omega : i < l.length), ih _ (List.getElem_mem _) _ (by omega) (by omega), Option.bind_some, w64s (n := l.length) (by omega) (by omega)]
      generalize hp : parts l[i] = p
      have hp1 : 1 ≤ p := by rw [← hp]; exact parts_pos _
      rw [w64 (by omega) (by omega), show (n : Int) + ((min p (m - n) : Nat) : Int) = ((n + min p (m - n) : Nat) : Int) by omega, ihk (i + 1) _ (by omega) (by omega) (by omega) (by omega)]
      exact oi_eq (by simp only [partsL, hp]; omega)
theorem parts_f {x : S25} (h : okT x) : ∀ m : Nat, 1 ≤ m → m ≤ 1000000 → F58_term_parts (S25.f0 x) (S25.f1 x) (S25.f2 x) (S25.f3 x) (m : Int) = some (((min (parts x) m : Nat) : Int), ()) := by
  induction h with
  | @mk x h0 h1 h2 h3 h4 h5 ih =>
    intro m hm hm2
    rw [F58_term_parts_eq, parts_eq]
    exact parts_l (S25.f3 x) (by simp only [bigL]; omega) ih m hm2 _ 0 1 rfl (by omega) hm (by omega)
theorem rparts_l (l : List S25) (hl : l.length ≤ bigL) (ih : ∀ x ∈ l, ∀ m : Nat, 1 ≤ m → m ≤ 1000000 → F54_letheref02_Parts (S25.f0 x) (S25.f1 x) (S25.f2 x) (S25.f3 x) (m : Int) = some (((min (parts x) m : Nat) : Int), ())) (m : Nat) (hm : m ≤ 1000000) : ∀ k i n, l.length - i = k → i ≤ l.length → n ≤ m → 1 ≤ n →
    F54_letheref02_Parts_l1000003 (m : Int) (n : Int) l (l.length : Int) (i : Int) = some (((min (n + partsL (l.drop i)) m : Nat) : Int), ()) := by
  intro k
  induction k with
  | zero =>
    intro i n hk hi hn h1
    rw [F54_letheref02_Parts_l1000003_eq, if_neg (by omega), List.drop_of_length_le (by omega), if_neg (by omega)]
    exact oi_eq (by simp only [partsL]; omega)
  | succ k ihk =>
    intro i n hk hi hn h1
    simp only [bigL] at hl
    rw [F54_letheref02_Parts_l1000003_eq, if_pos (ilt (by omega)), if_pos (inb (by omega)), drop_rd (z := S25.z) (by omega : i < l.length)]
    by_cases c1 : m ≤ n
    · rw [if_pos (by omega)]
      exact oi_eq (by simp only [partsL]; omega)
    · rw [if_neg (by omega), w64 (by omega) (by omega), show (m : Int) - (n : Int) = ((m - n : Nat) : Int) by omega, rd_lt (by omega : i < l.length), ih _ (List.getElem_mem _) _ (by omega) (by omega), Option.bind_some, w64s (n := l.length) (by omega) (by omega)]
      generalize hp : parts l[i] = p
      have hp1 : 1 ≤ p := by rw [← hp]; exact parts_pos _
      rw [w64 (by omega) (by omega), show (n : Int) + ((min p (m - n) : Nat) : Int) = ((n + min p (m - n) : Nat) : Int) by omega, ihk (i + 1) _ (by omega) (by omega) (by omega) (by omega)]
      exact oi_eq (by simp only [partsL, hp]; omega)
theorem rparts_f {x : S25} (h : okT x) : ∀ m : Nat, 1 ≤ m → m ≤ 1000000 → F54_letheref02_Parts (S25.f0 x) (S25.f1 x) (S25.f2 x) (S25.f3 x) (m : Int) = some (((min (parts x) m : Nat) : Int), ()) := by
  induction h with
  | @mk x h0 h1 h2 h3 h4 h5 ih =>
    intro m hm hm2
    rw [F54_letheref02_Parts_eq, parts_eq]
    exact rparts_l (S25.f3 x) (by simp only [bigL]; omega) ih m hm2 _ 0 1 rfl (by omega) hm (by omega)
theorem deep_l (l : List S25) (hl : l.length ≤ bigL) (m : Nat) (hm : m ≤ 1000000) (hm2 : 2 ≤ m) (ih : ∀ x ∈ l, F59_term_deep (S25.f0 x) (S25.f1 x) (S25.f2 x) (S25.f3 x) ((m - 1 : Nat) : Int) = some (((min (depth x) (m - 1) : Nat) : Int), ())) : ∀ k i n, l.length - i = k → i ≤ l.length → n ≤ m - 1 →
    F59_term_deep_l1000004 (m : Int) (n : Int) l (l.length : Int) (i : Int) = some (((min (1 + max n (depthL (l.drop i))) m : Nat) : Int), ()) := by
  intro k
  induction k with
  | zero =>
    intro i n hk hi hn
    rw [F59_term_deep_l1000004_eq, if_neg (by omega), List.drop_of_length_le (by omega), w64 (by omega) (by omega)]
    exact oi_eq (by simp only [depthL]; omega)
  | succ k ihk =>
    intro i n hk hi hn
    simp only [bigL] at hl
    rw [F59_term_deep_l1000004_eq, if_pos (ilt (by omega)), if_pos (inb (by omega)), drop_rd (z := S25.z) (by omega : i < l.length), w64p (by omega) (by omega), rd_lt (by omega : i < l.length), ih _ (List.getElem_mem _), Option.bind_some, w64s (n := l.length) (by omega) (by omega)]
    generalize hp : depth l[i] = p
    rw [show mx (n : Int) ((min p (m - 1) : Nat) : Int) = ((max n (min p (m - 1)) : Nat) : Int) by unfold mx; split <;> omega, ihk (i + 1) _ (by omega) (by omega) (by omega)]
    exact oi_eq (by simp only [depthL, hp]; omega)
theorem deep_f {x : S25} (h : okT x) : ∀ m : Nat, 1 ≤ m → m ≤ 1000000 → F59_term_deep (S25.f0 x) (S25.f1 x) (S25.f2 x) (S25.f3 x) (m : Int) = some (((min (depth x) m : Nat) : Int), ()) := by
  induction h with
  | @mk x h0 h1 h2 h3 h4 h5 ih =>
    intro m hm hm2
    rw [F59_term_deep_eq, depth_eq]
    by_cases c1 : m = 1
    · rw [if_neg (by omega), w64 (by omega) (by omega)]
      exact oi_eq (by omega)
    · rw [if_pos (by omega)]
      have := deep_l (S25.f3 x) (by simp only [bigL]; omega) m hm2 (by omega) (fun y hy => ih y hy (m - 1) (by omega) (by omega)) _ 0 0 rfl (by omega) (by omega)
      rw [show F59_term_deep_l1000004 (m : Int) 0 (S25.f3 x) ((S25.f3 x).length : Int) 0 = _ from this]
      exact oi_eq (by simp only [List.drop_zero]; omega)
theorem rdeep_l (l : List S25) (hl : l.length ≤ bigL) (m : Nat) (hm : m ≤ 1000000) (hm2 : 2 ≤ m) (ih : ∀ x ∈ l, F55_letheref02_Deep (S25.f0 x) (S25.f1 x) (S25.f2 x) (S25.f3 x) ((m - 1 : Nat) : Int) = some (((min (depth x) (m - 1) : Nat) : Int), ())) : ∀ k i n, l.length - i = k → i ≤ l.length → n < m - 1 →
    F55_letheref02_Deep_l1000005 (m : Int) (n : Int) l (l.length : Int) (i : Int) = some (((min (1 + max n (depthL (l.drop i))) m : Nat) : Int), ()) := by
  intro k
  induction k with
  | zero =>
    intro i n hk hi hn
    rw [F55_letheref02_Deep_l1000005_eq, if_neg (by omega), List.drop_of_length_le (by omega), w64 (by omega) (by omega)]
    exact oi_eq (by simp only [depthL]; omega)
  | succ k ihk =>
    intro i n hk hi hn
    simp only [bigL] at hl
    rw [F55_letheref02_Deep_l1000005_eq, if_pos (ilt (by omega)), if_pos (inb (by omega)), drop_rd (z := S25.z) (by omega : i < l.length), w64p (by omega) (by omega), rd_lt (by omega : i < l.length), ih _ (List.getElem_mem _), Option.bind_some, w64s (n := l.length) (by omega) (by omega)]
    generalize hp : depth l[i] = p
    simp only [depthL, hp]
    refine ite_to (fun c1 => ?_) (fun c1 => ?_)
    · refine ite_to (fun c2 => ?_) (fun c2 => ?_)
      · exact oi_eq (by omega)
      · have := ihk (i + 1) (min p (m - 1)) (by omega) (by omega) (by omega)
        rw [this]
        exact oi_eq (by omega)
    · refine ite_to (fun c2 => ?_) (fun c2 => ?_)
      · omega
      · have := ihk (i + 1) n (by omega) (by omega) (by omega)
        rw [this]
        exact oi_eq (by omega)
theorem rdeep_f {x : S25} (h : okT x) : ∀ m : Nat, 1 ≤ m → m ≤ 1000000 → F55_letheref02_Deep (S25.f0 x) (S25.f1 x) (S25.f2 x) (S25.f3 x) (m : Int) = some (((min (depth x) m : Nat) : Int), ()) := by
  induction h with
  | @mk x h0 h1 h2 h3 h4 h5 ih =>
    intro m hm hm2
    rw [F55_letheref02_Deep_eq, depth_eq]
    by_cases c1 : m = 1
    · rw [if_pos (by omega)]
      exact oi_eq (by omega)
    · rw [if_neg (by omega)]
      have := rdeep_l (S25.f3 x) (by simp only [bigL]; omega) m hm2 (by omega) (fun y hy => ih y hy (m - 1) (by omega) (by omega)) _ 0 0 rfl (by omega) (by omega)
      rw [show F55_letheref02_Deep_l1000005 (m : Int) 0 (S25.f3 x) ((S25.f3 x).length : Int) 0 = _ from this]
      exact oi_eq (by simp only [List.drop_zero]; omega)
/-! shapes -/
theorem one_f (n f : Int) (s : ByteArray) (l : List S25) : F66_letheref02_One n f s l = some (one n f s l.length, ()) := by
  rw [F66_letheref02_One_eq]
  repeat' (refine ite_to (fun _ => ?_) (fun _ => ?_))
  all_goals (apply ob_eq <;> intro hh <;> simp only [one, str_nil_iff] at hh ⊢ <;> simp_all <;> omega)
theorem rshaped_l (l : List S25) (hl : l.length ≤ bigL) (ih : ∀ x ∈ l, F56_letheref02_shaped (S25.f0 x) (S25.f1 x) (S25.f2 x) (S25.f3 x) = some (shp x, ())) : ∀ k i, l.length - i = k → i ≤ l.length →
    F56_letheref02_shaped_l1000004 l (l.length : Int) (i : Int) = some (shpL (l.drop i), ()) := by
  intro k
  induction k with
  | zero =>
    intro i hk hi
    rw [F56_letheref02_shaped_l1000004_eq, if_neg (by omega), List.drop_of_length_le (by omega)]
    simp [shpL]
  | succ k ihk =>
    intro i hk hi
    simp only [bigL] at hl
    rw [F56_letheref02_shaped_l1000004_eq, if_pos (ilt (by omega)), if_pos (inb (by omega)), drop_rd (z := S25.z) (by omega : i < l.length), rd_lt (by omega : i < l.length), ih _ (List.getElem_mem _), Option.bind_some, w64s (n := l.length) (by omega) (by omega), ihk (i + 1) (by omega) (by omega)]
    cases hs : shp l[i] <;> simp [shpL, hs]
theorem rshaped_f {x : S25} (h : okT x) : F56_letheref02_shaped (S25.f0 x) (S25.f1 x) (S25.f2 x) (S25.f3 x) = some (shp x, ()) := by
  induction h with
  | @mk x h0 h1 h2 h3 h4 h5 ih =>
    rw [F56_letheref02_shaped_eq, one_f, shp_eq, Option.bind_some]
    have := rshaped_l (S25.f3 x) (by simp only [bigL]; omega) ih _ 0 rfl (by omega)
    rw [show F56_letheref02_shaped_l1000004 (S25.f3 x) ((S25.f3 x).length : Int) 0 = _ from this]
    cases one (S25.f0 x) (S25.f1 x) (S25.f2 x) (S25.f3 x).length <;> simp
theorem index_l (l : List S25) (hl : l.length ≤ bigL) (ih : ∀ x ∈ l, F60_term_shaped (S25.f0 x) (S25.f1 x) (S25.f2 x) (S25.f3 x) = some (shp x, ())) : ∀ k i, l.length - i = k → i ≤ l.length →
    ∃ n : Int, F70_slices_IndexFunc_68_l1000002 l (l.length : Int) (i : Int) = some (n, ()) ∧ (0 ≤ n ↔ shpL (l.drop i) = false) := by
  intro k
  induction k with
  | zero =>
    intro i hk hi
    rw [F70_slices_IndexFunc_68_l1000002_eq, if_neg (by omega), List.drop_of_length_le (by omega)]
    exact ⟨-1, rfl, by simp [shpL]⟩
  | succ k ihk =>
    intro i hk hi
    simp only [bigL] at hl
    rw [F70_slices_IndexFunc_68_l1000002_eq, if_pos (ilt (by omega)), if_pos (inb (by omega)), drop_rd (z := S25.z) (by omega : i < l.length), rd_lt (by omega : i < l.length), F68_term_shaped_1_eq, ih _ (List.getElem_mem _), Option.bind_some, Option.bind_some, w64s (n := l.length) (by omega) (by omega)]
    obtain ⟨n, q1, q2⟩ := ihk (i + 1) (by omega) (by omega)
    rw [q1]
    cases hs : shp l[i] with
    | true => exact ⟨n, by simp, by rw [q2]; simp [shpL, hs]⟩
    | false => exact ⟨i, by simp, by simp [shpL, hs]⟩
theorem shaped_f {x : S25} (h : okT x) : F60_term_shaped (S25.f0 x) (S25.f1 x) (S25.f2 x) (S25.f3 x) = some (shp x, ()) := by
  induction h with
  | @mk x h0 h1 h2 h3 h4 h5 ih =>
    have hb : ∀ b : Bool, F60_term_shaped_l12 b (S25.f0 x) (S25.f1 x) (S25.f2 x) (S25.f3 x) = some (b && shpL (S25.f3 x), ()) := by
      intro b
      obtain ⟨n, q1, q2⟩ := index_l (S25.f3 x) (by simp only [bigL]; omega) ih _ 0 rfl (by omega)
      rw [List.drop_zero] at q2
      rw [F60_term_shaped_l12_eq, F67_slices_ContainsFunc_68_eq, F70_slices_IndexFunc_68_eq, show F70_slices_IndexFunc_68_l1000002 (S25.f3 x) ((S25.f3 x).length : Int) 0 = _ from q1]
      cases b with
      | false => simp
      | true =>
        simp only [Option.bind_some, if_true, Bool.true_and]
        apply ob_eq
        · intro hh; cases hs : shpL (S25.f3 x) with
          | true => rfl
          | false => have := q2.2 hs; simp at hh; omega
        · intro hh; simp; by_cases c1 : 0 ≤ n
          · rw [q2.1 c1] at hh; cases hh
          · omega
    rw [F60_term_shaped_eq, shp_eq]
    simp only [hb]
    repeat' (refine ite_to (fun _ => ?_) (fun _ => ?_))
    all_goals (refine congrArg (fun b => some (b && shpL (S25.f3 x), ())) (Bool.eq_iff_iff.2 ?_) ; constructor <;> intro hh <;> simp only [one, str_nil_iff] at hh ⊢ <;> simp_all <;> omega)
theorem right_f {x : S25} (h : okT x) : F40_term_Right (S25.f0 x) (S25.f1 x) (S25.f2 x) (S25.f3 x) = some (rightT x, ()) := by
  have h1 := parts_f h 4001 (by omega) (by omega)
  have h2 := deep_f h 13 (by omega) (by omega)
  rw [F40_term_Right_eq, show F58_term_parts (S25.f0 x) (S25.f1 x) (S25.f2 x) (S25.f3 x) 4001 = _ from h1, show F59_term_deep (S25.f0 x) (S25.f1 x) (S25.f2 x) (S25.f3 x) 13 = _ from h2, shaped_f h]
  simp only [Option.bind_some]
  unfold rightT
  by_cases c1 : 4000 < parts x
  · rw [if_pos (by omega), if_pos c1]
  · rw [if_neg (by omega), if_neg c1]
    by_cases c2 : 12 < depth x
    · rw [if_pos (by omega), if_pos c2]
    · rw [if_neg (by omega), if_neg c2]
      cases shp x <;> simp
theorem rright_f {x : S25} (h : okT x) : F35_letheref02_Right (S25.f0 x) (S25.f1 x) (S25.f2 x) (S25.f3 x) = some (rightT x, ()) := by
  have h1 := rparts_f h 4001 (by omega) (by omega)
  have h2 := rdeep_f h 13 (by omega) (by omega)
  rw [F35_letheref02_Right_eq, show F54_letheref02_Parts (S25.f0 x) (S25.f1 x) (S25.f2 x) (S25.f3 x) 4001 = _ from h1, show F55_letheref02_Deep (S25.f0 x) (S25.f1 x) (S25.f2 x) (S25.f3 x) 13 = _ from h2, rshaped_f h]
  simp only [Option.bind_some]
  unfold rightT
  by_cases c1 : 4000 < parts x
  · rw [if_pos (by omega), if_pos c1]
  · rw [if_neg (by omega), if_neg c1]
    by_cases c2 : 12 < depth x
    · rw [if_pos (by omega), if_pos c2]
    · rw [if_neg (by omega), if_neg c2]
      cases shp x <;> simp

theorem u8_mod (n : Int) : IntKind.u8.wrap n = n % 256 := by rw [IntKind.wrap_u8]
theorem write_l (l : List S25) (hl : l.length ≤ bigL) (ih : ∀ y ∈ l, ∀ b : List Int, b.length + (encT y).length ≤ 140737488355328 → F49_term_write (S25.f0 y) (S25.f1 y) (S25.f2 y) (S25.f3 y) b = some (b ++ encT y, ())) : ∀ (d i : Nat) (b : List Int), l.length - i = d → i ≤ l.length → b.length + (encL (l.drop i)).length ≤ 140737488355328 →
    F49_term_write_l1000012 l (l.length : Int) (i : Int) b = some (b ++ encL (l.drop i), ()) := by
  simp only [bigL] at hl
  intro d
  induction d with
  | zero =>
    intro i b hd hi hb
    rw [F49_term_write_l1000012_eq, if_neg (by omega), List.drop_eq_nil_of_le (by omega), encL, List.append_nil]
  | succ d ihd =>
    intro i b hd hi hb
    rw [List.drop_eq_getElem_cons (by omega : i < l.length), encL] at hb ⊢
    rw [List.length_append] at hb
    rw [F49_term_write_l1000012_eq, if_pos (ilt (by omega)), if_pos (inb (by omega)), rd_lt (by omega : i < l.length), ih _ (List.getElem_mem _) b (by omega), Option.bind_some, w64s (n := l.length) (by omega) (by omega), ihd (i + 1) _ (by omega) (by omega) (by rw [List.length_append]; omega), List.append_assoc]
theorem write_eq {x : S25} (h : okT x) : ∀ b : List Int, b.length + (encT x).length ≤ 140737488355328 → F49_term_write (S25.f0 x) (S25.f1 x) (S25.f2 x) (S25.f3 x) b = some (b ++ encT x, ()) := by
  induction h with
  | @mk x h0 h1 h2 h3 h4 h5 ih =>
    intro b hb
    have hu := wf_u64 h1
    obtain ⟨f, hf⟩ : ∃ f : Nat, S25.f1 x = (f : Int) := ⟨(S25.f1 x).toNat, by omega⟩
    rw [encT_eq] at hb ⊢
    generalize hn : S25.f0 x = n at *
    generalize hs : S25.f2 x = s at *
    generalize hL : S25.f3 x = l at *
    rw [hf] at hb ⊢
    rw [List.length_append] at hb
    have W : ∀ (c : List Int), c.length + (encL l).length ≤ 140737488355328 → F49_term_write_l11 c n (f : Int) s l = some (c ++ encL l, ()) := by
      intro c hc
      rw [F49_term_write_l11_eq]
      have := write_l l (by simp only [bigL]; omega) ih _ 0 c rfl (by omega) (by simpa using hc)
      simpa using this
    unfold hd at hb ⊢
    rw [List.length_cons] at hb
    have hz : (f : Int).toNat = f := Int.toNat_natCast f
    rw [hz] at hb ⊢
    have hp1 : ∀ (p : List Int), ((b ++ [n % 256]).length + p.length) * 1 = b.length + 1 + p.length := by intro p; rw [List.length_append, List.length_singleton]; omega
    rw [F49_term_write_eq, u8_mod, if_pos (by rw [List.length_singleton]; omega), put_eq (by omega), wraps_u64 (s.size : Int) (by omega) (by omega), wraps_u64 (l.length : Int) (by omega) (by omega), put_eq (by omega), put_eq (by omega)]
    simp only [Option.bind_some, bytesOf_str (putN_B _)]
    by_cases c1 : n = 1
    · rw [if_pos (Or.inl c1)] at hb ⊢
      rw [if_pos c1, if_pos c1, if_pos (by rw [hp1]; omega), W _ (by simp only [List.length_append, List.length_singleton]; omega)]; simp
    · rw [if_neg c1]
      by_cases c3 : n = 3
      · rw [if_pos (Or.inr (Or.inl c3))] at hb ⊢
        rw [if_pos c3, if_pos c3, if_pos (by rw [hp1]; omega), W _ (by simp only [List.length_append, List.length_singleton]; omega)]; simp
      · rw [if_neg c3]
        by_cases c4 : n = 4
        · rw [if_pos (Or.inr (Or.inr c4))] at hb ⊢
          rw [if_pos c4, if_pos (by rw [hp1]; omega), W _ (by simp only [List.length_append, List.length_singleton]; omega)]; simp
        · have cn : ¬ (n = 1 ∨ n = 3 ∨ n = 4) := by omega
          rw [if_neg cn] at hb ⊢
          rw [if_neg c4]
          by_cases c2 : n = 2
          · rw [if_pos c2] at hb ⊢
            rw [List.length_append, bytesOf_length] at hb
            rw [if_pos c2, if_pos (by rw [hp1]; omega), if_pos (by rw [List.length_append, List.length_append, List.length_singleton, bytesOf_length]; omega), W _ (by simp only [List.length_append, List.length_singleton, bytesOf_length]; omega)]; simp
          · rw [if_neg c2] at hb ⊢
            rw [if_neg c2]
            by_cases c5 : n = 5
            · rw [if_pos c5] at hb ⊢
              rw [if_pos c5, if_pos (by rw [hp1]; omega), W _ (by simp only [List.length_append, List.length_singleton]; omega)]; simp
            · rw [if_neg c5] at hb ⊢
              rw [if_neg c5, W _ (by simp only [List.length_append, List.length_singleton]; simp only [List.length_nil] at hb; omega)]; simp
theorem encode_eq {x : S25} (h : okT x) : F28_term_Encode (S25.f0 x) (S25.f1 x) (S25.f2 x) (S25.f3 x) = some ((encode x).1, (encode x).2, ()) := by
  rw [F28_term_Encode_eq, right_f h, Option.bind_some]
  unfold encode
  by_cases c : rightT x = 0
  · have := right_len h c
    rw [if_neg (fun hh => hh c), if_pos c, write_eq h [] (by simp; omega)]; rfl
  · rw [if_pos c, if_neg c]
theorem okT.rowL {l : List S25} (hl : l.length ≤ 100) (ho : ∀ x ∈ l, okT x) : okT (S25.mk 5 0 ByteArray.empty l) :=
  okT.mk (show (Lit.int .i64 5).wf = true by decide) (show (Lit.int .u64 0).wf = true by decide) (show ByteArray.empty.size ≤ 140737488351232 by decide) (show l.length * 56 ≤ 140737488351232 by omega) (show l.length ≤ maxLen by simp only [maxLen]; omega) ho
theorem okT.box {k : Int} {t : S25} (hk : (Lit.int .u64 k).wf = true) (h : okT t) : okT (S25.mk 4 k ByteArray.empty [t]) :=
  okT.mk (show (Lit.int .i64 4).wf = true by decide) hk (show ByteArray.empty.size ≤ 140737488351232 by decide) (by show 1 * 56 ≤ _; omega) (by show 1 ≤ _; simp [maxLen]) (fun y hy => by rw [T_f3, List.mem_singleton] at hy; rw [hy]; exact h)
theorem right_el {n f : Int} {s : ByteArray} {l : List S25} {x : S25} (h : rightT (S25.mk n f s l) = 0) (hx : x ∈ l) : rightT x = 0 := by
  obtain ⟨h1, h2, h3⟩ := right_is h
  rw [parts_eq, T_f3] at h1
  rw [depth_eq, T_f3] at h2
  rw [shp_mk, Bool.and_eq_true] at h3
  have key : ∀ l : List S25, x ∈ l → parts x ≤ partsL l ∧ depth x ≤ depthL l ∧ (shpL l = true → shp x = true) := by
    intro l
    induction l with
    | nil => intro hx; cases hx
    | cons y l ih =>
      intro hx
      simp only [partsL, depthL, shpL, Bool.and_eq_true]
      cases hx with
      | head => exact ⟨by omega, by omega, fun h => h.1⟩
      | tail _ hx => obtain ⟨q1, q2, q3⟩ := ih hx; exact ⟨by omega, by omega, fun h => q3 h.2⟩
  obtain ⟨q1, q2, q3⟩ := key _ hx
  unfold rightT
  rw [if_neg (by omega), if_neg (by omega), if_pos (q3 h3.2)]
theorem enc_ok {x : S25} (h : okT x) (hr : rightT x = 0) : F28_term_Encode (S25.f0 x) (S25.f1 x) (S25.f2 x) (S25.f3 x) = some (strOf (encT x), 0, ()) := by
  rw [encode_eq h]; unfold encode; rw [if_pos hr]
theorem enc_bad {x : S25} (h : okT x) (hr : rightT x ≠ 0) : F28_term_Encode (S25.f0 x) (S25.f1 x) (S25.f2 x) (S25.f3 x) = some (ByteArray.empty, rightT x, ()) := by
  rw [encode_eq h]; unfold encode; rw [if_neg hr]
theorem rows_l {key : Int} (hk : (Lit.int .u64 key).wf = true) {l : List S25} (hl : l.length ≤ 100) (ho : ∀ x ∈ l, okT x) (hr : rightT (S25.mk 5 0 ByteArray.empty l) = 0) : ∀ (n i : Nat) (c : List Int), l.length - i = n → i ≤ l.length → c ++ encL (l.drop i) = encT (S25.mk 5 0 ByteArray.empty l) →
    F9_lethelaw02_TermRows_l1000011 key (strOf (encT (S25.mk 5 0 ByteArray.empty l))) (strOf c) l (l.length : Int) (i : Int) 5 0 ByteArray.empty l = some (true, ()) := by
  have hR := okT.rowL hl ho
  have hlen := right_len hR hr
  have hB := okT.box hk hR
  have hu := wf_u64 hk
  intro n
  induction n with
  | zero =>
    intro i c hn hi hc
    rw [List.drop_eq_nil_of_le (by omega), encL, List.append_nil] at hc
    rw [F9_lethelaw02_TermRows_l1000011_eq, if_neg (by omega), hc, show F35_letheref02_Right 4 key ByteArray.empty [S25.mk 5 0 ByteArray.empty l] = _ from rright_f hB]
    have hs : F30_term_Size 5 0 ByteArray.empty l = some (((strOf (encT (S25.mk 5 0 ByteArray.empty l))).size : Int), 0, ()) := by
      rw [F30_term_Size_eq, show F28_term_Encode 5 0 ByteArray.empty l = _ from enc_ok hR hr]; rfl
    rw [hs]
    by_cases c1 : rightT (S25.mk 4 key ByteArray.empty [S25.mk 5 0 ByteArray.empty l]) = 0
    · rw [show F28_term_Encode 4 key ByteArray.empty [S25.mk 5 0 ByteArray.empty l] = _ from enc_ok hB c1]
      obtain ⟨k, hkk⟩ : ∃ k : Nat, key = (k : Int) := ⟨key.toNat, by omega⟩
      have e4 : ByteArray.mk #[4] = strOf [4] := by decide
      have hp := putN_len10 (n := k) (by omega)
      have ht : strOf [4] ++ strOf (putN k) ++ strOf (encT (S25.mk 5 0 ByteArray.empty l)) = strOf (encT (S25.mk 4 key ByteArray.empty [S25.mk 5 0 ByteArray.empty l])) := by
        rw [← str_append, ← str_append, encT_mk 4, hd, encL, encL, hkk]
        simp
      rw [hkk, put_eq (by omega), ← hkk]
      simp only [Option.bind_some, c1, not_true_eq_false, if_false, if_true, e4]
      rw [if_pos (by rw [size_str, size_str]; simp; omega), if_pos (by rw [← str_append, size_str, size_str]; simp; omega), ht]
      simp
    · rw [show F28_term_Encode 4 key ByteArray.empty [S25.mk 5 0 ByteArray.empty l] = _ from enc_bad hB c1]
      simp [c1]
  | succ n ih =>
    intro i c hn hi hc
    have hx := ho l[i] (List.getElem_mem _)
    have hxr := right_el hr (List.getElem_mem (by omega : i < l.length))
    rw [List.drop_eq_getElem_cons (by omega : i < l.length), encL, ← List.append_assoc] at hc
    have hcl := congrArg List.length hc
    rw [List.length_append, List.length_append] at hcl
    rw [F9_lethelaw02_TermRows_l1000011_eq, if_pos (ilt (by omega)), if_pos (inb (by omega)), rd_lt (by omega : i < l.length), enc_ok hx hxr, Option.bind_some, if_neg (by simp), w64s (n := l.length) (by omega) (by omega)]
    simp only []
    rw [if_pos (by rw [size_str, size_str]; omega), ← str_append]
    exact ih (i + 1) _ (by omega) (by omega) hc
theorem rows_eq {key : Int} (hk : (Lit.int .u64 key).wf = true) {l : List S25} (hl : l.length ≤ 100) (ho : ∀ x ∈ l, okT x) :
      ((F17_term_Of l).bind fun y6 =>
      (F28_term_Encode y6.1 y6.2.1 y6.2.2.1 y6.2.2.2.1).bind fun y7 =>
      (F35_letheref02_Right y6.1 y6.2.1 y6.2.2.1 y6.2.2.2.1).bind fun y8 =>
      if ¬ y7.2.1 = y8.1 then
        some (false, ())
      else
        if ¬ y7.2.1 = (0 : Int) then
          some ((decide (y7.1 = ByteArray.empty)), ())
        else
          (F24_term_PutNum (IntKind.u64.wrap (List.length l : Int))).bind fun y9 =>
          if ByteArray.size (ByteArray.mk #[5]) + ByteArray.size y9.1 ≤ 9223372036854775807 then
            F9_lethelaw02_TermRows_l1000011 key y7.1 ((ByteArray.mk #[5]) ++ y9.1) l (List.length l : Int) 0 y6.1 y6.2.1 y6.2.2.1 y6.2.2.2.1
          else
            none) = some (true, ()) := by
  have hR := okT.rowL hl ho
  have hof : F17_term_Of l = some (5, 0, ByteArray.empty, l, ()) := by
    rw [F17_term_Of_eq, show F46_term_clone 5 0 ByteArray.empty l = _ from clone_eq hR.tn]; rfl
  rw [hof]
  simp only [Option.bind_some]
  rw [show F35_letheref02_Right 5 0 ByteArray.empty l = _ from rright_f hR]
  by_cases c1 : rightT (S25.mk 5 0 ByteArray.empty l) = 0
  · rw [show F28_term_Encode 5 0 ByteArray.empty l = _ from enc_ok hR c1, wraps_u64 _ (by omega) (by omega), put_eq (by omega)]
    have hp := putN_len10 (n := l.length) (by omega)
    have e5 : ByteArray.mk #[5] = strOf [5] := by decide
    simp only [Option.bind_some, c1, not_true_eq_false, if_false, e5]
    rw [if_pos (by rw [size_str, size_str]; simp; omega), ← str_append]
    exact rows_l hk hl ho c1 _ 0 _ rfl (by omega) (by rw [encT_mk, hd]; simp)
  · rw [show F28_term_Encode 5 0 ByteArray.empty l = _ from enc_bad hR c1]
    simp [c1]
theorem law (l : List S25) (key : Int) (h : Ok tab Pr (.sl 25 (.st 25)) l) (hk : Ok tab Pr (.int .u64) key) : F9_lethelaw02_TermRows l key = some (true, ()) := by
  have hall : okT (S25.mk 5 0 ByteArray.empty l) := okT_of _ _ (Nat.lt_succ_self _) (.int _ _ (by show (Lit.int .i64 5).wf = true; decide)) (.int _ _ (by show (Lit.int .u64 0).wf = true; decide)) (.str _ (by show ByteArray.empty.size ≤ 140737488351232; decide)) h
  have ho : ∀ x ∈ l, okT x := hall.el
  rw [F9_lethelaw02_TermRows_eq]
  by_cases c1 : (100 : Int) < (l.length : Int)
  · rw [if_pos c1, if_pos (by omega), show subL l 0 100 = l.take 100 from subL_take l rfl]
    exact rows_eq (Ok.inv hk) (by rw [List.length_take]; omega) (fun x hx => ho x (List.mem_of_mem_take hx))
  · rw [if_neg c1]
    exact rows_eq (Ok.inv hk) (by omega) ho

end
end Go.Proofs.Ytopfdggagijdkaa.TermRowsp
