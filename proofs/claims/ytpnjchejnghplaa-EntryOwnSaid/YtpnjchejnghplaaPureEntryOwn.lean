/- The law EntryOwn, for all arguments. Under no condition. -/
import Derived.Test.YtpnjchejnghplaaEEntryOwn
import Derived.Laws.BitsLemmas
import Derived.Laws.Bits64
set_option linter.unusedVariables false
set_option linter.unusedSimpArgs false
namespace Go.Proofs.Ytpnjchejnghplaa.EntryOwnp
open Go Go.RowKit Go.Proofs.Ytpnjchejnghplaa.Rx Go.Proofs.Ytpnjchejnghplaa.EntryOwnx
noncomputable section
theorem w64 {n : Int} (h0 : -9223372036854775808 ≤ n) (h1 : n ≤ 9223372036854775807) : IntKind.i64.wrap n = n := by rw [IntKind.wrap_i64]; omega
theorem w64s {j n : Nat} (h : j < n) (hn : n ≤ 9223372036854775807) : IntKind.i64.wrap ((j : Int) + 1) = ((j + 1 : Nat) : Int) := by rw [w64 (by omega) (by omega)]; omega
theorem w64p {j : Nat} (h : 0 < j) (hn : j ≤ 9223372036854775807) : IntKind.i64.wrap ((j : Int) - 1) = ((j - 1 : Nat) : Int) := by rw [w64 (by omega) (by omega)]; omega
theorem sl_len {e : TypeId} {t : Ty} {xs : List (den tab.S t)} (h : Ok tab Pr (.sl e t) xs) : xs.length ≤ 9223372036854775807 := by
  have := (Ok.inv h).2.1
  simp only [maxLen] at this
  omega
theorem ite_to {α : Type} {p : Prop} [Decidable p] {a b c : α} (h1 : p → a = c) (h2 : ¬ p → b = c) : (if p then a else b) = c := by
  by_cases h : p
  · rw [if_pos h]; exact h1 h
  · rw [if_neg h]; exact h2 h
theorem ob_eq {a b : Bool} (h1 : a = true → b = true) (h2 : b = true → a = true) : (some (a, ()) : Option (Bool × Unit)) = some (b, ()) := by rw [Bool.eq_iff_iff.2 ⟨h1, h2⟩]
theorem oi_eq {a b : Int} (h : a = b) : (some (a, ()) : Option (Int × Unit)) = some (b, ()) := by rw [h]
theorem rd_lt {α : Type} {z : α} {xs : List α} {i : Nat} (h : i < xs.length) : rd z xs (i : Int) = xs[i] := by simp [rd, h]
theorem drop_rd {α : Type} {z : α} {xs : List α} {i : Nat} (h : i < xs.length) : xs.drop i = rd z xs (i : Int) :: xs.drop (i + 1) := by rw [rd_lt h]; exact List.drop_eq_getElem_cons h
theorem inb {i n : Nat} (h : i < n) : (0 : Int) ≤ (i : Int) ∧ (i : Int) < (n : Int) := by omega
theorem ilt {i n : Nat} (h : i < n) : (i : Int) < (n : Int) := by omega
theorem subL_drop {α : Type} (xs : List α) {l : Int} {k : Nat} (h : l = (k : Int)) : subL xs l (xs.length : Int) = xs.drop k := by simp [subL, h]
theorem subL_take {α : Type} (xs : List α) {l : Int} {k : Nat} (h : l = (k : Int)) : subL xs 0 l = xs.take k := by simp [subL, h]

def quotaOk (a b c d e f g : Int) : Bool := decide (1 ≤ a ∧ a ≤ 64 ∧ 1 ≤ b ∧ b ≤ 16 ∧ 0 ≤ c ∧ c ≤ 32 ∧ 0 ≤ d ∧ d ≤ 16 ∧ 1 ≤ e ∧ e ≤ 4 ∧ 1 ≤ f ∧ f ≤ 8 ∧ 0 ≤ g ∧ g ≤ 32)
theorem q04 (a b c d e f g : Int) : F37_letheref04_Right a b c d e f g = some (quotaOk a b c d e f g, ()) := by
  rw [F37_letheref04_Right_eq]
  simp only [F37_letheref04_Right_l2_eq]
  repeat' (refine ite_to (fun _ => ?_) (fun _ => ?_))
  all_goals (apply ob_eq <;> intro hh <;> simp only [quotaOk, decide_eq_true_eq, Bool.false_eq_true] at hh ⊢ <;> omega)
theorem qin (x a b : Int) : F41_quota_in x a b = some (decide (a ≤ x ∧ x ≤ b), ()) := by
  rw [F41_quota_in_eq]
  refine ite_to (fun _ => ?_) (fun _ => ?_)
  all_goals (apply ob_eq <;> intro hh <;> simp only [decide_eq_true_eq, Bool.false_eq_true] at hh ⊢ <;> omega)
theorem q66 (a b c d e f g : Int) : F38_quota_Right a b c d e f g = some ((if quotaOk a b c d e f g = true then 0 else 40), ()) := by
  rw [F38_quota_Right_eq]
  simp only [F38_quota_Right_l3_eq, qin, Option.bind_some, decide_eq_true_eq]
  repeat' (refine ite_to (fun _ => ?_) (fun _ => ?_))
  · rw [if_pos (by simp only [quotaOk, decide_eq_true_eq]; omega)]
  all_goals rw [if_neg (by simp only [quotaOk, decide_eq_true_eq]; omega)]

/-! ### entries: what may be -/
def tooBig (c d : Int) (s t : ByteArray) : Int := if c < (s.size : Int) then 5 else if d < (t.size : Int) then 5 else 0
theorem tooBig_05 (c d : Int) (s t : ByteArray) : tooBig c d s t = 0 ∨ tooBig c d s t = 5 := by
  unfold tooBig; by_cases h1 : c < (s.size : Int) <;> by_cases h2 : d < (t.size : Int) <;> simp [h1, h2]
def versV (c d : Int) : Int → List S26 → Int
  | _, [] => 0
  | v, y :: ys => if S26.f0 y ≤ v then 50 else if 1073741824 < S26.f0 y then 50 else if tooBig c d (S26.f1 y) (S26.f2 y) = 0 then versV c d (S26.f0 y) ys else tooBig c d (S26.f1 y) (S26.f2 y)
theorem versV_cons (c d v : Int) (y : S26) (ys : List S26) : versV c d v (y :: ys) = if S26.f0 y ≤ v then 50 else if 1073741824 < S26.f0 y then 50 else if tooBig c d (S26.f1 y) (S26.f2 y) = 0 then versV c d (S26.f0 y) ys else tooBig c d (S26.f1 y) (S26.f2 y) := rfl
def namedV (a b c d e f g : Int) (s : ByteArray) (xs : List S26) : Int :=
  if quotaOk a b c d e f g = true then if s = ByteArray.empty then 4 else if b < (s.size : Int) then 5 else if e < (xs.length : Int) then 50 else versV c d 0 xs else 40
theorem texts_eq (a b c d e f g : Int) (s t : ByteArray) : F39_entry_texts a b c d e f g s t = some (tooBig c d s t, ()) := by
  rw [F39_entry_texts_eq]
  unfold tooBig
  repeat' (refine ite_to (fun h => ?_) (fun h => ?_))
  · rw [if_pos h]
  · rw [if_neg (by assumption), if_pos (by assumption)]
  · rw [if_neg (by assumption), if_neg (by assumption)]
theorem named_l (a b c d e f g : Int) (xs : List S26) (hx : xs.length ≤ 9223372036854775807) : ∀ (n i : Nat) (v : Int), xs.length - i = n → i ≤ xs.length →
    F34_entry_named_l1000011 v xs (xs.length : Int) (i : Int) a b c d e f g = some (versV c d v (xs.drop i), ()) := by
  intro n
  induction n with
  | zero =>
    intro i v hn hi
    rw [F34_entry_named_l1000011_eq, if_neg (by omega), List.drop_of_length_le (by omega)]; rfl
  | succ n ih =>
    intro i v hn hi
    rw [F34_entry_named_l1000011_eq, if_pos (ilt (by omega)), if_pos (inb (by omega)), texts_eq, Option.bind_some, drop_rd (z := S26.z) (by omega : i < xs.length), w64s (n := xs.length) (by omega) hx, ih (i + 1) _ (by omega) (by omega)]
    generalize rd S26.z xs (i : Int) = y
    rw [versV_cons]
    refine ite_to (fun h1 => by rw [if_pos h1]) (fun h1 => ?_)
    rw [if_neg h1]
    refine ite_to (fun h2 => by rw [if_pos h2]) (fun h2 => ?_)
    rw [if_neg h2]
    refine ite_to (fun h3 => by rw [if_neg h3]) (fun h3 => ?_)
    rw [if_pos (Decidable.not_not.1 h3)]
theorem ref_l (a b c d e f g : Int) (s : ByteArray) (xs : List S26) (hx : xs.length ≤ 9223372036854775807) : ∀ (n i : Nat) (v : Int), xs.length - i = n → i ≤ xs.length → (i = 0 → v = 0) → (0 < i → v = S26.f0 (rd S26.z xs ((i - 1 : Nat) : Int)) ∧ 1 ≤ v) →
    F32_letheref05_Named_l1000010 xs (xs.length : Int) (i : Int) a b c d e f g s xs = some (versV c d v (xs.drop i), ()) := by
  intro n
  induction n with
  | zero =>
    intro i v hn hi h0 h1
    rw [F32_letheref05_Named_l1000010_eq, if_neg (by omega), List.drop_of_length_le (by omega)]; rfl
  | succ n ih =>
    intro i v hn hi h0 h1
    rw [F32_letheref05_Named_l1000010_eq, if_pos (ilt (by omega)), if_pos (inb (by omega)), F32_letheref05_Named_l15_eq, drop_rd (z := S26.z) (by omega : i < xs.length), w64s (n := xs.length) (by omega) hx]
    generalize hy : rd S26.z xs (i : Int) = y
    rw [versV_cons]
    by_cases c1 : S26.f0 y < 1
    · rw [if_pos c1, if_pos]
      rcases Nat.eq_zero_or_pos i with q | q
      · rw [h0 q]; omega
      · have := (h1 q).2; omega
    · rw [if_neg c1]
      by_cases c2 : S26.f0 y ≤ v
      · rw [if_pos c2]
        refine ite_to (fun _ => rfl) (fun _ => ?_)
        rcases Nat.eq_zero_or_pos i with q | q
        · have := h0 q; omega
        · rw [if_pos (by omega), w64p q (by omega), if_pos (inb (by omega)), ← (h1 q).1, if_pos c2]
      · rw [if_neg c2]
        by_cases c3 : (1073741824 : Int) < S26.f0 y
        · rw [if_pos c3, if_pos c3]
        · rw [if_neg c3, if_neg c3, ih (i + 1) (S26.f0 y) (by omega) (by omega) (fun q => by omega) (fun _ => ⟨by rw [← hy]; rfl, by omega⟩)]
          have hr : (if c < ((S26.f1 y).size : Int) then some ((5 : Int), ()) else if d < ((S26.f2 y).size : Int) then some (5, ()) else some (versV c d (S26.f0 y) (xs.drop (i + 1)), ())) = some (if tooBig c d (S26.f1 y) (S26.f2 y) = 0 then versV c d (S26.f0 y) (xs.drop (i + 1)) else tooBig c d (S26.f1 y) (S26.f2 y), ()) := by
            unfold tooBig
            by_cases c4 : c < ((S26.f1 y).size : Int)
            · simp [c4]
            · by_cases c5 : d < ((S26.f2 y).size : Int)
              · simp [c4, c5]
              · simp [c4, c5]
          rcases Nat.eq_zero_or_pos i with q | q
          · rw [if_neg (by omega)]; exact hr
          · rw [if_pos (by omega), w64p q (by omega), if_pos (inb (by omega)), ← (h1 q).1, if_neg c2]; exact hr
theorem named_eq (a b c d e f g : Int) (s : ByteArray) (xs : List S26) (hx : xs.length ≤ 9223372036854775807) : F34_entry_named a b c d e f g s xs = some (namedV a b c d e f g s xs, ()) := by
  rw [F34_entry_named_eq, q66, Option.bind_some]
  unfold namedV
  cases quotaOk a b c d e f g with
  | false => simp
  | true =>
    simp only [if_true, not_true_eq_false, if_false]
    repeat' (refine ite_to (fun h => ?_) (fun h => ?_))
    · rw [if_pos h]
    · rw [if_neg (by assumption), if_pos h]
    · rw [if_neg (by assumption), if_neg (by assumption), if_pos h]
    · rw [if_neg (by assumption), if_neg (by assumption), if_neg h]
      exact named_l a b c d e f g xs hx xs.length 0 0 (by omega) (by omega)
theorem rnamed_eq (a b c d e f g : Int) (s : ByteArray) (xs : List S26) (hx : xs.length ≤ 9223372036854775807) : F32_letheref05_Named a b c d e f g s xs = some (namedV a b c d e f g s xs, ()) := by
  rw [F32_letheref05_Named_eq, q04, Option.bind_some]
  unfold namedV
  cases quotaOk a b c d e f g with
  | false => simp
  | true =>
    simp only [if_true, Bool.not_true, Bool.false_eq_true, if_false]
    repeat' (refine ite_to (fun h => ?_) (fun h => ?_))
    · rw [if_pos h]
    · rw [if_neg (by assumption), if_pos h]
    · rw [if_neg (by assumption), if_neg (by assumption), if_pos h]
    · rw [if_neg (by assumption), if_neg (by assumption), if_neg h]
      exact ref_l a b c d e f g s xs hx xs.length 0 0 (by omega) (by omega) (fun _ => rfl) (fun q => by omega)

/-! ### a version put behind the others -/
theorem clone_eq (xs : List S26) (h : xs.length ≤ 100) : F40_slices_Clone xs = some (xs, ()) := by
  rw [F40_slices_Clone_eq]
  refine ite_to (fun h0 => ?_) (fun h0 => ?_)
  · rw [if_pos (by omega), List.nil_append, List.eq_nil_of_length_eq_zero h0, anyO_self]
  · rw [if_pos (by omega), List.nil_append]
/-- What is known of versions that may be. -/
theorem vers_last (c d : Int) : ∀ (xs : List S26) (v : Int), versV c d v xs = 0 → 0 ≤ v → v ≤ 1073741824 → ∀ y ∈ xs, v < S26.f0 y ∧ S26.f0 y ≤ 1073741824
  | [], _, _, _, _, y, hy => by cases hy
  | x :: xs, v, h, h0, h1, y, hy => by
    rw [versV_cons] at h
    by_cases c1 : S26.f0 x ≤ v
    · rw [if_pos c1] at h; omega
    · rw [if_neg c1] at h
      by_cases c2 : 1073741824 < S26.f0 x
      · rw [if_pos c2] at h; omega
      · rw [if_neg c2] at h
        by_cases c3 : tooBig c d (S26.f1 x) (S26.f2 x) = 0
        · rw [if_pos c3] at h
          cases hy with
          | head => omega
          | tail _ hy => have := vers_last c d xs _ h (by omega) (by omega) y hy; omega
        · rw [if_neg c3] at h; exact absurd h c3
def lastNo (xs : List S26) : Int := match xs.getLast? with | none => 0 | some y => S26.f0 y
theorem lastNo_rd {xs : List S26} (h : 0 < xs.length) : lastNo xs = S26.f0 (rd S26.z xs ((xs.length - 1 : Nat) : Int)) := by
  rw [rd_lt (by omega), lastNo, List.getLast?_eq_getElem?, List.getElem?_eq_getElem (by omega)]
theorem lastNo_nil {xs : List S26} (h : xs.length = 0) : lastNo xs = 0 := by rw [List.eq_nil_of_length_eq_zero h]; rfl
/-- What is known where a version may be put. -/
structure May (a b c d e f g : Int) (s : ByteArray) (xs : List S26) : Prop where
  hq : quotaOk a b c d e f g = true
  hs : s ≠ ByteArray.empty
  hb : (s.size : Int) ≤ b
  he : (xs.length : Int) ≤ e
  hv : versV c d 0 xs = 0
theorem May.e4 {a b c d e f g : Int} {s : ByteArray} {xs : List S26} (h : May a b c d e f g s xs) : 1 ≤ e ∧ e ≤ 4 := by have := h.hq; simp only [quotaOk, decide_eq_true_eq] at this; omega
theorem May.n4 {a b c d e f g : Int} {s : ByteArray} {xs : List S26} (h : May a b c d e f g s xs) : xs.length ≤ 4 := by have := h.e4; have := h.he; omega
theorem May.last {a b c d e f g : Int} {s : ByteArray} {xs : List S26} (h : May a b c d e f g s xs) : 0 ≤ lastNo xs ∧ lastNo xs ≤ 1073741824 := by
  rcases Nat.eq_zero_or_pos xs.length with q | q
  · rw [lastNo_nil q]; omega
  · rw [lastNo_rd q, rd_lt (by omega)]
    have := vers_last c d xs 0 h.hv (by omega) (by omega) xs[xs.length - 1] (List.getElem_mem _)
    omega
theorem may_of {a b c d e f g : Int} {s : ByteArray} {xs : List S26} (h : namedV a b c d e f g s xs = 0) : May a b c d e f g s xs := by
  unfold namedV at h
  by_cases c1 : quotaOk a b c d e f g = true
  · rw [if_pos c1] at h
    by_cases c2 : s = ByteArray.empty
    · rw [if_pos c2] at h; omega
    · rw [if_neg c2] at h
      by_cases c3 : b < (s.size : Int)
      · rw [if_pos c3] at h; omega
      · rw [if_neg c3] at h
        by_cases c4 : e < (xs.length : Int)
        · rw [if_pos c4] at h; omega
        · rw [if_neg c4] at h; exact ⟨c1, c2, by omega, by omega, h⟩
  · rw [if_neg c1] at h; omega
theorem named_of {a b c d e f g : Int} {s : ByteArray} {xs : List S26} (h : May a b c d e f g s xs) : namedV a b c d e f g s xs = 0 := by
  unfold namedV
  have := h.hb; have := h.he
  rw [if_pos h.hq, if_neg h.hs, if_neg (by omega), if_neg (by omega)]
  exact h.hv
theorem last_eq (s : ByteArray) (xs : List S26) (h : xs.length ≤ 100) : ∃ t u w, F13_entry_Last s xs = some (lastNo xs, t, u, w, ()) := by
  rw [F13_entry_Last_eq]
  by_cases c1 : xs.length = 0
  · rw [if_pos (by omega), lastNo_nil c1]; exact ⟨_, _, _, rfl⟩
  · rw [if_neg (by omega), w64p (by omega) (by omega), if_pos (inb (by omega)), lastNo_rd (by omega)]; exact ⟨_, _, _, rfl⟩
def newV (xs : List S26) (t u : ByteArray) : S26 := S26.mk (lastNo xs + 1) t u
def allV (xs : List S26) (t u : ByteArray) : List S26 := xs ++ [newV xs t u]
def gone (xs : List S26) (k : Int) : Nat := ((xs.length : Int) + 1 - k).toNat
/-- Why nothing can be put. -/
def badV (a b c d e f g : Int) (s : ByteArray) (xs : List S26) (t u : ByteArray) : Int := if namedV a b c d e f g s xs = 0 then (if tooBig c d t u = 0 then (if lastNo xs = 1073741824 then 2 else 0) else tooBig c d t u) else namedV a b c d e f g s xs
theorem radd_l (xs : List S26) (t u : ByteArray) (k no : Int) (w s : ByteArray) (o o' : Int) (ga gb : List S26) (h4 : xs.length ≤ 4) (hk : 1 ≤ k ∧ k ≤ 4) : ∀ (n i : Nat), xs.length - i = n → i ≤ xs.length →
    F36_letheref05_add_l1000014 t u k no (xs.length : Int) xs (xs.length : Int) (i : Int) w o s o' ga gb ((xs.drop (gone xs k)).take (i - gone xs k)) ((xs.take (gone xs k)).take i) = some (s, xs.drop (gone xs k) ++ [S26.mk no t u], xs.take (gone xs k), o', ()) := by
  intro n
  have hgl : gone xs k ≤ xs.length := by unfold gone; omega
  have hgd : (gone xs k : Int) = 0 ∧ (xs.length : Int) + 1 ≤ k ∨ (gone xs k : Int) = (xs.length : Int) + 1 - k := by unfold gone; omega
  induction n with
  | zero =>
    intro i hn hi
    have hi : i = xs.length := by omega
    rw [F36_letheref05_add_l1000014_eq, if_neg (by omega), List.take_of_length_le (by rw [List.length_drop]; omega), List.take_of_length_le (i := i) (by rw [List.length_take]; omega), if_pos (by rw [List.length_drop, List.length_singleton]; omega)]
  | succ n ih =>
    intro i hn hi
    have hr : [S26.mk (S26.f0 (rd S26.z xs (i : Int))) (S26.f1 (rd S26.z xs (i : Int))) (S26.f2 (rd S26.z xs (i : Int)))] = [xs[i]] := by rw [rd_lt (by omega)]
    rw [F36_letheref05_add_l1000014_eq, if_pos (ilt (by omega)), if_pos (inb (by omega))]
    simp only [hr]
    rw [w64 (n := (xs.length : Int) + 1) (by omega) (by omega), w64 (n := (xs.length : Int) + 1 - (i : Int)) (by omega) (by omega), w64s (n := xs.length) (by omega) (by omega)]
    by_cases c1 : k < (xs.length : Int) + 1 - (i : Int)
    · rw [if_pos c1, if_pos (by simp only [List.length_take, List.length_singleton]; omega)]
      have := ih (i + 1) (by omega) (by omega)
      have e1 : i + 1 - gone xs k = i - gone xs k := by omega
      have e2 : (xs.take (gone xs k)).take (i + 1) = (xs.take (gone xs k)).take i ++ [xs[i]] := by
        rw [List.take_take, List.take_take, Nat.min_eq_left (by omega), Nat.min_eq_left (by omega), List.take_add_one, List.getElem?_eq_getElem (by omega)]; rfl
      rw [e1, e2] at this
      exact this
    · rw [if_neg c1, if_pos (by simp only [List.length_take, List.length_drop, List.length_singleton]; omega)]
      have := ih (i + 1) (by omega) (by omega)
      have e1 : (xs.take (gone xs k)).take (i + 1) = (xs.take (gone xs k)).take i := by
        rw [List.take_take, List.take_take, Nat.min_eq_right (by omega), Nat.min_eq_right (by omega)]
      have e2 : (xs.drop (gone xs k)).take (i + 1 - gone xs k) = (xs.drop (gone xs k)).take (i - gone xs k) ++ [xs[i]] := by
        rw [show i + 1 - gone xs k = (i - gone xs k) + 1 by omega, List.take_add_one, List.getElem?_drop, show gone xs k + (i - gone xs k) = i by omega, List.getElem?_eq_getElem (by omega)]; rfl
      rw [e1, e2] at this
      exact this
theorem radd_eq (a b c d e f g : Int) (s : ByteArray) (xs : List S26) (t u : ByteArray) (k : Int) (hx : xs.length ≤ 9223372036854775807) (hk : k = 1 ∨ k = e) :
    F36_letheref05_add a b c d e f g s xs t u k = if badV a b c d e f g s xs t u = 0 then some (s, (allV xs t u).drop (gone xs k), (allV xs t u).take (gone xs k), 0, ()) else some (ByteArray.empty, [], [], badV a b c d e f g s xs t u, ()) := by
  rw [F36_letheref05_add_eq, rnamed_eq _ _ _ _ _ _ _ _ _ hx, Option.bind_some]
  unfold badV
  by_cases c1 : namedV a b c d e f g s xs = 0
  · have m := may_of c1
    have h4 := m.n4
    have hl := m.last
    have he := m.e4
    have hgl : gone xs k ≤ xs.length := by unfold gone; omega
    rw [if_neg (by simp [c1]), if_pos c1]
    have ht : (if tooBig c d t u = 0 then (if lastNo xs = 1073741824 then (2 : Int) else 0) else tooBig c d t u) = if c < (t.size : Int) then 5 else if d < (u.size : Int) then 5 else if lastNo xs = 1073741824 then 2 else 0 := by
      unfold tooBig
      by_cases h1 : c < (t.size : Int) <;> by_cases h2 : d < (u.size : Int) <;> simp [h1, h2]
    rw [ht]
    refine ite_to (fun h1 => ?_) (fun h1 => ?_)
    · simp [h1]
    · rw [if_neg h1]
      refine ite_to (fun h2 => ?_) (fun h2 => ?_)
      · simp [h2]
      · rw [if_neg h2]
        have hz := radd_l xs t u k (lastNo xs + 1) ByteArray.empty s 0 0 [] [] h4 (by omega) xs.length 0 (by omega) (by omega)
        rw [Nat.zero_sub, List.take_zero, List.take_zero] at hz
        have hd : (allV xs t u).drop (gone xs k) = xs.drop (gone xs k) ++ [S26.mk (lastNo xs + 1) t u] := by rw [allV, List.drop_append_of_le_length hgl]; rfl
        have hk : (allV xs t u).take (gone xs k) = xs.take (gone xs k) := by rw [allV, List.take_append_of_le_length hgl]
        rw [hd, hk]
        by_cases c3 : xs.length = 0
        · have h0 := lastNo_nil c3
          have hb : (if lastNo xs = 1073741824 then (2 : Int) else 0) = 0 := by rw [if_neg (by omega)]
          rw [hb, if_pos rfl, if_neg (by omega)]
          rw [h0] at hz ⊢
          exact hz
        · rw [if_pos (by omega), w64p (by omega) (by omega), if_pos (inb (by omega)), ← lastNo_rd (by omega)]
          simp only [show IntKind.i64.wrap (lastNo xs + 1) = lastNo xs + 1 from w64 (by omega) (by omega)]
          by_cases h3 : lastNo xs = 1073741824
          · simp [h3]
          · rw [if_neg (by omega), if_neg h3, if_pos rfl]
            exact hz
  · rw [if_pos c1, if_neg c1, if_neg c1]

/-! ### alike -/
instance : DecidableEq S26 := fun x y => decidable_of_iff (x.f0 = y.f0 ∧ x.f1 = y.f1 ∧ x.f2 = y.f2) ⟨fun h => by obtain ⟨x0, x1, x2⟩ := x; obtain ⟨y0, y1, y2⟩ := y; simp_all, fun h => by rw [h]; exact ⟨rfl, rfl, rfl⟩⟩
theorem like_l (xs ys : List S26) (hx : xs.length ≤ 9223372036854775807) (hl : xs.length = ys.length) : ∀ (n i : Nat), xs.length - i = n → i ≤ xs.length →
    F30_letheref05_LikeVersions_l1000004 xs ys (xs.length : Int) (i : Int) = some (decide (xs.drop i = ys.drop i), ()) := by
  intro n
  induction n with
  | zero =>
    intro i hn hi
    rw [F30_letheref05_LikeVersions_l1000004_eq, if_neg (by omega), List.drop_of_length_le (by omega), List.drop_of_length_le (by omega)]; rfl
  | succ n ih =>
    intro i hn hi
    rw [F30_letheref05_LikeVersions_l1000004_eq, if_pos (ilt (by omega)), if_pos (inb (by omega)), if_pos (inb (by omega)), drop_rd (z := S26.z) (by omega : i < xs.length), drop_rd (z := S26.z) (by omega : i < ys.length), w64s (n := xs.length) (by omega) hx, ih (i + 1) (by omega) (by omega)]
    generalize rd S26.z xs (i : Int) = x
    generalize rd S26.z ys (i : Int) = y
    by_cases c1 : x = y
    · rw [if_neg (by simp [c1])]; simp [c1]
    · rw [if_pos (by intro hh; apply c1; obtain ⟨x0, x1, x2⟩ := x; obtain ⟨y0, y1, y2⟩ := y; simp_all)]; simp [c1]
theorem like_eq (xs ys : List S26) (hx : xs.length ≤ 9223372036854775807) : F30_letheref05_LikeVersions xs ys = some (decide (xs = ys), ()) := by
  rw [F30_letheref05_LikeVersions_eq]
  by_cases c1 : xs.length = ys.length
  · rw [if_neg (by omega)]
    have := like_l xs ys hx c1 xs.length 0 (by omega) (by omega)
    simpa using this
  · rw [if_pos (by omega), decide_eq_false (fun h => c1 (by rw [h]))]

theorem addO_eq (a b c d e f g : Int) (s : ByteArray) (xs : List S26) (t u : ByteArray) (k : Int) (hx : xs.length ≤ 9223372036854775807) (hk : k = 1 ∨ k = e) :
    F35_entry_add a b c d e f g s xs t u k = if badV a b c d e f g s xs t u = 0 then some (s, 0, (allV xs t u).drop (gone xs k), (allV xs t u).take (gone xs k), ()) else some (ByteArray.empty, badV a b c d e f g s xs t u, [], [], ()) := by
  rw [F35_entry_add_eq, named_eq _ _ _ _ _ _ _ _ _ hx, Option.bind_some]
  unfold badV
  by_cases c1 : namedV a b c d e f g s xs = 0
  · have m := may_of c1
    have h4 := m.n4
    have hl := m.last
    have he := m.e4
    obtain ⟨p1, p2, p3, p4⟩ := last_eq s xs (by omega)
    rw [if_pos c1, if_pos c1, texts_eq, Option.bind_some]
    by_cases c2 : tooBig c d t u = 0
    · rw [if_pos c2, if_neg (by simp [c2]), p4, Option.bind_some]
      by_cases c3 : lastNo xs = 1073741824
      · rw [if_pos c3, if_pos c3, if_neg (by omega)]
      · rw [if_neg c3, if_neg c3, if_pos rfl, clone_eq xs (by omega), Option.bind_some]
        have hw : IntKind.i64.wrap (lastNo xs + 1) = lastNo xs + 1 := w64 (by omega) (by omega)
        have hn : (xs ++ [newV xs t u]).length = xs.length + 1 := by simp
        simp only [hw]
        rw [show [S26.mk (lastNo xs + 1) t u] = [newV xs t u] from rfl]
        have hg : mx 0 (IntKind.i64.wrap (((xs ++ [newV xs t u]).length : Int) - k)) = (gone xs k : Int) := by
          rw [hn, w64 (by omega) (by omega)]; unfold mx gone; split <;> omega
        have hgl : gone xs k ≤ xs.length := by unfold gone; omega
        simp only [hg]
        rw [if_pos (by simp; omega), if_pos (by omega), subL_drop _ rfl, subL_take _ rfl, clone_eq _ (by rw [List.length_drop]; omega), Option.bind_some, if_pos (by omega), clone_eq _ (by rw [List.length_take]; omega), Option.bind_some]
        rfl
    · rw [if_neg c2, if_pos c2, if_neg c2]
  · rw [if_neg c1, if_neg c1, if_pos c1, if_neg c1]
theorem own4 (v w z : Int) (h00 h10 h20 h30 : ByteArray) (h01 h11 h21 h22 g5 : List S26) (fin : F9_lethelaw05_EntryOwn_l1000024 v w 0 0 h00 h01 h10 h11 h20 h21 h22 z h30 [] g5 = some (true, ())) (m : Nat) (hm : m ≤ 1000) : ∀ (n i : Nat) (g : List S26), m - i = n → i ≤ m → g.length = m →
    F9_lethelaw05_EntryOwn_l1000024 v w (m : Int) (i : Int) h00 h01 h10 h11 h20 h21 h22 z h30 g g5 = some (true, ()) := by
  intro n
  induction n with
  | zero =>
    intro i g hn hi hg
    rw [F9_lethelaw05_EntryOwn_l1000024_eq, if_neg (by omega)] at fin ⊢
    exact fin
  | succ n ih =>
    intro i g hn hi hg
    rw [F9_lethelaw05_EntryOwn_l1000024_eq, if_pos (ilt (by omega)), if_pos (inb (by omega)), w64s (n := m) (by omega) (by omega)]
    exact ih (i + 1) _ (by omega) (by omega) (by rw [List.length_set]; exact hg)
theorem own3 (v w z : Int) (h00 h10 h20 h30 h40 : ByteArray) (h01 h11 h21 h22 g5 g6 : List S26) (h5 : g5.length ≤ 1000) (fin : F9_lethelaw05_EntryOwn_l1000024 v w 0 0 h00 h01 h10 h11 h20 h21 h22 z h30 [] g6 = some (true, ())) (m : Nat) (hm : m ≤ 1000) : ∀ (n i : Nat) (g : List S26), m - i = n → i ≤ m → g.length = m →
    F9_lethelaw05_EntryOwn_l1000019 v w (m : Int) (i : Int) h00 h01 h10 h11 h20 h21 h22 z h30 h40 g5 g6 g = some (true, ()) := by
  intro n
  induction n with
  | zero =>
    intro i g hn hi hg
    rw [F9_lethelaw05_EntryOwn_l1000019_eq, if_neg (by omega)]
    exact own4 v w z h00 h10 h20 h30 h01 h11 h21 h22 g6 fin _ h5 _ 0 g5 rfl (by omega) rfl
  | succ n ih =>
    intro i g hn hi hg
    rw [F9_lethelaw05_EntryOwn_l1000019_eq, if_pos (ilt (by omega)), if_pos (inb (by omega)), w64s (n := m) (by omega) (by omega)]
    exact ih (i + 1) _ (by omega) (by omega) (by rw [List.length_set]; exact hg)
theorem own2 (v w z : Int) (h00 h10 h20 h40 h50 : ByteArray) (h01 h11 h21 h22 g6 g7 g8 : List S26) (h6 : g6.length ≤ 1000) (h8 : g8.length ≤ 1000) (fin : F9_lethelaw05_EntryOwn_l1000024 v w 0 0 h00 h01 h10 h11 h20 h21 h22 z h40 [] g7 = some (true, ())) (m : Nat) (hm : m ≤ 1000) : ∀ (n i : Nat) (g : List S26), m - i = n → i ≤ m → g.length = m →
    F9_lethelaw05_EntryOwn_l1000014 v w (m : Int) (i : Int) h00 h01 h10 h11 h20 h21 h22 z g h40 h50 g6 g7 g8 = some (true, ()) := by
  intro n
  induction n with
  | zero =>
    intro i g hn hi hg
    rw [F9_lethelaw05_EntryOwn_l1000014_eq, if_neg (by omega)]
    exact own3 v w z h00 h10 h20 h40 h50 h01 h11 h21 h22 g6 g7 h6 fin _ h8 _ 0 g8 rfl (by omega) rfl
  | succ n ih =>
    intro i g hn hi hg
    rw [F9_lethelaw05_EntryOwn_l1000014_eq, if_pos (ilt (by omega)), if_pos (inb (by omega)), w64s (n := m) (by omega) (by omega)]
    exact ih (i + 1) _ (by omega) (by omega) (by rw [List.length_set]; exact hg)
theorem own1 (v w z : Int) (h00 h10 h20 h30 h50 h60 : ByteArray) (h01 h11 h21 h22 g4 g7 g9 g10 : List S26) (h4 : g4.length ≤ 1000) (h7 : g7.length ≤ 1000) (h8 : g10.length ≤ 1000) (fin : F9_lethelaw05_EntryOwn_l1000024 v w 0 0 h00 h01 h10 h11 h20 h21 h22 z h50 [] g9 = some (true, ())) (m : Nat) (hm : m ≤ 1000) : ∀ (n i : Nat) (g : List S26), m - i = n → i ≤ m → g.length = m →
    F9_lethelaw05_EntryOwn_l1000009 v w (m : Int) (i : Int) h00 h01 h10 h11 h20 h21 h22 z h30 g4 h50 h60 g7 g g9 g10 = some (true, ()) := by
  intro n
  induction n with
  | zero =>
    intro i g hn hi hg
    rw [F9_lethelaw05_EntryOwn_l1000009_eq, if_neg (by omega)]
    exact own2 v w z h00 h10 h20 h50 h60 h01 h11 h21 h22 g7 g9 g10 h7 h8 fin _ h4 _ 0 g4 rfl (by omega) rfl
  | succ n ih =>
    intro i g hn hi hg
    rw [F9_lethelaw05_EntryOwn_l1000009_eq, if_pos (ilt (by omega)), if_pos (inb (by omega)), w64s (n := m) (by omega) (by omega)]
    exact ih (i + 1) _ (by omega) (by omega) (by rw [List.length_set]; exact hg)
theorem law (a b c d e f g : Int) (s : ByteArray) (xs : List S26) (t u : ByteArray) (_ : Ok tab Pr (.int .i64) a) (_ : Ok tab Pr (.int .i64) b) (_ : Ok tab Pr (.int .i64) c) (_ : Ok tab Pr (.int .i64) d) (_ : Ok tab Pr (.int .i64) e) (_ : Ok tab Pr (.int .i64) f) (_ : Ok tab Pr (.int .i64) g) (_ : Ok tab Pr .str s) (h : Ok tab Pr (.sl 26 (.st 26)) xs) (_ : Ok tab Pr .str t) (_ : Ok tab Pr .str u) : F9_lethelaw05_EntryOwn a b c d e f g s xs t u = some (true, ()) := by
  have hx : List.length (α := S26) xs ≤ 9223372036854775807 := sl_len h
  have hb : xs.length * 40 ≤ 140737488355328 := by
    have hb := (Ok.inv h).1
    rw [show Program.bytesOf Pr 26 = 40 by kernel_rfl] at hb
    have : xs.length * 40 ≤ 140737488351232 := hb
    omega
  have hcp : F31_letheref05_Copy s xs = some (s, xs, ()) := by rw [F31_letheref05_Copy_eq, if_pos (by omega), List.nil_append]
  have he : F29_letheref05_Like s xs s xs = some (true, ()) := by rw [F29_letheref05_Like_eq, if_pos rfl, like_eq _ _ hx]; simp
  rw [F9_lethelaw05_EntryOwn_eq, hcp, F25_entry_Put_eq, F26_letheref05_Put_eq, F27_entry_Over_eq, addO_eq _ _ _ _ _ _ _ _ _ _ _ _ hx (Or.inr rfl), radd_eq _ _ _ _ _ _ _ _ _ _ _ _ hx (Or.inr rfl), addO_eq _ _ _ _ _ _ _ _ _ _ _ _ hx (Or.inl rfl)]
  have FIN : ∀ (z : Int) (r : ByteArray) (l dr : List S26), l.length ≤ 1000 → F9_lethelaw05_EntryOwn_l1000024 z z 0 0 s xs s xs r l dr z r [] l = some (true, ()) := by
    intro z r l dr hl
    rw [F9_lethelaw05_EntryOwn_l1000024_eq, if_neg (by omega), if_pos rfl, if_pos rfl, he]
    have : F29_letheref05_Like r l r l = some (true, ()) := by rw [F29_letheref05_Like_eq, if_pos rfl, like_eq _ _ (by omega)]; simp
    simp only [Option.bind_some, if_true]
    rw [this]; rfl
  by_cases c1 : badV a b c d e f g s xs t u = 0
  · have hm : xs.length ≤ 4 := by
      have hb := c1
      unfold badV at hb
      by_cases c2 : namedV a b c d e f g s xs = 0
      · exact (may_of c2).n4
      · rw [if_neg c2] at hb; exact absurd hb c2
    have ha : (allV xs t u).length = xs.length + 1 := by rw [allV, List.length_append, List.length_singleton]
    have hd : ∀ k : Nat, ((allV xs t u).drop k).length ≤ 5 := fun k => by rw [List.length_drop]; omega
    have ht : ∀ k : Nat, ((allV xs t u).take k).length ≤ 5 := fun k => by rw [List.length_take]; omega
    simp only [if_pos c1, Option.bind_some]
    rw [if_pos (by have := hd (gone xs e); rw [List.length_singleton]; omega), if_pos (by have := ht (gone xs e); rw [List.length_singleton]; omega)]
    exact own1 _ _ _ _ _ _ _ _ _ _ _ _ _ _ _ _ _ (by rw [List.length_append, List.length_singleton]; have := ht (gone xs e); omega) (by have := ht (gone xs 1); omega) (by have := hd (gone xs 1); omega) (FIN 0 s _ _ (by have := hd (gone xs e); omega)) _ (by rw [List.length_append, List.length_singleton]; have := hd (gone xs e); omega) _ 0 _ rfl (by omega) rfl
  · simp only [if_neg c1, Option.bind_some]
    rw [if_pos (by simp), if_pos (by simp)]
    exact own1 _ _ _ _ _ _ _ _ _ _ _ _ _ _ _ _ _ (by simp) (by simp) (by simp) (FIN _ _ _ _ (by simp)) 1 (by omega) _ 0 _ rfl (by omega) rfl

end
end Go.Proofs.Ytpnjchejnghplaa.EntryOwnp
