/- The law EntryKeeps, for all arguments. Under no condition. -/
import Derived.Test.YtpnjchejnghplaaEEntryKeeps
import Derived.Laws.BitsLemmas
set_option linter.unusedVariables false
set_option linter.unusedSimpArgs false
namespace Go.Proofs.Ytpnjchejnghplaa.EntryKeepsp
open Go Go.RowKit Go.Proofs.Ytpnjchejnghplaa.Rx Go.Proofs.Ytpnjchejnghplaa.EntryKeepsx
theorem w64 {n : Int} (h0 : -9223372036854775808 ≤ n) (h1 : n ≤ 9223372036854775807) : IntKind.i64.wrap n = n := by rw [IntKind.wrap_i64]; omega
theorem w64s {j n : Nat} (h : j < n) (hn : n ≤ 9223372036854775807) : IntKind.i64.wrap ((j : Int) + 1) = ((j + 1 : Nat) : Int) := by rw [w64 (by omega) (by omega)]; omega
theorem w64p {j : Nat} (h : 0 < j) (hn : j ≤ 9223372036854775807) : IntKind.i64.wrap ((j : Int) - 1) = ((j - 1 : Nat) : Int) := by rw [w64 (by omega) (by omega)]; omega
theorem sl_len {e : TypeId} {t : Ty} {xs : List (den tab.S t)} (h : Ok tab Pr (.sl e t) xs) : xs.length ≤ 9223372036854775807 := by
  have := (Ok.inv h).2.1
  simp only [maxLen] at this
  omega
theorem ite_to {α : Type} {p : Prop} [Decidable p] {a b c : α} (h1 : p → a = c) (h2 : ¬ p → b = c) : (if p then a else b) = c := by
  by_cases h : p
  · rw [if_pos h]; exact h1 h
  · rw [if_neg h]; exact h2 h
theorem ob_eq {a b : Bool} (h1 : a = true → b = true) (h2 : b = true → a = true) : (some (a, ()) : Option (Bool × Unit)) = some (b, ()) := by rw [Bool.eq_iff_iff.2 ⟨h1, h2⟩]
theorem oi_eq {a b : Int} (h : a = b) : (some (a, ()) : Option (Int × Unit)) = some (b, ()) := by rw [h]
theorem rd_lt {α : Type} {z : α} {xs : List α} {i : Nat} (h : i < xs.length) : rd z xs (i : Int) = xs[i] := by simp [rd, h]
theorem drop_rd {α : Type} {z : α} {xs : List α} {i : Nat} (h : i < xs.length) : xs.drop i = rd z xs (i : Int) :: xs.drop (i + 1) := by rw [rd_lt h]; exact List.drop_eq_getElem_cons h
theorem inb {i n : Nat} (h : i < n) : (0 : Int) ≤ (i : Int) ∧ (i : Int) < (n : Int) := by omega
theorem ilt {i n : Nat} (h : i < n) : (i : Int) < (n : Int) := by omega
theorem subL_drop {α : Type} (xs : List α) {l : Int} {k : Nat} (h : l = (k : Int)) : subL xs l (xs.length : Int) = xs.drop k := by simp [subL, h]
theorem subL_take {α : Type} (xs : List α) {l : Int} {k : Nat} (h : l = (k : Int)) : subL xs 0 l = xs.take k := by simp [subL, h]

def quotaOk (a b c d e f g : Int) : Bool := decide (1 ≤ a ∧ a ≤ 64 ∧ 1 ≤ b ∧ b ≤ 16 ∧ 0 ≤ c ∧ c ≤ 32 ∧ 0 ≤ d ∧ d ≤ 16 ∧ 1 ≤ e ∧ e ≤ 4 ∧ 1 ≤ f ∧ f ≤ 8 ∧ 0 ≤ g ∧ g ≤ 32)
theorem q04 (a b c d e f g : Int) : F37_letheref04_Right a b c d e f g = some (quotaOk a b c d e f g, ()) := by
  rw [F37_letheref04_Right_eq]
  simp only [F37_letheref04_Right_l2_eq]
  repeat' (refine ite_to (fun _ => ?_) (fun _ => ?_))
  all_goals (apply ob_eq <;> intro hh <;> simp only [quotaOk, decide_eq_true_eq, Bool.false_eq_true] at hh ⊢ <;> omega)
theorem qin (x a b : Int) : F41_quota_in x a b = some (decide (a ≤ x ∧ x ≤ b), ()) := by
  rw [F41_quota_in_eq]
  refine ite_to (fun _ => ?_) (fun _ => ?_)
  all_goals (apply ob_eq <;> intro hh <;> simp only [decide_eq_true_eq, Bool.false_eq_true] at hh ⊢ <;> omega)
theorem q66 (a b c d e f g : Int) : F38_quota_Right a b c d e f g = some ((if quotaOk a b c d e f g = true then 0 else 40), ()) := by
  rw [F38_quota_Right_eq]
  simp only [F38_quota_Right_l3_eq, qin, Option.bind_some, decide_eq_true_eq]
  repeat' (refine ite_to (fun _ => ?_) (fun _ => ?_))
  · rw [if_pos (by simp only [quotaOk, decide_eq_true_eq]; omega)]
  all_goals rw [if_neg (by simp only [quotaOk, decide_eq_true_eq]; omega)]

/-! ### entries: what may be -/
def tooBig (c d : Int) (s t : ByteArray) : Int := if c < (s.size : Int) then 5 else if d < (t.size : Int) then 5 else 0
theorem tooBig_05 (c d : Int) (s t : ByteArray) : tooBig c d s t = 0 ∨ tooBig c d s t = 5 := by
  unfold tooBig; by_cases h1 : c < (s.size : Int) <;> by_cases h2 : d < (t.size : Int) <;> simp [h1, h2]
def versV (c d : Int) : Int → List S26 → Int
  | _, [] => 0
  | v, y :: ys => if S26.f0 y ≤ v then 50 else if 1073741824 < S26.f0 y then 50 else if tooBig c d (S26.f1 y) (S26.f2 y) = 0 then versV c d (S26.f0 y) ys else tooBig c d (S26.f1 y) (S26.f2 y)
theorem versV_cons (c d v : Int) (y : S26) (ys : List S26) : versV c d v (y :: ys) = if S26.f0 y ≤ v then 50 else if 1073741824 < S26.f0 y then 50 else if tooBig c d (S26.f1 y) (S26.f2 y) = 0 then versV c d (S26.f0 y) ys else tooBig c d (S26.f1 y) (S26.f2 y) := rfl
def namedV (a b c d e f g : Int) (s : ByteArray) (xs : List S26) : Int :=
  if quotaOk a b c d e f g = true then if s = ByteArray.empty then 4 else if b < (s.size : Int) then 5 else if e < (xs.length : Int) then 50 else versV c d 0 xs else 40
theorem texts_eq (a b c d e f g : Int) (s t : ByteArray) : F39_entry_texts a b c d e f g s t = some (tooBig c d s t, ()) := by
  rw [F39_entry_texts_eq]
  unfold tooBig
  repeat' (refine ite_to (fun h => ?_) (fun h => ?_))
  · rw [if_pos h]
  · rw [if_neg (by assumption), if_pos (by assumption)]
  · rw [if_neg (by assumption), if_neg (by assumption)]
theorem named_l (a b c d e f g : Int) (xs : List S26) (hx : xs.length ≤ 9223372036854775807) : ∀ (n i : Nat) (v : Int), xs.length - i = n → i ≤ xs.length →
    F34_entry_named_l1000011 v xs (xs.length : Int) (i : Int) a b c d e f g = some (versV c d v (xs.drop i), ()) := by
  intro n
  induction n with
  | zero =>
    intro i v hn hi
    rw [F34_entry_named_l1000011_eq, if_neg (by omega), List.drop_of_length_le (by omega)]; rfl
  | succ n ih =>
    intro i v hn hi
    rw [F34_entry_named_l1000011_eq, if_pos (ilt (by omega)), if_pos (inb (by omega)), texts_eq, Option.bind_some, drop_rd (z := S26.z) (by omega : i < xs.length), w64s (n := xs.length) (by omega) hx, ih (i + 1) _ (by omega) (by omega)]
    generalize rd S26.z xs (i : Int) = y
    rw [versV_cons]
    refine ite_to (fun h1 => by rw [if_pos h1]) (fun h1 => ?_)
    rw [if_neg h1]
    refine ite_to (fun h2 => by rw [if_pos h2]) (fun h2 => ?_)
    rw [if_neg h2]
    refine ite_to (fun h3 => by rw [if_neg h3]) (fun h3 => ?_)
    rw [if_pos (Decidable.not_not.1 h3)]
theorem ref_l (a b c d e f g : Int) (s : ByteArray) (xs : List S26) (hx : xs.length ≤ 9223372036854775807) : ∀ (n i : Nat) (v : Int), xs.length - i = n → i ≤ xs.length → (i = 0 → v = 0) → (0 < i → v = S26.f0 (rd S26.z xs ((i - 1 : Nat) : Int)) ∧ 1 ≤ v) →
    F32_letheref05_Named_l1000010 xs (xs.length : Int) (i : Int) a b c d e f g s xs = some (versV c d v (xs.drop i), ()) := by
  intro n
  induction n with
  | zero =>
    intro i v hn hi h0 h1
    rw [F32_letheref05_Named_l1000010_eq, if_neg (by omega), List.drop_of_length_le (by omega)]; rfl
  | succ n ih =>
    intro i v hn hi h0 h1
    rw [F32_letheref05_Named_l1000010_eq, if_pos (ilt (by omega)), if_pos (inb (by omega)), F32_letheref05_Named_l15_eq, drop_rd (z := S26.z) (by omega : i < xs.length), w64s (n := xs.length) (by omega) hx]
    generalize hy : rd S26.z xs (i : Int) = y
    rw [versV_cons]
    by_cases c1 : S26.f0 y < 1
    · rw [if_pos c1, if_pos]
      rcases Nat.eq_zero_or_pos i with q | q
      · rw [h0 q]; omega
      · have := (h1 q).2; omega
    · rw [if_neg c1]
      by_cases c2 : S26.f0 y ≤ v
      · rw [if_pos c2]
        refine ite_to (fun _ => rfl) (fun _ => ?_)
        rcases Nat.eq_zero_or_pos i with q | q
        · have := h0 q; omega
        · rw [if_pos (by omega), w64p q (by omega), if_pos (inb (by omega)), ← (h1 q).1, if_pos c2]
      · rw [if_neg c2]
        by_cases c3 : (1073741824 : Int) < S26.f0 y
        · rw [if_pos c3, if_pos c3]
        · rw [if_neg c3, if_neg c3, ih (i + 1) (S26.f0 y) (by omega) (by omega) (fun q => by omega) (fun _ => ⟨by rw [← hy]; rfl, by omega⟩)]
          have hr : (if c < ((S26.f1 y).size : Int) then some ((5 : Int), ()) else if d < ((S26.f2 y).size : Int) then some (5, ()) else some (versV c d (S26.f0 y) (xs.drop (i + 1)), ())) = some (if tooBig c d (S26.f1 y) (S26.f2 y) = 0 then versV c d (S26.f0 y) (xs.drop (i + 1)) else tooBig c d (S26.f1 y) (S26.f2 y), ()) := by
            unfold tooBig
            by_cases c4 : c < ((S26.f1 y).size : Int)
            · simp [c4]
            · by_cases c5 : d < ((S26.f2 y).size : Int)
              · simp [c4, c5]
              · simp [c4, c5]
          rcases Nat.eq_zero_or_pos i with q | q
          · rw [if_neg (by omega)]; exact hr
          · rw [if_pos (by omega), w64p q (by omega), if_pos (inb (by omega)), ← (h1 q).1, if_neg c2]; exact hr
theorem named_eq (a b c d e f g : Int) (s : ByteArray) (xs : List S26) (hx : xs.length ≤ 9223372036854775807) : F34_entry_named a b c d e f g s xs = some (namedV a b c d e f g s xs, ()) := by
  rw [F34_entry_named_eq, q66, Option.bind_some]
  unfold namedV
  cases quotaOk a b c d e f g with
  | false => simp
  | true =>
    simp only [if_true, not_true_eq_false, if_false]
    repeat' (refine ite_to (fun h => ?_) (fun h => ?_))
    · rw [if_pos h]
    · rw [if_neg (by assumption), if_pos h]
    · rw [if_neg (by assumption), if_neg (by assumption), if_pos h]
    · rw [if_neg (by assumption), if_neg (by assumption), if_neg h]
      exact named_l a b c d e f g xs hx xs.length 0 0 (by omega) (by omega)
theorem rnamed_eq (a b c d e f g : Int) (s : ByteArray) (xs : List S26) (hx : xs.length ≤ 9223372036854775807) : F32_letheref05_Named a b c d e f g s xs = some (namedV a b c d e f g s xs, ()) := by
  rw [F32_letheref05_Named_eq, q04, Option.bind_some]
  unfold namedV
  cases quotaOk a b c d e f g with
  | false => simp
  | true =>
    simp only [if_true, Bool.not_true, Bool.false_eq_true, if_false]
    repeat' (refine ite_to (fun h => ?_) (fun h => ?_))
    · rw [if_pos h]
    · rw [if_neg (by assumption), if_pos h]
    · rw [if_neg (by assumption), if_neg (by assumption), if_pos h]
    · rw [if_neg (by assumption), if_neg (by assumption), if_neg h]
      exact ref_l a b c d e f g s xs hx xs.length 0 0 (by omega) (by omega) (fun _ => rfl) (fun q => by omega)

/-! ### a version put behind the others -/
theorem clone_eq (xs : List S26) (h : xs.length ≤ 100) : F40_slices_Clone xs = some (xs, ()) := by
  rw [F40_slices_Clone_eq]
  refine ite_to (fun h0 => ?_) (fun h0 => ?_)
  · rw [if_pos (by omega), List.nil_append, List.eq_nil_of_length_eq_zero h0, anyO_self]
  · rw [if_pos (by omega), List.nil_append]
/-- What is known of versions that may be. -/
theorem vers_last (c d : Int) : ∀ (xs : List S26) (v : Int), versV c d v xs = 0 → 0 ≤ v → v ≤ 1073741824 → ∀ y ∈ xs, v < S26.f0 y ∧ S26.f0 y ≤ 1073741824
  | [], _, _, _, _, y, hy => by cases hy
  | x :: xs, v, h, h0, h1, y, hy => by
    rw [versV_cons] at h
    by_cases c1 : S26.f0 x ≤ v
    · rw [if_pos c1] at h; omega
    · rw [if_neg c1] at h
      by_cases c2 : 1073741824 < S26.f0 x
      · rw [if_pos c2] at h; omega
      · rw [if_neg c2] at h
        by_cases c3 : tooBig c d (S26.f1 x) (S26.f2 x) = 0
        · rw [if_pos c3] at h
          cases hy with
          | head => omega
          | tail _ hy => have := vers_last c d xs _ h (by omega) (by omega) y hy; omega
        · rw [if_neg c3] at h; exact absurd h c3
def lastNo (xs : List S26) : Int := match xs.getLast? with | none => 0 | some y => S26.f0 y
theorem lastNo_rd {xs : List S26} (h : 0 < xs.length) : lastNo xs = S26.f0 (rd S26.z xs ((xs.length - 1 : Nat) : Int)) := by
  rw [rd_lt (by omega), lastNo, List.getLast?_eq_getElem?, List.getElem?_eq_getElem (by omega)]
theorem lastNo_nil {xs : List S26} (h : xs.length = 0) : lastNo xs = 0 := by rw [List.eq_nil_of_length_eq_zero h]; rfl
/-- What is known where a version may be put. -/
structure May (a b c d e f g : Int) (s : ByteArray) (xs : List S26) : Prop where
  hq : quotaOk a b c d e f g = true
  hs : s ≠ ByteArray.empty
  hb : (s.size : Int) ≤ b
  he : (xs.length : Int) ≤ e
  hv : versV c d 0 xs = 0
theorem May.e4 {a b c d e f g : Int} {s : ByteArray} {xs : List S26} (h : May a b c d e f g s xs) : 1 ≤ e ∧ e ≤ 4 := by have := h.hq; simp only [quotaOk, decide_eq_true_eq] at this; omega
theorem May.n4 {a b c d e f g : Int} {s : ByteArray} {xs : List S26} (h : May a b c d e f g s xs) : xs.length ≤ 4 := by have := h.e4; have := h.he; omega
theorem May.last {a b c d e f g : Int} {s : ByteArray} {xs : List S26} (h : May a b c d e f g s xs) : 0 ≤ lastNo xs ∧ lastNo xs ≤ 1073741824 := by
  rcases Nat.eq_zero_or_pos xs.length with q | q
  · rw [lastNo_nil q]; omega
  · rw [lastNo_rd q, rd_lt (by omega)]
    have := vers_last c d xs 0 h.hv (by omega) (by omega) xs[xs.length - 1] (List.getElem_mem _)
    omega
theorem may_of {a b c d e f g : Int} {s : ByteArray} {xs : List S26} (h : namedV a b c d e f g s xs = 0) : May a b c d e f g s xs := by
  unfold namedV at h
  by_cases c1 : quotaOk a b c d e f g = true
  · rw [if_pos c1] at h
    by_cases c2 : s = ByteArray.empty
    · rw [if_pos c2] at h; omega
    · rw [if_neg c2] at h
      by_cases c3 : b < (s.size : Int)
      · rw [if_pos c3] at h; omega
      · rw [if_neg c3] at h
        by_cases c4 : e < (xs.length : Int)
        · rw [if_pos c4] at h; omega
        · rw [if_neg c4] at h; exact ⟨c1, c2, by omega, by omega, h⟩
  · rw [if_neg c1] at h; omega
theorem named_of {a b c d e f g : Int} {s : ByteArray} {xs : List S26} (h : May a b c d e f g s xs) : namedV a b c d e f g s xs = 0 := by
  unfold namedV
  have := h.hb; have := h.he
  rw [if_pos h.hq, if_neg h.hs, if_neg (by omega), if_neg (by omega)]
  exact h.hv
theorem last_eq (s : ByteArray) (xs : List S26) (h : xs.length ≤ 100) : ∃ t u w, F13_entry_Last s xs = some (lastNo xs, t, u, w, ()) := by
  rw [F13_entry_Last_eq]
  by_cases c1 : xs.length = 0
  · rw [if_pos (by omega), lastNo_nil c1]; exact ⟨_, _, _, rfl⟩
  · rw [if_neg (by omega), w64p (by omega) (by omega), if_pos (inb (by omega)), lastNo_rd (by omega)]; exact ⟨_, _, _, rfl⟩
def newV (xs : List S26) (t u : ByteArray) : S26 := S26.mk (lastNo xs + 1) t u
def allV (xs : List S26) (t u : ByteArray) : List S26 := xs ++ [newV xs t u]
def gone (xs : List S26) (k : Int) : Nat := ((xs.length : Int) + 1 - k).toNat
/-- Why nothing can be put. -/
def badV (a b c d e f g : Int) (s : ByteArray) (xs : List S26) (t u : ByteArray) : Int := if namedV a b c d e f g s xs = 0 then (if tooBig c d t u = 0 then (if lastNo xs = 1073741824 then 2 else 0) else tooBig c d t u) else namedV a b c d e f g s xs
theorem add_eq (a b c d e f g : Int) (s : ByteArray) (xs : List S26) (t u : ByteArray) (k : Int) (hx : xs.length ≤ 9223372036854775807) (hk : k = 1 ∨ k = e) :
    F35_entry_add a b c d e f g s xs t u k = if badV a b c d e f g s xs t u = 0 then some (s, (allV xs t u).drop (gone xs k), 0, (allV xs t u).take (gone xs k), ()) else some (ByteArray.empty, [], badV a b c d e f g s xs t u, [], ()) := by
  rw [F35_entry_add_eq, named_eq _ _ _ _ _ _ _ _ _ hx, Option.bind_some]
  unfold badV
  by_cases c1 : namedV a b c d e f g s xs = 0
  · have m := may_of c1
    have h4 := m.n4
    have hl := m.last
    have he := m.e4
    obtain ⟨p1, p2, p3, p4⟩ := last_eq s xs (by omega)
    rw [if_pos c1, if_pos c1, texts_eq, Option.bind_some]
    by_cases c2 : tooBig c d t u = 0
    · rw [if_pos c2, if_neg (by simp [c2]), p4, Option.bind_some]
      by_cases c3 : lastNo xs = 1073741824
      · rw [if_pos c3, if_pos c3, if_neg (by omega)]
      · rw [if_neg c3, if_neg c3, if_pos rfl, clone_eq xs (by omega), Option.bind_some]
        have hw : IntKind.i64.wrap (lastNo xs + 1) = lastNo xs + 1 := w64 (by omega) (by omega)
        have hn : (xs ++ [newV xs t u]).length = xs.length + 1 := by simp
        simp only [hw]
        rw [show [S26.mk (lastNo xs + 1) t u] = [newV xs t u] from rfl]
        have hg : mx 0 (IntKind.i64.wrap (((xs ++ [newV xs t u]).length : Int) - k)) = (gone xs k : Int) := by
          rw [hn, w64 (by omega) (by omega)]; unfold mx gone; split <;> omega
        have hgl : gone xs k ≤ xs.length := by unfold gone; omega
        simp only [hg]
        rw [if_pos (by simp; omega), if_pos (by omega), subL_drop _ rfl, subL_take _ rfl, clone_eq _ (by rw [List.length_drop]; omega), Option.bind_some, if_pos (by omega), clone_eq _ (by rw [List.length_take]; omega), Option.bind_some]
        rfl
    · rw [if_neg c2, if_pos c2, if_neg c2]
  · rw [if_neg c1, if_neg c1, if_pos c1, if_neg c1]
theorem radd_l (xs : List S26) (t u : ByteArray) (k no : Int) (w s : ByteArray) (o o' : Int) (ga gb : List S26) (h4 : xs.length ≤ 4) (hk : 1 ≤ k ∧ k ≤ 4) : ∀ (n i : Nat), xs.length - i = n → i ≤ xs.length →
    F36_letheref05_add_l1000014 t u k no (xs.length : Int) xs (xs.length : Int) (i : Int) w o s o' ga gb ((xs.drop (gone xs k)).take (i - gone xs k)) ((xs.take (gone xs k)).take i) = some (s, xs.drop (gone xs k) ++ [S26.mk no t u], xs.take (gone xs k), o', ()) := by
  intro n
  have hgl : gone xs k ≤ xs.length := by unfold gone; omega
  have hgd : (gone xs k : Int) = 0 ∧ (xs.length : Int) + 1 ≤ k ∨ (gone xs k : Int) = (xs.length : Int) + 1 - k := by unfold gone; omega
  induction n with
  | zero =>
    intro i hn hi
    have hi : i = xs.length := by omega
    rw [F36_letheref05_add_l1000014_eq, if_neg (by omega), List.take_of_length_le (by rw [List.length_drop]; omega), List.take_of_length_le (i := i) (by rw [List.length_take]; omega), if_pos (by rw [List.length_drop, List.length_singleton]; omega)]
  | succ n ih =>
    intro i hn hi
    have hr : [S26.mk (S26.f0 (rd S26.z xs (i : Int))) (S26.f1 (rd S26.z xs (i : Int))) (S26.f2 (rd S26.z xs (i : Int)))] = [xs[i]] := by rw [rd_lt (by omega)]
    rw [F36_letheref05_add_l1000014_eq, if_pos (ilt (by omega)), if_pos (inb (by omega))]
    simp only [hr]
    rw [w64 (n := (xs.length : Int) + 1) (by omega) (by omega), w64 (n := (xs.length : Int) + 1 - (i : Int)) (by omega) (by omega), w64s (n := xs.length) (by omega) (by omega)]
    by_cases c1 : k < (xs.length : Int) + 1 - (i : Int)
    · rw [if_pos c1, if_pos (by simp only [List.length_take, List.length_singleton]; omega)]
      have := ih (i + 1) (by omega) (by omega)
      have e1 : i + 1 - gone xs k = i - gone xs k := by omega
      have e2 : (xs.take (gone xs k)).take (i + 1) = (xs.take (gone xs k)).take i ++ [xs[i]] := by
        rw [List.take_take, List.take_take, Nat.min_eq_left (by omega), Nat.min_eq_left (by omega), List.take_add_one, List.getElem?_eq_getElem (by omega)]; rfl
      rw [e1, e2] at this
      exact this
    · rw [if_neg c1, if_pos (by simp only [List.length_take, List.length_drop, List.length_singleton]; omega)]
      have := ih (i + 1) (by omega) (by omega)
      have e1 : (xs.take (gone xs k)).take (i + 1) = (xs.take (gone xs k)).take i := by
        rw [List.take_take, List.take_take, Nat.min_eq_right (by omega), Nat.min_eq_right (by omega)]
      have e2 : (xs.drop (gone xs k)).take (i + 1 - gone xs k) = (xs.drop (gone xs k)).take (i - gone xs k) ++ [xs[i]] := by
        rw [show i + 1 - gone xs k = (i - gone xs k) + 1 by omega, List.take_add_one, List.getElem?_drop, show gone xs k + (i - gone xs k) = i by omega, List.getElem?_eq_getElem (by omega)]; rfl
      rw [e1, e2] at this
      exact this
theorem radd_eq (a b c d e f g : Int) (s : ByteArray) (xs : List S26) (t u : ByteArray) (k : Int) (hx : xs.length ≤ 9223372036854775807) (hk : k = 1 ∨ k = e) :
    F36_letheref05_add a b c d e f g s xs t u k = if badV a b c d e f g s xs t u = 0 then some (s, (allV xs t u).drop (gone xs k), (allV xs t u).take (gone xs k), 0, ()) else some (ByteArray.empty, [], [], badV a b c d e f g s xs t u, ()) := by
  rw [F36_letheref05_add_eq, rnamed_eq _ _ _ _ _ _ _ _ _ hx, Option.bind_some]
  unfold badV
  by_cases c1 : namedV a b c d e f g s xs = 0
  · have m := may_of c1
    have h4 := m.n4
    have hl := m.last
    have he := m.e4
    have hgl : gone xs k ≤ xs.length := by unfold gone; omega
    rw [if_neg (by simp [c1]), if_pos c1]
    have ht : (if tooBig c d t u = 0 then (if lastNo xs = 1073741824 then (2 : Int) else 0) else tooBig c d t u) = if c < (t.size : Int) then 5 else if d < (u.size : Int) then 5 else if lastNo xs = 1073741824 then 2 else 0 := by
      unfold tooBig
      by_cases h1 : c < (t.size : Int) <;> by_cases h2 : d < (u.size : Int) <;> simp [h1, h2]
    rw [ht]
    refine ite_to (fun h1 => ?_) (fun h1 => ?_)
    · simp [h1]
    · rw [if_neg h1]
      refine ite_to (fun h2 => ?_) (fun h2 => ?_)
      · simp [h2]
      · rw [if_neg h2]
        have hz := radd_l xs t u k (lastNo xs + 1) ByteArray.empty s 0 0 [] [] h4 (by omega) xs.length 0 (by omega) (by omega)
        rw [Nat.zero_sub, List.take_zero, List.take_zero] at hz
        have hd : (allV xs t u).drop (gone xs k) = xs.drop (gone xs k) ++ [S26.mk (lastNo xs + 1) t u] := by rw [allV, List.drop_append_of_le_length hgl]; rfl
        have hk : (allV xs t u).take (gone xs k) = xs.take (gone xs k) := by rw [allV, List.take_append_of_le_length hgl]
        rw [hd, hk]
        by_cases c3 : xs.length = 0
        · have h0 := lastNo_nil c3
          have hb : (if lastNo xs = 1073741824 then (2 : Int) else 0) = 0 := by rw [if_neg (by omega)]
          rw [hb, if_pos rfl, if_neg (by omega)]
          rw [h0] at hz ⊢
          exact hz
        · rw [if_pos (by omega), w64p (by omega) (by omega), if_pos (inb (by omega)), ← lastNo_rd (by omega)]
          simp only [show IntKind.i64.wrap (lastNo xs + 1) = lastNo xs + 1 from w64 (by omega) (by omega)]
          by_cases h3 : lastNo xs = 1073741824
          · simp [h3]
          · rw [if_neg (by omega), if_neg h3, if_pos rfl]
            exact hz
  · rw [if_pos c1, if_neg c1, if_neg c1]

/-! ### what was put may be -/
theorem vers_mono (c d : Int) {v w : Int} : ∀ {xs : List S26}, versV c d v xs = 0 → w ≤ v → versV c d w xs = 0
  | [], _, _ => rfl
  | x :: xs, h, hw => by
    rw [versV_cons] at h ⊢
    by_cases c1 : S26.f0 x ≤ v
    · rw [if_pos c1] at h; omega
    · rw [if_neg c1] at h; rw [if_neg (by omega)]; exact h
theorem vers_tail (c d : Int) {v : Int} {x : S26} {xs : List S26} (h : versV c d v (x :: xs) = 0) : v < S26.f0 x ∧ S26.f0 x ≤ 1073741824 ∧ tooBig c d (S26.f1 x) (S26.f2 x) = 0 ∧ versV c d (S26.f0 x) xs = 0 := by
  rw [versV_cons] at h
  by_cases c1 : S26.f0 x ≤ v
  · rw [if_pos c1] at h; omega
  · rw [if_neg c1] at h
    by_cases c2 : 1073741824 < S26.f0 x
    · rw [if_pos c2] at h; omega
    · rw [if_neg c2] at h
      by_cases c3 : tooBig c d (S26.f1 x) (S26.f2 x) = 0
      · rw [if_pos c3] at h; exact ⟨by omega, by omega, c3, h⟩
      · rw [if_neg c3] at h; exact absurd h c3
theorem vers_cons (c d : Int) {v : Int} {x : S26} {xs : List S26} (h1 : v < S26.f0 x) (h2 : S26.f0 x ≤ 1073741824) (h3 : tooBig c d (S26.f1 x) (S26.f2 x) = 0) (h4 : versV c d (S26.f0 x) xs = 0) : versV c d v (x :: xs) = 0 := by
  rw [versV_cons, if_neg (by omega), if_neg (by omega), if_pos h3]; exact h4
theorem vers_drop (c d : Int) : ∀ (xs : List S26) (v : Int) (j : Nat), versV c d v xs = 0 → versV c d v (xs.drop j) = 0
  | xs, v, 0, h => h
  | [], v, j + 1, h => rfl
  | x :: xs, v, j + 1, h => by have q := vers_tail c d h; rw [List.drop_succ_cons]; exact vers_mono c d (vers_drop c d xs _ j q.2.2.2) (by omega)
theorem lastNo_cons (x z : S26) (zs : List S26) : lastNo (x :: z :: zs) = lastNo (z :: zs) := by rw [lastNo, List.getLast?_cons_cons]; rfl
theorem lastNo_mem {xs : List S26} (h : xs ≠ []) : ∃ y ∈ xs, lastNo xs = S26.f0 y := ⟨xs.getLast h, List.getLast_mem h, by rw [lastNo, List.getLast?_eq_some_getLast h]⟩
theorem vers_snoc (c d : Int) (y : S26) (h2 : S26.f0 y ≤ 1073741824) (h3 : tooBig c d (S26.f1 y) (S26.f2 y) = 0) : ∀ (xs : List S26) (v : Int), 0 ≤ v → versV c d v xs = 0 → v < S26.f0 y → (xs ≠ [] → lastNo xs < S26.f0 y) → versV c d v (xs ++ [y]) = 0
  | [], v, h0, h, hv, _ => vers_cons c d hv h2 h3 rfl
  | [x], v, h0, h, hv, hl => by
    have q := vers_tail c d h
    have hl : S26.f0 x < S26.f0 y := hl (by simp)
    exact vers_cons c d q.1 q.2.1 q.2.2.1 (vers_cons c d hl h2 h3 rfl)
  | x :: z :: zs, v, h0, h, hv, hl => by
    have q := vers_tail c d h
    have hl := hl (by simp)
    rw [lastNo_cons] at hl
    obtain ⟨m, hm, e⟩ := lastNo_mem (xs := z :: zs) (by simp)
    have h9 := vers_last c d (z :: zs) _ q.2.2.2 (by omega) q.2.1 m hm
    exact vers_cons c d q.1 q.2.1 q.2.2.1 (vers_snoc c d y h2 h3 (z :: zs) _ (by omega) q.2.2.2 (by omega) (fun _ => hl))
/-- A put that goes well. -/
structure Good (a b c d e f g : Int) (s : ByteArray) (xs : List S26) (t u : ByteArray) : Prop where
  m : May a b c d e f g s xs
  hb : tooBig c d t u = 0
  hl : lastNo xs < 1073741824
theorem good_of {a b c d e f g : Int} {s : ByteArray} {xs : List S26} {t u : ByteArray} (h : badV a b c d e f g s xs t u = 0) : Good a b c d e f g s xs t u := by
  unfold badV at h
  by_cases c1 : namedV a b c d e f g s xs = 0
  · rw [if_pos c1] at h
    by_cases c2 : tooBig c d t u = 0
    · rw [if_pos c2] at h
      by_cases c3 : lastNo xs = 1073741824
      · rw [if_pos c3] at h; omega
      · have := (may_of c1).last; exact ⟨may_of c1, c2, by omega⟩
    · rw [if_neg c2] at h; exact absurd h c2
  · rw [if_neg c1] at h; exact absurd h c1
theorem Good.all {a b c d e f g : Int} {s : ByteArray} {xs : List S26} {t u : ByteArray} (h : Good a b c d e f g s xs t u) : versV c d 0 (allV xs t u) = 0 := by
  have hm := h.m
  have hl := hm.last
  have h1 := h.hl
  exact vers_snoc c d (newV xs t u) (show lastNo xs + 1 ≤ 1073741824 by omega) h.hb xs 0 (by omega) hm.hv (show 0 < lastNo xs + 1 by omega) (fun _ => show lastNo xs < lastNo xs + 1 by omega)
theorem gone_le (xs : List S26) {k : Int} (h : 1 ≤ k) : gone xs k ≤ xs.length := by unfold gone; omega
theorem drop_all (xs : List S26) (t u : ByteArray) {k : Int} (h : 1 ≤ k) : (allV xs t u).drop (gone xs k) = xs.drop (gone xs k) ++ [newV xs t u] := by rw [allV, List.drop_append_of_le_length (gone_le xs h)]
theorem take_all (xs : List S26) (t u : ByteArray) {k : Int} (h : 1 ≤ k) : (allV xs t u).take (gone xs k) = xs.take (gone xs k) := by rw [allV, List.take_append_of_le_length (gone_le xs h)]
theorem Good.left {a b c d e f g : Int} {s : ByteArray} {xs : List S26} {t u : ByteArray} (h : Good a b c d e f g s xs t u) {k : Int} (hk : k = 1 ∨ k = e) : May a b c d e f g s ((allV xs t u).drop (gone xs k)) := by
  have hm := h.m
  have he := hm.e4
  refine ⟨hm.hq, hm.hs, hm.hb, ?_, vers_drop c d _ 0 _ h.all⟩
  rw [List.length_drop, allV, List.length_append, List.length_singleton]
  unfold gone
  omega

/-! ### alike -/
instance : DecidableEq S26 := fun x y => decidable_of_iff (x.f0 = y.f0 ∧ x.f1 = y.f1 ∧ x.f2 = y.f2) ⟨fun h => by obtain ⟨x0, x1, x2⟩ := x; obtain ⟨y0, y1, y2⟩ := y; simp_all, fun h => by rw [h]; exact ⟨rfl, rfl, rfl⟩⟩
theorem like_l (xs ys : List S26) (hx : xs.length ≤ 9223372036854775807) (hl : xs.length = ys.length) : ∀ (n i : Nat), xs.length - i = n → i ≤ xs.length →
    F30_letheref05_LikeVersions_l1000004 xs ys (xs.length : Int) (i : Int) = some (decide (xs.drop i = ys.drop i), ()) := by
  intro n
  induction n with
  | zero =>
    intro i hn hi
    rw [F30_letheref05_LikeVersions_l1000004_eq, if_neg (by omega), List.drop_of_length_le (by omega), List.drop_of_length_le (by omega)]; rfl
  | succ n ih =>
    intro i hn hi
    rw [F30_letheref05_LikeVersions_l1000004_eq, if_pos (ilt (by omega)), if_pos (inb (by omega)), if_pos (inb (by omega)), drop_rd (z := S26.z) (by omega : i < xs.length), drop_rd (z := S26.z) (by omega : i < ys.length), w64s (n := xs.length) (by omega) hx, ih (i + 1) (by omega) (by omega)]
    generalize rd S26.z xs (i : Int) = x
    generalize rd S26.z ys (i : Int) = y
    by_cases c1 : x = y
    · rw [if_neg (by simp [c1])]; simp [c1]
    · rw [if_pos (by intro hh; apply c1; obtain ⟨x0, x1, x2⟩ := x; obtain ⟨y0, y1, y2⟩ := y; simp_all)]; simp [c1]
theorem like_eq (xs ys : List S26) (hx : xs.length ≤ 9223372036854775807) : F30_letheref05_LikeVersions xs ys = some (decide (xs = ys), ()) := by
  rw [F30_letheref05_LikeVersions_eq]
  by_cases c1 : xs.length = ys.length
  · rw [if_neg (by omega)]
    have := like_l xs ys hx c1 xs.length 0 (by omega) (by omega)
    simpa using this
  · rw [if_pos (by omega), decide_eq_false (fun h => c1 (by rw [h]))]

theorem last_snoc (s : ByteArray) (xs : List S26) (y : S26) (h : xs.length ≤ 100) : F13_entry_Last s (xs ++ [y]) = some (S26.f0 y, S26.f1 y, S26.f2 y, true, ()) := by
  have hl : (xs ++ [y]).length = xs.length + 1 := by simp
  rw [F13_entry_Last_eq, if_neg (by omega), w64p (by omega) (by omega), if_pos (inb (by omega)), rd_lt (by omega)]
  simp
theorem right_eq (a b c d e f g : Int) (s : ByteArray) (xs : List S26) (hx : xs.length ≤ 9223372036854775807) (h0 : xs ≠ []) (m : May a b c d e f g s xs) : F23_entry_Right a b c d e f g s xs = some (0, ()) := by
  have : xs.length ≠ 0 := fun h => h0 (List.eq_nil_of_length_eq_zero h)
  rw [F23_entry_Right_eq, named_eq _ _ _ _ _ _ _ _ _ hx, Option.bind_some, named_of m, if_pos rfl, if_neg (by omega)]
theorem law (a b c d e f g : Int) (s : ByteArray) (xs : List S26) (t u : ByteArray) (_ : Ok tab Pr (.int .i64) a) (_ : Ok tab Pr (.int .i64) b) (_ : Ok tab Pr (.int .i64) c) (_ : Ok tab Pr (.int .i64) d) (_ : Ok tab Pr (.int .i64) e) (_ : Ok tab Pr (.int .i64) f) (_ : Ok tab Pr (.int .i64) g) (_ : Ok tab Pr .str s) (h : Ok tab Pr (.sl 26 (.st 26)) xs) (_ : Ok tab Pr .str t) (_ : Ok tab Pr .str u) : F12_lethelaw05_EntryKeeps a b c d e f g s xs t u = some (true, ()) := by
  have hx : List.length (α := S26) xs ≤ 9223372036854775807 := sl_len h
  rw [F12_lethelaw05_EntryKeeps_eq, F25_entry_Put_eq, F27_entry_Over_eq, F26_letheref05_Put_eq, add_eq _ _ _ _ _ _ _ _ _ _ _ _ hx (Or.inr rfl), add_eq _ _ _ _ _ _ _ _ _ _ _ _ hx (Or.inl rfl), radd_eq _ _ _ _ _ _ _ _ _ _ _ _ hx (Or.inr rfl)]
  by_cases c1 : badV a b c d e f g s xs t u = 0
  · have G := good_of c1
    have he := G.m.e4
    have h4 := G.m.n4
    have hme := G.m.he
    have ha : (allV xs t u).length = xs.length + 1 := by rw [allV, List.length_append, List.length_singleton]
    have L : ∀ k : Int, 1 ≤ k → F13_entry_Last s ((allV xs t u).drop (gone xs k)) = some (lastNo xs + 1, t, u, true, ()) := by
      intro k hk; rw [drop_all _ _ _ hk, last_snoc _ _ _ (by rw [List.length_drop]; omega)]; rfl
    have R : ∀ k : Int, k = 1 ∨ k = e → F23_entry_Right a b c d e f g s ((allV xs t u).drop (gone xs k)) = some (0, ()) := by
      intro k hk
      refine right_eq _ _ _ _ _ _ _ _ _ (by rw [List.length_drop]; omega) ?_ (G.left hk)
      rw [drop_all _ _ _ (by omega)]; simp
    have V : F30_letheref05_LikeVersions (allV xs t u) (allV xs t u) = some (true, ()) := by rw [like_eq _ _ (by omega)]; simp
    have hde : ((allV xs t u).drop (gone xs e)).length = xs.length + 1 - gone xs e := by rw [List.length_drop, ha]
    have hte : ((allV xs t u).take (gone xs e)).length = gone xs e := by rw [List.length_take, ha]; have := gone_le xs he.1; omega
    have hd1 : ((allV xs t u).drop (gone xs 1)).length = 1 := by rw [List.length_drop, ha]; unfold gone; omega
    have ht1 : ((allV xs t u).take (gone xs 1)).length = xs.length := by rw [List.length_take, ha]; unfold gone; omega
    have hge : (gone xs e : Int) = 0 ∧ (xs.length : Int) + 1 ≤ e ∨ gone xs e = 1 ∧ (xs.length : Int) = e := by unfold gone; omega
    have hg1 := gone_le xs he.1
    have hA : ([] ++ xs) ++ [S26.mk (lastNo xs + 1) t u] = allV xs t u := rfl
    simp only [if_pos c1, Option.bind_some, not_true_eq_false, if_false, L e he.1, L 1 (by omega), R e (Or.inr rfl), R 1 (Or.inl rfl), Bool.not_true, Bool.false_eq_true, and_true, hA, List.nil_append, List.take_append_drop, V, if_true, hde, hte, hd1, ht1, List.length_singleton]
    have hA' : xs ++ [S26.mk (lastNo xs + 1) t u] = allV xs t u := rfl
    rw [hA', if_pos (by omega), if_pos (by omega), if_pos (by omega), if_pos (by omega), if_pos (by omega), if_pos (by omega), V]
    simp only [Option.bind_some, if_true]
    rw [if_pos (by omega)]
    rcases hge with ⟨h1, h2⟩ | ⟨h1, h2⟩
    · rw [if_pos h1, h1]; rfl
    · rw [h1, if_neg (by omega), if_pos (by omega)]; rfl
  · simp only [if_neg c1, Option.bind_some]
    simp [c1]

end Go.Proofs.Ytpnjchejnghplaa.EntryKeepsp
