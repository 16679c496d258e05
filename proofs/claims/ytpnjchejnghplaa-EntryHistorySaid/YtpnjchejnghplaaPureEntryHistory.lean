/- The law EntryHistory, for all arguments. Under no condition. -/
import Derived.Test.YtpnjchejnghplaaEEntryHistory
import Derived.Laws.BitsLemmas
import Derived.Laws.Bits64
set_option linter.unusedVariables false
set_option linter.unusedSimpArgs false
namespace Go.Proofs.Ytpnjchejnghplaa.EntryHistoryp
open Go Go.RowKit Go.Proofs.Ytpnjchejnghplaa.Rx Go.Proofs.Ytpnjchejnghplaa.EntryHistoryx
noncomputable section
theorem w64 {n : Int} (h0 : -9223372036854775808 ≤ n) (h1 : n ≤ 9223372036854775807) : IntKind.i64.wrap n = n := by rw [IntKind.wrap_i64]; omega
theorem w64s {j n : Nat} (h : j < n) (hn : n ≤ 9223372036854775807) : IntKind.i64.wrap ((j : Int) + 1) = ((j + 1 : Nat) : Int) := by rw [w64 (by omega) (by omega)]; omega
theorem w64p {j : Nat} (h : 0 < j) (hn : j ≤ 9223372036854775807) : IntKind.i64.wrap ((j : Int) - 1) = ((j - 1 : Nat) : Int) := by rw [w64 (by omega) (by omega)]; omega
theorem sl_len {e : TypeId} {t : Ty} {xs : List (den tab.S t)} (h : Ok tab Pr (.sl e t) xs) : xs.length ≤ 9223372036854775807 := by
  have := (Ok.inv h).2.1
  simp only [maxLen] at this
  omega
theorem ite_to {α : Type} {p : Prop} [Decidable p] {a b c : α} (h1 : p → a = c) (h2 : ¬ p → b = c) : (if p then a else b) = c := by
  by_cases h : p
  · rw [if_pos h]; exact h1 h
  · rw [if_neg h]; exact h2 h
theorem ob_eq {a b : Bool} (h1 : a = true → b = true) (h2 : b = true → a = true) : (some (a, ()) : Option (Bool × Unit)) = some (b, ()) := by rw [Bool.eq_iff_iff.2 ⟨h1, h2⟩]
theorem oi_eq {a b : Int} (h : a = b) : (some (a, ()) : Option (Int × Unit)) = some (b, ()) := by rw [h]
theorem rd_lt {α : Type} {z : α} {xs : List α} {i : Nat} (h : i < xs.length) : rd z xs (i : Int) = xs[i] := by simp [rd, h]
theorem drop_rd {α : Type} {z : α} {xs : List α} {i : Nat} (h : i < xs.length) : xs.drop i = rd z xs (i : Int) :: xs.drop (i + 1) := by rw [rd_lt h]; exact List.drop_eq_getElem_cons h
theorem inb {i n : Nat} (h : i < n) : (0 : Int) ≤ (i : Int) ∧ (i : Int) < (n : Int) := by omega
theorem ilt {i n : Nat} (h : i < n) : (i : Int) < (n : Int) := by omega
theorem subL_drop {α : Type} (xs : List α) {l : Int} {k : Nat} (h : l = (k : Int)) : subL xs l (xs.length : Int) = xs.drop k := by simp [subL, h]
theorem subL_take {α : Type} (xs : List α) {l : Int} {k : Nat} (h : l = (k : Int)) : subL xs 0 l = xs.take k := by simp [subL, h]

def quotaOk (a b c d e f g : Int) : Bool := decide (1 ≤ a ∧ a ≤ 64 ∧ 1 ≤ b ∧ b ≤ 16 ∧ 0 ≤ c ∧ c ≤ 32 ∧ 0 ≤ d ∧ d ≤ 16 ∧ 1 ≤ e ∧ e ≤ 4 ∧ 1 ≤ f ∧ f ≤ 8 ∧ 0 ≤ g ∧ g ≤ 32)
theorem q04 (a b c d e f g : Int) : F37_letheref04_Right a b c d e f g = some (quotaOk a b c d e f g, ()) := by
  rw [F37_letheref04_Right_eq]
  simp only [F37_letheref04_Right_l2_eq]
  repeat' (refine ite_to (fun _ => ?_) (fun _ => ?_))
  all_goals (apply ob_eq <;> intro hh <;> simp only [quotaOk, decide_eq_true_eq, Bool.false_eq_true] at hh ⊢ <;> omega)
theorem qin (x a b : Int) : F41_quota_in x a b = some (decide (a ≤ x ∧ x ≤ b), ()) := by
  rw [F41_quota_in_eq]
  refine ite_to (fun _ => ?_) (fun _ => ?_)
  all_goals (apply ob_eq <;> intro hh <;> simp only [decide_eq_true_eq, Bool.false_eq_true] at hh ⊢ <;> omega)
theorem q66 (a b c d e f g : Int) : F38_quota_Right a b c d e f g = some ((if quotaOk a b c d e f g = true then 0 else 40), ()) := by
  rw [F38_quota_Right_eq]
  simp only [F38_quota_Right_l3_eq, qin, Option.bind_some, decide_eq_true_eq]
  repeat' (refine ite_to (fun _ => ?_) (fun _ => ?_))
  · rw [if_pos (by simp only [quotaOk, decide_eq_true_eq]; omega)]
  all_goals rw [if_neg (by simp only [quotaOk, decide_eq_true_eq]; omega)]

/-! ### entries: what may be -/
def tooBig (c d : Int) (s t : ByteArray) : Int := if c < (s.size : Int) then 5 else if d < (t.size : Int) then 5 else 0
theorem tooBig_05 (c d : Int) (s t : ByteArray) : tooBig c d s t = 0 ∨ tooBig c d s t = 5 := by
  unfold tooBig; by_cases h1 : c < (s.size : Int) <;> by_cases h2 : d < (t.size : Int) <;> simp [h1, h2]
def versV (c d : Int) : Int → List S26 → Int
  | _, [] => 0
  | v, y :: ys => if S26.f0 y ≤ v then 50 else if 1073741824 < S26.f0 y then 50 else if tooBig c d (S26.f1 y) (S26.f2 y) = 0 then versV c d (S26.f0 y) ys else tooBig c d (S26.f1 y) (S26.f2 y)
theorem versV_cons (c d v : Int) (y : S26) (ys : List S26) : versV c d v (y :: ys) = if S26.f0 y ≤ v then 50 else if 1073741824 < S26.f0 y then 50 else if tooBig c d (S26.f1 y) (S26.f2 y) = 0 then versV c d (S26.f0 y) ys else tooBig c d (S26.f1 y) (S26.f2 y) := rfl
def namedV (a b c d e f g : Int) (s : ByteArray) (xs : List S26) : Int :=
  if quotaOk a b c d e f g = true then if s = ByteArray.empty then 4 else if b < (s.size : Int) then 5 else if e < (xs.length : Int) then 50 else versV c d 0 xs else 40
theorem texts_eq (a b c d e f g : Int) (s t : ByteArray) : F39_entry_texts a b c d e f g s t = some (tooBig c d s t, ()) := by
  rw [F39_entry_texts_eq]
  unfold tooBig
  repeat' (refine ite_to (fun h => ?_) (fun h => ?_))
  · rw [if_pos h]
  · rw [if_neg (by assumption), if_pos (by assumption)]
  · rw [if_neg (by assumption), if_neg (by assumption)]
theorem named_l (a b c d e f g : Int) (xs : List S26) (hx : xs.length ≤ 9223372036854775807) : ∀ (n i : Nat) (v : Int), xs.length - i = n → i ≤ xs.length →
    F34_entry_named_l1000011 v xs (xs.length : Int) (i : Int) a b c d e f g = some (versV c d v (xs.drop i), ()) := by
  intro n
  induction n with
  | zero =>
    intro i v hn hi
    rw [F34_entry_named_l1000011_eq, if_neg (by omega), List.drop_of_length_le (by omega)]; rfl
  | succ n ih =>
    intro i v hn hi
    rw [F34_entry_named_l1000011_eq, if_pos (ilt (by omega)), if_pos (inb (by omega)), texts_eq, Option.bind_some, drop_rd (z := S26.z) (by omega : i < xs.length), w64s (n := xs.length) (by omega) hx, ih (i + 1) _ (by omega) (by omega)]
    generalize rd S26.z xs (i : Int) = y
    rw [versV_cons]
    refine ite_to (fun h1 => by rw [if_pos h1]) (fun h1 => ?_)
    rw [if_neg h1]
    refine ite_to (fun h2 => by rw [if_pos h2]) (fun h2 => ?_)
    rw [if_neg h2]
    refine ite_to (fun h3 => by rw [if_neg h3]) (fun h3 => ?_)
    rw [if_pos (Decidable.not_not.1 h3)]
theorem ref_l (a b c d e f g : Int) (s : ByteArray) (xs : List S26) (hx : xs.length ≤ 9223372036854775807) : ∀ (n i : Nat) (v : Int), xs.length - i = n → i ≤ xs.length → (i = 0 → v = 0) → (0 < i → v = S26.f0 (rd S26.z xs ((i - 1 : Nat) : Int)) ∧ 1 ≤ v) →
    F32_letheref05_Named_l1000010 xs (xs.length : Int) (i : Int) a b c d e f g s xs = some (versV c d v (xs.drop i), ()) := by
  intro n
  induction n with
  | zero =>
    intro i v hn hi h0 h1
    rw [F32_letheref05_Named_l1000010_eq, if_neg (by omega), List.drop_of_length_le (by omega)]; rfl
  | succ n ih =>
    intro i v hn hi h0 h1
    rw [F32_letheref05_Named_l1000010_eq, if_pos (ilt (by omega)), if_pos (inb (by omega)), F32_letheref05_Named_l15_eq, drop_rd (z := S26.z) (by omega : i < xs.length), w64s (n := xs.length) (by omega) hx]
    generalize hy : rd S26.z xs (i : Int) = y
    rw [versV_cons]
    by_cases c1 : S26.f0 y < 1
    · rw [if_pos c1, if_pos]
      rcases Nat.eq_zero_or_pos i with q | q
      · rw [h0 q]; omega
      · have := (h1 q).2; omega
    · rw [if_neg c1]
      by_cases c2 : S26.f0 y ≤ v
      · rw [if_pos c2]
        refine ite_to (fun _ => rfl) (fun _ => ?_)
        rcases Nat.eq_zero_or_pos i with q | q
        · have := h0 q; omega
        · rw [if_pos (by omega), w64p q (by omega), if_pos (inb (by omega)), ← (h1 q).1, if_pos c2]
      · rw [if_neg c2]
        by_cases c3 : (1073741824 : Int) < S26.f0 y
        · rw [if_pos c3, if_pos c3]
        · rw [if_neg c3, if_neg c3, ih (i + 1) (S26.f0 y) (by omega) (by omega) (fun q => by omega) (fun _ => ⟨by rw [← hy]; rfl, by omega⟩)]
          have hr : (if c < ((S26.f1 y).size : Int) then some ((5 : Int), ()) else if d < ((S26.f2 y).size : Int) then some (5, ()) else some (versV c d (S26.f0 y) (xs.drop (i + 1)), ())) = some (if tooBig c d (S26.f1 y) (S26.f2 y) = 0 then versV c d (S26.f0 y) (xs.drop (i + 1)) else tooBig c d (S26.f1 y) (S26.f2 y), ()) := by
            unfold tooBig
            by_cases c4 : c < ((S26.f1 y).size : Int)
            · simp [c4]
            · by_cases c5 : d < ((S26.f2 y).size : Int)
              · simp [c4, c5]
              · simp [c4, c5]
          rcases Nat.eq_zero_or_pos i with q | q
          · rw [if_neg (by omega)]; exact hr
          · rw [if_pos (by omega), w64p q (by omega), if_pos (inb (by omega)), ← (h1 q).1, if_neg c2]; exact hr
theorem named_eq (a b c d e f g : Int) (s : ByteArray) (xs : List S26) (hx : xs.length ≤ 9223372036854775807) : F34_entry_named a b c d e f g s xs = some (namedV a b c d e f g s xs, ()) := by
  rw [F34_entry_named_eq, q66, Option.bind_some]
  unfold namedV
  cases quotaOk a b c d e f g with
  | false => simp
  | true =>
    simp only [if_true, not_true_eq_false, if_false]
    repeat' (refine ite_to (fun h => ?_) (fun h => ?_))
    · rw [if_pos h]
    · rw [if_neg (by assumption), if_pos h]
    · rw [if_neg (by assumption), if_neg (by assumption), if_pos h]
    · rw [if_neg (by assumption), if_neg (by assumption), if_neg h]
      exact named_l a b c d e f g xs hx xs.length 0 0 (by omega) (by omega)
theorem rnamed_eq (a b c d e f g : Int) (s : ByteArray) (xs : List S26) (hx : xs.length ≤ 9223372036854775807) : F32_letheref05_Named a b c d e f g s xs = some (namedV a b c d e f g s xs, ()) := by
  rw [F32_letheref05_Named_eq, q04, Option.bind_some]
  unfold namedV
  cases quotaOk a b c d e f g with
  | false => simp
  | true =>
    simp only [if_true, Bool.not_true, Bool.false_eq_true, if_false]
    repeat' (refine ite_to (fun h => ?_) (fun h => ?_))
    · rw [if_pos h]
    · rw [if_neg (by assumption), if_pos h]
    · rw [if_neg (by assumption), if_neg (by assumption), if_pos h]
    · rw [if_neg (by assumption), if_neg (by assumption), if_neg h]
      exact ref_l a b c d e f g s xs hx xs.length 0 0 (by omega) (by omega) (fun _ => rfl) (fun q => by omega)

/-! ### a version put behind the others -/
theorem clone_eq (xs : List S26) (h : xs.length ≤ 100) : F40_slices_Clone xs = some (xs, ()) := by
  rw [F40_slices_Clone_eq]
  refine ite_to (fun h0 => ?_) (fun h0 => ?_)
  · rw [if_pos (by omega), List.nil_append, List.eq_nil_of_length_eq_zero h0, anyO_self]
  · rw [if_pos (by omega), List.nil_append]
/-- What is known of versions that may be. -/
theorem vers_last (c d : Int) : ∀ (xs : List S26) (v : Int), versV c d v xs = 0 → 0 ≤ v → v ≤ 1073741824 → ∀ y ∈ xs, v < S26.f0 y ∧ S26.f0 y ≤ 1073741824
  | [], _, _, _, _, y, hy => by cases hy
  | x :: xs, v, h, h0, h1, y, hy => by
    rw [versV_cons] at h
    by_cases c1 : S26.f0 x ≤ v
    · rw [if_pos c1] at h; omega
    · rw [if_neg c1] at h
      by_cases c2 : 1073741824 < S26.f0 x
      · rw [if_pos c2] at h; omega
      · rw [if_neg c2] at h
        by_cases c3 : tooBig c d (S26.f1 x) (S26.f2 x) = 0
        · rw [if_pos c3] at h
          cases hy with
          | head => omega
          | tail _ hy => have := vers_last c d xs _ h (by omega) (by omega) y hy; omega
        · rw [if_neg c3] at h; exact absurd h c3
def lastNo (xs : List S26) : Int := match xs.getLast? with | none => 0 | some y => S26.f0 y
theorem lastNo_rd {xs : List S26} (h : 0 < xs.length) : lastNo xs = S26.f0 (rd S26.z xs ((xs.length - 1 : Nat) : Int)) := by
  rw [rd_lt (by omega), lastNo, List.getLast?_eq_getElem?, List.getElem?_eq_getElem (by omega)]
theorem lastNo_nil {xs : List S26} (h : xs.length = 0) : lastNo xs = 0 := by rw [List.eq_nil_of_length_eq_zero h]; rfl
/-- What is known where a version may be put. -/
structure May (a b c d e f g : Int) (s : ByteArray) (xs : List S26) : Prop where
  hq : quotaOk a b c d e f g = true
  hs : s ≠ ByteArray.empty
  hb : (s.size : Int) ≤ b
  he : (xs.length : Int) ≤ e
  hv : versV c d 0 xs = 0
theorem May.e4 {a b c d e f g : Int} {s : ByteArray} {xs : List S26} (h : May a b c d e f g s xs) : 1 ≤ e ∧ e ≤ 4 := by have := h.hq; simp only [quotaOk, decide_eq_true_eq] at this; omega
theorem May.n4 {a b c d e f g : Int} {s : ByteArray} {xs : List S26} (h : May a b c d e f g s xs) : xs.length ≤ 4 := by have := h.e4; have := h.he; omega
theorem May.last {a b c d e f g : Int} {s : ByteArray} {xs : List S26} (h : May a b c d e f g s xs) : 0 ≤ lastNo xs ∧ lastNo xs ≤ 1073741824 := by
  rcases Nat.eq_zero_or_pos xs.length with q | q
  · rw [lastNo_nil q]; omega
  · rw [lastNo_rd q, rd_lt (by omega)]
    have := vers_last c d xs 0 h.hv (by omega) (by omega) xs[xs.length - 1] (List.getElem_mem _)
    omega
theorem may_of {a b c d e f g : Int} {s : ByteArray} {xs : List S26} (h : namedV a b c d e f g s xs = 0) : May a b c d e f g s xs := by
  unfold namedV at h
  by_cases c1 : quotaOk a b c d e f g = true
  · rw [if_pos c1] at h
    by_cases c2 : s = ByteArray.empty
    · rw [if_pos c2] at h; omega
    · rw [if_neg c2] at h
      by_cases c3 : b < (s.size : Int)
      · rw [if_pos c3] at h; omega
      · rw [if_neg c3] at h
        by_cases c4 : e < (xs.length : Int)
        · rw [if_pos c4] at h; omega
        · rw [if_neg c4] at h; exact ⟨c1, c2, by omega, by omega, h⟩
  · rw [if_neg c1] at h; omega
theorem named_of {a b c d e f g : Int} {s : ByteArray} {xs : List S26} (h : May a b c d e f g s xs) : namedV a b c d e f g s xs = 0 := by
  unfold namedV
  have := h.hb; have := h.he
  rw [if_pos h.hq, if_neg h.hs, if_neg (by omega), if_neg (by omega)]
  exact h.hv
theorem last_eq (s : ByteArray) (xs : List S26) (h : xs.length ≤ 100) : ∃ t u w, F13_entry_Last s xs = some (lastNo xs, t, u, w, ()) := by
  rw [F13_entry_Last_eq]
  by_cases c1 : xs.length = 0
  · rw [if_pos (by omega), lastNo_nil c1]; exact ⟨_, _, _, rfl⟩
  · rw [if_neg (by omega), w64p (by omega) (by omega), if_pos (inb (by omega)), lastNo_rd (by omega)]; exact ⟨_, _, _, rfl⟩
def newV (xs : List S26) (t u : ByteArray) : S26 := S26.mk (lastNo xs + 1) t u
def allV (xs : List S26) (t u : ByteArray) : List S26 := xs ++ [newV xs t u]
def gone (xs : List S26) (k : Int) : Nat := ((xs.length : Int) + 1 - k).toNat
/-- Why nothing can be put. -/
def badV (a b c d e f g : Int) (s : ByteArray) (xs : List S26) (t u : ByteArray) : Int := if namedV a b c d e f g s xs = 0 then (if tooBig c d t u = 0 then (if lastNo xs = 1073741824 then 2 else 0) else tooBig c d t u) else namedV a b c d e f g s xs
theorem add_eq (a b c d e f g : Int) (s : ByteArray) (xs : List S26) (t u : ByteArray) (k : Int) (hx : xs.length ≤ 9223372036854775807) (hk : k = 1 ∨ k = e) :
    F35_entry_add a b c d e f g s xs t u k = if badV a b c d e f g s xs t u = 0 then some (s, (allV xs t u).drop (gone xs k), 0, (allV xs t u).take (gone xs k), ()) else some (ByteArray.empty, [], badV a b c d e f g s xs t u, [], ()) := by
  rw [F35_entry_add_eq, named_eq _ _ _ _ _ _ _ _ _ hx, Option.bind_some]
  unfold badV
  by_cases c1 : namedV a b c d e f g s xs = 0
  · have m := may_of c1
    have h4 := m.n4
    have hl := m.last
    have he := m.e4
    obtain ⟨p1, p2, p3, p4⟩ := last_eq s xs (by omega)
    rw [if_pos c1, if_pos c1, texts_eq, Option.bind_some]
    by_cases c2 : tooBig c d t u = 0
    · rw [if_pos c2, if_neg (by simp [c2]), p4, Option.bind_some]
      by_cases c3 : lastNo xs = 1073741824
      · rw [if_pos c3, if_pos c3, if_neg (by omega)]
      · rw [if_neg c3, if_neg c3, if_pos rfl, clone_eq xs (by omega), Option.bind_some]
        have hw : IntKind.i64.wrap (lastNo xs + 1) = lastNo xs + 1 := w64 (by omega) (by omega)
        have hn : (xs ++ [newV xs t u]).length = xs.length + 1 := by simp
        simp only [hw]
        rw [show [S26.mk (lastNo xs + 1) t u] = [newV xs t u] from rfl]
        have hg : mx 0 (IntKind.i64.wrap (((xs ++ [newV xs t u]).length : Int) - k)) = (gone xs k : Int) := by
          rw [hn, w64 (by omega) (by omega)]; unfold mx gone; split <;> omega
        have hgl : gone xs k ≤ xs.length := by unfold gone; omega
        simp only [hg]
        rw [if_pos (by simp; omega), if_pos (by omega), subL_drop _ rfl, subL_take _ rfl, clone_eq _ (by rw [List.length_drop]; omega), Option.bind_some, if_pos (by omega), clone_eq _ (by rw [List.length_take]; omega), Option.bind_some]
        rfl
    · rw [if_neg c2, if_pos c2, if_neg c2]
  · rw [if_neg c1, if_neg c1, if_pos c1, if_neg c1]

/-! ### what was put may be -/
theorem vers_mono (c d : Int) {v w : Int} : ∀ {xs : List S26}, versV c d v xs = 0 → w ≤ v → versV c d w xs = 0
  | [], _, _ => rfl
  | x :: xs, h, hw => by
    rw [versV_cons] at h ⊢
    by_cases c1 : S26.f0 x ≤ v
    · rw [if_pos c1] at h; omega
    · rw [if_neg c1] at h; rw [if_neg (by omega)]; exact h
theorem vers_tail (c d : Int) {v : Int} {x : S26} {xs : List S26} (h : versV c d v (x :: xs) = 0) : v < S26.f0 x ∧ S26.f0 x ≤ 1073741824 ∧ tooBig c d (S26.f1 x) (S26.f2 x) = 0 ∧ versV c d (S26.f0 x) xs = 0 := by
  rw [versV_cons] at h
  by_cases c1 : S26.f0 x ≤ v
  · rw [if_pos c1] at h; omega
  · rw [if_neg c1] at h
    by_cases c2 : 1073741824 < S26.f0 x
    · rw [if_pos c2] at h; omega
    · rw [if_neg c2] at h
      by_cases c3 : tooBig c d (S26.f1 x) (S26.f2 x) = 0
      · rw [if_pos c3] at h; exact ⟨by omega, by omega, c3, h⟩
      · rw [if_neg c3] at h; exact absurd h c3
theorem vers_cons (c d : Int) {v : Int} {x : S26} {xs : List S26} (h1 : v < S26.f0 x) (h2 : S26.f0 x ≤ 1073741824) (h3 : tooBig c d (S26.f1 x) (S26.f2 x) = 0) (h4 : versV c d (S26.f0 x) xs = 0) : versV c d v (x :: xs) = 0 := by
  rw [versV_cons, if_neg (by omega), if_neg (by omega), if_pos h3]; exact h4
theorem vers_drop (c d : Int) : ∀ (xs : List S26) (v : Int) (j : Nat), versV c d v xs = 0 → versV c d v (xs.drop j) = 0
  | xs, v, 0, h => h
  | [], v, j + 1, h => rfl
  | x :: xs, v, j + 1, h => by have q := vers_tail c d h; rw [List.drop_succ_cons]; exact vers_mono c d (vers_drop c d xs _ j q.2.2.2) (by omega)
theorem lastNo_cons (x z : S26) (zs : List S26) : lastNo (x :: z :: zs) = lastNo (z :: zs) := by rw [lastNo, List.getLast?_cons_cons]; rfl
theorem lastNo_mem {xs : List S26} (h : xs ≠ []) : ∃ y ∈ xs, lastNo xs = S26.f0 y := ⟨xs.getLast h, List.getLast_mem h, by rw [lastNo, List.getLast?_eq_some_getLast h]⟩
theorem vers_snoc (c d : Int) (y : S26) (h2 : S26.f0 y ≤ 1073741824) (h3 : tooBig c d (S26.f1 y) (S26.f2 y) = 0) : ∀ (xs : List S26) (v : Int), 0 ≤ v → versV c d v xs = 0 → v < S26.f0 y → (xs ≠ [] → lastNo xs < S26.f0 y) → versV c d v (xs ++ [y]) = 0
  | [], v, h0, h, hv, _ => vers_cons c d hv h2 h3 rfl
  | [x], v, h0, h, hv, hl => by
    have q := vers_tail c d h
    have hl : S26.f0 x < S26.f0 y := hl (by simp)
    exact vers_cons c d q.1 q.2.1 q.2.2.1 (vers_cons c d hl h2 h3 rfl)
  | x :: z :: zs, v, h0, h, hv, hl => by
    have q := vers_tail c d h
    have hl := hl (by simp)
    rw [lastNo_cons] at hl
    obtain ⟨m, hm, e⟩ := lastNo_mem (xs := z :: zs) (by simp)
    have h9 := vers_last c d (z :: zs) _ q.2.2.2 (by omega) q.2.1 m hm
    exact vers_cons c d q.1 q.2.1 q.2.2.1 (vers_snoc c d y h2 h3 (z :: zs) _ (by omega) q.2.2.2 (by omega) (fun _ => hl))
/-- A put that goes well. -/
structure Good (a b c d e f g : Int) (s : ByteArray) (xs : List S26) (t u : ByteArray) : Prop where
  m : May a b c d e f g s xs
  hb : tooBig c d t u = 0
  hl : lastNo xs < 1073741824
theorem good_of {a b c d e f g : Int} {s : ByteArray} {xs : List S26} {t u : ByteArray} (h : badV a b c d e f g s xs t u = 0) : Good a b c d e f g s xs t u := by
  unfold badV at h
  by_cases c1 : namedV a b c d e f g s xs = 0
  · rw [if_pos c1] at h
    by_cases c2 : tooBig c d t u = 0
    · rw [if_pos c2] at h
      by_cases c3 : lastNo xs = 1073741824
      · rw [if_pos c3] at h; omega
      · have := (may_of c1).last; exact ⟨may_of c1, c2, by omega⟩
    · rw [if_neg c2] at h; exact absurd h c2
  · rw [if_neg c1] at h; exact absurd h c1
theorem Good.all {a b c d e f g : Int} {s : ByteArray} {xs : List S26} {t u : ByteArray} (h : Good a b c d e f g s xs t u) : versV c d 0 (allV xs t u) = 0 := by
  have hm := h.m
  have hl := hm.last
  have h1 := h.hl
  exact vers_snoc c d (newV xs t u) (show lastNo xs + 1 ≤ 1073741824 by omega) h.hb xs 0 (by omega) hm.hv (show 0 < lastNo xs + 1 by omega) (fun _ => show lastNo xs < lastNo xs + 1 by omega)
theorem gone_le (xs : List S26) {k : Int} (h : 1 ≤ k) : gone xs k ≤ xs.length := by unfold gone; omega
theorem drop_all (xs : List S26) (t u : ByteArray) {k : Int} (h : 1 ≤ k) : (allV xs t u).drop (gone xs k) = xs.drop (gone xs k) ++ [newV xs t u] := by rw [allV, List.drop_append_of_le_length (gone_le xs h)]
theorem take_all (xs : List S26) (t u : ByteArray) {k : Int} (h : 1 ≤ k) : (allV xs t u).take (gone xs k) = xs.take (gone xs k) := by rw [allV, List.take_append_of_le_length (gone_le xs h)]
theorem Good.left {a b c d e f g : Int} {s : ByteArray} {xs : List S26} {t u : ByteArray} (h : Good a b c d e f g s xs t u) {k : Int} (hk : k = 1 ∨ k = e) : May a b c d e f g s ((allV xs t u).drop (gone xs k)) := by
  have hm := h.m
  have he := hm.e4
  refine ⟨hm.hq, hm.hs, hm.hb, ?_, vers_drop c d _ 0 _ h.all⟩
  rw [List.length_drop, allV, List.length_append, List.length_singleton]
  unfold gone
  omega

/-! ### alike -/
instance : DecidableEq S26 := fun x y => decidable_of_iff (x.f0 = y.f0 ∧ x.f1 = y.f1 ∧ x.f2 = y.f2) ⟨fun h => by obtain ⟨x0, x1, x2⟩ := x; obtain ⟨y0, y1, y2⟩ := y; simp_all, fun h => by rw [h]; exact ⟨rfl, rfl, rfl⟩⟩
theorem like_l (xs ys : List S26) (hx : xs.length ≤ 9223372036854775807) (hl : xs.length = ys.length) : ∀ (n i : Nat), xs.length - i = n → i ≤ xs.length →
    F30_letheref05_LikeVersions_l1000004 xs ys (xs.length : Int) (i : Int) = some (decide (xs.drop i = ys.drop i), ()) := by
  intro n
  induction n with
  | zero =>
    intro i hn hi
    rw [F30_letheref05_LikeVersions_l1000004_eq, if_neg (by omega), List.drop_of_length_le (by omega), List.drop_of_length_le (by omega)]; rfl
  | succ n ih =>
    intro i hn hi
    rw [F30_letheref05_LikeVersions_l1000004_eq, if_pos (ilt (by omega)), if_pos (inb (by omega)), if_pos (inb (by omega)), drop_rd (z := S26.z) (by omega : i < xs.length), drop_rd (z := S26.z) (by omega : i < ys.length), w64s (n := xs.length) (by omega) hx, ih (i + 1) (by omega) (by omega)]
    generalize rd S26.z xs (i : Int) = x
    generalize rd S26.z ys (i : Int) = y
    by_cases c1 : x = y
    · rw [if_neg (by simp [c1])]; simp [c1]
    · rw [if_pos (by intro hh; apply c1; obtain ⟨x0, x1, x2⟩ := x; obtain ⟨y0, y1, y2⟩ := y; simp_all)]; simp [c1]
theorem like_eq (xs ys : List S26) (hx : xs.length ≤ 9223372036854775807) : F30_letheref05_LikeVersions xs ys = some (decide (xs = ys), ()) := by
  rw [F30_letheref05_LikeVersions_eq]
  by_cases c1 : xs.length = ys.length
  · rw [if_neg (by omega)]
    have := like_l xs ys hx c1 xs.length 0 (by omega) (by omega)
    simpa using this
  · rw [if_pos (by omega), decide_eq_false (fun h => c1 (by rw [h]))]

structure HInv (a b c d e f g : Int) (s : ByteArray) (i : Nat) (n : Int) (xs al : List S26) : Prop where
  m : May a b c d e f g s xs
  hn : n = lastNo xs
  h60 : n ≤ (i : Int)
  hl : al.length ≤ i
  hx : xs = al.drop (al.length - e.toNat)
theorem HInv.next {a b c d e f g : Int} {s : ByteArray} {i : Nat} {n : Int} {xs al : List S26} (h : HInv a b c d e f g s i n xs al) : HInv a b c d e f g s (i + 1) n xs al :=
  ⟨h.m, h.hn, by have := h.h60; omega, by have := h.hl; omega, h.hx⟩
theorem bad_big {a b c d e f g : Int} {s : ByteArray} {xs : List S26} {t u : ByteArray} (h : May a b c d e f g s xs) (hb : tooBig c d t u = 5) : badV a b c d e f g s xs t u = 5 := by
  unfold badV
  rw [if_pos (named_of h), if_neg (by omega), hb]
theorem lastNo_snoc (xs : List S26) (y : S26) : lastNo (xs ++ [y]) = S26.f0 y := by simp [lastNo]
theorem HInv.good {a b c d e f g : Int} {s : ByteArray} {i : Nat} {n : Int} {xs al : List S26} (h : HInv a b c d e f g s i n xs al) (hi : i < 60) {t u : ByteArray} (hb : tooBig c d t u = 0) : Good a b c d e f g s xs t u ∧ badV a b c d e f g s xs t u = 0 := by
  have h1 := h.hn
  have h2 := h.h60
  refine ⟨⟨h.m, hb, by omega⟩, ?_⟩
  unfold badV
  rw [if_pos (named_of h.m), if_pos hb, if_neg (by omega)]
theorem HInv.put {a b c d e f g : Int} {s : ByteArray} {i : Nat} {n : Int} {xs al : List S26} (h : HInv a b c d e f g s i n xs al) (hi : i < 60) {t u : ByteArray} (hb : tooBig c d t u = 0) : HInv a b c d e f g s (i + 1) (n + 1) ((allV xs t u).drop (gone xs e)) (al ++ [S26.mk (n + 1) t u]) := by
  obtain ⟨G, _⟩ := h.good hi hb
  have he := h.m.e4
  have hme := h.m.he
  have h1 := h.hn
  have h2 := h.h60
  have h3 := h.hl
  have h4 := h.hx
  have hv : newV xs t u = S26.mk (n + 1) t u := by rw [newV, ← h1]
  refine ⟨G.left (.inr rfl), ?_, by omega, by simp; omega, ?_⟩
  · rw [drop_all _ _ _ he.1, lastNo_snoc, hv]
  · rw [drop_all _ _ _ he.1, hv, List.length_append, List.length_singleton]
    have hlen : xs.length = al.length - (al.length - e.toNat) := by rw [h4, List.length_drop]
    by_cases c1 : al.length < e.toNat
    · have e1 : xs = al := by rw [h4, show al.length - e.toNat = 0 by omega]; rfl
      rw [show gone xs e = 0 by unfold gone; omega, show al.length + 1 - e.toNat = 0 by omega, e1]
      rfl
    · rw [show gone xs e = 1 by unfold gone; omega, List.drop_append_of_le_length (by omega)]
      congr 1
      have e1 : xs.drop 1 = (al.drop (al.length - e.toNat)).drop 1 := by rw [← h4]
      rw [e1, List.drop_drop]
      congr 1
      omega
theorem HInv.over {a b c d e f g : Int} {s : ByteArray} {i : Nat} {n : Int} {xs al : List S26} (h : HInv a b c d e f g s i n xs al) (hi : i < 60) {t u : ByteArray} (hb : tooBig c d t u = 0) : HInv a b c d e f g s (i + 1) (n + 1) ((allV xs t u).drop (gone xs 1)) ([] ++ [S26.mk (n + 1) t u]) := by
  obtain ⟨G, _⟩ := h.good hi hb
  have he := h.m.e4
  have h1 := h.hn
  have h2 := h.h60
  have hv : newV xs t u = S26.mk (n + 1) t u := by rw [newV, ← h1]
  have e1 : (allV xs t u).drop (gone xs 1) = [S26.mk (n + 1) t u] := by
    rw [drop_all _ _ _ (by omega), hv, show gone xs 1 = xs.length by unfold gone; omega, List.drop_length]; rfl
  refine ⟨G.left (.inl rfl), ?_, by omega, by simp, ?_⟩
  · rw [e1]; simp [lastNo]
  · rw [e1, List.nil_append, List.length_singleton, show 1 - e.toNat = 0 by omega]; rfl
theorem tooBig_is {c d : Int} {t u : ByteArray} (h1 : ¬ c < (t.size : Int)) (h2 : ¬ d < (u.size : Int)) : tooBig c d t u = 0 := by unfold tooBig; rw [if_neg h1, if_neg h2]
section
variable (a b c d e f g : Int) (s : ByteArray) (cs : List S61)
theorem l20 {i : Nat} {n : Int} {zs al : List S26} {t u : ByteArray} (h : HInv a b c d e f g s (i + 1) n zs (al ++ [S26.mk n t u])) (hi : i < 60) (N v25 v55 v57 : Int) (v58 o : Bool) (w v54 : ByteArray) (ys : List S26) :
    F10_lethelaw05_EntryHistory_l20 s n 0 cs N v25 v54 v55 v57 v58 a b c d e f g w ys al o t u s zs = F10_lethelaw05_EntryHistory_l25_1 s n cs N v25 a b c d e f g s zs (al ++ [S26.mk n t u]) := by
  have hl := h.hl
  have hx := h.hx
  have he := h.m.e4
  have h4 := h.m.n4
  rw [List.length_append, List.length_singleton] at hl
  have hw : mx 0 (IntKind.i64.wrap (((al ++ [S26.mk n t u]).length : Int) - e)) = (((al ++ [S26.mk n t u]).length - e.toNat : Nat) : Int) := by
    rw [List.length_append, List.length_singleton, w64 (by omega) (by omega)]; unfold mx; split <;> omega
  rw [F10_lethelaw05_EntryHistory_l20_eq, if_pos (by rw [List.length_singleton]; omega)]
  dsimp only
  rw [hw, if_neg (by simp), if_neg (by simp), subL_drop _ rfl, ← hx, if_pos (by rw [List.length_append, List.length_singleton]; omega), like_eq _ _ (by omega), Option.bind_some]
  simp
theorem l20' {i : Nat} {n : Int} {zs al : List S26} {t u : ByteArray} (h : HInv a b c d e f g s (i + 1) n zs (al ++ [S26.mk n t u])) (hi : i < 60) (N v25 v55 v57 : Int) (v58 o : Bool) (w v54 : ByteArray) (ys : List S26) :
    F10_lethelaw05_EntryHistory_l20_1 s n 0 cs N v25 v54 v55 v57 v58 a b c d e f g w ys al o t u s zs = F10_lethelaw05_EntryHistory_l25_1 s n cs N v25 a b c d e f g s zs (al ++ [S26.mk n t u]) := by
  rw [← l20 a b c d e f g s cs h hi N v25 v55 v57 v58 o w v54 ys, F10_lethelaw05_EntryHistory_l20_1_eq, F10_lethelaw05_EntryHistory_l20_eq]
theorem over_eq (xs : List S26) (t u : ByteArray) (hx : xs.length ≤ 100) : F27_entry_Over a b c d e f g s xs t u = if badV a b c d e f g s xs t u = 0 then some (s, (allV xs t u).drop (gone xs 1), 0, (allV xs t u).take (gone xs 1), ()) else some (ByteArray.empty, [], badV a b c d e f g s xs t u, [], ()) := by
  rw [F27_entry_Over_eq, add_eq _ _ _ _ _ _ _ _ _ _ _ _ (by omega) (.inl rfl)]
  split <;> rfl
theorem put_eq (xs : List S26) (t u : ByteArray) (hx : xs.length ≤ 100) : F25_entry_Put a b c d e f g s xs t u = if badV a b c d e f g s xs t u = 0 then some (s, (allV xs t u).drop (gone xs e), 0, (allV xs t u).take (gone xs e), ()) else some (ByteArray.empty, [], badV a b c d e f g s xs t u, [], ()) := by
  rw [F25_entry_Put_eq, add_eq _ _ _ _ _ _ _ _ _ _ _ _ (by omega) (.inr rfl)]
  split <;> rfl
theorem loop1 (hc : cs.length ≤ 9223372036854775807) : ∀ (k i : Nat) (n : Int) (xs al : List S26), cs.length - i = k → i ≤ cs.length → HInv a b c d e f g s i n xs al →
    F10_lethelaw05_EntryHistory_l1000007_1 s n cs (cs.length : Int) (i : Int) a b c d e f g s xs al = some (true, ()) := by
  intro k
  induction k with
  | zero => intro i n xs al hk hi h; rw [F10_lethelaw05_EntryHistory_l1000007_1_eq, if_neg (by omega)]
  | succ k ih =>
    intro i n xs al hk hi h
    have h4 := h.m.n4
    rw [F10_lethelaw05_EntryHistory_l1000007_1_eq, if_pos (ilt (by omega)), if_pos (inb (by omega))]
    refine ite_to (fun _ => rfl) (fun h60 => ?_)
    have h60' : i < 60 := by omega
    have hn := h.h60
    have hn0 := h.hn
    have hl0 := h.m.last
    rw [w64 (n := n + 1) (by omega) (by omega)]
    generalize rd S61.z cs (i : Int) = q
    have back : ∀ v, v = 5 → F10_lethelaw05_EntryHistory_l15_1 s n v cs (cs.length : Int) (i : Int) a b c d e f g s xs al = some (true, ()) := by
      intro v hv
      subst hv
      rw [F10_lethelaw05_EntryHistory_l15_1_eq, if_neg (by simp), F10_lethelaw05_EntryHistory_l25_1_eq, w64s (n := cs.length) (by omega) (by omega)]
      exact ih (i + 1) _ _ _ (by omega) (by omega) h.next
    have on : ∀ (n : Int) (zs al : List S26), HInv a b c d e f g s (i + 1) n zs al → F10_lethelaw05_EntryHistory_l25_1 s n cs (cs.length : Int) (i : Int) a b c d e f g s zs al = some (true, ()) := by
      intro n zs al h
      rw [F10_lethelaw05_EntryHistory_l25_1_eq, w64s (n := cs.length) (by omega) (by omega)]
      exact ih (i + 1) _ _ _ (by omega) (by omega) h
    rw [over_eq a b c d e f g s xs _ _ (by omega), put_eq a b c d e f g s xs _ _ (by omega)]
    by_cases c1 : c < ((S61.f1 q).size : Int)
    · have hb := bad_big (t := S61.f1 q) (u := S61.f2 q) h.m (by unfold tooBig; rw [if_pos c1])
      rw [hb]; simp only [show ¬ (5 : Int) = 0 by omega, if_false]
      simp only [Option.bind_some, if_pos c1, back 5 rfl, ite_self]
    · by_cases c2 : d < ((S61.f2 q).size : Int)
      · have hb := bad_big (t := S61.f1 q) (u := S61.f2 q) h.m (by unfold tooBig; rw [if_neg c1, if_pos c2])
        rw [hb]; simp only [show ¬ (5 : Int) = 0 by omega, if_false]
        simp only [Option.bind_some, if_neg c1, if_pos c2, back 5 rfl, ite_self]
      · have hb := tooBig_is c1 c2
        obtain ⟨G, hz⟩ := h.good h60' hb
        simp only [hz, if_true]
        simp only [Option.bind_some, if_neg c1, if_neg c2]
        refine ite_to (fun ho => ?_) (fun ho => ?_)
        · rw [if_pos ho]
          rw [l20 a b c d e f g s cs (h.over h60' hb) h60']
          exact on _ _ _ (h.over h60' hb)
        · rw [if_neg ho]
          rw [l20' a b c d e f g s cs (h.put h60' hb) h60']
          exact on _ _ _ (h.put h60' hb)
theorem loop0 (hc : cs.length ≤ 9223372036854775807) : ∀ (k i : Nat) (n : Int) (xs al : List S26), cs.length - i = k → i ≤ cs.length → HInv a b c d e f g s i n xs al →
    F10_lethelaw05_EntryHistory_l1000007 s n cs (cs.length : Int) (i : Int) a b c d e f g s xs al = some (true, ()) := by
  intro k
  induction k with
  | zero => intro i n xs al hk hi h; rw [F10_lethelaw05_EntryHistory_l1000007_eq, if_neg (by omega)]
  | succ k ih =>
    intro i n xs al hk hi h
    have h4 := h.m.n4
    rw [F10_lethelaw05_EntryHistory_l1000007_eq, if_pos (ilt (by omega)), if_pos (inb (by omega))]
    refine ite_to (fun _ => rfl) (fun h60 => ?_)
    have h60' : i < 60 := by omega
    have hn := h.h60
    have hn0 := h.hn
    have hl0 := h.m.last
    rw [w64 (n := n + 1) (by omega) (by omega)]
    generalize rd S61.z cs (i : Int) = q
    have back : ∀ v, v = 5 → F10_lethelaw05_EntryHistory_l15 s n v cs (cs.length : Int) (i : Int) a b c d e f g s xs al = some (true, ()) := by
      intro v hv
      subst hv
      rw [F10_lethelaw05_EntryHistory_l15_eq, if_neg (by simp), F10_lethelaw05_EntryHistory_l25_eq, w64s (n := cs.length) (by omega) (by omega)]
      exact ih (i + 1) _ _ _ (by omega) (by omega) h.next
    have on : ∀ (n : Int) (zs al : List S26), HInv a b c d e f g s (i + 1) n zs al → F10_lethelaw05_EntryHistory_l25_1 s n cs (cs.length : Int) (i : Int) a b c d e f g s zs al = some (true, ()) := by
      intro n zs al h
      rw [F10_lethelaw05_EntryHistory_l25_1_eq, w64s (n := cs.length) (by omega) (by omega)]
      exact loop1 a b c d e f g s cs hc _ (i + 1) _ _ _ rfl (by omega) h
    rw [over_eq a b c d e f g s xs _ _ (by omega), put_eq a b c d e f g s xs _ _ (by omega)]
    by_cases c1 : c < ((S61.f1 q).size : Int)
    · have hb := bad_big (t := S61.f1 q) (u := S61.f2 q) h.m (by unfold tooBig; rw [if_pos c1])
      rw [hb]; simp only [show ¬ (5 : Int) = 0 by omega, if_false]
      simp only [Option.bind_some, if_pos c1, back 5 rfl, ite_self]
    · by_cases c2 : d < ((S61.f2 q).size : Int)
      · have hb := bad_big (t := S61.f1 q) (u := S61.f2 q) h.m (by unfold tooBig; rw [if_neg c1, if_pos c2])
        rw [hb]; simp only [show ¬ (5 : Int) = 0 by omega, if_false]
        simp only [Option.bind_some, if_neg c1, if_pos c2, back 5 rfl, ite_self]
      · have hb := tooBig_is c1 c2
        obtain ⟨G, hz⟩ := h.good h60' hb
        simp only [hz, if_true]
        simp only [Option.bind_some, if_neg c1, if_neg c2]
        refine ite_to (fun ho => ?_) (fun ho => ?_)
        · rw [if_pos ho]
          rw [l20 a b c d e f g s cs (h.over h60' hb) h60']
          exact on _ _ _ (h.over h60' hb)
        · rw [if_neg ho]
          rw [l20 a b c d e f g s cs (h.put h60' hb) h60']
          exact on _ _ _ (h.put h60' hb)
end
theorem law (a b c d e f g : Int) (s : ByteArray) (cs : List S61) (_ : Ok tab Pr (.int .i64) a) (_ : Ok tab Pr (.int .i64) b) (_ : Ok tab Pr (.int .i64) c) (_ : Ok tab Pr (.int .i64) d) (_ : Ok tab Pr (.int .i64) e) (_ : Ok tab Pr (.int .i64) f) (_ : Ok tab Pr (.int .i64) g) (_ : Ok tab Pr .str s) (h : Ok tab Pr (.sl 61 (.st 61)) cs) : F10_lethelaw05_EntryHistory a b c d e f g s cs = some (true, ()) := by
  have hc : List.length (α := S61) cs ≤ 9223372036854775807 := sl_len h
  rw [F10_lethelaw05_EntryHistory_eq, rnamed_eq _ _ _ _ _ _ _ _ _ (by simp), Option.bind_some]
  refine ite_to (fun _ => rfl) (fun h0 => ?_)
  have m := may_of (Decidable.not_not.1 h0)
  exact loop0 a b c d e f g s cs hc _ 0 0 [] [] rfl (by omega) ⟨m, rfl, by simp, by simp, by simp⟩

end
end Go.Proofs.Ytpnjchejnghplaa.EntryHistoryp
