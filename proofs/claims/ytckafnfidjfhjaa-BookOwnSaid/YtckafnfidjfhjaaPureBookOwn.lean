/- The law BookOwn, for all arguments. Under no condition. -/
import Derived.Test.YtckafnfidjfhjaaEBookOwn
import Derived.Laws.BitsLemmas
import Derived.Laws.Bits64
set_option linter.unusedVariables false
set_option linter.unusedSimpArgs false
set_option linter.unusedSectionVars false
namespace Go.Proofs.Ytckafnfidjfhjaa.BookOwnp
open Go Go.RowKit Go.Proofs.Ytckafnfidjfhjaa.Rx Go.Proofs.Ytckafnfidjfhjaa.BookOwnx
noncomputable section
theorem w64 {n : Int} (h0 : -9223372036854775808 ≤ n) (h1 : n ≤ 9223372036854775807) : IntKind.i64.wrap n = n := by rw [IntKind.wrap_i64]; omega
theorem w64s {j n : Nat} (h : j < n) (hn : n ≤ 9223372036854775807) : IntKind.i64.wrap ((j : Int) + 1) = ((j + 1 : Nat) : Int) := by rw [w64 (by omega) (by omega)]; omega
theorem w64p {j : Nat} (h : 0 < j) (hn : j ≤ 9223372036854775807) : IntKind.i64.wrap ((j : Int) - 1) = ((j - 1 : Nat) : Int) := by rw [w64 (by omega) (by omega)]; omega
theorem sl_len {e : TypeId} {t : Ty} {xs : List (den tab.S t)} (h : Ok tab Pr (.sl e t) xs) : xs.length ≤ 9223372036854775807 := by
  have := (Ok.inv h).2.1
  simp only [maxLen] at this
  omega
theorem ite_to {α : Type} {p : Prop} [Decidable p] {a b c : α} (h1 : p → a = c) (h2 : ¬ p → b = c) : (if p then a else b) = c := by
  by_cases h : p
  · rw [if_pos h]; exact h1 h
  · rw [if_neg h]; exact h2 h
theorem ob_eq {a b : Bool} (h1 : a = true → b = true) (h2 : b = true → a = true) : (some (a, ()) : Option (Bool × Unit)) = some (b, ()) := by rw [Bool.eq_iff_iff.2 ⟨h1, h2⟩]
theorem oi_eq {a b : Int} (h : a = b) : (some (a, ()) : Option (Int × Unit)) = some (b, ()) := by rw [h]
theorem rd_lt {α : Type} {z : α} {xs : List α} {i : Nat} (h : i < xs.length) : rd z xs (i : Int) = xs[i] := by simp [rd, h]
theorem drop_rd {α : Type} {z : α} {xs : List α} {i : Nat} (h : i < xs.length) : xs.drop i = rd z xs (i : Int) :: xs.drop (i + 1) := by rw [rd_lt h]; exact List.drop_eq_getElem_cons h
theorem inb {i n : Nat} (h : i < n) : (0 : Int) ≤ (i : Int) ∧ (i : Int) < (n : Int) := by omega
theorem ilt {i n : Nat} (h : i < n) : (i : Int) < (n : Int) := by omega
theorem subL_drop {α : Type} (xs : List α) {l : Int} {k : Nat} (h : l = (k : Int)) : subL xs l (xs.length : Int) = xs.drop k := by simp [subL, h]
theorem subL_take {α : Type} (xs : List α) {l : Int} {k : Nat} (h : l = (k : Int)) : subL xs 0 l = xs.take k := by simp [subL, h]

/-! ### texts, sorted, each once -/
theorem toB_inj {x y : ByteArray} (h : toB x = toB y) : x = y := by rw [← ofB_to x, ← ofB_to y, h]
theorem sLt_eq (x y : ByteArray) : sLt x y = decide (toB x < toB y) := by
  unfold sLt toB
  rw [ByteArray.toList_eq, ByteArray.toList_eq, bytesLess_eq]
theorem mem_compact {zs : List (List UInt8)} {x : List UInt8} : x ∈ Lib.compact zs ↔ x ∈ zs := by
  unfold Lib.compact Lib.compactUpTo
  constructor
  · intro h
    obtain ⟨j, hj, rfl⟩ := List.mem_map.1 h
    have := List.mem_range.1 (List.mem_filter.1 hj).1
    rw [getElem!_pos zs.toArray j (by simpa using this)]
    exact List.getElem_mem _
  · intro h
    obtain ⟨i, hi, rfl⟩ := List.getElem_of_mem h
    -- the first place of that value's run
    have key : ∀ n i, i = n → ∀ hi : i < zs.length, ∃ j, j < zs.length ∧ Lib.keeps zs.toArray j = true ∧ zs.toArray[j]! = zs[i] := by
      intro n
      induction n with
      | zero =>
        intro i e hi
        subst e
        exact ⟨0, hi, by simp [Lib.keeps], by rw [getElem!_pos zs.toArray 0 (by simpa using hi)]; simp⟩
      | succ n ih =>
        intro i e hi
        subst e
        by_cases c : zs[n + 1] = zs[n]
        · obtain ⟨j, h1, h2, h3⟩ := ih n rfl (by omega)
          exact ⟨j, h1, h2, by rw [h3, c]⟩
        · refine ⟨n + 1, hi, ?_, by rw [getElem!_pos zs.toArray (n + 1) (by simpa using hi)]; simp⟩
          simp only [Lib.keeps, decide_eq_true_eq]
          refine .inr ?_
          rw [getElem!_pos zs.toArray (n + 1) (by simpa using hi), getElem!_pos zs.toArray (n + 1 - 1) (by simp; omega)]
          simpa using c
    obtain ⟨j, h1, h2, h3⟩ := key i i rfl hi
    exact List.mem_map.2 ⟨j, List.mem_filter.2 ⟨List.mem_range.2 h1, h2⟩, h3⟩
theorem compact_strict {zs : List (List UInt8)} (h : zs.Pairwise (· ≤ ·)) : (Lib.compact zs).Pairwise (· < ·) := by
  unfold Lib.compact Lib.compactUpTo
  rw [List.pairwise_map]
  refine List.Pairwise.imp_of_mem (R := fun a b => a < b) ?_ (List.Pairwise.filter _ List.pairwise_lt_range)
  intro i j hi hj hlt
  have hi' := List.mem_range.1 (List.mem_filter.1 hi).1
  have hj' := List.mem_range.1 (List.mem_filter.1 hj).1
  have hk := (List.mem_filter.1 hj).2
  simp only [Lib.keeps, decide_eq_true_eq] at hk
  rw [getElem!_pos zs.toArray j (by simpa using hj'), getElem!_pos zs.toArray (j - 1) (by simp; omega)] at hk
  rw [getElem!_pos zs.toArray i (by simpa using hi'), getElem!_pos zs.toArray j (by simpa using hj')]
  have hk' : zs[j] ≠ zs[j - 1]'(by omega) := by rcases hk with h | h; omega; simpa using h
  have P := List.pairwise_iff_getElem.1 h
  have q1 : zs[j - 1]'(by omega) ≤ zs[j] := P (j - 1) j (by omega) hj' (by omega)
  have q2 : zs[i] ≤ zs[j - 1]'(by omega) := by
    rcases Nat.lt_or_ge i (j - 1) with c | c
    · exact P i (j - 1) hi' (by omega) c
    · have : i = j - 1 := by omega
      subst this
      exact List.le_refl _
  have q3 : zs[i] ≤ zs[j] := List.le_trans q2 q1
  show zs[i] < zs[j]
  apply Classical.byContradiction
  intro hn
  have q4 : zs[j] ≤ zs[i] := List.not_lt.1 hn
  have q5 : zs[j] ≤ zs[j - 1]'(by omega) := List.le_trans q4 q2
  exact hk' (List.le_antisymm q5 q1)
theorem compact_self {zs : List (List UInt8)} (h : zs.Pairwise (· < ·)) : Lib.compact zs = zs := by
  refine Lib.compact_all zs (fun j hj => ?_)
  simp only [Lib.keeps, decide_eq_true_eq]
  rcases Nat.eq_zero_or_pos j with c | c
  · exact .inl c
  · refine .inr ?_
    rw [getElem!_pos zs.toArray j (by simpa using hj), getElem!_pos zs.toArray (j - 1) (by simp; omega)]
    have := List.pairwise_iff_getElem.1 h (j - 1) j (by omega) hj (by omega)
    intro e
    have e' : zs[j] = zs[j - 1]'(by omega) := by simpa using e
    rw [e'] at this
    exact List.lt_irrefl _ this
def txt (l : List ByteArray) : List ByteArray := compS (sortS l)
def leB (x y : List UInt8) : Bool := decide (x ≤ y)
theorem sort_pair (zs : List (List UInt8)) : (zs.mergeSort fun x y => decide (x ≤ y)).Pairwise (· ≤ ·) := by
  have := List.pairwise_mergeSort (le := fun x y : List UInt8 => decide (x ≤ y)) (fun a b c h1 h2 => by
    simp only [decide_eq_true_eq] at h1 h2 ⊢; exact List.le_trans h1 h2) (fun a b => by
    simp only [Bool.or_eq_true, decide_eq_true_eq]; exact List.le_total a b) zs
  exact this.imp (fun h => by simpa using h)
theorem txt_toB (l : List ByteArray) : (txt l).map toB = Lib.compact ((l.map toB).mergeSort fun x y => decide (x ≤ y)) := by
  unfold txt compS sortS
  simp only [List.map_map]
  have e : (toB ∘ ofB) = id := rfl
  rw [e, List.map_id, List.map_id]
theorem mem_txt {l : List ByteArray} {s : ByteArray} : s ∈ txt l ↔ s ∈ l := by
  have h : toB s ∈ (txt l).map toB ↔ toB s ∈ l.map toB := by rw [txt_toB, mem_compact, List.mem_mergeSort]
  have inj : ∀ m : List ByteArray, toB s ∈ m.map toB ↔ s ∈ m := by
    intro m
    constructor
    · intro h
      obtain ⟨x, hx, e⟩ := List.mem_map.1 h
      rw [← toB_inj e]; exact hx
    · exact fun h => List.mem_map.2 ⟨s, h, rfl⟩
  rw [inj, inj] at h
  exact h
theorem txt_strict (l : List ByteArray) : ((txt l).map toB).Pairwise (· < ·) := by rw [txt_toB]; exact compact_strict (sort_pair _)
theorem txt_self {l : List ByteArray} (h : (l.map toB).Pairwise (· < ·)) : txt l = l := by
  have h1 : (l.map toB).mergeSort (fun x y => decide (x ≤ y)) = l.map toB := List.mergeSort_of_pairwise (h.imp (fun {a b} hab => by
    simp only [decide_eq_true_eq]
    exact List.le_of_lt hab))
  have h2 := txt_toB l
  rw [h1, compact_self h] at h2
  have := congrArg (List.map ofB) h2
  simpa [List.map_map, show (ofB ∘ toB) = id from rfl] using this
theorem txt_next {l : List ByteArray} {i : Nat} (h : i + 1 < (txt l).length) : sLt (txt l)[i] (txt l)[i + 1] = true := by
  rw [sLt_eq, decide_eq_true_eq]
  have := List.pairwise_iff_getElem.1 (txt_strict l) i (i + 1) (by simp; omega) (by simpa using h) (by omega)
  simpa using this
theorem txt_len (l : List ByteArray) : (txt l).length ≤ l.length := by
  have h := congrArg List.length (txt_toB l)
  rw [List.length_map] at h
  rw [h]
  have := Lib.compact_length_le ((l.map toB).mergeSort fun x y => decide (x ≤ y))
  rw [List.length_mergeSort, List.length_map] at this
  exact this
theorem clip_eq (xs : List ByteArray) : F57_slices_Clip xs = some (xs, ()) := by
  rw [F57_slices_Clip_eq, if_pos (by omega), subL_take xs rfl, List.take_length]
def inS (s : ByteArray) (xs : List ByteArray) : Bool := xs.any fun x => decide (x = s)
theorem inS_iff {s : ByteArray} {xs : List ByteArray} : inS s xs = true ↔ s ∈ xs := by
  unfold inS
  rw [List.any_eq_true]
  constructor
  · rintro ⟨x, hx, h⟩
    rw [decide_eq_true_eq] at h
    rw [← h]; exact hx
  · exact fun h => ⟨s, h, by simp⟩
def quotaOk (a b c d e f g : Int) : Bool := decide (1 ≤ a ∧ a ≤ 64 ∧ 1 ≤ b ∧ b ≤ 16 ∧ 0 ≤ c ∧ c ≤ 32 ∧ 0 ≤ d ∧ d ≤ 16 ∧ 1 ≤ e ∧ e ≤ 4 ∧ 1 ≤ f ∧ f ≤ 8 ∧ 0 ≤ g ∧ g ≤ 32)
theorem q04 (a b c d e f g : Int) : F19_letheref04_Right a b c d e f g = some (quotaOk a b c d e f g, ()) := by
  rw [F19_letheref04_Right_eq]
  simp only [F19_letheref04_Right_l2_eq]
  repeat' (refine ite_to (fun _ => ?_) (fun _ => ?_))
  all_goals (apply ob_eq <;> intro hh <;> simp only [quotaOk, decide_eq_true_eq, Bool.false_eq_true] at hh ⊢ <;> omega)
theorem qin (x a b : Int) : F71_quota_in x a b = some (decide (a ≤ x ∧ x ≤ b), ()) := by
  rw [F71_quota_in_eq]
  refine ite_to (fun _ => ?_) (fun _ => ?_)
  all_goals (apply ob_eq <;> intro hh <;> simp only [decide_eq_true_eq, Bool.false_eq_true] at hh ⊢ <;> omega)
theorem q66 (a b c d e f g : Int) : F51_quota_Right a b c d e f g = some ((if quotaOk a b c d e f g = true then 0 else 40), ()) := by
  rw [F51_quota_Right_eq]
  simp only [F51_quota_Right_l3_eq, qin, Option.bind_some, decide_eq_true_eq]
  repeat' (refine ite_to (fun _ => ?_) (fun _ => ?_))
  · rw [if_pos (by simp only [quotaOk, decide_eq_true_eq]; omega)]
  all_goals rw [if_neg (by simp only [quotaOk, decide_eq_true_eq]; omega)]

/-! ### entries: what may be -/
def tooBig (c d : Int) (s t : ByteArray) : Int := if c < (s.size : Int) then 5 else if d < (t.size : Int) then 5 else 0
theorem tooBig_05 (c d : Int) (s t : ByteArray) : tooBig c d s t = 0 ∨ tooBig c d s t = 5 := by
  unfold tooBig; by_cases h1 : c < (s.size : Int) <;> by_cases h2 : d < (t.size : Int) <;> simp [h1, h2]
def versV (c d : Int) : Int → List S66 → Int
  | _, [] => 0
  | v, y :: ys => if S66.f0 y ≤ v then 50 else if 1073741824 < S66.f0 y then 50 else if tooBig c d (S66.f1 y) (S66.f2 y) = 0 then versV c d (S66.f0 y) ys else tooBig c d (S66.f1 y) (S66.f2 y)
theorem versV_cons (c d v : Int) (y : S66) (ys : List S66) : versV c d v (y :: ys) = if S66.f0 y ≤ v then 50 else if 1073741824 < S66.f0 y then 50 else if tooBig c d (S66.f1 y) (S66.f2 y) = 0 then versV c d (S66.f0 y) ys else tooBig c d (S66.f1 y) (S66.f2 y) := rfl
def namedV (a b c d e f g : Int) (s : ByteArray) (xs : List S66) : Int :=
  if quotaOk a b c d e f g = true then if s = ByteArray.empty then 4 else if b < (s.size : Int) then 5 else if e < (xs.length : Int) then 50 else versV c d 0 xs else 40
theorem texts_eq (a b c d e f g : Int) (s t : ByteArray) : F118_entry_texts a b c d e f g s t = some (tooBig c d s t, ()) := by
  rw [F118_entry_texts_eq]
  unfold tooBig
  repeat' (refine ite_to (fun h => ?_) (fun h => ?_))
  · rw [if_pos h]
  · rw [if_neg (by assumption), if_pos (by assumption)]
  · rw [if_neg (by assumption), if_neg (by assumption)]
theorem named_l (a b c d e f g : Int) (xs : List S66) (hx : xs.length ≤ 9223372036854775807) : ∀ (n i : Nat) (v : Int), xs.length - i = n → i ≤ xs.length →
    F117_entry_named_l1000011 v xs (xs.length : Int) (i : Int) a b c d e f g = some (versV c d v (xs.drop i), ()) := by
  intro n
  induction n with
  | zero =>
    intro i v hn hi
    rw [F117_entry_named_l1000011_eq, if_neg (by omega), List.drop_of_length_le (by omega)]; rfl
  | succ n ih =>
    intro i v hn hi
    rw [F117_entry_named_l1000011_eq, if_pos (ilt (by omega)), if_pos (inb (by omega)), texts_eq, Option.bind_some, drop_rd (z := S66.z) (by omega : i < xs.length), w64s (n := xs.length) (by omega) hx, ih (i + 1) _ (by omega) (by omega)]
    generalize rd S66.z xs (i : Int) = y
    rw [versV_cons]
    refine ite_to (fun h1 => by rw [if_pos h1]) (fun h1 => ?_)
    rw [if_neg h1]
    refine ite_to (fun h2 => by rw [if_pos h2]) (fun h2 => ?_)
    rw [if_neg h2]
    refine ite_to (fun h3 => by rw [if_neg h3]) (fun h3 => ?_)
    rw [if_pos (Decidable.not_not.1 h3)]
theorem named_eq (a b c d e f g : Int) (s : ByteArray) (xs : List S66) (hx : xs.length ≤ 9223372036854775807) : F117_entry_named a b c d e f g s xs = some (namedV a b c d e f g s xs, ()) := by
  rw [F117_entry_named_eq, q66, Option.bind_some]
  unfold namedV
  cases quotaOk a b c d e f g with
  | false => simp
  | true =>
    simp only [if_true, not_true_eq_false, if_false]
    repeat' (refine ite_to (fun h => ?_) (fun h => ?_))
    · rw [if_pos h]
    · rw [if_neg (by assumption), if_pos h]
    · rw [if_neg (by assumption), if_neg (by assumption), if_pos h]
    · rw [if_neg (by assumption), if_neg (by assumption), if_neg h]
      exact named_l a b c d e f g xs hx xs.length 0 0 (by omega) (by omega)
/-! ### the texts of entries -/
def verTexts (v : S66) : List ByteArray := [S66.f1 v, S66.f2 v]
def entTexts (e : S64) : List ByteArray := S64.f0 e :: (S64.f1 e).flatMap verTexts
theorem verTexts_len (l : List S66) : (l.flatMap verTexts).length = l.length * 2 := by
  induction l with
  | nil => rfl
  | cons x t ih => rw [List.flatMap_cons, List.length_append, ih, List.length_cons]; simp [verTexts]; omega
theorem entTexts_len (e : S64) : (entTexts e).length = List.length (α := S66) (S64.f1 e) * 2 + 1 := by unfold entTexts; rw [List.length_cons, verTexts_len]
theorem texts_len (es : List S64) : es.length ≤ (es.flatMap entTexts).length := by
  induction es with
  | nil => simp
  | cons x t ih => rw [List.flatMap_cons, List.length_append, entTexts_len, List.length_cons]; omega
theorem texts_max (es : List S64) (hv : ∀ e ∈ es, List.length (α := S66) (S64.f1 e) ≤ 100) : (es.flatMap entTexts).length ≤ es.length * 201 := by
  induction es with
  | nil => simp
  | cons x t ih => rw [List.flatMap_cons, List.length_append, entTexts_len, List.length_cons]; have := ih (fun e he => hv e (by simp [he])); have := hv x (by simp); omega
/-! ### a text put into a rising list -/
def insS : List ByteArray → ByteArray → List ByteArray
  | [], s => [s]
  | x :: t, s => if sLt x s = false then (if sLt s x = true then s :: x :: t else x :: t) else x :: insS t s
theorem insS_len : ∀ (l : List ByteArray) (s : ByteArray), (insS l s).length ≤ l.length + 1
  | [], s => by simp [insS]
  | x :: t, s => by
    have := insS_len t s
    unfold insS
    split
    · split <;> simp
    · simp; omega
theorem sle_trans {x y z : List UInt8} (h1 : x < y) (h2 : y < z) : x < z := List.lt_trans h1 h2
theorem mem_insS {x : ByteArray} : ∀ {l : List ByteArray} {s : ByteArray}, x ∈ insS l s ↔ x = s ∨ x ∈ l
  | [], s => by simp [insS]
  | y :: t, s => by
    unfold insS
    split
    · rename_i h1
      split
      · simp
      · rename_i h2
        have e : s = y := by
          rw [sLt_eq, decide_eq_false_iff_not] at h1
          rw [sLt_eq, decide_eq_true_eq] at h2
          exact toB_inj (List.le_antisymm (List.not_lt.1 h1) (List.not_lt.1 h2))
        subst e
        simp
    · rw [List.mem_cons, mem_insS, List.mem_cons]
      constructor
      · rintro (h | h | h)
        · exact .inr (.inl h)
        · exact .inl h
        · exact .inr (.inr h)
      · rintro (h | h | h)
        · exact .inr (.inl h)
        · exact .inl h
        · exact .inr (.inr h)
theorem insS_strict : ∀ {l : List ByteArray} {s : ByteArray}, (l.map toB).Pairwise (· < ·) → ((insS l s).map toB).Pairwise (· < ·)
  | [], s, _ => by simp [insS]
  | y :: t, s, h => by
    rw [List.map_cons, List.pairwise_cons] at h
    unfold insS
    split
    · split
      · rename_i h1 h2
        rw [sLt_eq, decide_eq_true_eq] at h2
        rw [List.map_cons, List.pairwise_cons]
        refine ⟨fun z hz => ?_, by rw [List.map_cons, List.pairwise_cons]; exact h⟩
        rw [List.map_cons, List.mem_cons] at hz
        rcases hz with rfl | hz
        · exact h2
        · exact List.lt_trans h2 (h.1 z hz)
      · rw [List.map_cons, List.pairwise_cons]; exact h
    · rename_i h1
      have h1' : toB y < toB s := by
        have : sLt y s = true := by simpa using h1
        rw [sLt_eq, decide_eq_true_eq] at this; exact this
      rw [List.map_cons, List.pairwise_cons]
      refine ⟨fun z hz => ?_, insS_strict h.2⟩
      obtain ⟨x, hx, rfl⟩ := List.mem_map.1 hz
      rcases mem_insS.1 hx with rfl | hx
      · exact h1'
      · exact h.1 _ (List.mem_map.2 ⟨x, hx, rfl⟩)
theorem strict_ext : ∀ {l r : List (List UInt8)}, l.Pairwise (· < ·) → r.Pairwise (· < ·) → (∀ x, x ∈ l ↔ x ∈ r) → l = r
  | [], [], _, _, _ => rfl
  | [], y :: r, _, _, h => by have := (h y).2 (by simp); simp at this
  | x :: l, [], _, _, h => by have := (h x).1 (by simp); simp at this
  | x :: l, y :: r, hl, hr, h => by
    rw [List.pairwise_cons] at hl hr
    have e : x = y := by
      have h1 := (h x).1 (by simp)
      have h2 := (h y).2 (by simp)
      rw [List.mem_cons] at h1 h2
      rcases h1 with h1 | h1
      · exact h1
      · rcases h2 with h2 | h2
        · exact h2.symm
        · exact absurd (List.lt_trans (hl.1 y h2) (hr.1 x h1)) (List.lt_irrefl _)
    subst e
    rw [strict_ext hl.2 hr.2 fun z => ?_]
    have := h z
    rw [List.mem_cons, List.mem_cons] at this
    constructor
    · intro hz
      rcases this.1 (.inr hz) with rfl | h'
      · exact absurd (hl.1 _ hz) (List.lt_irrefl _)
      · exact h'
    · intro hz
      rcases this.2 (.inr hz) with rfl | h'
      · exact absurd (hr.1 _ hz) (List.lt_irrefl _)
      · exact h'
theorem txt_ext {l a : List ByteArray} (h : (l.map toB).Pairwise (· < ·)) (hm : ∀ x, x ∈ l ↔ x ∈ a) : l = txt a := by
  have e : l.map toB = (txt a).map toB := strict_ext h (txt_strict a) fun x => by
    constructor
    · intro hx
      obtain ⟨y, hy, rfl⟩ := List.mem_map.1 hx
      exact List.mem_map.2 ⟨y, mem_txt.2 ((hm y).1 hy), rfl⟩
    · intro hx
      obtain ⟨y, hy, rfl⟩ := List.mem_map.1 hx
      exact List.mem_map.2 ⟨y, (hm y).2 (mem_txt.1 hy), rfl⟩
  have := congrArg (List.map ofB) e
  simpa [List.map_map, show (ofB ∘ toB) = id from rfl] using this
theorem ins_txt (a : List ByteArray) (s : ByteArray) : insS (txt a) s = txt (a ++ [s]) :=
  txt_ext (insS_strict (txt_strict a)) fun x => by rw [mem_insS, mem_txt, List.mem_append, List.mem_singleton]; exact or_comm
theorem txt_nil : txt [] = [] := by have := txt_len []; exact List.eq_nil_of_length_eq_zero (by simpa using this)

/-! ### maps -/
section
variable {V : Type}
theorem keyS_iff {a b : ByteArray} : keyS a b = true ↔ a = b := by unfold keyS; exact decide_eq_true_iff
theorem keyS_ne {a b : ByteArray} (h : a ≠ b) : keyS a b = false := by
  cases hb : keyS a b with
  | false => rfl
  | true => exact absurd (keyS_iff.1 hb) h
theorem keyS_self (a : ByteArray) : keyS a a = true := keyS_iff.2 rfl
def atM (x : MapD ByteArray V) (k : ByteArray) : Option V := getE keyS k x.es
theorem mhas_at (x : MapD ByteArray V) (k : ByteArray) : mhas keyS x k = (atM x k).isSome := rfl
theorem mget_at (z : V) (x : MapD ByteArray V) (k : ByteArray) : mget keyS z x k = (atM x k).getD z := rfl
theorem get_set (k k' : ByteArray) (v : V) (c : Nat) : ∀ l : List (Nat × ByteArray × V), getE keyS k' (setE keyS k v c l) = if k' = k then some v else getE keyS k' l
  | [] => by
    simp only [setE, getE]
    by_cases h : k' = k
    · subst h; rw [keyS_self, if_pos rfl]; rfl
    · rw [keyS_ne h, if_neg h]; rfl
  | e :: r => by
    simp only [setE]
    by_cases h1 : k = e.2.1
    · rw [keyS_iff.2 h1]
      simp only [cond_true, getE]
      by_cases h : k' = k
      · rw [keyS_iff.2 h, if_pos h]; rfl
      · rw [keyS_ne h, if_neg h, keyS_ne (fun e' => h (e'.trans h1.symm))]; rfl
    · rw [keyS_ne h1]
      simp only [cond_false, getE]
      rw [get_set k k' v c r]
      by_cases h : k' = k
      · rw [if_pos h, if_pos h, h, keyS_ne h1]; rfl
      · rw [if_neg h, if_neg h]
theorem get_none {k : ByteArray} : ∀ {l : List (Nat × ByteArray × V)}, k ∉ l.map (fun e => e.2.1) → getE keyS k l = none
  | [], _ => rfl
  | e :: r, h => by
    simp only [List.map_cons, List.mem_cons, not_or] at h
    simp only [getE]
    rw [keyS_ne h.1]
    exact get_none h.2
theorem get_del (k k' : ByteArray) : ∀ l : List (Nat × ByteArray × V), (l.map fun e => e.2.1).Nodup → getE keyS k' (delE keyS k l) = if k' = k then none else getE keyS k' l
  | [], _ => by simp [delE, getE]
  | e :: r, hn => by
    simp only [List.map_cons, List.nodup_cons] at hn
    simp only [delE]
    by_cases h1 : k = e.2.1
    · rw [keyS_iff.2 h1]
      simp only [cond_true, getE]
      by_cases h : k' = k
      · rw [if_pos h, get_none (by rw [h, h1]; exact hn.1)]
      · rw [if_neg h, keyS_ne (fun e' => h (e'.trans h1.symm))]; rfl
    · rw [keyS_ne h1]
      simp only [cond_false, getE]
      rw [get_del k k' r hn.2]
      by_cases h : k' = k
      · rw [if_pos h, if_pos h, h, keyS_ne h1]; rfl
      · rw [if_neg h, if_neg h]
theorem get_mem {k : ByteArray} : ∀ {l : List (Nat × ByteArray × V)}, (getE keyS k l).isSome = true ↔ k ∈ l.map (fun e => e.2.1)
  | [] => by simp [getE]
  | e :: r => by
    simp only [getE, List.map_cons, List.mem_cons]
    by_cases h : k = e.2.1
    · rw [keyS_iff.2 h]; simp [h]
    · rw [keyS_ne h]
      simp only [cond_false, h, false_or]
      exact get_mem
theorem get_some {k : ByteArray} {v : V} : ∀ {l : List (Nat × ByteArray × V)}, getE keyS k l = some v → ∃ c, (c, k, v) ∈ l
  | [], h => by cases h
  | e :: r, h => by
    simp only [getE] at h
    by_cases h1 : k = e.2.1
    · rw [keyS_iff.2 h1] at h
      simp only [cond_true, Option.some.injEq] at h
      exact ⟨e.1, by rw [h1, ← h]; exact List.mem_cons_self⟩
    · rw [keyS_ne h1] at h
      obtain ⟨c, hc⟩ := get_some h
      exact ⟨c, List.mem_cons_of_mem _ hc⟩
/-- A map that may be. -/
structure WM (x : MapD ByteArray V) : Prop where
  lt : ∀ e ∈ x.es, e.1 < x.ck
  sn : (x.es.map fun e => e.1).Nodup
  kn : (mkeys x).Nodup
theorem mem_keys {x : MapD ByteArray V} {k : ByteArray} : k ∈ mkeys x ↔ (atM x k).isSome = true := get_mem.symm
theorem WM.nil : WM (MapD.nil : MapD ByteArray V) := ⟨(fun e h => nomatch h), List.nodup_nil, List.nodup_nil⟩
theorem at_nil (k : ByteArray) : atM (MapD.nil : MapD ByteArray V) k = none := rfl
theorem at_set (x : MapD ByteArray V) (k k' : ByteArray) (v : V) : atM (mset keyS x k v) k' = if k' = k then some v else atM x k' := get_set k k' v x.ck x.es
theorem at_del {x : MapD ByteArray V} (h : WM x) (k k' : ByteArray) : atM (mdel keyS x k) k' = if k' = k then none else atM x k' := get_del k k' x.es h.kn
theorem set_keys (k : ByteArray) (v : V) (c : Nat) : ∀ l : List (Nat × ByteArray × V), (setE keyS k v c l).map (fun e => e.2.1) = bif (getE keyS k l).isSome then l.map (fun e => e.2.1) else l.map (fun e => e.2.1) ++ [k]
  | [] => rfl
  | e :: r => by
    have ih := set_keys k v c r
    simp only [setE, getE]
    by_cases h : k = e.2.1
    · rw [keyS_iff.2 h]; simp [h]
    · rw [keyS_ne h]
      simp only [cond_false, List.map_cons, ih]
      cases (getE keyS k r).isSome <;> rfl
theorem set_stamps (k : ByteArray) (v : V) (c : Nat) : ∀ l : List (Nat × ByteArray × V), (setE keyS k v c l).map (fun e => e.1) = bif (getE keyS k l).isSome then l.map (fun e => e.1) else l.map (fun e => e.1) ++ [c]
  | [] => rfl
  | e :: r => by
    have ih := set_stamps k v c r
    simp only [setE, getE]
    by_cases h : k = e.2.1
    · rw [keyS_iff.2 h]; rfl
    · rw [keyS_ne h]
      simp only [cond_false, List.map_cons, ih]
      cases (getE keyS k r).isSome <;> rfl
theorem keys_set (x : MapD ByteArray V) (k : ByteArray) (v : V) : mkeys (mset keyS x k v) = bif (atM x k).isSome then mkeys x else mkeys x ++ [k] := set_keys k v x.ck x.es
theorem del_sub (k : ByteArray) : ∀ l : List (Nat × ByteArray × V), (delE keyS k l).Sublist l
  | [] => List.Sublist.slnil
  | e :: r => by
    simp only [delE]
    cases keyS k e.2.1 with
    | true => exact List.sublist_cons_self ..
    | false => exact (del_sub k r).cons_cons e
theorem WM.set {x : MapD ByteArray V} (h : WM x) (k : ByteArray) (v : V) : WM (mset keyS x k v) := by
  have hck : (mset keyS x k v).ck = bif (atM x k).isSome then x.ck else x.ck + 1 := rfl
  have hst : ((mset keyS x k v).es.map fun e => e.1) = bif (atM x k).isSome then x.es.map (fun e => e.1) else x.es.map (fun e => e.1) ++ [x.ck] := set_stamps k v x.ck x.es
  have hks := keys_set x k v
  have hlt : ∀ s ∈ x.es.map (fun e => e.1), s < x.ck := fun s hs => by
    obtain ⟨e, he, rfl⟩ := List.mem_map.1 hs
    exact h.lt e he
  cases c : (atM x k).isSome with
  | true =>
    rw [c] at hck hst hks
    refine ⟨fun e he => ?_, by rw [hst]; exact h.sn, by rw [hks]; exact h.kn⟩
    have hin : e.1 ∈ (mset keyS x k v).es.map (fun e => e.1) := List.mem_map.2 ⟨e, he, rfl⟩
    rw [hst] at hin
    rw [hck]
    exact hlt _ hin
  | false =>
    rw [c] at hck hst hks
    simp only [cond_false] at hck hst hks
    refine ⟨fun e he => ?_, ?_, ?_⟩
    · have hin : e.1 ∈ (mset keyS x k v).es.map (fun e => e.1) := List.mem_map.2 ⟨e, he, rfl⟩
      rw [hst] at hin
      rw [hck]
      rcases List.mem_append.1 hin with q | q
      · have := hlt _ q; omega
      · rw [List.mem_singleton.1 q]; omega
    · rw [hst]
      refine List.nodup_append.2 ⟨h.sn, by simp, fun a ha b hb => ?_⟩
      rw [List.mem_singleton.1 hb]
      have := hlt a ha
      omega
    · rw [hks]
      refine List.nodup_append.2 ⟨h.kn, by simp, fun a ha b hb => ?_⟩
      rw [List.mem_singleton.1 hb]
      intro e
      rw [e] at ha
      have := mem_keys.1 ha
      rw [c] at this
      cases this
theorem WM.del {x : MapD ByteArray V} (h : WM x) (k : ByteArray) : WM (mdel keyS x k) := by
  have hs : (mdel keyS x k).es.Sublist x.es := del_sub k x.es
  exact ⟨fun e he => h.lt e (hs.subset he), (hs.map _).nodup h.sn, (hs.map _).nodup h.kn⟩
theorem len_keys (x : MapD ByteArray V) : (mkeys x).length = mlen x := List.length_map ..
theorem len_set (x : MapD ByteArray V) (k : ByteArray) (v : V) : mlen (mset keyS x k v) = bif (atM x k).isSome then mlen x else mlen x + 1 := by
  rw [← len_keys, keys_set, ← len_keys]
  cases (atM x k).isSome <;> simp
theorem len_del (x : MapD ByteArray V) (k : ByteArray) : mlen (mdel keyS x k) ≤ mlen x := (del_sub k x.es).length_le
/-- The keys, sorted. -/
def nm (x : MapD ByteArray V) : List ByteArray := sortS (mkeys x)
theorem sortS_perm {l l' : List ByteArray} (h : l.Perm l') : sortS l = sortS l' := by
  unfold sortS
  rw [Go.mergeSort_of_perm (h.map toB)]
theorem perm_sortS (l : List ByteArray) : (sortS l).Perm l := by
  unfold sortS
  have := (List.mergeSort_perm (l.map toB) fun x y => decide (x ≤ y)).map ofB
  rw [List.map_map, show (ofB ∘ toB) = id from rfl, List.map_id] at this
  exact this
theorem sortS_toB (l : List ByteArray) : (sortS l).map toB = (l.map toB).mergeSort fun x y => decide (x ≤ y) := by
  unfold sortS
  rw [List.map_map, show (toB ∘ ofB) = id from rfl, List.map_id]
/-- Rising, each once. -/
def rise (l : List ByteArray) : Prop := (l.map toB).Pairwise (· < ·)
theorem rise_sort {l : List ByteArray} (h : l.Nodup) : rise (sortS l) := by
  unfold rise
  have h1 : ((sortS l).map toB).Pairwise (· ≤ ·) := by rw [sortS_toB]; exact sort_pair _
  have h2 : ((sortS l).map toB).Nodup := List.pairwise_map.2 (((perm_sortS l).nodup_iff.2 h).imp fun {a b} hab e => hab (toB_inj e))
  refine (List.Pairwise.and h1 h2).imp fun {a b} hab => ?_
  apply Classical.byContradiction
  intro hn
  exact hab.2 (List.le_antisymm hab.1 (List.not_lt.1 hn))
theorem rise_nodup {l : List ByteArray} (h : rise l) : l.Nodup := by
  unfold rise at h
  rw [List.pairwise_map] at h
  exact h.imp fun {a b} hab e => by subst e; exact List.lt_irrefl _ hab
theorem rise_ext {l r : List ByteArray} (hl : rise l) (hr : rise r) (h : ∀ s, s ∈ l ↔ s ∈ r) : l = r := by
  rw [← txt_self hr]
  exact txt_ext hl h
theorem rise_filter {l : List ByteArray} (h : rise l) (p : ByteArray → Bool) : rise (l.filter p) := by
  unfold rise at h ⊢
  exact h.sublist ((List.filter_sublist).map _)
theorem nm_rise {x : MapD ByteArray V} (h : WM x) : rise (nm x) := rise_sort h.kn
theorem mem_nm {x : MapD ByteArray V} {k : ByteArray} : k ∈ nm x ↔ (atM x k).isSome = true := (perm_sortS _).mem_iff.trans mem_keys
theorem nm_len (x : MapD ByteArray V) : (nm x).length = mlen x := (perm_sortS _).length_eq.trans (len_keys x)
theorem sort_filter {l : List ByteArray} (h : l.Nodup) (p : ByteArray → Bool) : sortS (l.filter p) = (sortS l).filter p :=
  rise_ext (rise_sort (h.sublist List.filter_sublist)) (rise_filter (rise_sort h) p) fun s => by
    rw [(perm_sortS _).mem_iff, List.mem_filter, List.mem_filter, (perm_sortS _).mem_iff]
/-! ### a map is gone over -/
theorem mcalm_of {x : MapD ByteArray V} (h : WM x) {y : ItD} (hy : y.since = x.ck) : mcalm x y := ⟨hy.symm, by rw [hy]; exact h.lt⟩
theorem find_stamp {e : Nat × ByteArray × V} : ∀ {l : List (Nat × ByteArray × V)}, (l.map fun e => e.1).Nodup → e ∈ l → l.find? (fun z => z.1 == e.1) = some e
  | [], _, h => by cases h
  | z :: l, hn, h => by
    simp only [List.map_cons, List.nodup_cons] at hn
    rw [List.find?_cons]
    rcases List.mem_cons.1 h with rfl | h
    · simp
    · have hne : z.1 ≠ e.1 := fun q => hn.1 (q ▸ List.mem_map.2 ⟨e, h, rfl⟩)
      simp only [beq_eq_false_iff_ne.2 hne]
      exact find_stamp hn.2 h
theorem filter_stamp {e : Nat × ByteArray × V} : ∀ {l : List (Nat × ByteArray × V)}, (l.map fun e => e.1).Nodup → e ∈ l → l.Perm (e :: l.filter fun z => !(z.1 == e.1))
  | [], _, h => by cases h
  | z :: l, hn, h => by
    simp only [List.map_cons, List.nodup_cons] at hn
    rcases List.mem_cons.1 h with rfl | h
    · have : l.filter (fun z => !(z.1 == e.1)) = l := List.filter_eq_self.2 fun a ha => by
        have : a.1 ≠ e.1 := fun q => hn.1 (q ▸ List.mem_map.2 ⟨a, ha, rfl⟩)
        simp [this]
      rw [List.filter_cons]
      simp only [beq_self_eq_true, Bool.not_true, Bool.false_eq_true, if_false, this]
      exact List.Perm.refl _
    · have hne : z.1 ≠ e.1 := fun q => hn.1 (q ▸ List.mem_map.2 ⟨e, h, rfl⟩)
      rw [List.filter_cons]
      simp only [beq_eq_false_iff_ne.2 hne, Bool.not_false, if_true]
      exact ((filter_stamp hn.2 h).cons z).trans (.swap ..)
theorem left_in {x : MapD ByteArray V} {y : ItD} {i : Nat} (hi : i < (mleft x y).length) : (mleft x y)[i] ∈ x.es := (List.mem_filter.1 (List.getElem_mem hi)).1
theorem see_cur {x : MapD ByteArray V} (h : WM x) {y : ItD} {i : Nat} (hi : i < (mleft x y).length) : curE x (msee y (mleft x y) i) = some (mleft x y)[i] := by
  simp only [curE, msee, List.getElem?_eq_getElem hi, List.getLast?_append, List.getLast?_singleton, Option.some_or]
  exact find_stamp h.sn (left_in hi)
theorem see_mat {x : MapD ByteArray V} (h : WM x) {y : ItD} (hy : y.since = x.ck) {i : Nat} (hi : i < (mleft x y).length) : mat x (msee y (mleft x y) i) := ⟨hy.symm, by rw [see_cur h hi]; rfl⟩
theorem see_key {x : MapD ByteArray V} (h : WM x) {y : ItD} {i : Nat} (hi : i < (mleft x y).length) (z : ByteArray) : ckey z x (msee y (mleft x y) i) = (mleft x y)[i].2.1 := by unfold ckey; rw [see_cur h hi]
theorem see_val {x : MapD ByteArray V} (h : WM x) {y : ItD} {i : Nat} (hi : i < (mleft x y).length) (z : V) : cval z x (msee y (mleft x y) i) = (mleft x y)[i].2.2 := by unfold cval; rw [see_cur h hi]
theorem see_left {x : MapD ByteArray V} (h : WM x) {y : ItD} {i : Nat} (hi : i < (mleft x y).length) : (mleft x y).Perm ((mleft x y)[i] :: mleft x (msee y (mleft x y) i)) := by
  have h1 : mleft x (msee y (mleft x y) i) = (mleft x y).filter fun z => !(z.1 == (mleft x y)[i].1) := by
    have hsee : (msee y (mleft x y) i).seen = y.seen ++ [(mleft x y)[i].1] := by simp only [msee, List.getElem?_eq_getElem hi]
    generalize (mleft x y)[i].1 = s at hsee
    generalize msee y (mleft x y) i = y' at hsee
    unfold mleft
    rw [hsee, List.filter_filter]
    refine List.filter_congr fun e he => ?_
    by_cases c1 : e.1 ∈ y.seen <;> by_cases c2 : e.1 = s <;> simp [c1, c2]
  rw [h1]
  have hs : ((mleft x y).map fun e => e.1).Nodup := h.sn.sublist ((List.filter_sublist).map _)
  exact filter_stamp hs (List.getElem_mem hi)
theorem left_beg (x : MapD ByteArray V) : mleft x (mbeg x) = x.es := List.filter_eq_self.2 fun e he => by simp [mbeg]
end

/-! ### a version put behind the others -/
theorem clone_eq (xs : List S66) (h : xs.length ≤ 100) : F58_slices_Clone xs = some (xs, ()) := by
  rw [F58_slices_Clone_eq]
  refine ite_to (fun h0 => ?_) (fun h0 => ?_)
  · rw [if_pos (by omega), List.nil_append, List.eq_nil_of_length_eq_zero h0, anyO_self]
  · rw [if_pos (by omega), List.nil_append]
/-- What is known of versions that may be. -/
theorem vers_last (c d : Int) : ∀ (xs : List S66) (v : Int), versV c d v xs = 0 → 0 ≤ v → v ≤ 1073741824 → ∀ y ∈ xs, v < S66.f0 y ∧ S66.f0 y ≤ 1073741824
  | [], _, _, _, _, y, hy => by cases hy
  | x :: xs, v, h, h0, h1, y, hy => by
    rw [versV_cons] at h
    by_cases c1 : S66.f0 x ≤ v
    · rw [if_pos c1] at h; omega
    · rw [if_neg c1] at h
      by_cases c2 : 1073741824 < S66.f0 x
      · rw [if_pos c2] at h; omega
      · rw [if_neg c2] at h
        by_cases c3 : tooBig c d (S66.f1 x) (S66.f2 x) = 0
        · rw [if_pos c3] at h
          cases hy with
          | head => omega
          | tail _ hy => have := vers_last c d xs _ h (by omega) (by omega) y hy; omega
        · rw [if_neg c3] at h; exact absurd h c3
def lastNo (xs : List S66) : Int := match xs.getLast? with | none => 0 | some y => S66.f0 y
theorem lastNo_rd {xs : List S66} (h : 0 < xs.length) : lastNo xs = S66.f0 (rd S66.z xs ((xs.length - 1 : Nat) : Int)) := by
  rw [rd_lt (by omega), lastNo, List.getLast?_eq_getElem?, List.getElem?_eq_getElem (by omega)]
theorem lastNo_nil {xs : List S66} (h : xs.length = 0) : lastNo xs = 0 := by rw [List.eq_nil_of_length_eq_zero h]; rfl
/-- What is known where a version may be put. -/
structure May (a b c d e f g : Int) (s : ByteArray) (xs : List S66) : Prop where
  hq : quotaOk a b c d e f g = true
  hs : s ≠ ByteArray.empty
  hb : (s.size : Int) ≤ b
  he : (xs.length : Int) ≤ e
  hv : versV c d 0 xs = 0
theorem May.e4 {a b c d e f g : Int} {s : ByteArray} {xs : List S66} (h : May a b c d e f g s xs) : 1 ≤ e ∧ e ≤ 4 := by have := h.hq; simp only [quotaOk, decide_eq_true_eq] at this; omega
theorem May.n4 {a b c d e f g : Int} {s : ByteArray} {xs : List S66} (h : May a b c d e f g s xs) : xs.length ≤ 4 := by have := h.e4; have := h.he; omega
theorem May.last {a b c d e f g : Int} {s : ByteArray} {xs : List S66} (h : May a b c d e f g s xs) : 0 ≤ lastNo xs ∧ lastNo xs ≤ 1073741824 := by
  rcases Nat.eq_zero_or_pos xs.length with q | q
  · rw [lastNo_nil q]; omega
  · rw [lastNo_rd q, rd_lt (by omega)]
    have := vers_last c d xs 0 h.hv (by omega) (by omega) xs[xs.length - 1] (List.getElem_mem _)
    omega
theorem may_of {a b c d e f g : Int} {s : ByteArray} {xs : List S66} (h : namedV a b c d e f g s xs = 0) : May a b c d e f g s xs := by
  unfold namedV at h
  by_cases c1 : quotaOk a b c d e f g = true
  · rw [if_pos c1] at h
    by_cases c2 : s = ByteArray.empty
    · rw [if_pos c2] at h; omega
    · rw [if_neg c2] at h
      by_cases c3 : b < (s.size : Int)
      · rw [if_pos c3] at h; omega
      · rw [if_neg c3] at h
        by_cases c4 : e < (xs.length : Int)
        · rw [if_pos c4] at h; omega
        · rw [if_neg c4] at h; exact ⟨c1, c2, by omega, by omega, h⟩
  · rw [if_neg c1] at h; omega
theorem named_of {a b c d e f g : Int} {s : ByteArray} {xs : List S66} (h : May a b c d e f g s xs) : namedV a b c d e f g s xs = 0 := by
  unfold namedV
  have := h.hb; have := h.he
  rw [if_pos h.hq, if_neg h.hs, if_neg (by omega), if_neg (by omega)]
  exact h.hv
theorem last_eq (s : ByteArray) (xs : List S66) (h : xs.length ≤ 100) : ∃ t u w, F119_entry_Last s xs = some (lastNo xs, t, u, w, ()) := by
  rw [F119_entry_Last_eq]
  by_cases c1 : xs.length = 0
  · rw [if_pos (by omega), lastNo_nil c1]; exact ⟨_, _, _, rfl⟩
  · rw [if_neg (by omega), w64p (by omega) (by omega), if_pos (inb (by omega)), lastNo_rd (by omega)]; exact ⟨_, _, _, rfl⟩
def newV (xs : List S66) (t u : ByteArray) : S66 := S66.mk (lastNo xs + 1) t u
def allV (xs : List S66) (t u : ByteArray) : List S66 := xs ++ [newV xs t u]
def gone (xs : List S66) (k : Int) : Nat := ((xs.length : Int) + 1 - k).toNat
/-- Why nothing can be put. -/
def badV (a b c d e f g : Int) (s : ByteArray) (xs : List S66) (t u : ByteArray) : Int := if namedV a b c d e f g s xs = 0 then (if tooBig c d t u = 0 then (if lastNo xs = 1073741824 then 2 else 0) else tooBig c d t u) else namedV a b c d e f g s xs
theorem add_eq (a b c d e f g : Int) (s : ByteArray) (xs : List S66) (t u : ByteArray) (k : Int) (hx : xs.length ≤ 9223372036854775807) (hk : k = 1 ∨ k = e) :
    F101_entry_add a b c d e f g s xs t u k = if badV a b c d e f g s xs t u = 0 then some (s, (allV xs t u).drop (gone xs k), 0, (allV xs t u).take (gone xs k), ()) else some (ByteArray.empty, [], badV a b c d e f g s xs t u, [], ()) := by
  rw [F101_entry_add_eq, named_eq _ _ _ _ _ _ _ _ _ hx, Option.bind_some]
  unfold badV
  by_cases c1 : namedV a b c d e f g s xs = 0
  · have m := may_of c1
    have h4 := m.n4
    have hl := m.last
    have he := m.e4
    obtain ⟨p1, p2, p3, p4⟩ := last_eq s xs (by omega)
    rw [if_pos c1, if_pos c1, texts_eq, Option.bind_some]
    by_cases c2 : tooBig c d t u = 0
    · rw [if_pos c2, if_neg (by simp [c2]), p4, Option.bind_some]
      by_cases c3 : lastNo xs = 1073741824
      · rw [if_pos c3, if_pos c3, if_neg (by omega)]
      · rw [if_neg c3, if_neg c3, if_pos rfl, clone_eq xs (by omega), Option.bind_some]
        have hw : IntKind.i64.wrap (lastNo xs + 1) = lastNo xs + 1 := w64 (by omega) (by omega)
        have hn : (xs ++ [newV xs t u]).length = xs.length + 1 := by simp
        simp only [hw]
        rw [show [S66.mk (lastNo xs + 1) t u] = [newV xs t u] from rfl]
        have hg : mx 0 (IntKind.i64.wrap (((xs ++ [newV xs t u]).length : Int) - k)) = (gone xs k : Int) := by
          rw [hn, w64 (by omega) (by omega)]; unfold mx gone; split <;> omega
        have hgl : gone xs k ≤ xs.length := by unfold gone; omega
        simp only [hg]
        rw [if_pos (by simp; omega), if_pos (by omega), subL_drop _ rfl, subL_take _ rfl, clone_eq _ (by rw [List.length_drop]; omega), Option.bind_some, if_pos (by omega), clone_eq _ (by rw [List.length_take]; omega), Option.bind_some]
        rfl
    · rw [if_neg c2, if_pos c2, if_neg c2]
  · rw [if_neg c1, if_neg c1, if_pos c1, if_neg c1]

/-! ### what was put may be -/
theorem vers_mono (c d : Int) {v w : Int} : ∀ {xs : List S66}, versV c d v xs = 0 → w ≤ v → versV c d w xs = 0
  | [], _, _ => rfl
  | x :: xs, h, hw => by
    rw [versV_cons] at h ⊢
    by_cases c1 : S66.f0 x ≤ v
    · rw [if_pos c1] at h; omega
    · rw [if_neg c1] at h; rw [if_neg (by omega)]; exact h
theorem vers_tail (c d : Int) {v : Int} {x : S66} {xs : List S66} (h : versV c d v (x :: xs) = 0) : v < S66.f0 x ∧ S66.f0 x ≤ 1073741824 ∧ tooBig c d (S66.f1 x) (S66.f2 x) = 0 ∧ versV c d (S66.f0 x) xs = 0 := by
  rw [versV_cons] at h
  by_cases c1 : S66.f0 x ≤ v
  · rw [if_pos c1] at h; omega
  · rw [if_neg c1] at h
    by_cases c2 : 1073741824 < S66.f0 x
    · rw [if_pos c2] at h; omega
    · rw [if_neg c2] at h
      by_cases c3 : tooBig c d (S66.f1 x) (S66.f2 x) = 0
      · rw [if_pos c3] at h; exact ⟨by omega, by omega, c3, h⟩
      · rw [if_neg c3] at h; exact absurd h c3
theorem vers_cons (c d : Int) {v : Int} {x : S66} {xs : List S66} (h1 : v < S66.f0 x) (h2 : S66.f0 x ≤ 1073741824) (h3 : tooBig c d (S66.f1 x) (S66.f2 x) = 0) (h4 : versV c d (S66.f0 x) xs = 0) : versV c d v (x :: xs) = 0 := by
  rw [versV_cons, if_neg (by omega), if_neg (by omega), if_pos h3]; exact h4
theorem vers_drop (c d : Int) : ∀ (xs : List S66) (v : Int) (j : Nat), versV c d v xs = 0 → versV c d v (xs.drop j) = 0
  | xs, v, 0, h => h
  | [], v, j + 1, h => rfl
  | x :: xs, v, j + 1, h => by have q := vers_tail c d h; rw [List.drop_succ_cons]; exact vers_mono c d (vers_drop c d xs _ j q.2.2.2) (by omega)
theorem lastNo_cons (x z : S66) (zs : List S66) : lastNo (x :: z :: zs) = lastNo (z :: zs) := by rw [lastNo, List.getLast?_cons_cons]; rfl
theorem lastNo_mem {xs : List S66} (h : xs ≠ []) : ∃ y ∈ xs, lastNo xs = S66.f0 y := ⟨xs.getLast h, List.getLast_mem h, by rw [lastNo, List.getLast?_eq_some_getLast h]⟩
theorem vers_snoc (c d : Int) (y : S66) (h2 : S66.f0 y ≤ 1073741824) (h3 : tooBig c d (S66.f1 y) (S66.f2 y) = 0) : ∀ (xs : List S66) (v : Int), 0 ≤ v → versV c d v xs = 0 → v < S66.f0 y → (xs ≠ [] → lastNo xs < S66.f0 y) → versV c d v (xs ++ [y]) = 0
  | [], v, h0, h, hv, _ => vers_cons c d hv h2 h3 rfl
  | [x], v, h0, h, hv, hl => by
    have q := vers_tail c d h
    have hl : S66.f0 x < S66.f0 y := hl (by simp)
    exact vers_cons c d q.1 q.2.1 q.2.2.1 (vers_cons c d hl h2 h3 rfl)
  | x :: z :: zs, v, h0, h, hv, hl => by
    have q := vers_tail c d h
    have hl := hl (by simp)
    rw [lastNo_cons] at hl
    obtain ⟨m, hm, e⟩ := lastNo_mem (xs := z :: zs) (by simp)
    have h9 := vers_last c d (z :: zs) _ q.2.2.2 (by omega) q.2.1 m hm
    exact vers_cons c d q.1 q.2.1 q.2.2.1 (vers_snoc c d y h2 h3 (z :: zs) _ (by omega) q.2.2.2 (by omega) (fun _ => hl))
/-- A put that goes well. -/
structure Good (a b c d e f g : Int) (s : ByteArray) (xs : List S66) (t u : ByteArray) : Prop where
  m : May a b c d e f g s xs
  hb : tooBig c d t u = 0
  hl : lastNo xs < 1073741824
theorem good_of {a b c d e f g : Int} {s : ByteArray} {xs : List S66} {t u : ByteArray} (h : badV a b c d e f g s xs t u = 0) : Good a b c d e f g s xs t u := by
  unfold badV at h
  by_cases c1 : namedV a b c d e f g s xs = 0
  · rw [if_pos c1] at h
    by_cases c2 : tooBig c d t u = 0
    · rw [if_pos c2] at h
      by_cases c3 : lastNo xs = 1073741824
      · rw [if_pos c3] at h; omega
      · have := (may_of c1).last; exact ⟨may_of c1, c2, by omega⟩
    · rw [if_neg c2] at h; exact absurd h c2
  · rw [if_neg c1] at h; exact absurd h c1
theorem Good.all {a b c d e f g : Int} {s : ByteArray} {xs : List S66} {t u : ByteArray} (h : Good a b c d e f g s xs t u) : versV c d 0 (allV xs t u) = 0 := by
  have hm := h.m
  have hl := hm.last
  have h1 := h.hl
  exact vers_snoc c d (newV xs t u) (show lastNo xs + 1 ≤ 1073741824 by omega) h.hb xs 0 (by omega) hm.hv (show 0 < lastNo xs + 1 by omega) (fun _ => show lastNo xs < lastNo xs + 1 by omega)
theorem gone_le (xs : List S66) {k : Int} (h : 1 ≤ k) : gone xs k ≤ xs.length := by unfold gone; omega
theorem drop_all (xs : List S66) (t u : ByteArray) {k : Int} (h : 1 ≤ k) : (allV xs t u).drop (gone xs k) = xs.drop (gone xs k) ++ [newV xs t u] := by rw [allV, List.drop_append_of_le_length (gone_le xs h)]
theorem take_all (xs : List S66) (t u : ByteArray) {k : Int} (h : 1 ≤ k) : (allV xs t u).take (gone xs k) = xs.take (gone xs k) := by rw [allV, List.take_append_of_le_length (gone_le xs h)]
theorem Good.left {a b c d e f g : Int} {s : ByteArray} {xs : List S66} {t u : ByteArray} (h : Good a b c d e f g s xs t u) {k : Int} (hk : k = 1 ∨ k = e) : May a b c d e f g s ((allV xs t u).drop (gone xs k)) := by
  have hm := h.m
  have he := hm.e4
  refine ⟨hm.hq, hm.hs, hm.hb, ?_, vers_drop c d _ 0 _ h.all⟩
  rw [List.length_drop, allV, List.length_append, List.length_singleton]
  unfold gone
  omega

/-! ### the book -/
abbrev MB := MapD ByteArray S64
abbrev MW := MapD ByteArray S89
theorem nm_nil {V : Type} : nm (MapD.nil : MapD ByteArray V) = [] := List.eq_nil_of_length_eq_zero (nm_len _)
theorem etaE (x : S64) : S64.mk (S64.f0 x) (S64.f1 x) = x := by cases x; rfl
theorem etaO (x : S131) : S131.mk (S131.f0 x) (S131.f1 x) (S131.f2 x) (S131.f3 x) = x := by cases x; rfl
def ent (m : MB) (k : ByteArray) : S64 := mget keyS S64.z m k
def vs (m : MB) (k : ByteArray) : List S66 := S64.f1 (ent m k)
theorem ent_some {m : MB} {k : ByteArray} {x : S64} (h : atM m k = some x) : ent m k = x := by unfold ent; rw [mget_at, h]; rfl
theorem ent_none {m : MB} {k : ByteArray} (h : atM m k = none) : ent m k = S64.z := by unfold ent; rw [mget_at, h]; rfl
theorem vs_none {m : MB} {k : ByteArray} (h : atM m k = none) : vs m k = [] := by unfold vs; rw [ent_none h]; rfl
/-- All secrets, by name. -/
def allB (m : MB) : List S64 := (nm m).map (ent m)
theorem allB_nil : allB MapD.nil = [] := by unfold allB; rw [nm_nil]; rfl
/-- A book that may be; so many values were put at most. -/
structure IB (a b c d e f g : Int) (m : MB) (w : MW) (n : Nat) : Prop where
  q : quotaOk a b c d e f g = true
  wm : WM m
  ww : WM w
  ne : ∀ k x, atM m k = some x → S64.f0 x = k ∧ May a b c d e f g k (S64.f1 x) ∧ S64.f1 x ≠ []
  le : (mlen m : Int) ≤ a
  lw : mlen w ≤ n
  kw : ∀ k ∈ mkeys w, (k.size : Int) ≤ c
structure QB (a b c d e f g : Int) : Prop where
  ha : 1 ≤ a ∧ a ≤ 64
  hb : 1 ≤ b ∧ b ≤ 16
  hc : 0 ≤ c ∧ c ≤ 32
  hd : 0 ≤ d ∧ d ≤ 16
  he : 1 ≤ e ∧ e ≤ 4
  hf : 1 ≤ f ∧ f ≤ 8
theorem qb_of {a b c d e f g : Int} (h : quotaOk a b c d e f g = true) : QB a b c d e f g := by
  simp only [quotaOk, decide_eq_true_eq] at h
  constructor <;> omega
variable {a b c d e f g : Int} {m : MB} {w : MW} {n : Nat}
theorem IB.vs4 (I : IB a b c d e f g m w n) (k : ByteArray) : (vs m k).length ≤ 4 := by
  cases h : atM m k with
  | none => rw [vs_none h]; simp
  | some x => have := (I.ne k x h).2.1.n4; unfold vs; rw [ent_some h]; exact this
theorem IB.len (I : IB a b c d e f g m w n) : mlen m ≤ 64 := by have := I.le; have := (qb_of I.q).ha; omega
theorem IB.name (I : IB a b c d e f g m w n) {k : ByteArray} (h : (atM m k).isSome = true) : S64.f0 (ent m k) = k := by
  obtain ⟨x, hx⟩ := Option.isSome_iff_exists.1 h
  rw [ent_some hx]; exact (I.ne k x hx).1
theorem IB.nil (h : quotaOk a b c d e f g = true) : IB a b c d e f g (MapD.nil : MB) (MapD.nil : MW) 0 :=
  ⟨h, WM.nil, WM.nil, fun k x hx => (nomatch hx), by have := (qb_of h).ha; show ((0 : Nat) : Int) ≤ a; omega, Nat.le_refl _, fun k hk => (nomatch hk)⟩
theorem bclone_eq (s : ByteArray) (xs : List S66) (h : xs.length ≤ 100) : F38_book_clone s xs = some (s, xs, ()) := by rw [F38_book_clone_eq, clone_eq xs h]; rfl
theorem copy_eq : F20_book_Book_Copy a b c d e f g m w = some (a, b, c, d, e, f, g, m, w, a, b, c, d, e, f, g, m, w, ()) := by
  rw [F20_book_Book_Copy_eq, F35_maps_Clone_eq, Option.bind_some, F36_maps_Clone_eq]; rfl
/-! ### names -/
def beg (s p : ByteArray) : Bool := decide (p.size ≤ s.size) && decide (subS s 0 (p.size : Int) = p)
def fits (ps : List ByteArray) (s : ByteArray) : Bool := decide (ps.length = 0) || ps.any (beg s)
theorem pre_eq (s p : ByteArray) : F73_stringslite_HasPrefix s p = some (beg s p, ()) := by
  rw [F73_stringslite_HasPrefix_eq]
  unfold beg
  refine ite_to (fun h => ?_) (fun h => ?_)
  · rw [if_pos (by omega), decide_eq_true (by omega : p.size ≤ s.size)]; rfl
  · rw [decide_eq_false (by omega : ¬ p.size ≤ s.size)]; rfl
theorem one_eq (s p : ByteArray) : F54_book_Book_Names_1 p s = some (beg s p, s, ()) := by
  rw [F54_book_Book_Names_1_eq, F55_strings_HasPrefix_eq, pre_eq]; rfl
theorem index_l (ps : List ByteArray) (s : ByteArray) (hp : ps.length ≤ 9223372036854775807) : ∀ (k i : Nat), ps.length - i = k → i ≤ ps.length →
    ∃ j : Int, F72_slices_IndexFunc_54_l1000002 ps (ps.length : Int) (i : Int) s = some (j, s, ()) ∧ (0 ≤ j ↔ (ps.drop i).any (beg s) = true) := by
  intro k
  induction k with
  | zero =>
    intro i hk hi
    rw [F72_slices_IndexFunc_54_l1000002_eq, if_neg (by omega), List.drop_eq_nil_of_le (by omega)]
    exact ⟨-1, rfl, by simp⟩
  | succ k ih =>
    intro i hk hi
    obtain ⟨j, h1, h2⟩ := ih (i + 1) (by omega) (by omega)
    rw [F72_slices_IndexFunc_54_l1000002_eq, if_pos (ilt (by omega)), if_pos (inb (by omega)), one_eq, Option.bind_some, drop_rd (z := ByteArray.empty) (by omega : i < ps.length), w64s (n := ps.length) (by omega) hp]
    generalize rd ByteArray.empty ps (i : Int) = p
    dsimp only
    cases hb : beg s p with
    | true => rw [if_pos rfl]; exact ⟨(i : Int), rfl, by simp [hb]⟩
    | false => rw [if_neg (by simp), h1]; exact ⟨j, rfl, by rw [h2]; simp [hb]⟩
theorem contains_eq (ps : List ByteArray) (s : ByteArray) (hp : ps.length ≤ 9223372036854775807) : F53_slices_ContainsFunc_54 ps s = some (ps.any (beg s), s, ()) := by
  rw [F53_slices_ContainsFunc_54_eq, F72_slices_IndexFunc_54_eq]
  obtain ⟨j, h1, h2⟩ := index_l ps s hp _ 0 rfl (by omega)
  rw [show F72_slices_IndexFunc_54_l1000002 ps (ps.length : Int) 0 s = _ from h1, Option.bind_some]
  dsimp only
  rw [List.drop_zero] at h2
  have : decide ((0 : Int) ≤ j) = ps.any (beg s) := by
    cases hb : ps.any (beg s) with
    | true => exact decide_eq_true (h2.2 hb)
    | false => exact decide_eq_false (fun q => by rw [h2.1 q] at hb; cases hb)
  rw [this]
theorem names_l (ps : List ByteArray) (hp : ps.length ≤ 9223372036854775807) (hw : WM m) : ∀ (k : Nat) (it : ItD) (acc : List ByteArray), it.since = m.ck → (mleft m it).length = k → acc.length + k ≤ 1000000 →
    F37_book_Book_Names_l1000003 ps a b c d e f g m w acc it = some (sortS (acc ++ ((mleft m it).map fun z => z.2.1).filter (fits ps)), a, b, c, d, e, f, g, m, w, ()) := by
  intro k
  induction k with
  | zero =>
    intro it acc hi hk hl
    rw [F37_book_Book_Names_l1000003_eq, if_pos (mcalm_of hw hi), if_pos hk, F56_slices_Sort_eq, if_pos (by omega), Option.bind_some, clip_eq, List.eq_nil_of_length_eq_zero hk]
    simp
  | succ k ih =>
    intro it acc hi hk hl
    rw [F37_book_Book_Names_l1000003_eq, if_pos (mcalm_of hw hi), if_neg (by omega)]
    refine allO_some.2 ⟨by omega, fun i hil => ?_⟩
    dsimp only
    rw [if_pos (see_mat hw hi hil), see_key hw hil]
    have hpm := see_left hw hil
    have hlen : (mleft m (msee it (mleft m it) i)).length = k := by have := hpm.length_eq; rw [List.length_cons] at this; omega
    have hsince : (msee it (mleft m it) i).since = m.ck := hi
    have hfp := (hpm.map fun z : Nat × ByteArray × S64 => z.2.1).filter (fits ps)
    rw [List.map_cons] at hfp
    generalize (mleft m it)[i].2.1 = x at hfp ⊢
    have ihx := ih (msee it (mleft m it) i) (acc ++ [x]) hsince hlen (by rw [List.length_append, List.length_singleton]; omega)
    have ihn := ih (msee it (mleft m it) i) acc hsince hlen (by omega)
    have yes : fits ps x = true → sortS (acc ++ [x] ++ ((mleft m (msee it (mleft m it) i)).map fun z => z.2.1).filter (fits ps)) = sortS (acc ++ ((mleft m it).map fun z => z.2.1).filter (fits ps)) := fun hf => by
      rw [List.filter_cons, if_pos hf] at hfp
      refine sortS_perm ?_
      rw [List.append_assoc]
      exact hfp.symm.append_left acc
    have no : fits ps x = false → sortS (acc ++ ((mleft m (msee it (mleft m it) i)).map fun z => z.2.1).filter (fits ps)) = sortS (acc ++ ((mleft m it).map fun z => z.2.1).filter (fits ps)) := fun hf => by
      rw [List.filter_cons, if_neg (by simp [hf])] at hfp
      exact sortS_perm (hfp.symm.append_left acc)
    refine ite_to (fun c1 => ?_) (fun c1 => ?_)
    · rw [if_pos (by rw [List.length_singleton]; omega), ihx, yes (by unfold fits; simp; left; exact List.eq_nil_of_length_eq_zero (by omega))]
    · rw [contains_eq ps x hp, Option.bind_some]
      dsimp only
      have hfx : fits ps x = ps.any (beg x) := by unfold fits; rw [decide_eq_false (by omega), Bool.false_or]
      cases hb : ps.any (beg x) with
      | true => rw [if_pos rfl, if_pos (by rw [List.length_singleton]; omega), ihx, yes (hfx.trans hb)]
      | false => rw [if_neg (by simp), ihn, no (hfx.trans hb)]
theorem names_eq (ps : List ByteArray) (hp : ps.length ≤ 9223372036854775807) (hw : WM m) (hl : mlen m ≤ 1000000) : F37_book_Book_Names ps a b c d e f g m w = some ((nm m).filter (fits ps), a, b, c, d, e, f, g, m, w, ()) := by
  rw [F37_book_Book_Names_eq, names_l ps hp hw _ (mbeg m) [] rfl rfl (by rw [left_beg]; show 0 + mlen m ≤ _; omega), left_beg, List.nil_append]
  rw [show sortS (List.filter (fits ps) (List.map (fun z => z.2.1) m.es)) = (nm m).filter (fits ps) from sort_filter hw.kn (fits ps)]
theorem fits_nil (s : ByteArray) : fits [] s = true := rfl
theorem names_all (hw : WM m) (hl : mlen m ≤ 1000000) : F37_book_Book_Names [] a b c d e f g m w = some (nm m, a, b, c, d, e, f, g, m, w, ()) := by
  rw [names_eq [] (by simp) hw hl, List.filter_eq_self.2 (fun x _ => fits_nil x)]
/-! ### all -/
theorem allB_len (m : MB) : (allB m).length = mlen m := by unfold allB; rw [List.length_map, nm_len]
/-! ### what is gone -/
theorem half {i j : Nat} (h : i + j < 4611686018427387904) : IntKind.i64.wrap (shrR .u64 (IntKind.u64.wrap (IntKind.i64.wrap ((i : Int) + (j : Int)))) 1) = (((i + j) / 2 : Nat) : Int) := by
  rw [w64 (n := (i : Int) + (j : Int)) (by omega) (by omega)]
  have h1 : IntKind.u64.wrap ((i : Int) + (j : Int)) = ((i + j : Nat) : Int) := by
    rw [IntKind.wrap_u64]; omega
  rw [h1]
  have h2 : shrR .u64 ((i + j : Nat) : Int) 1 = (((i + j) / 2 : Nat) : Int) := by
    unfold shrR
    rw [show min (Int.toNat 1) IntKind.u64.bits = 1 from by decide, Int.fdiv_eq_ediv_of_nonneg _ (by decide)]
    show ((i + j : Nat) : Int) / 2 = _
    omega
  rw [h2, w64 (by omega) (by omega)]
def liveB (m : MB) : List ByteArray := txt ((allB m).flatMap entTexts)
def goneB (m : MB) (w : MW) : List ByteArray := (nm w).filter fun v => !inS v (liveB m)
theorem mwf_ok {V : Type} {x : MapD ByteArray V} (h : WM x) (hl : mlen x ≤ 1000000) (hk : ∀ k ∈ mkeys x, k.size ≤ 9223372036854775807) : mwf x = true :=
  mwf_of.2 ⟨by have : x.es.length = mlen x := rfl; omega, hk, h.lt, h.sn, h.kn⟩
theorem IB.texts (I : IB a b c d e f g m w n) : ((allB m).flatMap entTexts).length ≤ 64 * 201 := by
  have h1 := texts_max (allB m) (fun x hx => by
    obtain ⟨k, _, rfl⟩ := List.mem_map.1 hx
    have := I.vs4 k
    unfold vs at this
    omega)
  rw [allB_len] at h1
  have := I.len
  exact Nat.le_trans h1 (Nat.mul_le_mul_right _ this)
/-! ### calls at a book -/
def badC (a b c d : Int) (m : MB) (k : Int) (s t u : ByteArray) : Int :=
  if ¬ k = 1 ∧ ¬ k = 2 ∧ ¬ k = 3 then 8 else if s = ByteArray.empty then 4 else if b < (s.size : Int) then 5 else if ¬ k = 3 ∧ (c < (t.size : Int) ∨ d < (u.size : Int)) then 5
  else if k = 3 then (if (atM m s).isSome = true then 0 else 3) else if (atM m s).isSome = false ∧ a ≤ (mlen m : Int) then 6 else if lastNo (vs m s) = 1073741824 then 2 else 0
def keepC (e k : Int) : Int := if k = 2 then 1 else e
def newE (e : Int) (m : MB) (k : Int) (s t u : ByteArray) : S64 := S64.mk s ((allV (vs m s) t u).drop (gone (vs m s) (keepC e k)))
def nextM (e : Int) (m : MB) (k : Int) (s t u : ByteArray) : MB := if k = 3 then mdel keyS m s else mset keyS m s (newE e m k s t u)
def nextW (w : MW) (k : Int) (t : ByteArray) : MW := if k = 3 then w else mset keyS w t S89.mk
/-- What a call answers. -/
def outC (a b c d e f g : Int) (m : MB) (w : MW) (k : Int) (s t u : ByteArray) (x : Int) : Option (Int × Int × Int × Int × Int × Int × Int × Int × MB × MW × Unit) :=
  some (x, a, b, c, d, e, f, g, if x = 0 then nextM e m k s t u else m, if x = 0 then nextW w k t else w, ())
theorem IB.may (I : IB a b c d e f g m w n) {s : ByteArray} (hs : s ≠ ByteArray.empty) (hb : (s.size : Int) ≤ b) : May a b c d e f g s (vs m s) := by
  cases h : atM m s with
  | none => rw [vs_none h]; exact ⟨I.q, hs, hb, by have := (qb_of I.q).he; simp; omega, rfl⟩
  | some x => have := (I.ne s x h).2.1; unfold vs; rw [ent_some h]; exact this
theorem big_0 {c d : Int} {t u : ByteArray} (h : ¬ (c < (t.size : Int) ∨ d < (u.size : Int))) : tooBig c d t u = 0 := by
  unfold tooBig
  rw [if_neg (fun q => h (.inl q)), if_neg (fun q => h (.inr q))]
theorem big_5 {c d : Int} {t u : ByteArray} (h : tooBig c d t u = 0) : ¬ (c < (t.size : Int) ∨ d < (u.size : Int)) := by
  unfold tooBig at h
  rintro (q | q)
  · rw [if_pos q] at h; omega
  · by_cases q2 : c < (t.size : Int)
    · rw [if_pos q2] at h; omega
    · rw [if_neg q2, if_pos q] at h; omega
theorem IB.badE (I : IB a b c d e f g m w n) {s t u : ByteArray} (hs : s ≠ ByteArray.empty) (hb : (s.size : Int) ≤ b) (ht : tooBig c d t u = 0) : badV a b c d e f g s (vs m s) t u = if lastNo (vs m s) = 1073741824 then 2 else 0 := by
  unfold badV
  rw [if_pos (named_of (I.may hs hb)), if_pos ht]
theorem call_16 (I : IB a b c d e f g m w n) {k : Int} {s t u : ByteArray} (hk : k = 1 ∨ k = 2) (hs : s ≠ ByteArray.empty) (hb : (s.size : Int) ≤ b) (ht : tooBig c d t u = 0) :
    F59_book_Book_call_l16 a b c d e f g m w k s t u s (vs m s) = outC a b c d e f g m w k s t u (if lastNo (vs m s) = 1073741824 then 2 else 0) := by
  have hbad := I.badE hs hb ht (t := t) (u := u)
  have h4 := I.vs4 s
  rw [F59_book_Book_call_l16_eq]
  have key : ∀ kp : Int, kp = 1 ∨ kp = e → keepC e k = kp → (if badV a b c d e f g s (vs m s) t u = 0 then some (s, (allV (vs m s) t u).drop (gone (vs m s) kp), (0 : Int), (allV (vs m s) t u).take (gone (vs m s) kp), ()) else some (ByteArray.empty, ([] : List S66), badV a b c d e f g s (vs m s) t u, ([] : List S66), ())).bind (fun y1 => some (y1.1, y1.2.1, y1.2.2.1, y1.2.2.2.1, ())) = if lastNo (vs m s) = 1073741824 then some (ByteArray.empty, [], 2, [], ()) else some (s, (allV (vs m s) t u).drop (gone (vs m s) (keepC e k)), 0, (allV (vs m s) t u).take (gone (vs m s) kp), ()) := by
    intro kp hkp hke
    rw [hbad, hke]
    by_cases c1 : lastNo (vs m s) = 1073741824
    · rw [if_pos c1, if_pos c1, if_neg (by decide)]; rfl
    · rw [if_neg c1, if_neg c1, if_pos rfl]; rfl
  have fin : ∀ X : List S66, ((if lastNo (vs m s) = 1073741824 then some (ByteArray.empty, ([] : List S66), (2 : Int), ([] : List S66), ()) else some (s, (allV (vs m s) t u).drop (gone (vs m s) (keepC e k)), 0, X, ())).bind fun y1 =>
      if y1.2.2.1 = (0 : Int) then F59_book_Book_call_l24 y1.2.2.1 a b c d e f g (mset keyS m s (S64.mk y1.1 y1.2.1)) (mset keyS w t (S89.mk)) else F59_book_Book_call_l24 y1.2.2.1 a b c d e f g m w) = outC a b c d e f g m w k s t u (if lastNo (vs m s) = 1073741824 then 2 else 0) := by
    intro X
    unfold outC nextM nextW
    rw [if_neg (by omega : ¬ k = 3), if_neg (by omega : ¬ k = 3)]
    by_cases c1 : lastNo (vs m s) = 1073741824
    · rw [if_pos c1, if_pos c1, Option.bind_some]
      dsimp only
      rw [if_neg (by decide), if_neg (by decide), if_neg (by decide), F59_book_Book_call_l24_eq]
    · rw [if_neg c1, if_neg c1, Option.bind_some]
      dsimp only
      rw [if_pos rfl, if_pos rfl, if_pos rfl, F59_book_Book_call_l24_eq]
      rfl
  refine ite_to (fun c1 => ?_) (fun c1 => ?_)
  · rw [F59_book_Book_call_l19_eq, F76_entry_Over_eq, add_eq _ _ _ _ _ _ _ _ _ _ _ _ (by omega) (Or.inl rfl), key 1 (Or.inl rfl) (if_pos c1)]
    exact fin _
  · rw [F59_book_Book_call_l19_1_eq, F75_entry_Put_eq, add_eq _ _ _ _ _ _ _ _ _ _ _ _ (by omega) (Or.inr rfl), key e (Or.inr rfl) (if_neg c1)]
    exact fin _
theorem call_9 (I : IB a b c d e f g m w n) {k : Int} {s t u : ByteArray} (hk : k = 1 ∨ k = 2 ∨ k = 3) (hs : s ≠ ByteArray.empty) (hb : (s.size : Int) ≤ b) (ht : ¬ (¬ k = 3 ∧ (c < (t.size : Int) ∨ d < (u.size : Int)))) :
    F59_book_Book_call_l9 (mhas keyS m s) (decide (k = 3)) a b c d e f g m w k s t u (S64.f0 (mget keyS S64.z m s)) (S64.f1 (mget keyS S64.z m s)) = outC a b c d e f g m w k s t u (badC a b c d m k s t u) := by
  have hbc : badC a b c d m k s t u = if k = 3 then (if (atM m s).isSome = true then 0 else 3) else if (atM m s).isSome = false ∧ a ≤ (mlen m : Int) then 6 else if lastNo (vs m s) = 1073741824 then 2 else 0 := by
    unfold badC
    rw [if_neg (by omega), if_neg hs, if_neg (by omega), if_neg ht]
  rw [hbc, F59_book_Book_call_l9_eq, mhas_at, F59_book_Book_call_l11_eq]
  by_cases c3 : k = 3
  · rw [decide_eq_true c3, if_pos rfl, if_pos rfl, if_pos c3]
    unfold outC nextM nextW
    rw [if_pos c3, if_pos c3]
    cases (atM m s).isSome with
    | true => rfl
    | false => rfl
  · rw [decide_eq_false c3, if_neg (by simp), if_neg (by simp), if_neg c3]
    have h16 := call_16 (t := t) (u := u) I (by omega : k = 1 ∨ k = 2) hs hb (big_0 (fun q => ht ⟨c3, q⟩))
    have h16' : ∀ x : ByteArray, x = s ∨ x = S64.f0 (mget keyS S64.z m s) → F59_book_Book_call_l16 a b c d e f g m w k s t u x (S64.f1 (mget keyS S64.z m s)) = outC a b c d e f g m w k s t u (if lastNo (vs m s) = 1073741824 then 2 else 0) := by
      rintro x (rfl | rfl)
      · exact h16
      · rw [← h16, F59_book_Book_call_l16_eq, F59_book_Book_call_l16_eq, F59_book_Book_call_l19_eq, F59_book_Book_call_l19_1_eq, F59_book_Book_call_l19_eq, F59_book_Book_call_l19_1_eq]
        rfl
    cases hp : (atM m s).isSome with
    | true =>
      rw [if_neg (by simp), if_neg (by simp)]
      exact h16' _ (.inr rfl)
    | false =>
      rw [if_pos (by simp)]
      by_cases c4 : a ≤ (mlen m : Int)
      · rw [if_pos c4, if_pos ⟨rfl, c4⟩]; rfl
      · rw [if_neg c4, if_neg (fun q => c4 q.2)]
        exact h16' _ (.inr rfl)
theorem call_eq (I : IB a b c d e f g m w n) (k : Int) (s t u : ByteArray) : F59_book_Book_call k s t u a b c d e f g m w = outC a b c d e f g m w k s t u (badC a b c d m k s t u) := by
  rw [F59_book_Book_call_eq]
  simp only [F59_book_Book_call_l8_eq]
  have h8 : (¬ k = 1 ∧ ¬ k = 2 ∧ ¬ k = 3) → badC a b c d m k s t u = 8 := fun h => by unfold badC; rw [if_pos h]
  have h4 : ¬ (¬ k = 1 ∧ ¬ k = 2 ∧ ¬ k = 3) → s = ByteArray.empty → badC a b c d m k s t u = 4 := fun h h1 => by unfold badC; rw [if_neg h, if_pos h1]
  have h5 : ¬ (¬ k = 1 ∧ ¬ k = 2 ∧ ¬ k = 3) → ¬ s = ByteArray.empty → b < (s.size : Int) → badC a b c d m k s t u = 5 := fun h h1 h2 => by unfold badC; rw [if_neg h, if_neg h1, if_pos h2]
  have h5' : ¬ (¬ k = 1 ∧ ¬ k = 2 ∧ ¬ k = 3) → ¬ s = ByteArray.empty → ¬ b < (s.size : Int) → ¬ k = 3 ∧ (c < (t.size : Int) ∨ d < (u.size : Int)) → badC a b c d m k s t u = 5 := fun h h1 h2 h3 => by unfold badC; rw [if_neg h, if_neg h1, if_neg h2, if_pos h3]
  have o8 : ∀ x : Int, ¬ x = 0 → badC a b c d m k s t u = x → some (x, a, b, c, d, e, f, g, m, w, ()) = outC a b c d e f g m w k s t u (badC a b c d m k s t u) := fun x hx hb => by rw [hb]; unfold outC; rw [if_neg hx, if_neg hx]
  have tail : (k = 1 ∨ k = 2 ∨ k = 3) → (if s = ByteArray.empty then some (4, a, b, c, d, e, f, g, m, w, ()) else if b < (s.size : Int) then some (5, a, b, c, d, e, f, g, m, w, ()) else if ¬ k = 3 then (if c < (t.size : Int) then some (5, a, b, c, d, e, f, g, m, w, ()) else if d < (u.size : Int) then some (5, a, b, c, d, e, f, g, m, w, ()) else F59_book_Book_call_l9 (mhas keyS m s) (decide (k = 3)) a b c d e f g m w k s t u (S64.f0 (mget keyS S64.z m s)) (S64.f1 (mget keyS S64.z m s))) else F59_book_Book_call_l9 (mhas keyS m s) (decide (k = 3)) a b c d e f g m w k s t u (S64.f0 (mget keyS S64.z m s)) (S64.f1 (mget keyS S64.z m s))) = outC a b c d e f g m w k s t u (badC a b c d m k s t u) := by
    intro hk
    have hk' : ¬ (¬ k = 1 ∧ ¬ k = 2 ∧ ¬ k = 3) := by omega
    refine ite_to (fun c1 => o8 4 (by decide) (h4 hk' c1)) (fun c1 => ?_)
    refine ite_to (fun c2 => o8 5 (by decide) (h5 hk' c1 c2)) (fun c2 => ?_)
    refine ite_to (fun c3 => ?_) (fun c3 => ?_)
    · refine ite_to (fun c4 => o8 5 (by decide) (h5' hk' c1 c2 ⟨c3, .inl c4⟩)) (fun c4 => ?_)
      refine ite_to (fun c5 => o8 5 (by decide) (h5' hk' c1 c2 ⟨c3, .inr c5⟩)) (fun c5 => ?_)
      exact call_9 I hk c1 (by omega) (fun q => q.2.elim c4 c5)
    · exact call_9 I hk c1 (by omega) (fun q => c3 q.1)
  refine ite_to (fun k1 => ?_) (fun k1 => ?_)
  · refine ite_to (fun k2 => ?_) (fun k2 => ?_)
    · refine ite_to (fun k3 => o8 8 (by decide) (h8 ⟨k1, k2, k3⟩)) (fun k3 => ?_)
      exact tail (by omega)
    · exact tail (by omega)
  · exact tail (by omega)
theorem bad_0 {k : Int} {s t u : ByteArray} (h : badC a b c d m k s t u = 0) : (k = 1 ∨ k = 2 ∨ k = 3) ∧ s ≠ ByteArray.empty ∧ (s.size : Int) ≤ b ∧ ¬ (¬ k = 3 ∧ (c < (t.size : Int) ∨ d < (u.size : Int))) ∧ (k = 3 → (atM m s).isSome = true) ∧ (¬ k = 3 → ¬ ((atM m s).isSome = false ∧ a ≤ (mlen m : Int)) ∧ ¬ lastNo (vs m s) = 1073741824) := by
  unfold badC at h
  by_cases c0 : ¬ k = 1 ∧ ¬ k = 2 ∧ ¬ k = 3
  · rw [if_pos c0] at h; omega
  · rw [if_neg c0] at h
    by_cases c1 : s = ByteArray.empty
    · rw [if_pos c1] at h; omega
    · rw [if_neg c1] at h
      by_cases c2 : b < (s.size : Int)
      · rw [if_pos c2] at h; omega
      · rw [if_neg c2] at h
        by_cases c3 : ¬ k = 3 ∧ (c < (t.size : Int) ∨ d < (u.size : Int))
        · rw [if_pos c3] at h; omega
        · rw [if_neg c3] at h
          refine ⟨by omega, c1, by omega, c3, fun q => ?_, fun q => ?_⟩
          · rw [if_pos q] at h
            by_cases c4 : (atM m s).isSome = true
            · exact c4
            · rw [if_neg c4] at h; omega
          · rw [if_neg q] at h
            by_cases c4 : (atM m s).isSome = false ∧ a ≤ (mlen m : Int)
            · rw [if_pos c4] at h; omega
            · rw [if_neg c4] at h
              by_cases c5 : lastNo (vs m s) = 1073741824
              · rw [if_pos c5] at h; omega
              · exact ⟨c4, c5⟩
theorem IB.next (I : IB a b c d e f g m w n) {k : Int} {s t u : ByteArray} (h : badC a b c d m k s t u = 0) : IB a b c d e f g (nextM e m k s t u) (nextW w k t) (n + 1) := by
  obtain ⟨hk, hs, hb, ht, h3, h4⟩ := bad_0 h
  unfold nextM nextW
  by_cases c3 : k = 3
  · rw [if_pos c3, if_pos c3]
    refine ⟨I.q, I.wm.del s, I.ww, fun k x hx => ?_, ?_, by have := I.lw; omega, I.kw⟩
    · rw [at_del I.wm] at hx
      by_cases q : k = s
      · rw [if_pos q] at hx; cases hx
      · rw [if_neg q] at hx; exact I.ne k x hx
    · have := len_del m s; have := I.le; omega
  · rw [if_neg c3, if_neg c3]
    obtain ⟨h5, h6⟩ := h4 c3
    have hbig := big_0 (fun q => ht ⟨c3, q⟩)
    have hbv := I.badE hs hb hbig
    rw [if_neg h6] at hbv
    have G := good_of hbv
    have he := (qb_of I.q).he
    have hkeep : keepC e k = 1 ∨ keepC e k = e := by unfold keepC; split; exact .inl rfl; exact .inr rfl
    refine ⟨I.q, I.wm.set s _, I.ww.set t _, fun k' x hx => ?_, ?_, ?_, fun k' hk' => ?_⟩
    · rw [at_set] at hx
      by_cases q : k' = s
      · rw [if_pos q] at hx
        cases hx
        rw [q]
        refine ⟨rfl, G.left hkeep, ?_⟩
        show (allV (vs m s) t u).drop (gone (vs m s) (keepC e k)) ≠ []
        rw [drop_all _ _ _ (by omega : 1 ≤ keepC e k)]
        simp
      · rw [if_neg q] at hx; exact I.ne k' x hx
    · rw [len_set]
      have := I.le
      cases hp : (atM m s).isSome with
      | true => exact this
      | false => have : ¬ a ≤ (mlen m : Int) := fun q => h5 ⟨hp, q⟩; simp only [cond_false]; omega
    · rw [len_set]
      have := I.lw
      cases (atM w t).isSome <;> simp only [cond_true, cond_false] <;> omega
    · rw [keys_set] at hk'
      have hc : (t.size : Int) ≤ c := by
        have := big_5 hbig
        omega
      cases hp : (atM w t).isSome with
      | true => rw [hp] at hk'; exact I.kw k' hk'
      | false =>
        rw [hp] at hk'
        rcases List.mem_append.1 hk' with q | q
        · exact I.kw k' q
        · rw [List.mem_singleton.1 q]; exact hc
/-! ### batches -/
def badO (a b c d : Int) (m : MB) (o : S131) : Int := badC a b c d m (S131.f0 o) (S131.f1 o) (S131.f2 o) (S131.f3 o)
def nextO (e : Int) (m : MB) (o : S131) : MB := nextM e m (S131.f0 o) (S131.f1 o) (S131.f2 o) (S131.f3 o)
def nextV (w : MW) (o : S131) : MW := nextW w (S131.f0 o) (S131.f2 o)
/-- The error of the first call that may not be played, and its place; else the book behind. -/
def runB (a b c d e : Int) : List S131 → Nat → MB → MW → (Int × Nat) × MB × MW
  | [], _, m, w => ((0, 0), m, w)
  | o :: r, i, m, w => if badO a b c d m o = 0 then runB a b c d e r (i + 1) (nextO e m o) (nextV w o) else ((badO a b c d m o, i), m, w)
theorem IB.mono (I : IB a b c d e f g m w n) {n' : Nat} (h : n ≤ n') : IB a b c d e f g m w n' := ⟨I.q, I.wm, I.ww, I.ne, I.le, Nat.le_trans I.lw h, I.kw⟩
theorem IB.run : ∀ (l : List S131) (i : Nat) {m : MB} {w : MW} {n : Nat}, IB a b c d e f g m w n → IB a b c d e f g (runB a b c d e l i m w).2.1 (runB a b c d e l i m w).2.2 (n + l.length)
  | [], i, m, w, n, I => I
  | o :: r, i, m, w, n, I => by
    unfold runB
    by_cases h : badO a b c d m o = 0
    · rw [if_pos h]
      have := IB.run r (i + 1) (I.next h)
      rw [List.length_cons, show n + (r.length + 1) = n + 1 + r.length by omega]
      exact this
    · rw [if_neg h]; exact I.mono (by omega)
/-- The answers of 'played', in their two forms. -/
abbrev OutP := Bool × Int × Int × Int × Int × Int × Int × Int × Int × Int × MB × MW × Int × Int × Int × Int × Int × Int × Int × Int × Int × MB × MW × Int × Int × Int × Int × Int × Int × Int × MB × MW × Unit
def noP (a b c d e f g : Int) (m : MB) (w : MW) (x i : Int) : Option OutP := some (true, x, i, a, b, c, d, e, f, g, m, w, 0, 0, 0, 0, 0, 0, 0, 0, 0, MapD.nil, MapD.nil, 0, 0, 0, 0, 0, 0, 0, MapD.nil, MapD.nil, ())
def yesP (a b c d e f g : Int) (m : MB) (w : MW) (m' : MB) (w' : MW) : Option OutP := some (false, 0, 0, 0, 0, 0, 0, 0, 0, 0, MapD.nil, MapD.nil, 0, 0, a, b, c, d, e, f, g, m, w, a, b, c, d, e, f, g, m', w', ())
theorem played_l (ops : List S131) (hl : ops.length ≤ 9223372036854775807) (m0 : MB) (w0 : MW) : ∀ (k i : Nat) (m : MB) (w : MW) (n : Nat), ops.length - i = k → i ≤ ops.length → IB a b c d e f g m w n →
    F40_book_Book_played_l1000005 ops (ops.length : Int) (i : Int) a b c d e f g m0 w0 a b c d e f g m w = (if (runB a b c d e (ops.drop i) i m w).1.1 = 0 then yesP a b c d e f g m0 w0 (runB a b c d e (ops.drop i) i m w).2.1 (runB a b c d e (ops.drop i) i m w).2.2 else noP a b c d e f g m0 w0 (runB a b c d e (ops.drop i) i m w).1.1 (runB a b c d e (ops.drop i) i m w).1.2) := by
  intro k
  induction k with
  | zero => intro i m w n hk hi I; rw [F40_book_Book_played_l1000005_eq, if_neg (by omega), List.drop_eq_nil_of_le (by omega)]; rfl
  | succ k ih =>
    intro i m w n hk hi I
    rw [F40_book_Book_played_l1000005_eq, if_pos (ilt (by omega)), if_pos (inb (by omega)), drop_rd (z := S131.z) (by omega : i < ops.length), w64s (n := ops.length) (by omega) hl]
    generalize rd S131.z ops (i : Int) = o
    rw [call_eq I]
    unfold runB outC
    rw [Option.bind_some]
    dsimp only
    rw [show badC a b c d m (S131.f0 o) (S131.f1 o) (S131.f2 o) (S131.f3 o) = badO a b c d m o from rfl]
    by_cases h : badO a b c d m o = 0
    · rw [if_neg (by simp [h]), if_pos h, if_pos h, if_pos h]
      exact ih (i + 1) _ _ (n + 1) (by omega) (by omega) (I.next h)
    · rw [if_pos h, if_neg h]
      dsimp only
      rw [if_neg h]; rfl
/-- The answer of a batch: why not, and where. -/
def judge (a b c d e f : Int) (ops : List S131) (m : MB) (w : MW) : Int × Int :=
  if ops.length = 0 ∨ f < (ops.length : Int) then (7, -1) else ((runB a b c d e ops 0 m w).1.1, ((runB a b c d e ops 0 m w).1.2 : Int))
def playM (a b c d e f : Int) (ops : List S131) (m : MB) (w : MW) : MB := if (judge a b c d e f ops m w).1 = 0 then (runB a b c d e ops 0 m w).2.1 else m
def playW (a b c d e f : Int) (ops : List S131) (m : MB) (w : MW) : MW := if (judge a b c d e f ops m w).1 = 0 then (runB a b c d e ops 0 m w).2.2 else w
theorem run_place : ∀ (l : List S131) (i : Nat) (m : MB) (w : MW), (runB a b c d e l i m w).1.1 = 0 → (runB a b c d e l i m w).1.2 = 0
  | [], i, m, w, _ => rfl
  | o :: r, i, m, w, h => by
    unfold runB at h ⊢
    by_cases q : badO a b c d m o = 0
    · rw [if_pos q] at h ⊢; exact run_place r _ _ _ h
    · rw [if_neg q] at h; exact absurd h q
theorem played_eq (ops : List S131) (hl : ops.length ≤ 9223372036854775807) (I : IB a b c d e f g m w n) :
    F40_book_Book_played ops a b c d e f g m w = if (judge a b c d e f ops m w).1 = 0 then yesP a b c d e f g m w (playM a b c d e f ops m w) (playW a b c d e f ops m w) else noP a b c d e f g m w (judge a b c d e f ops m w).1 (judge a b c d e f ops m w).2 := by
  rw [F40_book_Book_played_eq]
  unfold playM playW
  by_cases c1 : ops.length = 0 ∨ f < (ops.length : Int)
  · have hj : judge a b c d e f ops m w = (7, -1) := by unfold judge; rw [if_pos c1]
    rw [hj]
    refine Eq.trans ?_ (if_neg (by decide)).symm
    refine ite_to (fun _ => rfl) (fun h1 => ?_)
    rw [if_pos (c1.resolve_left (by omega))]; rfl
  · have hj : judge a b c d e f ops m w = ((runB a b c d e ops 0 m w).1.1, ((runB a b c d e ops 0 m w).1.2 : Int)) := by unfold judge; rw [if_neg c1]
    have hl0 : ¬ (ops.length : Int) = 0 := by omega
    have hf0 : ¬ f < (ops.length : Int) := by omega
    rw [hj, if_neg hl0, if_neg hf0, copy_eq, Option.bind_some]
    dsimp only
    refine (played_l ops hl m w _ 0 m w n rfl (by omega) I).trans ?_
    rw [List.drop_zero]
    refine ite_to (fun h => ?_) (fun h => ?_)
    · rw [if_pos h, if_pos h, if_pos h]
    · rw [if_neg h]
/-- The answers of 'Play', in their two forms. -/
abbrev OutPl := Bool × Int × Int × Int × Int × Int × Int × Int × Int × Int × MB × MW × Int × Int × Int × Int × Int × Int × Int × Int × Int × MB × MW × MB × MW × Unit
theorem play_eq (ops : List S131) (hl : ops.length ≤ 9223372036854775807) (I : IB a b c d e f g m w n) : F23_book_Book_Play ops a b c d e f g m w =
    if (judge a b c d e f ops m w).1 = 0 then some (false, 0, 0, 0, 0, 0, 0, 0, 0, 0, MapD.nil, MapD.nil, 0, 0, a, b, c, d, e, f, g, m, w, playM a b c d e f ops m w, playW a b c d e f ops m w, ()) else some (true, (judge a b c d e f ops m w).1, (judge a b c d e f ops m w).2, a, b, c, d, e, f, g, m, w, 0, 0, 0, 0, 0, 0, 0, 0, 0, MapD.nil, MapD.nil, MapD.nil, MapD.nil, ()) := by
  rw [F23_book_Book_Play_eq, played_eq ops hl I]
  by_cases h : (judge a b c d e f ops m w).1 = 0
  · rw [if_pos h, if_pos h]; rfl
  · rw [if_neg h, if_neg h]
    unfold noP
    rw [Option.bind_some]
    dsimp only
    rw [if_pos rfl, if_neg h]
theorem IB.play (I : IB a b c d e f g m w n) (ops : List S131) : IB a b c d e f g (playM a b c d e f ops m w) (playW a b c d e f ops m w) (n + 8) := by
  unfold playM playW
  by_cases h : (judge a b c d e f ops m w).1 = 0
  · rw [if_pos h, if_pos h]
    have hf := (qb_of I.q).hf
    have : ops.length ≤ 8 := by
      unfold judge at h
      by_cases c1 : ops.length = 0 ∨ f < (ops.length : Int)
      · rw [if_pos c1] at h; exact absurd h (by decide)
      · omega
    exact (IB.run ops 0 I).mono (by omega)
  · rw [if_neg h, if_neg h]; exact I.mono (by omega)

/-! ### alike -/
instance : DecidableEq S66 := fun x y => decidable_of_iff (x.f0 = y.f0 ∧ x.f1 = y.f1 ∧ x.f2 = y.f2) ⟨fun h => by obtain ⟨x0, x1, x2⟩ := x; obtain ⟨y0, y1, y2⟩ := y; simp_all, fun h => by rw [h]; exact ⟨rfl, rfl, rfl⟩⟩
theorem like_l (xs ys : List S66) (hx : xs.length ≤ 9223372036854775807) (hl : xs.length = ys.length) : ∀ (n i : Nat), xs.length - i = n → i ≤ xs.length →
    F60_letheref05_LikeVersions_l1000004 xs ys (xs.length : Int) (i : Int) = some (decide (xs.drop i = ys.drop i), ()) := by
  intro n
  induction n with
  | zero =>
    intro i hn hi
    rw [F60_letheref05_LikeVersions_l1000004_eq, if_neg (by omega), List.drop_of_length_le (by omega), List.drop_of_length_le (by omega)]; rfl
  | succ n ih =>
    intro i hn hi
    rw [F60_letheref05_LikeVersions_l1000004_eq, if_pos (ilt (by omega)), if_pos (inb (by omega)), if_pos (inb (by omega)), drop_rd (z := S66.z) (by omega : i < xs.length), drop_rd (z := S66.z) (by omega : i < ys.length), w64s (n := xs.length) (by omega) hx, ih (i + 1) (by omega) (by omega)]
    generalize rd S66.z xs (i : Int) = x
    generalize rd S66.z ys (i : Int) = y
    by_cases c1 : x = y
    · rw [if_neg (by simp [c1])]; simp [c1]
    · rw [if_pos (by intro hh; apply c1; obtain ⟨x0, x1, x2⟩ := x; obtain ⟨y0, y1, y2⟩ := y; simp_all)]; simp [c1]
theorem like_eq (xs ys : List S66) (hx : xs.length ≤ 9223372036854775807) : F60_letheref05_LikeVersions xs ys = some (decide (xs = ys), ()) := by
  rw [F60_letheref05_LikeVersions_eq]
  by_cases c1 : xs.length = ys.length
  · rw [if_neg (by omega)]
    have := like_l xs ys hx c1 xs.length 0 (by omega) (by omega)
    simpa using this
  · rw [if_pos (by omega), decide_eq_false (fun h => c1 (by rw [h]))]

/-! ### the same secrets; a new book -/
theorem ext_E {x y : S64} (h0 : S64.f0 x = S64.f0 y) (h1 : S64.f1 x = S64.f1 y) : x = y := by rw [← etaE x, ← etaE y, h0, h1]
instance : DecidableEq S64 := fun x y => decidable_of_iff (S64.f0 x = S64.f0 y ∧ S64.f1 x = S64.f1 y) ⟨fun h => ext_E h.1 h.2, fun h => by rw [h]; exact ⟨rfl, rfl⟩⟩
theorem likeE_eq (x y : S64) (h : List.length (α := S66) (S64.f1 x) ≤ 9223372036854775807) : F41_letheref05_Like (S64.f0 x) (S64.f1 x) (S64.f0 y) (S64.f1 y) = some (decide (x = y), ()) := by
  rw [F41_letheref05_Like_eq]
  refine ite_to (fun h0 => ?_) (fun h0 => ?_)
  · rw [like_eq _ _ h, Option.bind_some]
    have : decide (S64.f1 x = S64.f1 y) = decide (x = y) := decide_eq_decide.2 ⟨fun q => ext_E h0 q, fun q => by rw [q]⟩
    rw [this]
  · rw [decide_eq_false (fun q => h0 (by rw [q]))]
theorem likeAll_l (xs ys : List S64) (hl : xs.length = ys.length) (hx : xs.length ≤ 1000000) (hv : ∀ x ∈ xs, List.length (α := S66) (S64.f1 x) ≤ 9223372036854775807) : ∀ (k i : Nat), xs.length - i = k → i ≤ xs.length →
    F24_letheref05_LikeAll_l1000004 xs ys (xs.length : Int) (i : Int) = some (decide (xs.drop i = ys.drop i), ()) := by
  intro k
  induction k with
  | zero => intro i hk hi; rw [F24_letheref05_LikeAll_l1000004_eq, if_neg (by omega), List.drop_eq_nil_of_le (by omega), List.drop_eq_nil_of_le (by omega)]; simp
  | succ k ih =>
    intro i hk hi
    have hil : i < xs.length := by omega
    have hvi := hv xs[i] (List.getElem_mem hil)
    rw [← rd_lt (z := S64.z) hil] at hvi
    rw [F24_letheref05_LikeAll_l1000004_eq, if_pos (ilt hil), if_pos (inb hil), if_pos (inb (by omega)), drop_rd (z := S64.z) hil, drop_rd (z := S64.z) (by omega : i < ys.length), w64s (n := xs.length) hil (by omega)]
    generalize rd S64.z xs (i : Int) = x at hvi ⊢
    generalize rd S64.z ys (i : Int) = y
    rw [likeE_eq x y hvi, Option.bind_some]
    by_cases c : x = y
    · rw [if_neg (by simp [c]), ih (i + 1) (by omega) (by omega)]; simp [c]
    · rw [if_pos (by simp [c])]; simp [c]
theorem likeAll_eq (xs ys : List S64) (hx : xs.length ≤ 1000000) (hv : ∀ x ∈ xs, List.length (α := S66) (S64.f1 x) ≤ 9223372036854775807) : F24_letheref05_LikeAll xs ys = some (decide (xs = ys), ()) := by
  rw [F24_letheref05_LikeAll_eq]
  by_cases c1 : xs.length = ys.length
  · rw [if_neg (by omega)]
    have := likeAll_l xs ys c1 hx hv _ 0 rfl (by omega)
    simpa using this
  · rw [if_pos (by omega), decide_eq_false (fun h => c1 (by rw [h]))]
theorem IB.vsL' (I : IB a b c d e f g m w n) : ∀ x ∈ allB m, List.length (α := S66) (S64.f1 x) ≤ 9223372036854775807 := fun x hx => by
  obtain ⟨k, _, rfl⟩ := List.mem_map.1 hx
  have := I.vs4 k
  unfold vs at this
  omega
theorem IB.like (I : IB a b c d e f g m w n) (ys : List S64) : F24_letheref05_LikeAll (allB m) ys = some (decide (allB m = ys), ()) := likeAll_eq _ _ (by have := I.len; rw [allB_len]; omega) I.vsL'
theorem new_eq : F34_book_New a b c d e f g = if quotaOk a b c d e f g = true then some (false, 0, 0, a, b, c, d, e, f, g, MapD.nil, MapD.nil, ()) else some (true, 40, 0, 0, 0, 0, 0, 0, 0, 0, MapD.nil, MapD.nil, ()) := by
  rw [F34_book_New_eq, q66, Option.bind_some]
  dsimp only
  by_cases h : quotaOk a b c d e f g = true
  · rw [if_pos h, if_pos h, if_neg (by decide)]
  · rw [if_neg h, if_neg h, if_pos (by decide)]

/-! ### a book behind batches -/
theorem made_l (bs : List (List S131)) (hl : bs.length ≤ 9223372036854775807) (hb : ∀ x ∈ bs, List.length (α := S131) x ≤ 9223372036854775807) : ∀ (k i : Nat) (m : MB) (w : MW) (n : Nat), bs.length - i = k → i ≤ bs.length → IB a b c d e f g m w n → n ≤ 8 * i → i ≤ 40 →
    ∃ M W n', IB a b c d e f g M W n' ∧ n' ≤ 320 ∧ F18_lethelaw09_made_l1000005 bs (bs.length : Int) (i : Int) a b c d e f g m w = some (false, a, b, c, d, e, f, g, M, W, ()) := by
  intro k
  induction k with
  | zero => intro i m w n hk hi I hn h40; rw [F18_lethelaw09_made_l1000005_eq, if_neg (by omega)]; exact ⟨m, w, n, I, by omega, rfl⟩
  | succ k ih =>
    intro i m w n hk hi I hn h40
    have hil : i < bs.length := by omega
    have hbi := hb bs[i] (List.getElem_mem hil)
    rw [F18_lethelaw09_made_l1000005_eq, if_pos (ilt hil), if_pos (inb hil)]
    by_cases c1 : (40 : Int) ≤ (i : Int)
    · rw [if_pos c1]; exact ⟨m, w, n, I, by omega, rfl⟩
    · rw [if_neg c1, rd_lt hil, play_eq _ hbi I, w64s (n := bs.length) hil hl]
      have h := ih (i + 1) _ _ _ (by omega) (by omega) (I.play bs[i]) (by omega) (by omega)
      by_cases hj : (judge a b c d e f bs[i] m w).1 = 0
      · rw [if_pos hj, Option.bind_some]
        exact h
      · rw [if_neg hj, Option.bind_some]
        have e1 : playM a b c d e f bs[i] m w = m := if_neg hj
        have e2 : playW a b c d e f bs[i] m w = w := if_neg hj
        rw [e1, e2] at h
        exact h
theorem made_yes (bs : List (List S131)) (hl : bs.length ≤ 9223372036854775807) (hb : ∀ x ∈ bs, List.length (α := S131) x ≤ 9223372036854775807) (hq : quotaOk a b c d e f g = true) :
    ∃ M W n', IB a b c d e f g M W n' ∧ n' ≤ 320 ∧ F18_lethelaw09_made a b c d e f g bs = some (false, a, b, c, d, e, f, g, M, W, ()) := by
  rw [F18_lethelaw09_made_eq, new_eq, if_pos hq, Option.bind_some]
  dsimp only
  rw [if_neg (by simp), if_neg (by simp)]
  exact made_l bs hl hb _ 0 _ _ 0 rfl (by omega) (IB.nil hq) (by omega) (by omega)
theorem made_no (bs : List (List S131)) (hq : ¬ quotaOk a b c d e f g = true) : F18_lethelaw09_made a b c d e f g bs = some (true, 0, 0, 0, 0, 0, 0, 0, MapD.nil, MapD.nil, ()) := by
  rw [F18_lethelaw09_made_eq, new_eq, if_neg hq, Option.bind_some]
  dsimp only
  rw [if_pos rfl, if_pos (by decide)]
theorem batches_len {e : Nat} {bs : List (List S131)} (h : Ok tab Pr (.sl e (.sl 131 (.st 131))) bs) : List.length (α := List S131) bs ≤ 9223372036854775807 ∧ ∀ x ∈ bs, List.length (α := S131) x ≤ 9223372036854775807 := by
  refine ⟨sl_len h, fun x hx => ?_⟩
  obtain ⟨i, hi, rfl⟩ := List.getElem_of_mem hx
  exact sl_len ((Ok.inv h).2.2 i bs[i] 0 ⟨.sl 131 (.st 131), _⟩ (List.getElem?_eq_getElem hi) rfl)
/-- One call alone. -/
theorem judge_one (hf : 1 ≤ f) (o : S131) (m : MB) (w : MW) : judge a b c d e f [o] m w = (badO a b c d m o, 0) ∧ (playM a b c d e f [o] m w = if badO a b c d m o = 0 then nextO e m o else m) ∧ (playW a b c d e f [o] m w = if badO a b c d m o = 0 then nextV w o else w) := by
  have hr : runB a b c d e [o] 0 m w = if badO a b c d m o = 0 then ((0, 0), nextO e m o, nextV w o) else ((badO a b c d m o, 0), m, w) := rfl
  have hn : ¬ (([o] : List S131).length = 0 ∨ f < (([o] : List S131).length : Int)) := by simp; omega
  have hj : judge a b c d e f [o] m w = (badO a b c d m o, 0) := by
    unfold judge
    rw [if_neg hn, hr]
    by_cases h : badO a b c d m o = 0
    · rw [if_pos h, h]; rfl
    · rw [if_neg h]; rfl
  refine ⟨hj, ?_, ?_⟩
  · unfold playM
    rw [hj, hr]
    by_cases h : badO a b c d m o = 0
    · rw [if_pos h, if_pos h, if_pos h]
    · rw [if_neg h, if_neg h]
  · unfold playW
    rw [hj, hr]
    by_cases h : badO a b c d m o = 0
    · rw [if_pos h, if_pos h, if_pos h]
    · rw [if_neg h, if_neg h]
theorem bad_7 (k : Int) (s t u : ByteArray) : badC a b c d m k s t u ≠ 7 ∧ badC a b c d m k s t u ≠ 40 := by
  unfold badC
  repeat' split
  all_goals decide

/-! ### a batch is played, and gone on -/
theorem play_to {R : Type} (ops : List S131) (hl : ops.length ≤ 9223372036854775807) (I : IB a b c d e f g m w n) {K : OutPl → Option R} (C : Int → Int → MB → MW → Option R)
    (hf : ∀ m' w', K (false, 0, 0, 0, 0, 0, 0, 0, 0, 0, MapD.nil, MapD.nil, 0, 0, a, b, c, d, e, f, g, m, w, m', w', ()) = C 0 0 m' w')
    (ht : ∀ x i, K (true, x, i, a, b, c, d, e, f, g, m, w, 0, 0, 0, 0, 0, 0, 0, 0, 0, MapD.nil, MapD.nil, MapD.nil, MapD.nil, ()) = C x i m w) :
    (F23_book_Book_Play ops a b c d e f g m w).bind K = C (judge a b c d e f ops m w).1 (judge a b c d e f ops m w).2 (playM a b c d e f ops m w) (playW a b c d e f ops m w) := by
  rw [play_eq ops hl I]
  by_cases h : (judge a b c d e f ops m w).1 = 0
  · have h2 : (judge a b c d e f ops m w).2 = 0 := by
      unfold judge at h ⊢
      by_cases c1 : ops.length = 0 ∨ f < (ops.length : Int)
      · rw [if_pos c1] at h; exact absurd h (by decide)
      · rw [if_neg c1] at h ⊢; exact congrArg (fun x : Nat => (x : Int)) (run_place _ _ _ _ h)
    rw [if_pos h, Option.bind_some, h, h2]
    exact hf _ _
  · have e1 : playM a b c d e f ops m w = m := if_neg h
    have e2 : playW a b c d e f ops m w = w := if_neg h
    rw [if_neg h, Option.bind_some, e1, e2]
    exact ht _ _
theorem play_one {R : Type} (o : S131) (I : IB a b c d e f g m w n) {K : OutPl → Option R} (C : Int → Int → MB → MW → Option R)
    (hf : ∀ m' w', K (false, 0, 0, 0, 0, 0, 0, 0, 0, 0, MapD.nil, MapD.nil, 0, 0, a, b, c, d, e, f, g, m, w, m', w', ()) = C 0 0 m' w')
    (ht : ∀ x i, K (true, x, i, a, b, c, d, e, f, g, m, w, 0, 0, 0, 0, 0, 0, 0, 0, 0, MapD.nil, MapD.nil, MapD.nil, MapD.nil, ()) = C x i m w) :
    (F23_book_Book_Play [o] a b c d e f g m w).bind K = if badO a b c d m o = 0 then C 0 0 (nextO e m o) (nextV w o) else C (badO a b c d m o) 0 m w := by
  obtain ⟨j1, j2, j3⟩ := judge_one (a := a) (b := b) (c := c) (d := d) (e := e) (qb_of I.q).hf.1 o m w
  rw [play_to [o] (by simp) I C hf ht, j1, j2, j3]
  by_cases h : badO a b c d m o = 0
  · rw [if_pos h, if_pos h, if_pos h, h]
  · rw [if_neg h, if_neg h, if_neg h]
theorem IB.nextO (I : IB a b c d e f g m w n) {o : S131} (h : badO a b c d m o = 0) : IB a b c d e f g (nextO e m o) (nextV w o) (n + 1) := I.next h
theorem at_next (hw : WM m) (k : Int) (s t u k' : ByteArray) : atM (nextM e m k s t u) k' = if k' = s then (if k = 3 then none else some (newE e m k s t u)) else atM m k' := by
  unfold nextM
  by_cases c : k = 3
  · rw [if_pos c, if_pos c, at_del hw]
  · rw [if_neg c, if_neg c, at_set]
theorem at_nextW (hw : WM w) (k : Int) (t k' : ByteArray) : atM (nextW w k t) k' = if ¬ k = 3 ∧ k' = t then some S89.mk else atM w k' := by
  unfold nextW
  by_cases c : k = 3
  · rw [if_pos c, if_neg (fun q => q.1 c)]
  · rw [if_neg c, at_set]
    by_cases h : k' = t
    · rw [if_pos h, if_pos ⟨c, h⟩]
    · rw [if_neg h, if_neg (fun q => h q.2)]
theorem vs_at {m m' : MB} {k : ByteArray} (h : atM m k = atM m' k) : vs m k = vs m' k := by unfold vs ent; rw [mget_at, mget_at, h]
theorem newE_vs {m m' : MB} {s : ByteArray} (h : vs m s = vs m' s) (k : Int) (t u : ByteArray) : newE e m k s t u = newE e m' k s t u := by unfold newE; rw [h]
theorem allB_ext {m m' : MB} (h1 : WM m) (h2 : WM m') (h : ∀ k, atM m k = atM m' k) : allB m = allB m' := by
  unfold allB
  rw [rise_ext (nm_rise h1) (nm_rise h2) (fun k => by rw [mem_nm, mem_nm, h])]
  exact List.map_congr_left fun k _ => by unfold ent; rw [mget_at, mget_at, h]
theorem goneB_ext {m m' : MB} {w w' : MW} (h : allB m = allB m') (h1 : WM w) (h2 : WM w') (hw : ∀ k, atM w k = atM w' k) : goneB m w = goneB m' w' := by
  unfold goneB liveB
  rw [h, rise_ext (nm_rise h1) (nm_rise h2) (fun k => by rw [mem_nm, mem_nm, hw])]
theorem goneB_le (m : MB) (w : MW) : (goneB m w).length ≤ mlen w := by
  have h1 := List.length_filter_le (fun v => !inS v (liveB m)) (nm w)
  rw [nm_len] at h1
  exact h1

theorem get_eq {k : ByteArray} (h : (vs m k).length ≤ 100) : F22_book_Book_Get k a b c d e f g m w = some (S64.f0 (ent m k), mhas keyS m k, a, b, c, d, e, f, g, m, w, vs m k, ()) := by
  rw [F22_book_Book_Get_eq, show (S64.f1 (mget keyS S64.z m k)) = vs m k from rfl, bclone_eq _ _ h]; rfl
theorem clipE_eq (xs : List S64) : F39_slices_Clip xs = some (xs, ()) := by rw [F39_slices_Clip_eq, if_pos ⟨rfl, rfl⟩]
theorem all_l (l : List ByteArray) (hl : l.length ≤ 1000000) (hv : ∀ k, (vs m k).length ≤ 100) : ∀ (k i : Nat) (acc : List S64), l.length - i = k → i ≤ l.length → acc.length + k ≤ 1000000 →
    F21_book_Book_All_l1000003 l (l.length : Int) (i : Int) a b c d e f g m w acc = some (a, b, c, d, e, f, g, m, w, acc ++ (l.drop i).map (ent m), ()) := by
  intro k
  induction k with
  | zero => intro i acc hk hi ha; rw [F21_book_Book_All_l1000003_eq, if_neg (by omega), clipE_eq, List.drop_eq_nil_of_le (by omega)]; simp
  | succ k ih =>
    intro i acc hk hi ha
    rw [F21_book_Book_All_l1000003_eq, if_pos (ilt (by omega)), if_pos (inb (by omega)), drop_rd (z := ByteArray.empty) (by omega : i < l.length), w64s (n := l.length) (by omega) (by omega)]
    generalize rd ByteArray.empty l (i : Int) = x
    rw [show S64.f1 (mget keyS S64.z m x) = vs m x from rfl, bclone_eq _ _ (hv x), Option.bind_some]
    dsimp only
    rw [show S64.mk (S64.f0 (mget keyS S64.z m x)) (vs m x) = ent m x from etaE _, if_pos (by rw [List.length_singleton]; omega), ih (i + 1) _ (by omega) (by omega) (by rw [List.length_append, List.length_singleton]; omega)]
    simp
theorem IB.all (I : IB a b c d e f g m w n) : F21_book_Book_All a b c d e f g m w = some (a, b, c, d, e, f, g, m, w, allB m, ()) := by
  have hl : mlen m ≤ 1000000 := by have := I.len; omega
  have hv : ∀ k, (vs m k).length ≤ 100 := fun k => by have := I.vs4 k; omega
  rw [F21_book_Book_All_eq, names_all I.wm hl, Option.bind_some]
  dsimp only
  exact all_l (nm m) (by rw [nm_len]; exact hl) hv _ 0 [] rfl (by omega) (by rw [nm_len]; simp; omega)
/-- What was shown by Get is written over. -/
theorem own_21 (ops : List S131) (L i : Int) (A B : List S64) (s : ByteArray) {m2 : MB} {w2 : MW} : ∀ (k j : Nat) (xs : List S66), xs.length - j = k → j ≤ xs.length → xs.length ≤ 1000000 →
    F4_lethelaw09_BookOwn_l1000021_1 ops L i (xs.length : Int) (j : Int) a b c d e f g a b c d e f g A B s m w m2 w2 xs = F4_lethelaw09_BookOwn_l1000012_1 ops L (IntKind.i64.wrap (i + 1)) a b c d e f g a b c d e f g A B m w m2 w2 := by
  intro k
  induction k with
  | zero => intro j xs hk hj hx; rw [F4_lethelaw09_BookOwn_l1000021_1_eq, if_neg (by omega)]
  | succ k ih =>
    intro j xs hk hj hx
    rw [F4_lethelaw09_BookOwn_l1000021_1_eq, if_pos (ilt (by omega)), if_pos (inb (by omega)), w64s (n := xs.length) (by omega) (by omega)]
    dsimp only
    have h := ih (j + 1) (List.set xs (Int.toNat (j : Int)) (S66.mk (-1) (S66.f1 (rd S66.z xs (j : Int))) (S66.f2 (rd S66.z xs (j : Int))))) (by rw [List.length_set]; omega) (by rw [List.length_set]; omega) (by rw [List.length_set]; exact hx)
    rw [List.length_set] at h
    exact h
/-- The versions of one of the secrets that were shown are written over. -/
theorem own_15 (I : IB a b c d e f g m w n) (ops : List S131) (L : Int) (i : Nat) (A : List S64) (cnt : Nat) (hc : cnt ≤ 1000000) {m2 : MB} {w2 : MW} : ∀ (k j : Nat) (B : List S64), cnt - j = k → j ≤ cnt → i < B.length → (S64.f1 (rd S64.z B (i : Int))).length = cnt →
    (∀ B' : List S64, B'.length = B.length → (∀ q : Nat, q ≠ i → B'[q]? = B[q]?) → F4_lethelaw09_BookOwn_l1000012_1 ops L (IntKind.i64.wrap ((i : Int) + 1)) a b c d e f g a b c d e f g A B' m w m2 w2 = some (true, ())) →
    F4_lethelaw09_BookOwn_l1000015_1 ops (i : Int) L (i : Int) (cnt : Int) (j : Int) a b c d e f g a b c d e f g A B m w m2 w2 = some (true, ()) := by
  intro k
  induction k with
  | zero =>
    intro j B hk hj hi hB next
    have hv := I.vs4 (S64.f0 (rd S64.z B (i : Int)))
    rw [F4_lethelaw09_BookOwn_l1000015_1_eq, if_neg (by omega), if_pos (inb hi), get_eq (by omega), Option.bind_some]
    dsimp only
    rw [show (0 : Int) = ((0 : Nat) : Int) from rfl, own_21 ops L (i : Int) A B _ _ 0 _ rfl (Nat.zero_le _) (by omega)]
    exact next B rfl (fun _ _ => rfl)
  | succ k ih =>
    intro j B hk hj hi hB next
    rw [F4_lethelaw09_BookOwn_l1000015_1_eq, if_pos (ilt (by omega)), if_pos (inb hi), if_pos (by rw [hB]; exact inb (by omega)), w64s (n := cnt) (by omega) (by omega)]
    dsimp only
    refine ih (j + 1) _ (by omega) (by omega) (by rw [List.length_set]; exact hi) ?_ (fun B' hB' hq => next B' (by rw [hB', List.length_set]) (fun q hqi => by rw [hq q hqi, Int.toNat_natCast, List.getElem?_set_ne (Ne.symm hqi)]))
    rw [Int.toNat_natCast, rd_lt (by rw [List.length_set]; exact hi), List.getElem_set_self]
    dsimp only
    rw [List.length_set]
    exact hB
theorem own_30 (I : IB a b c d e f g m w n) (x : Int) : F4_lethelaw09_BookOwn_l30 x x a b c d e f g a b c d e f g m w m w = some (true, ()) := by
  rw [F4_lethelaw09_BookOwn_l30_eq, if_pos rfl, I.all, Option.bind_some]
  dsimp only
  rw [Option.bind_some]
  dsimp only
  rw [I.like, Option.bind_some, decide_eq_true rfl]
theorem own_end (I : IB a b c d e f g m w n) (ops : List S131) (ho : ops.length ≤ 9223372036854775807) (L i : Int) (hi : ¬ i < L) (B : List S64) : F4_lethelaw09_BookOwn_l1000012_1 ops L i a b c d e f g a b c d e f g (allB m) B m w m w = some (true, ()) := by
  rw [F4_lethelaw09_BookOwn_l1000012_1_eq, if_neg hi]
  have second : ∀ (x : Int) (m' : MB) (w' : MW), x = (judge a b c d e f ops m w).1 → m' = playM a b c d e f ops m w → w' = playW a b c d e f ops m w →
      ((F21_book_Book_All a b c d e f g m w).bind fun y2 => (F24_letheref05_LikeAll y2.2.2.2.2.2.2.2.2.2.1 (allB m)).bind fun y3 => if (!y3.1) = true then some (false, ()) else
        (F23_book_Book_Play ops y2.1 y2.2.1 y2.2.2.1 y2.2.2.2.1 y2.2.2.2.2.1 y2.2.2.2.2.2.1 y2.2.2.2.2.2.2.1 y2.2.2.2.2.2.2.2.1 y2.2.2.2.2.2.2.2.2.1).bind fun y4 => if y4.1 = true then
          F4_lethelaw09_BookOwn_l30 x y4.2.1 y4.2.2.2.1 y4.2.2.2.2.1 y4.2.2.2.2.2.1 y4.2.2.2.2.2.2.1 y4.2.2.2.2.2.2.2.1 y4.2.2.2.2.2.2.2.2.1 y4.2.2.2.2.2.2.2.2.2.1 a b c d e f g y4.2.2.2.2.2.2.2.2.2.2.1 y4.2.2.2.2.2.2.2.2.2.2.2.1 m' w'
        else F4_lethelaw09_BookOwn_l30 x y4.2.2.2.2.2.2.2.2.2.2.2.2.1 y4.2.2.2.2.2.2.2.2.2.2.2.2.2.2.1 y4.2.2.2.2.2.2.2.2.2.2.2.2.2.2.2.1 y4.2.2.2.2.2.2.2.2.2.2.2.2.2.2.2.2.1 y4.2.2.2.2.2.2.2.2.2.2.2.2.2.2.2.2.2.1 y4.2.2.2.2.2.2.2.2.2.2.2.2.2.2.2.2.2.2.1 y4.2.2.2.2.2.2.2.2.2.2.2.2.2.2.2.2.2.2.2.1 y4.2.2.2.2.2.2.2.2.2.2.2.2.2.2.2.2.2.2.2.2.1 a b c d e f g y4.2.2.2.2.2.2.2.2.2.2.2.2.2.2.2.2.2.2.2.2.2.2.2.1 y4.2.2.2.2.2.2.2.2.2.2.2.2.2.2.2.2.2.2.2.2.2.2.2.2.1 m' w') = some (true, ()) := by
    intro x m' w' hx hm hw
    rw [I.all, Option.bind_some]
    dsimp only
    rw [I.like, Option.bind_some]
    dsimp only
    rw [decide_eq_true rfl, if_neg (by simp), play_to ops ho I (fun y _ M W => F4_lethelaw09_BookOwn_l30 x y a b c d e f g a b c d e f g M W m' w') (fun _ _ => rfl) (fun _ _ => rfl), hx, hm, hw]
    exact own_30 (I.play ops) _
  rw [play_to ops ho I (fun x _ M W => (F21_book_Book_All a b c d e f g m w).bind fun y2 => (F24_letheref05_LikeAll y2.2.2.2.2.2.2.2.2.2.1 (allB m)).bind fun y3 => if (!y3.1) = true then some (false, ()) else
        (F23_book_Book_Play ops y2.1 y2.2.1 y2.2.2.1 y2.2.2.2.1 y2.2.2.2.2.1 y2.2.2.2.2.2.1 y2.2.2.2.2.2.2.1 y2.2.2.2.2.2.2.2.1 y2.2.2.2.2.2.2.2.2.1).bind fun y4 => if y4.1 = true then
          F4_lethelaw09_BookOwn_l30 x y4.2.1 y4.2.2.2.1 y4.2.2.2.2.1 y4.2.2.2.2.2.1 y4.2.2.2.2.2.2.1 y4.2.2.2.2.2.2.2.1 y4.2.2.2.2.2.2.2.2.1 y4.2.2.2.2.2.2.2.2.2.1 a b c d e f g y4.2.2.2.2.2.2.2.2.2.2.1 y4.2.2.2.2.2.2.2.2.2.2.2.1 M W
        else F4_lethelaw09_BookOwn_l30 x y4.2.2.2.2.2.2.2.2.2.2.2.2.1 y4.2.2.2.2.2.2.2.2.2.2.2.2.2.2.1 y4.2.2.2.2.2.2.2.2.2.2.2.2.2.2.2.1 y4.2.2.2.2.2.2.2.2.2.2.2.2.2.2.2.2.1 y4.2.2.2.2.2.2.2.2.2.2.2.2.2.2.2.2.2.1 y4.2.2.2.2.2.2.2.2.2.2.2.2.2.2.2.2.2.2.1 y4.2.2.2.2.2.2.2.2.2.2.2.2.2.2.2.2.2.2.2.1 y4.2.2.2.2.2.2.2.2.2.2.2.2.2.2.2.2.2.2.2.2.1 a b c d e f g y4.2.2.2.2.2.2.2.2.2.2.2.2.2.2.2.2.2.2.2.2.2.2.2.1 y4.2.2.2.2.2.2.2.2.2.2.2.2.2.2.2.2.2.2.2.2.2.2.2.2.1 M W) (fun _ _ => rfl) (fun _ _ => rfl)]
  exact second _ _ _ rfl rfl rfl
theorem own_12 (I : IB a b c d e f g m w n) (ops : List S131) (ho : ops.length ≤ 9223372036854775807) (len : Nat) (hl : len ≤ 1000000) : ∀ (k i : Nat) (B : List S64), len - i = k → i ≤ len → B.length = len → (∀ j : Nat, i ≤ j → j < len → (S64.f1 (rd S64.z B (j : Int))).length ≤ 1000000) →
    F4_lethelaw09_BookOwn_l1000012_1 ops (len : Int) (i : Int) a b c d e f g a b c d e f g (allB m) B m w m w = some (true, ()) := by
  intro k
  induction k with
  | zero => intro i B hk hi hB _; exact own_end I ops ho _ _ (by omega) B
  | succ k ih =>
    intro i B hk hi hB hs
    rw [F4_lethelaw09_BookOwn_l1000012_1_eq, if_pos (ilt (by omega)), if_pos (inb (by omega)), show (0 : Int) = ((0 : Nat) : Int) from rfl]
    refine own_15 I ops (len : Int) i (allB m) _ (hs i (Nat.le_refl _) (by omega)) _ 0 B rfl (Nat.zero_le _) (by omega) rfl (fun B' hB' hq => ?_)
    rw [w64s (n := len) (by omega) (by omega)]
    refine ih (i + 1) B' (by omega) (by omega) (by omega) (fun j hj1 hj2 => ?_)
    have h1 := hs j (by omega) hj2
    rw [rd_lt (by omega)] at h1 ⊢
    have h2 := hq j (by omega)
    rw [List.getElem?_eq_getElem (by omega), List.getElem?_eq_getElem (by omega)] at h2
    rw [Option.some.inj h2]
    exact h1
theorem law (a b c d e f g : Int) (bs : List (List S131)) (ops : List S131) (_ : Ok tab Pr (.int .i64) a) (_ : Ok tab Pr (.int .i64) b) (_ : Ok tab Pr (.int .i64) c) (_ : Ok tab Pr (.int .i64) d) (_ : Ok tab Pr (.int .i64) e) (_ : Ok tab Pr (.int .i64) f) (_ : Ok tab Pr (.int .i64) g) (h : Ok tab Pr (.sl 55 (.sl 131 (.st 131))) bs) (h2 : Ok tab Pr (.sl 131 (.st 131)) ops) : F4_lethelaw09_BookOwn a b c d e f g bs ops = some (true, ()) := by
  obtain ⟨hb1, hb2⟩ := batches_len h
  have ho : List.length (α := S131) ops ≤ 9223372036854775807 := sl_len h2
  rw [F4_lethelaw09_BookOwn_eq]
  by_cases hq : quotaOk a b c d e f g = true
  · obtain ⟨m, w, n, I, hn, hm⟩ := made_yes bs hb1 hb2 hq
    rw [hm, Option.bind_some]
    dsimp only
    rw [if_neg (by simp), q04, Option.bind_some, hq]
    dsimp only
    rw [if_neg (by simp), copy_eq, Option.bind_some]
    dsimp only
    rw [I.all, Option.bind_some]
    dsimp only
    rw [I.all, Option.bind_some]
    dsimp only
    have hll : (allB m).length ≤ 1000000 := by have := I.len; rw [allB_len]; omega
    exact own_12 I ops ho _ hll _ 0 (allB m) rfl (Nat.zero_le _) rfl (fun j _ hj => by
      rw [rd_lt hj]
      obtain ⟨k, hk, he⟩ := List.mem_map.1 (List.getElem_mem hj)
      rw [← he]
      have := I.vs4 k
      unfold vs at this
      omega)
  · rw [made_no bs hq, Option.bind_some]
    dsimp only
    have hq' : quotaOk a b c d e f g = false := by simpa using hq
    rw [if_pos rfl, q04, Option.bind_some, hq']
    dsimp only
    rw [if_pos (by simp)]

end
end Go.Proofs.Ytckafnfidjfhjaa.BookOwnp
