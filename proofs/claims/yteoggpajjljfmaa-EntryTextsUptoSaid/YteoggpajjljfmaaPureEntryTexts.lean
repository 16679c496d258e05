/- The law EntryTexts, for all arguments. Under no condition. -/
import Derived.Test.YteoggpajjljfmaaEEntryTexts
import Derived.Laws.BitsLemmas
import Derived.Laws.Bits64
set_option linter.unusedVariables false
set_option linter.unusedSimpArgs false
namespace Go.Proofs.Yteoggpajjljfmaa.EntryTextsp
open Go Go.RowKit Go.Proofs.Yteoggpajjljfmaa.Rx Go.Proofs.Yteoggpajjljfmaa.EntryTextsx
noncomputable section
theorem w64 {n : Int} (h0 : -9223372036854775808 ≤ n) (h1 : n ≤ 9223372036854775807) : IntKind.i64.wrap n = n := by rw [IntKind.wrap_i64]; omega
theorem w64s {j n : Nat} (h : j < n) (hn : n ≤ 9223372036854775807) : IntKind.i64.wrap ((j : Int) + 1) = ((j + 1 : Nat) : Int) := by rw [w64 (by omega) (by omega)]; omega
theorem w64p {j : Nat} (h : 0 < j) (hn : j ≤ 9223372036854775807) : IntKind.i64.wrap ((j : Int) - 1) = ((j - 1 : Nat) : Int) := by rw [w64 (by omega) (by omega)]; omega
theorem sl_len {e : TypeId} {t : Ty} {xs : List (den tab.S t)} (h : Ok tab Pr (.sl e t) xs) : xs.length ≤ 9223372036854775807 := by
  have := (Ok.inv h).2.1
  simp only [maxLen] at this
  omega
theorem ite_to {α : Type} {p : Prop} [Decidable p] {a b c : α} (h1 : p → a = c) (h2 : ¬ p → b = c) : (if p then a else b) = c := by
  by_cases h : p
  · rw [if_pos h]; exact h1 h
  · rw [if_neg h]; exact h2 h
theorem ob_eq {a b : Bool} (h1 : a = true → b = true) (h2 : b = true → a = true) : (some (a, ()) : Option (Bool × Unit)) = some (b, ()) := by rw [Bool.eq_iff_iff.2 ⟨h1, h2⟩]
theorem oi_eq {a b : Int} (h : a = b) : (some (a, ()) : Option (Int × Unit)) = some (b, ()) := by rw [h]
theorem rd_lt {α : Type} {z : α} {xs : List α} {i : Nat} (h : i < xs.length) : rd z xs (i : Int) = xs[i] := by simp [rd, h]
theorem drop_rd {α : Type} {z : α} {xs : List α} {i : Nat} (h : i < xs.length) : xs.drop i = rd z xs (i : Int) :: xs.drop (i + 1) := by rw [rd_lt h]; exact List.drop_eq_getElem_cons h
theorem inb {i n : Nat} (h : i < n) : (0 : Int) ≤ (i : Int) ∧ (i : Int) < (n : Int) := by omega
theorem ilt {i n : Nat} (h : i < n) : (i : Int) < (n : Int) := by omega
theorem subL_drop {α : Type} (xs : List α) {l : Int} {k : Nat} (h : l = (k : Int)) : subL xs l (xs.length : Int) = xs.drop k := by simp [subL, h]
theorem subL_take {α : Type} (xs : List α) {l : Int} {k : Nat} (h : l = (k : Int)) : subL xs 0 l = xs.take k := by simp [subL, h]

/-! ### texts, sorted, each once -/
theorem toB_inj {x y : ByteArray} (h : toB x = toB y) : x = y := by rw [← ofB_to x, ← ofB_to y, h]
theorem sLt_eq (x y : ByteArray) : sLt x y = decide (toB x < toB y) := by
  unfold sLt toB
  rw [ByteArray.toList_eq, ByteArray.toList_eq, bytesLess_eq]
theorem mem_compact {zs : List (List UInt8)} {x : List UInt8} : x ∈ Lib.compact zs ↔ x ∈ zs := by
  unfold Lib.compact Lib.compactUpTo
  constructor
  · intro h
    obtain ⟨j, hj, rfl⟩ := List.mem_map.1 h
    have := List.mem_range.1 (List.mem_filter.1 hj).1
    rw [getElem!_pos zs.toArray j (by simpa using this)]
    exact List.getElem_mem _
  · intro h
    obtain ⟨i, hi, rfl⟩ := List.getElem_of_mem h
    -- the first place of that value's run
    have key : ∀ n i, i = n → ∀ hi : i < zs.length, ∃ j, j < zs.length ∧ Lib.keeps zs.toArray j = true ∧ zs.toArray[j]! = zs[i] := by
      intro n
      induction n with
      | zero =>
        intro i e hi
        subst e
        exact ⟨0, hi, by simp [Lib.keeps], by rw [getElem!_pos zs.toArray 0 (by simpa using hi)]; simp⟩
      | succ n ih =>
        intro i e hi
        subst e
        by_cases c : zs[n + 1] = zs[n]
        · obtain ⟨j, h1, h2, h3⟩ := ih n rfl (by omega)
          exact ⟨j, h1, h2, by rw [h3, c]⟩
        · refine ⟨n + 1, hi, ?_, by rw [getElem!_pos zs.toArray (n + 1) (by simpa using hi)]; simp⟩
          simp only [Lib.keeps, decide_eq_true_eq]
          refine .inr ?_
          rw [getElem!_pos zs.toArray (n + 1) (by simpa using hi), getElem!_pos zs.toArray (n + 1 - 1) (by simp; omega)]
          simpa using c
    obtain ⟨j, h1, h2, h3⟩ := key i i rfl hi
    exact List.mem_map.2 ⟨j, List.mem_filter.2 ⟨List.mem_range.2 h1, h2⟩, h3⟩
theorem compact_strict {zs : List (List UInt8)} (h : zs.Pairwise (· ≤ ·)) : (Lib.compact zs).Pairwise (· < ·) := by
  unfold Lib.compact Lib.compactUpTo
  rw [List.pairwise_map]
  refine List.Pairwise.imp_of_mem (R := fun a b => a < b) ?_ (List.Pairwise.filter _ List.pairwise_lt_range)
  intro i j hi hj hlt
  have hi' := List.mem_range.1 (List.mem_filter.1 hi).1
  have hj' := List.mem_range.1 (List.mem_filter.1 hj).1
  have hk := (List.mem_filter.1 hj).2
  simp only [Lib.keeps, decide_eq_true_eq] at hk
  rw [getElem!_pos zs.toArray j (by simpa using hj'), getElem!_pos zs.toArray (j - 1) (by simp; omega)] at hk
  rw [getElem!_pos zs.toArray i (by simpa using hi'), getElem!_pos zs.toArray j (by simpa using hj')]
  have hk' : zs[j] ≠ zs[j - 1]'(by omega) := by rcases hk with h | h; omega; simpa using h
  have P := List.pairwise_iff_getElem.1 h
  have q1 : zs[j - 1]'(by omega) ≤ zs[j] := P (j - 1) j (by omega) hj' (by omega)
  have q2 : zs[i] ≤ zs[j - 1]'(by omega) := by
    rcases Nat.lt_or_ge i (j - 1) with c | c
    · exact P i (j - 1) hi' (by omega) c
    · have : i = j - 1 := by omega
      subst this
      exact List.le_refl _
  have q3 : zs[i] ≤ zs[j] := List.le_trans q2 q1
  show zs[i] < zs[j]
  apply Classical.byContradiction
  intro hn
  have q4 : zs[j] ≤ zs[i] := List.not_lt.1 hn
  have q5 : zs[j] ≤ zs[j - 1]'(by omega) := List.le_trans q4 q2
  exact hk' (List.le_antisymm q5 q1)
theorem compact_self {zs : List (List UInt8)} (h : zs.Pairwise (· < ·)) : Lib.compact zs = zs := by
  refine Lib.compact_all zs (fun j hj => ?_)
  simp only [Lib.keeps, decide_eq_true_eq]
  rcases Nat.eq_zero_or_pos j with c | c
  · exact .inl c
  · refine .inr ?_
    rw [getElem!_pos zs.toArray j (by simpa using hj), getElem!_pos zs.toArray (j - 1) (by simp; omega)]
    have := List.pairwise_iff_getElem.1 h (j - 1) j (by omega) hj (by omega)
    intro e
    have e' : zs[j] = zs[j - 1]'(by omega) := by simpa using e
    rw [e'] at this
    exact List.lt_irrefl _ this
def txt (l : List ByteArray) : List ByteArray := compS (sortS l)
def leB (x y : List UInt8) : Bool := decide (x ≤ y)
theorem sort_pair (zs : List (List UInt8)) : (zs.mergeSort fun x y => decide (x ≤ y)).Pairwise (· ≤ ·) := by
  have := List.pairwise_mergeSort (le := fun x y : List UInt8 => decide (x ≤ y)) (fun a b c h1 h2 => by
    simp only [decide_eq_true_eq] at h1 h2 ⊢; exact List.le_trans h1 h2) (fun a b => by
    simp only [Bool.or_eq_true, decide_eq_true_eq]; exact List.le_total a b) zs
  exact this.imp (fun h => by simpa using h)
theorem txt_toB (l : List ByteArray) : (txt l).map toB = Lib.compact ((l.map toB).mergeSort fun x y => decide (x ≤ y)) := by
  unfold txt compS sortS
  simp only [List.map_map]
  have e : (toB ∘ ofB) = id := rfl
  rw [e, List.map_id, List.map_id]
theorem mem_txt {l : List ByteArray} {s : ByteArray} : s ∈ txt l ↔ s ∈ l := by
  have h : toB s ∈ (txt l).map toB ↔ toB s ∈ l.map toB := by rw [txt_toB, mem_compact, List.mem_mergeSort]
  have inj : ∀ m : List ByteArray, toB s ∈ m.map toB ↔ s ∈ m := by
    intro m
    constructor
    · intro h
      obtain ⟨x, hx, e⟩ := List.mem_map.1 h
      rw [← toB_inj e]; exact hx
    · exact fun h => List.mem_map.2 ⟨s, h, rfl⟩
  rw [inj, inj] at h
  exact h
theorem txt_strict (l : List ByteArray) : ((txt l).map toB).Pairwise (· < ·) := by rw [txt_toB]; exact compact_strict (sort_pair _)
theorem txt_self {l : List ByteArray} (h : (l.map toB).Pairwise (· < ·)) : txt l = l := by
  have h1 : (l.map toB).mergeSort (fun x y => decide (x ≤ y)) = l.map toB := List.mergeSort_of_pairwise (h.imp (fun {a b} hab => by
    simp only [decide_eq_true_eq]
    exact List.le_of_lt hab))
  have h2 := txt_toB l
  rw [h1, compact_self h] at h2
  have := congrArg (List.map ofB) h2
  simpa [List.map_map, show (ofB ∘ toB) = id from rfl] using this
theorem txt_next {l : List ByteArray} {i : Nat} (h : i + 1 < (txt l).length) : sLt (txt l)[i] (txt l)[i + 1] = true := by
  rw [sLt_eq, decide_eq_true_eq]
  have := List.pairwise_iff_getElem.1 (txt_strict l) i (i + 1) (by simp; omega) (by simpa using h) (by omega)
  simpa using this
theorem txt_len (l : List ByteArray) : (txt l).length ≤ l.length := by
  have h := congrArg List.length (txt_toB l)
  rw [List.length_map] at h
  rw [h]
  have := Lib.compact_length_le ((l.map toB).mergeSort fun x y => decide (x ≤ y))
  rw [List.length_mergeSort, List.length_map] at this
  exact this
theorem clip_eq (xs : List ByteArray) : F26_slices_Clip xs = some (xs, ()) := by
  rw [F26_slices_Clip_eq, if_pos (by omega), subL_take xs rfl, List.take_length]
def inS (s : ByteArray) (xs : List ByteArray) : Bool := xs.any fun x => decide (x = s)
theorem inS_iff {s : ByteArray} {xs : List ByteArray} : inS s xs = true ↔ s ∈ xs := by
  unfold inS
  rw [List.any_eq_true]
  constructor
  · rintro ⟨x, hx, h⟩
    rw [decide_eq_true_eq] at h
    rw [← h]; exact hx
  · exact fun h => ⟨s, h, by simp⟩
theorem Same_l (xs ys : List ByteArray) (hx : xs.length ≤ 9223372036854775807) (hl : xs.length = ys.length) : ∀ (d i : Nat), xs.length - i = d → i ≤ xs.length → F13_letheref02_SameTexts_l1000004 xs ys (xs.length : Int) (i : Int) = some (decide (xs.drop i = ys.drop i), ()) := by
  intro d
  induction d with
  | zero => intro i hd hi; rw [F13_letheref02_SameTexts_l1000004_eq, if_neg (by omega), List.drop_eq_nil_of_le (by omega), List.drop_eq_nil_of_le (by omega)]; simp
  | succ d ih =>
    intro i hd hi
    rw [F13_letheref02_SameTexts_l1000004_eq, if_pos (ilt (by omega)), if_pos (inb (by omega)), if_pos (inb (by omega)), w64s (n := xs.length) (by omega) (by omega), ih (i + 1) (by omega) (by omega), drop_rd (z := ByteArray.empty) (by omega : i < xs.length), drop_rd (z := ByteArray.empty) (by omega : i < ys.length)]
    by_cases c : rd ByteArray.empty xs (i : Int) = rd ByteArray.empty ys (i : Int)
    · rw [if_neg (by simp [c]), c]; simp
    · rw [if_pos c]; simp [c]
theorem Same_txt (xs ys : List ByteArray) (hx : xs.length ≤ 9223372036854775807) : F13_letheref02_SameTexts xs ys = some (decide (xs = ys), ()) := by
  rw [F13_letheref02_SameTexts_eq]
  by_cases c : (xs.length : Int) = (ys.length : Int)
  · rw [if_neg (by simp [c])]; exact Same_l xs ys hx (by omega) _ 0 rfl (by omega)
  · rw [if_pos c]
    have : ¬ xs = ys := fun e => c (by rw [e])
    simp [this]

def quotaOk (a b c d e f g : Int) : Bool := decide (1 ≤ a ∧ a ≤ 64 ∧ 1 ≤ b ∧ b ≤ 16 ∧ 0 ≤ c ∧ c ≤ 32 ∧ 0 ≤ d ∧ d ≤ 16 ∧ 1 ≤ e ∧ e ≤ 4 ∧ 1 ≤ f ∧ f ≤ 8 ∧ 0 ≤ g ∧ g ≤ 32)
/-! ### entries: what may be -/
def tooBig (c d : Int) (s t : ByteArray) : Int := if c < (s.size : Int) then 5 else if d < (t.size : Int) then 5 else 0
theorem tooBig_05 (c d : Int) (s t : ByteArray) : tooBig c d s t = 0 ∨ tooBig c d s t = 5 := by
  unfold tooBig; by_cases h1 : c < (s.size : Int) <;> by_cases h2 : d < (t.size : Int) <;> simp [h1, h2]
def versV (c d : Int) : Int → List S58 → Int
  | _, [] => 0
  | v, y :: ys => if S58.f0 y ≤ v then 50 else if 1073741824 < S58.f0 y then 50 else if tooBig c d (S58.f1 y) (S58.f2 y) = 0 then versV c d (S58.f0 y) ys else tooBig c d (S58.f1 y) (S58.f2 y)
theorem versV_cons (c d v : Int) (y : S58) (ys : List S58) : versV c d v (y :: ys) = if S58.f0 y ≤ v then 50 else if 1073741824 < S58.f0 y then 50 else if tooBig c d (S58.f1 y) (S58.f2 y) = 0 then versV c d (S58.f0 y) ys else tooBig c d (S58.f1 y) (S58.f2 y) := rfl
def namedV (a b c d e f g : Int) (s : ByteArray) (xs : List S58) : Int :=
  if quotaOk a b c d e f g = true then if s = ByteArray.empty then 4 else if b < (s.size : Int) then 5 else if e < (xs.length : Int) then 50 else versV c d 0 xs else 40
/-! ### the texts of entries -/
def verTexts (v : S58) : List ByteArray := [S58.f1 v, S58.f2 v]
def entTexts (e : S56) : List ByteArray := S56.f0 e :: (S56.f1 e).flatMap verTexts
theorem verTexts_len (l : List S58) : (l.flatMap verTexts).length = l.length * 2 := by
  induction l with
  | nil => rfl
  | cons x t ih => rw [List.flatMap_cons, List.length_append, ih, List.length_cons]; simp [verTexts]; omega
theorem texts_l7 (es : List S56) (n i : Int) (vs : List S58) (hv : vs.length ≤ 9223372036854775807) : ∀ (d j : Nat) (g : List ByteArray), vs.length - j = d → j ≤ vs.length → g.length + 2 * d ≤ 8796093022208 →
      F14_entry_Texts_l1000007 es n i vs (vs.length : Int) (j : Int) g = F14_entry_Texts_l1000003 es n (IntKind.i64.wrap (i + 1)) (g ++ (vs.drop j).flatMap verTexts) := by
  intro d
  induction d with
  | zero => intro j g hd hj hg; rw [F14_entry_Texts_l1000007_eq, if_neg (by omega), List.drop_eq_nil_of_le (by omega), List.flatMap_nil, List.append_nil]
  | succ d ih =>
    intro j g hd hj hg
    rw [F14_entry_Texts_l1000007_eq, if_pos (ilt (by omega)), if_pos (inb (by omega))]
    dsimp only
    rw [if_pos (by simp; omega), w64s (n := vs.length) (by omega) (by omega), ih (j + 1) _ (by omega) (by omega) (by simp; omega), drop_rd (z := S58.z) (by omega : j < vs.length), List.flatMap_cons, List.append_assoc]
    rfl
theorem entTexts_len (e : S56) : (entTexts e).length = List.length (α := S58) (S56.f1 e) * 2 + 1 := by unfold entTexts; rw [List.length_cons, verTexts_len]
theorem texts_l3 (es : List S56) (he : es.length ≤ 9223372036854775807) : ∀ (d i : Nat) (g : List ByteArray), es.length - i = d → i ≤ es.length → g.length + ((es.drop i).flatMap entTexts).length ≤ 8796093022208 →
    F14_entry_Texts_l1000003 es (es.length : Int) (i : Int) g = some (txt (g ++ (es.drop i).flatMap entTexts), ()) := by
  intro d
  induction d with
  | zero =>
    intro i g hd hi hg
    rw [F14_entry_Texts_l1000003_eq, if_neg (by omega), F25_slices_Sort_eq, if_pos (by omega), Option.bind_some, F27_slices_Compact_eq, Option.bind_some, clip_eq, Option.bind_some, List.drop_eq_nil_of_le (by omega), List.flatMap_nil, List.append_nil]
    rfl
  | succ d ih =>
    intro i g hd hi hg
    rw [drop_rd (z := S56.z) (by omega : i < es.length), List.flatMap_cons, List.length_append, entTexts_len] at hg
    rw [F14_entry_Texts_l1000003_eq, if_pos (ilt (by omega)), if_pos (inb (by omega)), if_pos (by rw [List.length_singleton]; omega)]
    have h7 := texts_l7 es (es.length : Int) (i : Int) (S56.f1 (rd S56.z es (i : Int))) (by omega) _ 0 (g ++ [S56.f0 (rd S56.z es (i : Int))]) rfl (by omega) (by simp; omega)
    refine Eq.trans h7 ?_
    rw [w64s (n := es.length) (by omega) (by omega), ih (i + 1) _ (by omega) (by omega) (by rw [List.length_append, List.length_append, List.length_singleton, List.drop_zero, verTexts_len]; omega), drop_rd (z := S56.z) (by omega : i < es.length), List.flatMap_cons, List.drop_zero]
    simp [entTexts]
theorem texts_len (es : List S56) : es.length ≤ (es.flatMap entTexts).length := by
  induction es with
  | nil => simp
  | cons x t ih => rw [List.flatMap_cons, List.length_append, entTexts_len, List.length_cons]; omega
theorem etexts_big (es : List S56) (h : (es.flatMap entTexts).length ≤ 8796093022208) : F14_entry_Texts es = some (txt (es.flatMap entTexts), ()) := by
  rw [F14_entry_Texts_eq]
  have := texts_len es
  exact texts_l3 es (by omega) _ 0 [] rfl (by omega) (by simpa using h)
theorem texts_max (es : List S56) (hv : ∀ e ∈ es, List.length (α := S58) (S56.f1 e) ≤ 100) : (es.flatMap entTexts).length ≤ es.length * 201 := by
  induction es with
  | nil => simp
  | cons x t ih => rw [List.flatMap_cons, List.length_append, entTexts_len, List.length_cons]; have := ih (fun e he => hv e (by simp [he])); have := hv x (by simp); omega
theorem etexts_eq (es : List S56) (he : es.length ≤ 100) (hv : ∀ e ∈ es, List.length (α := S58) (S56.f1 e) ≤ 100) : F14_entry_Texts es = some (txt (es.flatMap entTexts), ()) :=
  etexts_big es (by have := texts_max es hv; omega)

/-! ### a text put into a rising list -/
def insS : List ByteArray → ByteArray → List ByteArray
  | [], s => [s]
  | x :: t, s => if sLt x s = false then (if sLt s x = true then s :: x :: t else x :: t) else x :: insS t s
theorem insS_len : ∀ (l : List ByteArray) (s : ByteArray), (insS l s).length ≤ l.length + 1
  | [], s => by simp [insS]
  | x :: t, s => by
    have := insS_len t s
    unfold insS
    split
    · split <;> simp
    · simp; omega
theorem ins_t (s : ByteArray) (l : List ByteArray) (hl : l.length ≤ 4398046511104) : ∀ (d i : Nat) (g : List ByteArray), l.length - i = d → i ≤ l.length → g.length + d ≤ 8796093022205 →
    F28_letheref02_Insert_l1000004 s true l (l.length : Int) (i : Int) g = some (g ++ l.drop i, ()) := by
  intro d
  induction d with
  | zero => intro i g hd hi hg; rw [F28_letheref02_Insert_l1000004_eq, if_neg (by omega), if_neg (by simp), List.drop_eq_nil_of_le (by omega), List.append_nil]
  | succ d ih =>
    intro i g hd hi hg
    rw [F28_letheref02_Insert_l1000004_eq, if_pos (ilt (by omega)), if_pos (inb (by omega)), if_neg (by simp), F28_letheref02_Insert_l10_eq, if_pos (by simp; omega), w64s (n := l.length) (by omega) (by omega), ih (i + 1) _ (by omega) (by omega) (by simp; omega), drop_rd (z := ByteArray.empty) (by omega : i < l.length), List.append_assoc, List.singleton_append]
theorem ins_f (s : ByteArray) (l : List ByteArray) (hl : l.length ≤ 4398046511104) : ∀ (d i : Nat) (g : List ByteArray), l.length - i = d → i ≤ l.length → g.length + d ≤ 8796093022200 →
    F28_letheref02_Insert_l1000004 s false l (l.length : Int) (i : Int) g = some (g ++ insS (l.drop i) s, ()) := by
  intro d
  induction d with
  | zero => intro i g hd hi hg; rw [F28_letheref02_Insert_l1000004_eq, if_neg (by omega), if_pos (by simp), if_pos (by simp; omega), List.drop_eq_nil_of_le (by omega)]; rfl
  | succ d ih =>
    intro i g hd hi hg
    rw [F28_letheref02_Insert_l1000004_eq, if_pos (ilt (by omega)), if_pos (inb (by omega)), if_pos (by simp), drop_rd (z := ByteArray.empty) (by omega : i < l.length), insS]
    refine ite_to (fun h1 => ?_) (fun h1 => ?_)
    · rw [if_pos h1]
      refine ite_to (fun h2 => ?_) (fun h2 => ?_)
      · rw [if_pos h2, if_pos (by simp; omega), F28_letheref02_Insert_l10_eq, if_pos (by simp; omega), w64s (n := l.length) (by omega) (by omega), ins_t s l hl d (i + 1) _ (by omega) (by omega) (by simp; omega)]
        simp
      · rw [if_neg h2, F28_letheref02_Insert_l10_eq, if_pos (by simp; omega), w64s (n := l.length) (by omega) (by omega), ins_t s l hl d (i + 1) _ (by omega) (by omega) (by simp; omega)]
        simp
    · rw [if_neg h1, F28_letheref02_Insert_l10_eq, if_pos (by simp; omega), w64s (n := l.length) (by omega) (by omega), ih (i + 1) _ (by omega) (by omega) (by simp; omega)]
      simp
theorem ins_eq (l : List ByteArray) (s : ByteArray) (hl : l.length ≤ 4398046511104) : F28_letheref02_Insert l s = some (insS l s, ()) := by
  rw [F28_letheref02_Insert_eq]
  exact ins_f s l hl _ 0 [] rfl (by omega) (by simp; omega)
theorem sle_trans {x y z : List UInt8} (h1 : x < y) (h2 : y < z) : x < z := List.lt_trans h1 h2
theorem mem_insS {x : ByteArray} : ∀ {l : List ByteArray} {s : ByteArray}, x ∈ insS l s ↔ x = s ∨ x ∈ l
  | [], s => by simp [insS]
  | y :: t, s => by
    unfold insS
    split
    · rename_i h1
      split
      · simp
      · rename_i h2
        have e : s = y := by
          rw [sLt_eq, decide_eq_false_iff_not] at h1
          rw [sLt_eq, decide_eq_true_eq] at h2
          exact toB_inj (List.le_antisymm (List.not_lt.1 h1) (List.not_lt.1 h2))
        subst e
        simp
    · rw [List.mem_cons, mem_insS, List.mem_cons]
      constructor
      · rintro (h | h | h)
        · exact .inr (.inl h)
        · exact .inl h
        · exact .inr (.inr h)
      · rintro (h | h | h)
        · exact .inr (.inl h)
        · exact .inl h
        · exact .inr (.inr h)
theorem insS_strict : ∀ {l : List ByteArray} {s : ByteArray}, (l.map toB).Pairwise (· < ·) → ((insS l s).map toB).Pairwise (· < ·)
  | [], s, _ => by simp [insS]
  | y :: t, s, h => by
    rw [List.map_cons, List.pairwise_cons] at h
    unfold insS
    split
    · split
      · rename_i h1 h2
        rw [sLt_eq, decide_eq_true_eq] at h2
        rw [List.map_cons, List.pairwise_cons]
        refine ⟨fun z hz => ?_, by rw [List.map_cons, List.pairwise_cons]; exact h⟩
        rw [List.map_cons, List.mem_cons] at hz
        rcases hz with rfl | hz
        · exact h2
        · exact List.lt_trans h2 (h.1 z hz)
      · rw [List.map_cons, List.pairwise_cons]; exact h
    · rename_i h1
      have h1' : toB y < toB s := by
        have : sLt y s = true := by simpa using h1
        rw [sLt_eq, decide_eq_true_eq] at this; exact this
      rw [List.map_cons, List.pairwise_cons]
      refine ⟨fun z hz => ?_, insS_strict h.2⟩
      obtain ⟨x, hx, rfl⟩ := List.mem_map.1 hz
      rcases mem_insS.1 hx with rfl | hx
      · exact h1'
      · exact h.1 _ (List.mem_map.2 ⟨x, hx, rfl⟩)
theorem strict_ext : ∀ {l r : List (List UInt8)}, l.Pairwise (· < ·) → r.Pairwise (· < ·) → (∀ x, x ∈ l ↔ x ∈ r) → l = r
  | [], [], _, _, _ => rfl
  | [], y :: r, _, _, h => by have := (h y).2 (by simp); simp at this
  | x :: l, [], _, _, h => by have := (h x).1 (by simp); simp at this
  | x :: l, y :: r, hl, hr, h => by
    rw [List.pairwise_cons] at hl hr
    have e : x = y := by
      have h1 := (h x).1 (by simp)
      have h2 := (h y).2 (by simp)
      rw [List.mem_cons] at h1 h2
      rcases h1 with h1 | h1
      · exact h1
      · rcases h2 with h2 | h2
        · exact h2.symm
        · exact absurd (List.lt_trans (hl.1 y h2) (hr.1 x h1)) (List.lt_irrefl _)
    subst e
    rw [strict_ext hl.2 hr.2 fun z => ?_]
    have := h z
    rw [List.mem_cons, List.mem_cons] at this
    constructor
    · intro hz
      rcases this.1 (.inr hz) with rfl | h'
      · exact absurd (hl.1 _ hz) (List.lt_irrefl _)
      · exact h'
    · intro hz
      rcases this.2 (.inr hz) with rfl | h'
      · exact absurd (hr.1 _ hz) (List.lt_irrefl _)
      · exact h'
theorem txt_ext {l a : List ByteArray} (h : (l.map toB).Pairwise (· < ·)) (hm : ∀ x, x ∈ l ↔ x ∈ a) : l = txt a := by
  have e : l.map toB = (txt a).map toB := strict_ext h (txt_strict a) fun x => by
    constructor
    · intro hx
      obtain ⟨y, hy, rfl⟩ := List.mem_map.1 hx
      exact List.mem_map.2 ⟨y, mem_txt.2 ((hm y).1 hy), rfl⟩
    · intro hx
      obtain ⟨y, hy, rfl⟩ := List.mem_map.1 hx
      exact List.mem_map.2 ⟨y, (hm y).2 (mem_txt.1 hy), rfl⟩
  have := congrArg (List.map ofB) e
  simpa [List.map_map, show (ofB ∘ toB) = id from rfl] using this
theorem ins_txt (a : List ByteArray) (s : ByteArray) : insS (txt a) s = txt (a ++ [s]) :=
  txt_ext (insS_strict (txt_strict a)) fun x => by rw [mem_insS, mem_txt, List.mem_append, List.mem_singleton]; exact or_comm
theorem txt_nil : txt [] = [] := by have := txt_len []; exact List.eq_nil_of_length_eq_zero (by simpa using this)

theorem rtexts_l7 (es : List S56) (n i : Int) (vs : List S58) (hv : vs.length ≤ 9223372036854775807) : ∀ (d j : Nat) (a : List ByteArray), vs.length - j = d → j ≤ vs.length → a.length + 2 * d ≤ 4398046511000 →
      F15_letheref05_Texts_l1000007 es n i vs (vs.length : Int) (j : Int) (txt a) = F15_letheref05_Texts_l1000003 es n (IntKind.i64.wrap (i + 1)) (txt (a ++ (vs.drop j).flatMap verTexts)) := by
  intro d
  induction d with
  | zero => intro j a hd hj hg; rw [F15_letheref05_Texts_l1000007_eq, if_neg (by omega), List.drop_eq_nil_of_le (by omega), List.flatMap_nil, List.append_nil]
  | succ d ih =>
    intro j a hd hj hg
    have := txt_len a
    rw [F15_letheref05_Texts_l1000007_eq, if_pos (ilt (by omega)), if_pos (inb (by omega)), ins_eq _ _ (by omega), Option.bind_some]
    dsimp only
    rw [ins_txt]
    have h2 := txt_len (a ++ [S58.f1 (rd S58.z vs (j : Int))])
    rw [List.length_append, List.length_singleton] at h2
    rw [ins_eq _ _ (by omega), Option.bind_some]
    dsimp only
    rw [ins_txt, w64s (n := vs.length) (by omega) (by omega), ih (j + 1) _ (by omega) (by omega) (by simp; omega), drop_rd (z := S58.z) (by omega : j < vs.length), List.flatMap_cons]
    simp [verTexts]
theorem rtexts_l3 (es : List S56) (he : es.length ≤ 9223372036854775807) : ∀ (d i : Nat) (a : List ByteArray), es.length - i = d → i ≤ es.length → a.length + ((es.drop i).flatMap entTexts).length ≤ 4398046510000 →
    F15_letheref05_Texts_l1000003 es (es.length : Int) (i : Int) (txt a) = some (txt (a ++ (es.drop i).flatMap entTexts), ()) := by
  intro d
  induction d with
  | zero => intro i a hd hi hg; rw [F15_letheref05_Texts_l1000003_eq, if_neg (by omega), List.drop_eq_nil_of_le (by omega), List.flatMap_nil, List.append_nil]
  | succ d ih =>
    intro i a hd hi hg
    rw [drop_rd (z := S56.z) (by omega : i < es.length), List.flatMap_cons, List.length_append, entTexts_len] at hg
    have := txt_len a
    rw [F15_letheref05_Texts_l1000003_eq, if_pos (ilt (by omega)), if_pos (inb (by omega)), ins_eq _ _ (by omega), Option.bind_some]
    dsimp only
    rw [ins_txt]
    have h7 := rtexts_l7 es (es.length : Int) (i : Int) (S56.f1 (rd S56.z es (i : Int))) (by omega) _ 0 (a ++ [S56.f0 (rd S56.z es (i : Int))]) rfl (by omega) (by simp; omega)
    refine Eq.trans h7 ?_
    rw [w64s (n := es.length) (by omega) (by omega), ih (i + 1) _ (by omega) (by omega) (by rw [List.length_append, List.length_append, List.length_singleton, List.drop_zero, verTexts_len]; omega), drop_rd (z := S56.z) (by omega : i < es.length), List.flatMap_cons, List.drop_zero]
    simp [entTexts]
theorem rtexts_eq (es : List S56) (h : (es.flatMap entTexts).length ≤ 4398046510000) : F15_letheref05_Texts es = some (txt (es.flatMap entTexts), ()) := by
  rw [F15_letheref05_Texts_eq]
  have := texts_len es
  have e := rtexts_l3 es (by omega) _ 0 [] rfl (by omega) (by simpa using h)
  rw [txt_nil] at e
  simpa using e
theorem both (es : List S56) (h : (es.flatMap entTexts).length ≤ 1048576) : ((F14_entry_Texts es).bind fun y1 => (F15_letheref05_Texts es).bind fun y2 => (F13_letheref02_SameTexts y1.1 y2.1).bind fun y3 => some (y3.1, ())) = some (true, ()) := by
  have := txt_len (es.flatMap entTexts)
  rw [etexts_big es (by omega), rtexts_eq es (by omega)]
  simp only [Option.bind_some]
  rw [Same_txt _ _ (by omega)]
  simp
theorem vers_bk : ∀ (vs : List S58) {n : Nat}, Bk tab (vs.flatMap (lv tab (.st 58))) n → (vs.flatMap verTexts).length ≤ n
  | [], n, _ => by simp
  | v :: vs, n, h => by
    replace h : Bk tab (⟨.int .i64, S58.f0 v⟩ :: ⟨.str, S58.f1 v⟩ :: ⟨.str, S58.f2 v⟩ :: vs.flatMap (lv tab (.st 58))) n := h
    obtain ⟨n1, e1, g1⟩ := h.int_inv
    obtain ⟨n2, e2, g2⟩ := g1.str_inv
    obtain ⟨n3, e3, g3⟩ := g2.str_inv
    have := vers_bk vs g3
    rw [List.flatMap_cons, List.length_append]
    simp only [verTexts, List.length_cons, List.length_nil]
    omega
theorem texts_bk : ∀ (es : List S56) {n : Nat}, Bk tab (es.flatMap (lv tab (.st 56))) n → (es.flatMap entTexts).length ≤ n
  | [], n, _ => by simp
  | e :: es, n, h => by
    replace h : Bk tab (⟨.str, S56.f0 e⟩ :: ⟨.sl 58 (.st 58), S56.f1 e⟩ :: es.flatMap (lv tab (.st 56))) n := h
    obtain ⟨n1, e1, g1⟩ := h.str_inv
    obtain ⟨n2, k, e2, h1, g2⟩ := g1.sl_inv
    have := texts_bk es g2
    have := vers_bk _ h1
    rw [List.flatMap_cons, List.length_append, entTexts, List.length_cons]
    omega
theorem law (l : List S56) (h : Ok tab Pr (.sl 56 (.st 56)) l) (hb : Bk tab [⟨.sl 56 (.st 56), l⟩] 1048576) : F5_lethelaw05_EntryTexts l = some (true, ()) := by
  obtain ⟨m, k, hk, h1, _⟩ := hb.sl_inv
  have hl := texts_bk l h1
  rw [F5_lethelaw05_EntryTexts_eq]
  refine ite_to (fun c => ?_) (fun c => ?_)
  · rw [if_pos (by omega), show subL l 0 40 = l.take 40 from subL_take l (k := 40) rfl]
    refine both _ (Nat.le_trans ?_ (Nat.le_trans hl (by omega)))
    have : (l.take 40 ++ l.drop 40).flatMap entTexts = l.flatMap entTexts := by rw [List.take_append_drop]
    rw [← this, List.flatMap_append, List.length_append]
    omega
  · exact both _ (by omega)

end
end Go.Proofs.Yteoggpajjljfmaa.EntryTextsp
