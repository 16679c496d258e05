/- The law TermAtoms, for all arguments. Under no condition. -/
import Derived.Test.YteoggpajjljfmaaETermAtoms
import Derived.Laws.BitsLemmas
import Derived.Laws.Bits64
set_option linter.unusedVariables false
set_option linter.unusedSimpArgs false
namespace Go.Proofs.Yteoggpajjljfmaa.TermAtomsp
open Go Go.RowKit Go.Proofs.Yteoggpajjljfmaa.Rx Go.Proofs.Yteoggpajjljfmaa.TermAtomsx
noncomputable section
theorem w64 {n : Int} (h0 : -9223372036854775808 ≤ n) (h1 : n ≤ 9223372036854775807) : IntKind.i64.wrap n = n := by rw [IntKind.wrap_i64]; omega
theorem w64s {j n : Nat} (h : j < n) (hn : n ≤ 9223372036854775807) : IntKind.i64.wrap ((j : Int) + 1) = ((j + 1 : Nat) : Int) := by rw [w64 (by omega) (by omega)]; omega
theorem w64p {j : Nat} (h : 0 < j) (hn : j ≤ 9223372036854775807) : IntKind.i64.wrap ((j : Int) - 1) = ((j - 1 : Nat) : Int) := by rw [w64 (by omega) (by omega)]; omega
theorem sl_len {e : TypeId} {t : Ty} {xs : List (den tab.S t)} (h : Ok tab Pr (.sl e t) xs) : xs.length ≤ 9223372036854775807 := by
  have := (Ok.inv h).2.1
  simp only [maxLen] at this
  omega
theorem ite_to {α : Type} {p : Prop} [Decidable p] {a b c : α} (h1 : p → a = c) (h2 : ¬ p → b = c) : (if p then a else b) = c := by
  by_cases h : p
  · rw [if_pos h]; exact h1 h
  · rw [if_neg h]; exact h2 h
theorem ob_eq {a b : Bool} (h1 : a = true → b = true) (h2 : b = true → a = true) : (some (a, ()) : Option (Bool × Unit)) = some (b, ()) := by rw [Bool.eq_iff_iff.2 ⟨h1, h2⟩]
theorem oi_eq {a b : Int} (h : a = b) : (some (a, ()) : Option (Int × Unit)) = some (b, ()) := by rw [h]
theorem rd_lt {α : Type} {z : α} {xs : List α} {i : Nat} (h : i < xs.length) : rd z xs (i : Int) = xs[i] := by simp [rd, h]
theorem drop_rd {α : Type} {z : α} {xs : List α} {i : Nat} (h : i < xs.length) : xs.drop i = rd z xs (i : Int) :: xs.drop (i + 1) := by rw [rd_lt h]; exact List.drop_eq_getElem_cons h
theorem inb {i n : Nat} (h : i < n) : (0 : Int) ≤ (i : Int) ∧ (i : Int) < (n : Int) := by omega
theorem ilt {i n : Nat} (h : i < n) : (i : Int) < (n : Int) := by omega
theorem subL_drop {α : Type} (xs : List α) {l : Int} {k : Nat} (h : l = (k : Int)) : subL xs l (xs.length : Int) = xs.drop k := by simp [subL, h]
theorem subL_take {α : Type} (xs : List α) {l : Int} {k : Nat} (h : l = (k : Int)) : subL xs 0 l = xs.take k := by simp [subL, h]

/-! ### texts, sorted, each once -/
theorem toB_inj {x y : ByteArray} (h : toB x = toB y) : x = y := by rw [← ofB_to x, ← ofB_to y, h]
theorem sLt_eq (x y : ByteArray) : sLt x y = decide (toB x < toB y) := by
  unfold sLt toB
  rw [ByteArray.toList_eq, ByteArray.toList_eq, bytesLess_eq]
theorem mem_compact {zs : List (List UInt8)} {x : List UInt8} : x ∈ Lib.compact zs ↔ x ∈ zs := by
  unfold Lib.compact Lib.compactUpTo
  constructor
  · intro h
    obtain ⟨j, hj, rfl⟩ := List.mem_map.1 h
    have := List.mem_range.1 (List.mem_filter.1 hj).1
    rw [getElem!_pos zs.toArray j (by simpa using this)]
    exact List.getElem_mem _
  · intro h
    obtain ⟨i, hi, rfl⟩ := List.getElem_of_mem h
    -- the first place of that value's run
    have key : ∀ n i, i = n → ∀ hi : i < zs.length, ∃ j, j < zs.length ∧ Lib.keeps zs.toArray j = true ∧ zs.toArray[j]! = zs[i] := by
      intro n
      induction n with
      | zero =>
        intro i e hi
        subst e
        exact ⟨0, hi, by simp [Lib.keeps], by rw [getElem!_pos zs.toArray 0 (by simpa using hi)]; simp⟩
      | succ n ih =>
        intro i e hi
        subst e
        by_cases c : zs[n + 1] = zs[n]
        · obtain ⟨j, h1, h2, h3⟩ := ih n rfl (by omega)
          exact ⟨j, h1, h2, by rw [h3, c]⟩
        · refine ⟨n + 1, hi, ?_, by rw [getElem!_pos zs.toArray (n + 1) (by simpa using hi)]; simp⟩
          simp only [Lib.keeps, decide_eq_true_eq]
          refine .inr ?_
          rw [getElem!_pos zs.toArray (n + 1) (by simpa using hi), getElem!_pos zs.toArray (n + 1 - 1) (by simp; omega)]
          simpa using c
    obtain ⟨j, h1, h2, h3⟩ := key i i rfl hi
    exact List.mem_map.2 ⟨j, List.mem_filter.2 ⟨List.mem_range.2 h1, h2⟩, h3⟩
theorem compact_strict {zs : List (List UInt8)} (h : zs.Pairwise (· ≤ ·)) : (Lib.compact zs).Pairwise (· < ·) := by
  unfold Lib.compact Lib.compactUpTo
  rw [List.pairwise_map]
  refine List.Pairwise.imp_of_mem (R := fun a b => a < b) ?_ (List.Pairwise.filter _ List.pairwise_lt_range)
  intro i j hi hj hlt
  have hi' := List.mem_range.1 (List.mem_filter.1 hi).1
  have hj' := List.mem_range.1 (List.mem_filter.1 hj).1
  have hk := (List.mem_filter.1 hj).2
  simp only [Lib.keeps, decide_eq_true_eq] at hk
  rw [getElem!_pos zs.toArray j (by simpa using hj'), getElem!_pos zs.toArray (j - 1) (by simp; omega)] at hk
  rw [getElem!_pos zs.toArray i (by simpa using hi'), getElem!_pos zs.toArray j (by simpa using hj')]
  have hk' : zs[j] ≠ zs[j - 1]'(by omega) := by rcases hk with h | h; omega; simpa using h
  have P := List.pairwise_iff_getElem.1 h
  have q1 : zs[j - 1]'(by omega) ≤ zs[j] := P (j - 1) j (by omega) hj' (by omega)
  have q2 : zs[i] ≤ zs[j - 1]'(by omega) := by
    rcases Nat.lt_or_ge i (j - 1) with c | c
    · exact P i (j - 1) hi' (by omega) c
    · have : i = j - 1 := by omega
      subst this
      exact List.le_refl _
  have q3 : zs[i] ≤ zs[j] := List.le_trans q2 q1
  show zs[i] < zs[j]
  apply Classical.byContradiction
  intro hn
  have q4 : zs[j] ≤ zs[i] := List.not_lt.1 hn
  have q5 : zs[j] ≤ zs[j - 1]'(by omega) := List.le_trans q4 q2
  exact hk' (List.le_antisymm q5 q1)
theorem compact_self {zs : List (List UInt8)} (h : zs.Pairwise (· < ·)) : Lib.compact zs = zs := by
  refine Lib.compact_all zs (fun j hj => ?_)
  simp only [Lib.keeps, decide_eq_true_eq]
  rcases Nat.eq_zero_or_pos j with c | c
  · exact .inl c
  · refine .inr ?_
    rw [getElem!_pos zs.toArray j (by simpa using hj), getElem!_pos zs.toArray (j - 1) (by simp; omega)]
    have := List.pairwise_iff_getElem.1 h (j - 1) j (by omega) hj (by omega)
    intro e
    have e' : zs[j] = zs[j - 1]'(by omega) := by simpa using e
    rw [e'] at this
    exact List.lt_irrefl _ this
def txt (l : List ByteArray) : List ByteArray := compS (sortS l)
def leB (x y : List UInt8) : Bool := decide (x ≤ y)
theorem sort_pair (zs : List (List UInt8)) : (zs.mergeSort fun x y => decide (x ≤ y)).Pairwise (· ≤ ·) := by
  have := List.pairwise_mergeSort (le := fun x y : List UInt8 => decide (x ≤ y)) (fun a b c h1 h2 => by
    simp only [decide_eq_true_eq] at h1 h2 ⊢; exact List.le_trans h1 h2) (fun a b => by
    simp only [Bool.or_eq_true, decide_eq_true_eq]; exact List.le_total a b) zs
  exact this.imp (fun h => by simpa using h)
theorem txt_toB (l : List ByteArray) : (txt l).map toB = Lib.compact ((l.map toB).mergeSort fun x y => decide (x ≤ y)) := by
  unfold txt compS sortS
  simp only [List.map_map]
  have e : (toB ∘ ofB) = id := rfl
  rw [e, List.map_id, List.map_id]
theorem mem_txt {l : List ByteArray} {s : ByteArray} : s ∈ txt l ↔ s ∈ l := by
  have h : toB s ∈ (txt l).map toB ↔ toB s ∈ l.map toB := by rw [txt_toB, mem_compact, List.mem_mergeSort]
  have inj : ∀ m : List ByteArray, toB s ∈ m.map toB ↔ s ∈ m := by
    intro m
    constructor
    · intro h
      obtain ⟨x, hx, e⟩ := List.mem_map.1 h
      rw [← toB_inj e]; exact hx
    · exact fun h => List.mem_map.2 ⟨s, h, rfl⟩
  rw [inj, inj] at h
  exact h
theorem txt_strict (l : List ByteArray) : ((txt l).map toB).Pairwise (· < ·) := by rw [txt_toB]; exact compact_strict (sort_pair _)
theorem txt_self {l : List ByteArray} (h : (l.map toB).Pairwise (· < ·)) : txt l = l := by
  have h1 : (l.map toB).mergeSort (fun x y => decide (x ≤ y)) = l.map toB := List.mergeSort_of_pairwise (h.imp (fun {a b} hab => by
    simp only [decide_eq_true_eq]
    exact List.le_of_lt hab))
  have h2 := txt_toB l
  rw [h1, compact_self h] at h2
  have := congrArg (List.map ofB) h2
  simpa [List.map_map, show (ofB ∘ toB) = id from rfl] using this
theorem txt_next {l : List ByteArray} {i : Nat} (h : i + 1 < (txt l).length) : sLt (txt l)[i] (txt l)[i + 1] = true := by
  rw [sLt_eq, decide_eq_true_eq]
  have := List.pairwise_iff_getElem.1 (txt_strict l) i (i + 1) (by simp; omega) (by simpa using h) (by omega)
  simpa using this
theorem txt_len (l : List ByteArray) : (txt l).length ≤ l.length := by
  have h := congrArg List.length (txt_toB l)
  rw [List.length_map] at h
  rw [h]
  have := Lib.compact_length_le ((l.map toB).mergeSort fun x y => decide (x ≤ y))
  rw [List.length_mergeSort, List.length_map] at this
  exact this
theorem clip_eq (xs : List ByteArray) : F26_slices_Clip xs = some (xs, ()) := by
  rw [F26_slices_Clip_eq, if_pos (by omega), subL_take xs rfl, List.take_length]
def inS (s : ByteArray) (xs : List ByteArray) : Bool := xs.any fun x => decide (x = s)
theorem inS_iff {s : ByteArray} {xs : List ByteArray} : inS s xs = true ↔ s ∈ xs := by
  unfold inS
  rw [List.any_eq_true]
  constructor
  · rintro ⟨x, hx, h⟩
    rw [decide_eq_true_eq] at h
    rw [← h]; exact hx
  · exact fun h => ⟨s, h, by simp⟩
theorem Same_l (xs ys : List ByteArray) (hx : xs.length ≤ 9223372036854775807) (hl : xs.length = ys.length) : ∀ (d i : Nat), xs.length - i = d → i ≤ xs.length → F13_letheref02_SameTexts_l1000004 xs ys (xs.length : Int) (i : Int) = some (decide (xs.drop i = ys.drop i), ()) := by
  intro d
  induction d with
  | zero => intro i hd hi; rw [F13_letheref02_SameTexts_l1000004_eq, if_neg (by omega), List.drop_eq_nil_of_le (by omega), List.drop_eq_nil_of_le (by omega)]; simp
  | succ d ih =>
    intro i hd hi
    rw [F13_letheref02_SameTexts_l1000004_eq, if_pos (ilt (by omega)), if_pos (inb (by omega)), if_pos (inb (by omega)), w64s (n := xs.length) (by omega) (by omega), ih (i + 1) (by omega) (by omega), drop_rd (z := ByteArray.empty) (by omega : i < xs.length), drop_rd (z := ByteArray.empty) (by omega : i < ys.length)]
    by_cases c : rd ByteArray.empty xs (i : Int) = rd ByteArray.empty ys (i : Int)
    · rw [if_neg (by simp [c]), c]; simp
    · rw [if_pos c]; simp [c]
theorem Same_txt (xs ys : List ByteArray) (hx : xs.length ≤ 9223372036854775807) : F13_letheref02_SameTexts xs ys = some (decide (xs = ys), ()) := by
  rw [F13_letheref02_SameTexts_eq]
  by_cases c : (xs.length : Int) = (ys.length : Int)
  · rw [if_neg (by simp [c])]; exact Same_l xs ys hx (by omega) _ 0 rfl (by omega)
  · rw [if_pos c]
    have : ¬ xs = ys := fun e => c (by rw [e])
    simp [this]

/-! ### strings as lists of numbers -/
/-- A list of bytes. -/
def AllB (l : List Int) : Prop := ∀ c ∈ l, 0 ≤ c ∧ c ≤ 255
theorem AllB.nil : AllB [] := fun _ h => by simp at h
theorem AllB.cons {c : Int} {l : List Int} (h : 0 ≤ c ∧ c ≤ 255) (hl : AllB l) : AllB (c :: l) := fun x hx => by
  rcases List.mem_cons.1 hx with rfl | hx
  · exact h
  · exact hl x hx
theorem AllB.app {a b : List Int} (ha : AllB a) (hb : AllB b) : AllB (a ++ b) := fun x hx => by
  rcases List.mem_append.1 hx with hx | hx
  · exact ha x hx
  · exact hb x hx
theorem AllB.take {a : List Int} (ha : AllB a) (n : Nat) : AllB (a.take n) := fun x hx => ha x (List.mem_of_mem_take hx)
theorem AllB.drop {a : List Int} (ha : AllB a) (n : Nat) : AllB (a.drop n) := fun x hx => ha x (List.mem_of_mem_drop hx)
theorem AllB.of_bytes (s : ByteArray) : AllB (bytesOf s) := fun x hx => by
  obtain ⟨b, _, rfl⟩ := List.mem_map.1 hx
  have := b.toNat_lt
  omega
theorem bytesOf_str {l : List Int} (h : AllB l) : bytesOf (strOf l) = l := by
  unfold bytesOf strOf
  simp only [List.map_map]
  rw [show (List.map ((fun b : UInt8 => (b.toNat : Int)) ∘ fun n : Int => UInt8.ofNat n.toNat) l) = List.map id l from List.map_congr_left (fun x hx => by
    have := h x hx
    simp only [Function.comp, id, UInt8.toNat_ofNat']
    omega)]
  simp
theorem str_bytesOf (s : ByteArray) : strOf (bytesOf s) = s := by
  unfold bytesOf strOf
  simp only [List.map_map]
  rw [show (List.map ((fun n : Int => UInt8.ofNat n.toNat) ∘ fun b : UInt8 => (b.toNat : Int)) s.data.toList) = List.map id s.data.toList from List.map_congr_left (fun x hx => by
    simp [Function.comp])]
  simp
theorem bytesOf_inj {a b : ByteArray} (h : bytesOf a = bytesOf b) : a = b := by rw [← str_bytesOf a, ← str_bytesOf b, h]
theorem bytesOf_append (a b : ByteArray) : bytesOf (a ++ b) = bytesOf a ++ bytesOf b := by simp [bytesOf]
theorem bytesOf_extract (a : ByteArray) (i j : Nat) : bytesOf (a.extract i j) = ((bytesOf a).take j).drop i := by
  simp [bytesOf, List.extract_eq_take_drop, List.map_take, List.map_drop, List.drop_take]
theorem bytesOf_empty : bytesOf ByteArray.empty = [] := rfl
theorem bytesOf_length (s : ByteArray) : (bytesOf s).length = s.size := by rw [bytesOf, List.length_map, Array.length_toList]; rfl
theorem size_bytesOf (s : ByteArray) : s.size = (bytesOf s).length := (bytesOf_length s).symm
theorem size_str (l : List Int) : (strOf l).size = l.length := by simp [strOf, ByteArray.size]
theorem str_append (a b : List Int) : strOf (a ++ b) = strOf a ++ strOf b := by
  apply ByteArray.ext
  simp [strOf]
theorem str_take (l : List Int) (j : Nat) : (strOf l).extract 0 j = strOf (l.take j) := by
  apply ByteArray.ext
  simp [strOf, List.map_take]


/-! ### whether a term may be -/
mutual
def parts : S43 → Nat
  | ⟨_, _, _, l⟩ => 1 + partsL l
def partsL : List S43 → Nat
  | [] => 0
  | x :: t => parts x + partsL t
end
mutual
def depth : S43 → Nat
  | ⟨_, _, _, l⟩ => 1 + depthL l
def depthL : List S43 → Nat
  | [] => 0
  | x :: t => max (depth x) (depthL t)
end
/-- The shape of a term by itself. -/
def one (n f : Int) (s : ByteArray) (len : Nat) : Bool :=
  if n = 1 ∨ n = 3 then decide (bytesOf s = [] ∧ len = 0) else if n = 2 then decide (f = 0 ∧ s.size ≤ 4000 ∧ len = 0) else if n = 4 then decide (bytesOf s = [] ∧ len = 1) else if n = 5 then decide (f = 0 ∧ bytesOf s = []) else false
mutual
def shp : S43 → Bool
  | ⟨n, f, s, l⟩ => one n f s l.length && shpL l
def shpL : List S43 → Bool
  | [] => true
  | x :: t => shp x && shpL t
end
theorem str_nil_iff {s : ByteArray} : bytesOf s = [] ↔ s = ByteArray.empty := ⟨fun h => bytesOf_inj (by rw [h]; rfl), fun h => by rw [h]; rfl⟩
theorem beqd (a b : Int) : (a == b) = decide (a = b) := by rw [Bool.eq_iff_iff, beq_iff_eq, decide_eq_true_eq]
theorem parts_eq (x : S43) : parts x = 1 + partsL x.f3 := by cases x; rw [parts]; rfl
theorem depth_eq (x : S43) : depth x = 1 + depthL x.f3 := by cases x; rw [depth]; rfl
theorem shp_eq (x : S43) : shp x = (one x.f0 x.f1 x.f2 x.f3.length && shpL x.f3) := by cases x; rw [shp]; rfl
theorem shp_mk (n f : Int) (s : ByteArray) (l : List S43) : shp (S43.mk n f s l) = (one n f s l.length && shpL l) := by rw [shp]
theorem parts_pos (x : S43) : 1 ≤ parts x := by rw [parts_eq]; omega
theorem depth_pos (x : S43) : 1 ≤ depth x := by rw [depth_eq]; omega
def rightT (x : S43) : Int := if 4000 < parts x then 23 else if 12 < depth x then 22 else if shp x = true then 0 else 25

theorem right_is {x : S43} (hr : rightT x = 0) : parts x ≤ 4000 ∧ depth x ≤ 12 ∧ shp x = true := by
  unfold rightT at hr
  split at hr
  · simp at hr
  · split at hr
    · simp at hr
    · split at hr
      · rename_i c1 c2 c3
        exact ⟨by omega, by omega, c3⟩
      · simp at hr


/-! ### terms -/
theorem term_eta (t : S43) : S43.mk (S43.f0 t) (S43.f1 t) (S43.f2 t) (S43.f3 t) = t := by cases t; rfl
@[simp] theorem T_f0 (a b : Int) (s : ByteArray) (l : List S43) : S43.f0 (S43.mk a b s l) = a := rfl
@[simp] theorem T_f1 (a b : Int) (s : ByteArray) (l : List S43) : S43.f1 (S43.mk a b s l) = b := rfl
@[simp] theorem T_f2 (a b : Int) (s : ByteArray) (l : List S43) : S43.f2 (S43.mk a b s l) = s := rfl
@[simp] theorem T_f3 (a b : Int) (s : ByteArray) (l : List S43) : S43.f3 (S43.mk a b s l) = l := rfl
/-- A term with no list that is too long. -/
inductive Tn : S43 → Prop
  | mk (k n : Int) (b : ByteArray) (l : List S43) (h : l.length * 56 ≤ 140737488355328) (hl : ∀ x ∈ l, Tn x) : Tn (S43.mk k n b l)
abbrev T4 := Int × Int × ByteArray × List S43 × Unit
def ofT (t : S43) : Option T4 := some (S43.f0 t, S43.f1 t, S43.f2 t, S43.f3 t, ())

inductive okT : S43 → Prop
  | mk {x : S43} : (Lit.int .i64 (S43.f0 x)).wf = true → (Lit.int .u64 (S43.f1 x)).wf = true → (S43.f2 x).size ≤ 140737488351232 → (S43.f3 x).length * 56 ≤ 140737488351232 → (S43.f3 x).length ≤ maxLen → (∀ y ∈ S43.f3 x, okT y) → okT x
theorem etaT (x : S43) : (S43.mk (S43.f0 x) (S43.f1 x) (S43.f2 x) (S43.f3 x)) = x := by cases x; rfl
theorem okT.leaf {n f : Int} {s : ByteArray} (h0 : (Lit.int .i64 n).wf = true) (h1 : (Lit.int .u64 f).wf = true) (h2 : s.size ≤ 140737488351232) : okT (S43.mk n f s []) := okT.mk h0 h1 h2 (by show 0 * 56 ≤ _; omega) (by show 0 ≤ _; omega) (fun y hy => by cases hy)
theorem okT.len {x : S43} (h : okT x) : (S43.f3 x).length ≤ 2513169434843 := by
  cases h with
  | mk _ _ _ h3 _ _ => omega
theorem okT.el {x : S43} (h : okT x) : ∀ y ∈ S43.f3 x, okT y := by
  cases h with
  | mk _ _ _ _ _ h5 => exact h5
theorem okT.tn {x : S43} (h : okT x) : Tn x := by
  induction h with
  | @mk x h0 h1 h2 h3 h4 h5 ih => rw [← etaT x]; exact Tn.mk _ _ _ _ (by omega) ih
theorem okT_of (n : Nat) : ∀ x : S43, SizeOf.sizeOf x < n → Ok tab Pr (.int .i64) (S43.f0 x) → Ok tab Pr (.int .u64) (S43.f1 x) → Ok tab Pr .str (S43.f2 x) → Ok tab Pr (.sl 43 (.st 43)) (S43.f3 x) → okT x := by
  induction n with
  | zero => intro x hx; omega
  | succ n ih =>
    intro x hx h0 h1 h2 h3
    have hb := (Ok.inv h3).1
    rw [show Program.bytesOf Pr 43 = 56 by kernel_rfl] at hb
    refine okT.mk (Ok.inv h0) (Ok.inv h1) (Ok.inv h2) ?_ (Ok.inv h3).2.1 (fun y hy => ?_)
    · exact hb
    · obtain ⟨i, hi, rfl⟩ := List.getElem_of_mem hy
      have hs : SizeOf.sizeOf (S43.f3 x)[i] < n := by
        have h9 := List.sizeOf_lt_of_mem hy
        have h8 : SizeOf.sizeOf (S43.f3 x) < SizeOf.sizeOf x := by cases x; simp [S43.f3]; omega
        omega
      have hc := (Ok.inv h3).2.2 i (S43.f3 x)[i]
      exact ih _ hs (hc 0 ⟨.int .i64, _⟩ (List.getElem?_eq_getElem hi) rfl) (hc 1 ⟨.int .u64, _⟩ (List.getElem?_eq_getElem hi) rfl) (hc 2 ⟨.str, _⟩ (List.getElem?_eq_getElem hi) rfl) (hc 3 ⟨.sl 43 (.st 43), _⟩ (List.getElem?_eq_getElem hi) rfl)

abbrev bigL : Nat := 2513169434843
theorem parts_l (l : List S43) (hl : l.length ≤ bigL) (ih : ∀ x ∈ l, ∀ m : Nat, 1 ≤ m → m ≤ 1000000 → F39_term_parts (S43.f0 x) (S43.f1 x) (S43.f2 x) (S43.f3 x) (m : Int) = some (((min (parts x) m : Nat) : Int), ())) (m : Nat) (hm : m ≤ 1000000) : ∀ k i n, l.length - i = k → i ≤ l.length → n ≤ m → 1 ≤ n →
    F39_term_parts_l1000003 (m : Int) (n : Int) l (l.length : Int) (i : Int) = some (((min (n + partsL (l.drop i)) m : Nat) : Int), ()) := by
  intro k
  induction k with
  | zero =>
    intro i n hk hi hn h1
    rw [F39_term_parts_l1000003_eq, if_neg (by omega), List.drop_of_length_le (by omega)]
    exact oi_eq (by simp only [partsL]; omega)
  | succ k ihk =>
    intro i n hk hi hn h1
    simp only [bigL] at hl
    rw [F39_term_parts_l1000003_eq, if_pos (ilt (by omega)), if_pos (inb (by omega)), drop_rd (z := S43.z) (by omega : i < l.length)]
    by_cases c1 : m ≤ n
    · rw [if_pos (by omega)]
      exact oi_eq (by simp only [partsL]; omega)
    · rw [if_neg (by omega), w64 (by omega) (by omega), show (m : Int) - (n : Int) = ((m - n : Nat) : Int) by omega, rd_lt (by omega : i < l.length), ih _ (List.getElem_mem _) _ (by omega) (by omega), Option.bind_some, w64s (n := l.length) (by omega) (by omega)]
      generalize hp : parts l[i] = p
      have hp1 : 1 ≤ p := by rw [← hp]; exact parts_pos _
      rw [w64 (by omega) (by omega), show (n : Int) + ((min p (m - n) : Nat) : Int) = ((n + min p (m - n) : Nat) : Int) by omega, ihk (i + 1) _ (by omega) (by omega) (by omega) (by omega)]
      exact oi_eq (by simp only [partsL, hp]; omega)
theorem parts_f {x : S43} (h : okT x) : ∀ m : Nat, 1 ≤ m → m ≤ 1000000 → F39_term_parts (S43.f0 x) (S43.f1 x) (S43.f2 x) (S43.f3 x) (m : Int) = some (((min (parts x) m : Nat) : Int), ()) := by
  induction h with
  | @mk x h0 h1 h2 h3 h4 h5 ih =>
    intro m hm hm2
    rw [F39_term_parts_eq, parts_eq]
    exact parts_l (S43.f3 x) (by simp only [bigL]; omega) ih m hm2 _ 0 1 rfl (by omega) hm (by omega)
theorem rparts_l (l : List S43) (hl : l.length ≤ bigL) (ih : ∀ x ∈ l, ∀ m : Nat, 1 ≤ m → m ≤ 1000000 → F32_letheref02_Parts (S43.f0 x) (S43.f1 x) (S43.f2 x) (S43.f3 x) (m : Int) = some (((min (parts x) m : Nat) : Int), ())) (m : Nat) (hm : m ≤ 1000000) : ∀ k i n, l.length - i = k → i ≤ l.length → n ≤ m → 1 ≤ n →
    F32_letheref02_Parts_l1000003 (m : Int) (n : Int) l (l.length : Int) (i : Int) = some (((min (n + partsL (l.drop i)) m : Nat) : Int), ()) := by
  intro k
  induction k with
  | zero =>
    intro i n hk hi hn h1
    rw [F32_letheref02_Parts_l1000003_eq, if_neg (by omega), List.drop_of_length_le (by omega), if_neg (by omega)]
    exact oi_eq (by simp only [partsL]; omega)
  | succ k ihk =>
    intro i n hk hi hn h1
    simp only [bigL] at hl
    rw [F32_letheref02_Parts_l1000003_eq, if_pos (ilt (by omega)), if_pos (inb (by omega)), drop_rd (z := S43.z) (by omega : i < l.length)]
    by_cases c1 : m ≤ n
    · rw [if_pos (by omega)]
      exact oi_eq (by simp only [partsL]; omega)
    · rw [if_neg (by omega), w64 (by omega) (by omega), show (m : Int) - (n : Int) = ((m - n : Nat) : Int) by omega, rd_lt (by omega : i < l.length), ih _ (List.getElem_mem _) _ (by omega) (by omega), Option.bind_some, w64s (n := l.length) (by omega) (by omega)]
      generalize hp : parts l[i] = p
      have hp1 : 1 ≤ p := by rw [← hp]; exact parts_pos _
      rw [w64 (by omega) (by omega), show (n : Int) + ((min p (m - n) : Nat) : Int) = ((n + min p (m - n) : Nat) : Int) by omega, ihk (i + 1) _ (by omega) (by omega) (by omega) (by omega)]
      exact oi_eq (by simp only [partsL, hp]; omega)
theorem rparts_f {x : S43} (h : okT x) : ∀ m : Nat, 1 ≤ m → m ≤ 1000000 → F32_letheref02_Parts (S43.f0 x) (S43.f1 x) (S43.f2 x) (S43.f3 x) (m : Int) = some (((min (parts x) m : Nat) : Int), ()) := by
  induction h with
  | @mk x h0 h1 h2 h3 h4 h5 ih =>
    intro m hm hm2
    rw [F32_letheref02_Parts_eq, parts_eq]
    exact rparts_l (S43.f3 x) (by simp only [bigL]; omega) ih m hm2 _ 0 1 rfl (by omega) hm (by omega)
theorem deep_l (l : List S43) (hl : l.length ≤ bigL) (m : Nat) (hm : m ≤ 1000000) (hm2 : 2 ≤ m) (ih : ∀ x ∈ l, F40_term_deep (S43.f0 x) (S43.f1 x) (S43.f2 x) (S43.f3 x) ((m - 1 : Nat) : Int) = some (((min (depth x) (m - 1) : Nat) : Int), ())) : ∀ k i n, l.length - i = k → i ≤ l.length → n ≤ m - 1 →
    F40_term_deep_l1000004 (m : Int) (n : Int) l (l.length : Int) (i : Int) = some (((min (1 + max n (depthL (l.drop i))) m : Nat) : Int), ()) := by
  intro k
  induction k with
  | zero =>
    intro i n hk hi hn
    rw [F40_term_deep_l1000004_eq, if_neg (by omega), List.drop_of_length_le (by omega), w64 (by omega) (by omega)]
    exact oi_eq (by simp only [depthL]; omega)
  | succ k ihk =>
    intro i n hk hi hn
    simp only [bigL] at hl
    rw [F40_term_deep_l1000004_eq, if_pos (ilt (by omega)), if_pos (inb (by omega)), drop_rd (z := S43.z) (by omega : i < l.length), w64p (by omega) (by omega), rd_lt (by omega : i < l.length), ih _ (List.getElem_mem _), Option.bind_some, w64s (n := l.length) (by omega) (by omega)]
    generalize hp : depth l[i] = p
    rw [show mx (n : Int) ((min p (m - 1) : Nat) : Int) = ((max n (min p (m - 1)) : Nat) : Int) by unfold mx; split <;> omega, ihk (i + 1) _ (by omega) (by omega) (by omega)]
    exact oi_eq (by simp only [depthL, hp]; omega)
theorem deep_f {x : S43} (h : okT x) : ∀ m : Nat, 1 ≤ m → m ≤ 1000000 → F40_term_deep (S43.f0 x) (S43.f1 x) (S43.f2 x) (S43.f3 x) (m : Int) = some (((min (depth x) m : Nat) : Int), ()) := by
  induction h with
  | @mk x h0 h1 h2 h3 h4 h5 ih =>
    intro m hm hm2
    rw [F40_term_deep_eq, depth_eq]
    by_cases c1 : m = 1
    · rw [if_neg (by omega), w64 (by omega) (by omega)]
      exact oi_eq (by omega)
    · rw [if_pos (by omega)]
      have := deep_l (S43.f3 x) (by simp only [bigL]; omega) m hm2 (by omega) (fun y hy => ih y hy (m - 1) (by omega) (by omega)) _ 0 0 rfl (by omega) (by omega)
      rw [show F40_term_deep_l1000004 (m : Int) 0 (S43.f3 x) ((S43.f3 x).length : Int) 0 = _ from this]
      exact oi_eq (by simp only [List.drop_zero]; omega)
theorem rdeep_l (l : List S43) (hl : l.length ≤ bigL) (m : Nat) (hm : m ≤ 1000000) (hm2 : 2 ≤ m) (ih : ∀ x ∈ l, F33_letheref02_Deep (S43.f0 x) (S43.f1 x) (S43.f2 x) (S43.f3 x) ((m - 1 : Nat) : Int) = some (((min (depth x) (m - 1) : Nat) : Int), ())) : ∀ k i n, l.length - i = k → i ≤ l.length → n < m - 1 →
    F33_letheref02_Deep_l1000005 (m : Int) (n : Int) l (l.length : Int) (i : Int) = some (((min (1 + max n (depthL (l.drop i))) m : Nat) : Int), ()) := by
  intro k
  induction k with
  | zero =>
    intro i n hk hi hn
    rw [F33_letheref02_Deep_l1000005_eq, if_neg (by omega), List.drop_of_length_le (by omega), w64 (by omega) (by omega)]
    exact oi_eq (by simp only [depthL]; omega)
  | succ k ihk =>
    intro i n hk hi hn
    simp only [bigL] at hl
    rw [F33_letheref02_Deep_l1000005_eq, if_pos (ilt (by omega)), if_pos (inb (by omega)), drop_rd (z := S43.z) (by omega : i < l.length), w64p (by omega) (by omega), rd_lt (by omega : i < l.length), ih _ (List.getElem_mem _), Option.bind_some, w64s (n := l.length) (by omega) (by omega)]
    generalize hp : depth l[i] = p
    simp only [depthL, hp]
    refine ite_to (fun c1 => ?_) (fun c1 => ?_)
    · refine ite_to (fun c2 => ?_) (fun c2 => ?_)
      · exact oi_eq (by omega)
      · have := ihk (i + 1) (min p (m - 1)) (by omega) (by omega) (by omega)
        rw [this]
        exact oi_eq (by omega)
    · refine ite_to (fun c2 => ?_) (fun c2 => ?_)
      · omega
      · have := ihk (i + 1) n (by omega) (by omega) (by omega)
        rw [this]
        exact oi_eq (by omega)
theorem rdeep_f {x : S43} (h : okT x) : ∀ m : Nat, 1 ≤ m → m ≤ 1000000 → F33_letheref02_Deep (S43.f0 x) (S43.f1 x) (S43.f2 x) (S43.f3 x) (m : Int) = some (((min (depth x) m : Nat) : Int), ()) := by
  induction h with
  | @mk x h0 h1 h2 h3 h4 h5 ih =>
    intro m hm hm2
    rw [F33_letheref02_Deep_eq, depth_eq]
    by_cases c1 : m = 1
    · rw [if_pos (by omega)]
      exact oi_eq (by omega)
    · rw [if_neg (by omega)]
      have := rdeep_l (S43.f3 x) (by simp only [bigL]; omega) m hm2 (by omega) (fun y hy => ih y hy (m - 1) (by omega) (by omega)) _ 0 0 rfl (by omega) (by omega)
      rw [show F33_letheref02_Deep_l1000005 (m : Int) 0 (S43.f3 x) ((S43.f3 x).length : Int) 0 = _ from this]
      exact oi_eq (by simp only [List.drop_zero]; omega)
/-! shapes -/
theorem one_f (n f : Int) (s : ByteArray) (l : List S43) : F42_letheref02_One n f s l = some (one n f s l.length, ()) := by
  rw [F42_letheref02_One_eq]
  repeat' (refine ite_to (fun _ => ?_) (fun _ => ?_))
  all_goals (apply ob_eq <;> intro hh <;> simp only [one, str_nil_iff] at hh ⊢ <;> simp_all <;> omega)
theorem rshaped_l (l : List S43) (hl : l.length ≤ bigL) (ih : ∀ x ∈ l, F34_letheref02_shaped (S43.f0 x) (S43.f1 x) (S43.f2 x) (S43.f3 x) = some (shp x, ())) : ∀ k i, l.length - i = k → i ≤ l.length →
    F34_letheref02_shaped_l1000004 l (l.length : Int) (i : Int) = some (shpL (l.drop i), ()) := by
  intro k
  induction k with
  | zero =>
    intro i hk hi
    rw [F34_letheref02_shaped_l1000004_eq, if_neg (by omega), List.drop_of_length_le (by omega)]
    simp [shpL]
  | succ k ihk =>
    intro i hk hi
    simp only [bigL] at hl
    rw [F34_letheref02_shaped_l1000004_eq, if_pos (ilt (by omega)), if_pos (inb (by omega)), drop_rd (z := S43.z) (by omega : i < l.length), rd_lt (by omega : i < l.length), ih _ (List.getElem_mem _), Option.bind_some, w64s (n := l.length) (by omega) (by omega), ihk (i + 1) (by omega) (by omega)]
    cases hs : shp l[i] <;> simp [shpL, hs]
theorem rshaped_f {x : S43} (h : okT x) : F34_letheref02_shaped (S43.f0 x) (S43.f1 x) (S43.f2 x) (S43.f3 x) = some (shp x, ()) := by
  induction h with
  | @mk x h0 h1 h2 h3 h4 h5 ih =>
    rw [F34_letheref02_shaped_eq, one_f, shp_eq, Option.bind_some]
    have := rshaped_l (S43.f3 x) (by simp only [bigL]; omega) ih _ 0 rfl (by omega)
    rw [show F34_letheref02_shaped_l1000004 (S43.f3 x) ((S43.f3 x).length : Int) 0 = _ from this]
    cases one (S43.f0 x) (S43.f1 x) (S43.f2 x) (S43.f3 x).length <;> simp
theorem index_l (l : List S43) (hl : l.length ≤ bigL) (ih : ∀ x ∈ l, F41_term_shaped (S43.f0 x) (S43.f1 x) (S43.f2 x) (S43.f3 x) = some (shp x, ())) : ∀ k i, l.length - i = k → i ≤ l.length →
    ∃ n : Int, F75_slices_IndexFunc_64_l1000002 l (l.length : Int) (i : Int) = some (n, ()) ∧ (0 ≤ n ↔ shpL (l.drop i) = false) := by
  intro k
  induction k with
  | zero =>
    intro i hk hi
    rw [F75_slices_IndexFunc_64_l1000002_eq, if_neg (by omega), List.drop_of_length_le (by omega)]
    exact ⟨-1, rfl, by simp [shpL]⟩
  | succ k ihk =>
    intro i hk hi
    simp only [bigL] at hl
    rw [F75_slices_IndexFunc_64_l1000002_eq, if_pos (ilt (by omega)), if_pos (inb (by omega)), drop_rd (z := S43.z) (by omega : i < l.length), rd_lt (by omega : i < l.length), F64_term_shaped_1_eq, ih _ (List.getElem_mem _), Option.bind_some, Option.bind_some, w64s (n := l.length) (by omega) (by omega)]
    obtain ⟨n, q1, q2⟩ := ihk (i + 1) (by omega) (by omega)
    rw [q1]
    cases hs : shp l[i] with
    | true => exact ⟨n, by simp, by rw [q2]; simp [shpL, hs]⟩
    | false => exact ⟨i, by simp, by simp [shpL, hs]⟩
theorem shaped_f {x : S43} (h : okT x) : F41_term_shaped (S43.f0 x) (S43.f1 x) (S43.f2 x) (S43.f3 x) = some (shp x, ()) := by
  induction h with
  | @mk x h0 h1 h2 h3 h4 h5 ih =>
    have hb : ∀ b : Bool, F41_term_shaped_l12 b (S43.f0 x) (S43.f1 x) (S43.f2 x) (S43.f3 x) = some (b && shpL (S43.f3 x), ()) := by
      intro b
      obtain ⟨n, q1, q2⟩ := index_l (S43.f3 x) (by simp only [bigL]; omega) ih _ 0 rfl (by omega)
      rw [List.drop_zero] at q2
      rw [F41_term_shaped_l12_eq, F63_slices_ContainsFunc_64_eq, F75_slices_IndexFunc_64_eq, show F75_slices_IndexFunc_64_l1000002 (S43.f3 x) ((S43.f3 x).length : Int) 0 = _ from q1]
      cases b with
      | false => simp
      | true =>
        simp only [Option.bind_some, if_true, Bool.true_and]
        apply ob_eq
        · intro hh; cases hs : shpL (S43.f3 x) with
          | true => rfl
          | false => have := q2.2 hs; simp at hh; omega
        · intro hh; simp; by_cases c1 : 0 ≤ n
          · rw [q2.1 c1] at hh; cases hh
          · omega
    rw [F41_term_shaped_eq, shp_eq]
    simp only [hb]
    repeat' (refine ite_to (fun _ => ?_) (fun _ => ?_))
    all_goals (refine congrArg (fun b => some (b && shpL (S43.f3 x), ())) (Bool.eq_iff_iff.2 ?_) ; constructor <;> intro hh <;> simp only [one, str_nil_iff] at hh ⊢ <;> simp_all <;> omega)
theorem right_f {x : S43} (h : okT x) : F29_term_Right (S43.f0 x) (S43.f1 x) (S43.f2 x) (S43.f3 x) = some (rightT x, ()) := by
  have h1 := parts_f h 4001 (by omega) (by omega)
  have h2 := deep_f h 13 (by omega) (by omega)
  rw [F29_term_Right_eq, show F39_term_parts (S43.f0 x) (S43.f1 x) (S43.f2 x) (S43.f3 x) 4001 = _ from h1, show F40_term_deep (S43.f0 x) (S43.f1 x) (S43.f2 x) (S43.f3 x) 13 = _ from h2, shaped_f h]
  simp only [Option.bind_some]
  unfold rightT
  by_cases c1 : 4000 < parts x
  · rw [if_pos (by omega), if_pos c1]
  · rw [if_neg (by omega), if_neg c1]
    by_cases c2 : 12 < depth x
    · rw [if_pos (by omega), if_pos c2]
    · rw [if_neg (by omega), if_neg c2]
      cases shp x <;> simp
theorem rright_f {x : S43} (h : okT x) : F18_letheref02_Right (S43.f0 x) (S43.f1 x) (S43.f2 x) (S43.f3 x) = some (rightT x, ()) := by
  have h1 := rparts_f h 4001 (by omega) (by omega)
  have h2 := rdeep_f h 13 (by omega) (by omega)
  rw [F18_letheref02_Right_eq, show F32_letheref02_Parts (S43.f0 x) (S43.f1 x) (S43.f2 x) (S43.f3 x) 4001 = _ from h1, show F33_letheref02_Deep (S43.f0 x) (S43.f1 x) (S43.f2 x) (S43.f3 x) 13 = _ from h2, rshaped_f h]
  simp only [Option.bind_some]
  unfold rightT
  by_cases c1 : 4000 < parts x
  · rw [if_pos (by omega), if_pos c1]
  · rw [if_neg (by omega), if_neg c1]
    by_cases c2 : 12 < depth x
    · rw [if_pos (by omega), if_pos c2]
    · rw [if_neg (by omega), if_neg c2]
      cases shp x <;> simp

/-! ### the atoms of terms -/
mutual
def atomsT : S43 → List ByteArray
  | ⟨n, _, s, l⟩ => if n = 2 then [s] else atomsL l
def atomsL : List S43 → List ByteArray
  | [] => []
  | x :: t => atomsT x ++ atomsL t
end
theorem atomsT_eq (x : S43) : atomsT x = if x.f0 = 2 then [x.f2] else atomsL x.f3 := by cases x; rw [atomsT]; rfl
theorem atoms_len {x : S43} (h : okT x) : (atomsT x).length ≤ parts x := by
  induction h with
  | @mk x h0 h1 h2 h3 h4 h5 ih =>
    have L : ∀ l : List S43, (∀ y ∈ l, (atomsT y).length ≤ parts y) → (atomsL l).length ≤ partsL l := by
      intro l
      induction l with
      | nil => intro _; rw [atomsL]; simp
      | cons y t iht =>
        intro hl
        rw [atomsL, partsL, List.length_append]
        have := hl y (by simp)
        have := iht (fun z hz => hl z (by simp [hz]))
        omega
    rw [atomsT_eq, parts_eq]
    split
    · simp
    · have := L _ ih; omega
abbrev G3 := Bool × List ByteArray × List ByteArray × Unit
def gOut (g a : List ByteArray) : Option G3 := if a = [] then some (false, [], g, ()) else some (true, g ++ a, [], ())
theorem gOut_bind {α : Type} (g a : List ByteArray) (F : List ByteArray → Option α) (F' : List ByteArray → Option α) (h : F' g = F (g ++ ([] : List ByteArray)) ∨ a ≠ []) : ((gOut g a).bind fun y => if y.1 = true then F y.2.1 else F' y.2.2.1) = if a = [] then F' g else F (g ++ a) := by
  unfold gOut
  by_cases c : a = []
  · rw [if_pos c, if_pos c, Option.bind_some, if_neg (by simp)]
  · rw [if_neg c, if_neg c, Option.bind_some, if_pos rfl]
theorem gather_l1 (l : List S43) (hl : l.length ≤ bigL) (ih : ∀ y ∈ l, ∀ g : List ByteArray, (g.length + (atomsT y).length) * 16 ≤ 140737488355328 → F30_term_gather (S43.f0 y) (S43.f1 y) (S43.f2 y) (S43.f3 y) g = gOut g (atomsT y)) : ∀ (d i : Nat) (g : List ByteArray), l.length - i = d → i ≤ l.length → (g.length + (atomsL (l.drop i)).length) * 16 ≤ 140737488355328 →
    F30_term_gather_l1000004_1 l (l.length : Int) (i : Int) g = some (true, g ++ atomsL (l.drop i), [], ()) := by
  simp only [bigL] at hl
  intro d
  induction d with
  | zero =>
    intro i g hd hi hb
    rw [F30_term_gather_l1000004_1_eq, if_neg (by omega), List.drop_eq_nil_of_le (by omega), atomsL, List.append_nil]
  | succ d ihd =>
    intro i g hd hi hb
    rw [List.drop_eq_getElem_cons (by omega : i < l.length), atomsL, List.length_append] at hb
    rw [F30_term_gather_l1000004_1_eq, if_pos (ilt (by omega)), if_pos (inb (by omega)), rd_lt (by omega : i < l.length), ih _ (List.getElem_mem _) g (by omega), w64s (n := l.length) (by omega) (by omega), List.drop_eq_getElem_cons (by omega : i < l.length), atomsL]
    unfold gOut
    by_cases c : atomsT l[i] = []
    · rw [if_pos c, Option.bind_some]
      dsimp only
      rw [if_neg (by simp), ihd (i + 1) g (by omega) (by omega) (by omega), c, List.nil_append]
    · rw [if_neg c, Option.bind_some]
      dsimp only
      rw [if_pos rfl, ihd (i + 1) _ (by omega) (by omega) (by rw [List.length_append]; omega), List.append_assoc]
theorem gather_l0 (l : List S43) (hl : l.length ≤ bigL) (ih : ∀ y ∈ l, ∀ g : List ByteArray, (g.length + (atomsT y).length) * 16 ≤ 140737488355328 → F30_term_gather (S43.f0 y) (S43.f1 y) (S43.f2 y) (S43.f3 y) g = gOut g (atomsT y)) : ∀ (d i : Nat) (g : List ByteArray), l.length - i = d → i ≤ l.length → (g.length + (atomsL (l.drop i)).length) * 16 ≤ 140737488355328 →
    F30_term_gather_l1000004 l (l.length : Int) (i : Int) g = gOut g (atomsL (l.drop i)) := by
  have hl' := hl
  simp only [bigL] at hl'
  intro d
  induction d with
  | zero =>
    intro i g hd hi hb
    rw [F30_term_gather_l1000004_eq, if_neg (by omega), List.drop_eq_nil_of_le (by omega), atomsL]; rfl
  | succ d ihd =>
    intro i g hd hi hb
    rw [List.drop_eq_getElem_cons (by omega : i < l.length), atomsL, List.length_append] at hb
    rw [F30_term_gather_l1000004_eq, if_pos (ilt (by omega)), if_pos (inb (by omega)), rd_lt (by omega : i < l.length), ih _ (List.getElem_mem _) g (by omega), w64s (n := l.length) (by omega) (by omega), List.drop_eq_getElem_cons (by omega : i < l.length), atomsL]
    unfold gOut
    by_cases c : atomsT l[i] = []
    · rw [if_pos c, Option.bind_some]
      dsimp only
      rw [if_neg (by simp), ihd (i + 1) g (by omega) (by omega) (by omega), c, List.nil_append]; rfl
    · rw [if_neg c, Option.bind_some]
      dsimp only
      rw [if_pos rfl, gather_l1 l hl ih _ (i + 1) _ rfl (by omega) (by rw [List.length_append]; omega), if_neg (by simp [c]), List.append_assoc]
theorem gather_eq {x : S43} (h : okT x) : ∀ g : List ByteArray, (g.length + (atomsT x).length) * 16 ≤ 140737488355328 → F30_term_gather (S43.f0 x) (S43.f1 x) (S43.f2 x) (S43.f3 x) g = gOut g (atomsT x) := by
  induction h with
  | @mk x h0 h1 h2 h3 h4 h5 ih =>
    intro g hb
    rw [atomsT_eq] at hb ⊢
    rw [F30_term_gather_eq]
    by_cases c : S43.f0 x = 2
    · rw [if_pos c] at hb ⊢
      rw [if_pos c, if_pos hb]; rfl
    · rw [if_neg c] at hb ⊢
      rw [if_neg c]
      exact gather_l0 _ (by have := (okT.mk h0 h1 h2 h3 h4 h5).len; simp only [bigL]; omega) ih _ 0 g rfl (by omega) hb
/-- The atoms of those that may be. -/
def atomsR (l : List S43) : List ByteArray := l.flatMap fun x => if rightT x = 0 then atomsT x else []
theorem atoms_l (l : List S43) (hl : l.length ≤ 9223372036854775807) (ho : ∀ x ∈ l, okT x) : ∀ (d i : Nat) (g : List ByteArray), l.length - i = d → i ≤ l.length → (g.length + (atomsR (l.drop i)).length) * 16 ≤ 140737488355328 →
    F16_term_Atoms_l1000003 l (l.length : Int) (i : Int) g = some (txt (g ++ atomsR (l.drop i)), ()) := by
  intro d
  induction d with
  | zero =>
    intro i g hd hi hb
    rw [List.drop_eq_nil_of_le (by omega)] at hb ⊢
    simp only [atomsR, List.flatMap_nil, List.length_nil, Nat.add_zero] at hb
    rw [F16_term_Atoms_l1000003_eq, if_neg (by omega), F25_slices_Sort_eq, if_pos (by omega), Option.bind_some, F27_slices_Compact_eq, Option.bind_some, clip_eq, Option.bind_some]
    simp [atomsR, txt]
  | succ d ihd =>
    intro i g hd hi hb
    have e : atomsR (l.drop i) = (if rightT l[i] = 0 then atomsT l[i] else []) ++ atomsR (l.drop (i + 1)) := by
      rw [List.drop_eq_getElem_cons (by omega : i < l.length)]; rfl
    rw [e, List.length_append] at hb
    have hx := ho l[i] (List.getElem_mem _)
    rw [F16_term_Atoms_l1000003_eq, if_pos (ilt (by omega)), if_pos (inb (by omega)), rd_lt (by omega : i < l.length), right_f hx, Option.bind_some, w64s (n := l.length) (by omega) (by omega), e]
    by_cases c : rightT l[i] = 0
    · rw [if_pos c] at hb ⊢
      rw [if_pos c, gather_eq hx g (by omega)]
      unfold gOut
      by_cases c2 : atomsT l[i] = []
      · rw [if_pos c2, Option.bind_some]
        dsimp only
        rw [if_neg (by simp), ihd (i + 1) g (by omega) (by omega) (by omega), c2, List.nil_append]
      · rw [if_neg c2, Option.bind_some]
        dsimp only
        rw [if_pos rfl, ihd (i + 1) _ (by omega) (by omega) (by rw [List.length_append]; omega), List.append_assoc]
    · rw [if_neg c] at hb ⊢
      rw [if_neg c, ihd (i + 1) g (by omega) (by omega) (by omega), List.nil_append]
theorem atomsR_len {l : List S43} (ho : ∀ x ∈ l, okT x) : (atomsR l).length ≤ l.length * 4000 := by
  induction l with
  | nil => simp [atomsR]
  | cons x t ih =>
    have := ih (fun y hy => ho y (by simp [hy]))
    have hx := atoms_len (ho x (by simp))
    have e : atomsR (x :: t) = (if rightT x = 0 then atomsT x else []) ++ atomsR t := rfl
    have hp : (if rightT x = 0 then atomsT x else []).length ≤ 4000 := by
      by_cases c : rightT x = 0
      · have := (right_is c).1
        rw [if_pos c]; omega
      · rw [if_neg c]; exact Nat.zero_le _
    rw [e, List.length_append, List.length_cons, Nat.succ_mul]
    exact Nat.le_trans (Nat.add_le_add hp this) (by rw [Nat.add_comm]; exact Nat.le_refl _)
theorem atoms_eq (l : List S43) (hl : l.length ≤ 1000) (ho : ∀ x ∈ l, okT x) : F16_term_Atoms l = some (txt (atomsR l), ()) := by
  have := atomsR_len ho
  rw [F16_term_Atoms_eq]
  exact atoms_l l (by omega) ho _ 0 [] rfl (by omega) (by simp; omega)

/-! ### a text put into a rising list -/
def insS : List ByteArray → ByteArray → List ByteArray
  | [], s => [s]
  | x :: t, s => if sLt x s = false then (if sLt s x = true then s :: x :: t else x :: t) else x :: insS t s
theorem insS_len : ∀ (l : List ByteArray) (s : ByteArray), (insS l s).length ≤ l.length + 1
  | [], s => by simp [insS]
  | x :: t, s => by
    have := insS_len t s
    unfold insS
    split
    · split <;> simp
    · simp; omega
theorem ins_t (s : ByteArray) (l : List ByteArray) (hl : l.length ≤ 4398046511104) : ∀ (d i : Nat) (g : List ByteArray), l.length - i = d → i ≤ l.length → g.length + d ≤ 8796093022205 →
    F28_letheref02_Insert_l1000004 s true l (l.length : Int) (i : Int) g = some (g ++ l.drop i, ()) := by
  intro d
  induction d with
  | zero => intro i g hd hi hg; rw [F28_letheref02_Insert_l1000004_eq, if_neg (by omega), if_neg (by simp), List.drop_eq_nil_of_le (by omega), List.append_nil]
  | succ d ih =>
    intro i g hd hi hg
    rw [F28_letheref02_Insert_l1000004_eq, if_pos (ilt (by omega)), if_pos (inb (by omega)), if_neg (by simp), F28_letheref02_Insert_l10_eq, if_pos (by simp; omega), w64s (n := l.length) (by omega) (by omega), ih (i + 1) _ (by omega) (by omega) (by simp; omega), drop_rd (z := ByteArray.empty) (by omega : i < l.length), List.append_assoc, List.singleton_append]
theorem ins_f (s : ByteArray) (l : List ByteArray) (hl : l.length ≤ 4398046511104) : ∀ (d i : Nat) (g : List ByteArray), l.length - i = d → i ≤ l.length → g.length + d ≤ 8796093022200 →
    F28_letheref02_Insert_l1000004 s false l (l.length : Int) (i : Int) g = some (g ++ insS (l.drop i) s, ()) := by
  intro d
  induction d with
  | zero => intro i g hd hi hg; rw [F28_letheref02_Insert_l1000004_eq, if_neg (by omega), if_pos (by simp), if_pos (by simp; omega), List.drop_eq_nil_of_le (by omega)]; rfl
  | succ d ih =>
    intro i g hd hi hg
    rw [F28_letheref02_Insert_l1000004_eq, if_pos (ilt (by omega)), if_pos (inb (by omega)), if_pos (by simp), drop_rd (z := ByteArray.empty) (by omega : i < l.length), insS]
    refine ite_to (fun h1 => ?_) (fun h1 => ?_)
    · rw [if_pos h1]
      refine ite_to (fun h2 => ?_) (fun h2 => ?_)
      · rw [if_pos h2, if_pos (by simp; omega), F28_letheref02_Insert_l10_eq, if_pos (by simp; omega), w64s (n := l.length) (by omega) (by omega), ins_t s l hl d (i + 1) _ (by omega) (by omega) (by simp; omega)]
        simp
      · rw [if_neg h2, F28_letheref02_Insert_l10_eq, if_pos (by simp; omega), w64s (n := l.length) (by omega) (by omega), ins_t s l hl d (i + 1) _ (by omega) (by omega) (by simp; omega)]
        simp
    · rw [if_neg h1, F28_letheref02_Insert_l10_eq, if_pos (by simp; omega), w64s (n := l.length) (by omega) (by omega), ih (i + 1) _ (by omega) (by omega) (by simp; omega)]
      simp
theorem ins_eq (l : List ByteArray) (s : ByteArray) (hl : l.length ≤ 4398046511104) : F28_letheref02_Insert l s = some (insS l s, ()) := by
  rw [F28_letheref02_Insert_eq]
  exact ins_f s l hl _ 0 [] rfl (by omega) (by simp; omega)
theorem sle_trans {x y z : List UInt8} (h1 : x < y) (h2 : y < z) : x < z := List.lt_trans h1 h2
theorem mem_insS {x : ByteArray} : ∀ {l : List ByteArray} {s : ByteArray}, x ∈ insS l s ↔ x = s ∨ x ∈ l
  | [], s => by simp [insS]
  | y :: t, s => by
    unfold insS
    split
    · rename_i h1
      split
      · simp
      · rename_i h2
        have e : s = y := by
          rw [sLt_eq, decide_eq_false_iff_not] at h1
          rw [sLt_eq, decide_eq_true_eq] at h2
          exact toB_inj (List.le_antisymm (List.not_lt.1 h1) (List.not_lt.1 h2))
        subst e
        simp
    · rw [List.mem_cons, mem_insS, List.mem_cons]
      constructor
      · rintro (h | h | h)
        · exact .inr (.inl h)
        · exact .inl h
        · exact .inr (.inr h)
      · rintro (h | h | h)
        · exact .inr (.inl h)
        · exact .inl h
        · exact .inr (.inr h)
theorem insS_strict : ∀ {l : List ByteArray} {s : ByteArray}, (l.map toB).Pairwise (· < ·) → ((insS l s).map toB).Pairwise (· < ·)
  | [], s, _ => by simp [insS]
  | y :: t, s, h => by
    rw [List.map_cons, List.pairwise_cons] at h
    unfold insS
    split
    · split
      · rename_i h1 h2
        rw [sLt_eq, decide_eq_true_eq] at h2
        rw [List.map_cons, List.pairwise_cons]
        refine ⟨fun z hz => ?_, by rw [List.map_cons, List.pairwise_cons]; exact h⟩
        rw [List.map_cons, List.mem_cons] at hz
        rcases hz with rfl | hz
        · exact h2
        · exact List.lt_trans h2 (h.1 z hz)
      · rw [List.map_cons, List.pairwise_cons]; exact h
    · rename_i h1
      have h1' : toB y < toB s := by
        have : sLt y s = true := by simpa using h1
        rw [sLt_eq, decide_eq_true_eq] at this; exact this
      rw [List.map_cons, List.pairwise_cons]
      refine ⟨fun z hz => ?_, insS_strict h.2⟩
      obtain ⟨x, hx, rfl⟩ := List.mem_map.1 hz
      rcases mem_insS.1 hx with rfl | hx
      · exact h1'
      · exact h.1 _ (List.mem_map.2 ⟨x, hx, rfl⟩)
theorem strict_ext : ∀ {l r : List (List UInt8)}, l.Pairwise (· < ·) → r.Pairwise (· < ·) → (∀ x, x ∈ l ↔ x ∈ r) → l = r
  | [], [], _, _, _ => rfl
  | [], y :: r, _, _, h => by have := (h y).2 (by simp); simp at this
  | x :: l, [], _, _, h => by have := (h x).1 (by simp); simp at this
  | x :: l, y :: r, hl, hr, h => by
    rw [List.pairwise_cons] at hl hr
    have e : x = y := by
      have h1 := (h x).1 (by simp)
      have h2 := (h y).2 (by simp)
      rw [List.mem_cons] at h1 h2
      rcases h1 with h1 | h1
      · exact h1
      · rcases h2 with h2 | h2
        · exact h2.symm
        · exact absurd (List.lt_trans (hl.1 y h2) (hr.1 x h1)) (List.lt_irrefl _)
    subst e
    rw [strict_ext hl.2 hr.2 fun z => ?_]
    have := h z
    rw [List.mem_cons, List.mem_cons] at this
    constructor
    · intro hz
      rcases this.1 (.inr hz) with rfl | h'
      · exact absurd (hl.1 _ hz) (List.lt_irrefl _)
      · exact h'
    · intro hz
      rcases this.2 (.inr hz) with rfl | h'
      · exact absurd (hr.1 _ hz) (List.lt_irrefl _)
      · exact h'
theorem txt_ext {l a : List ByteArray} (h : (l.map toB).Pairwise (· < ·)) (hm : ∀ x, x ∈ l ↔ x ∈ a) : l = txt a := by
  have e : l.map toB = (txt a).map toB := strict_ext h (txt_strict a) fun x => by
    constructor
    · intro hx
      obtain ⟨y, hy, rfl⟩ := List.mem_map.1 hx
      exact List.mem_map.2 ⟨y, mem_txt.2 ((hm y).1 hy), rfl⟩
    · intro hx
      obtain ⟨y, hy, rfl⟩ := List.mem_map.1 hx
      exact List.mem_map.2 ⟨y, (hm y).2 (mem_txt.1 hy), rfl⟩
  have := congrArg (List.map ofB) e
  simpa [List.map_map, show (ofB ∘ toB) = id from rfl] using this
theorem ins_txt (a : List ByteArray) (s : ByteArray) : insS (txt a) s = txt (a ++ [s]) :=
  txt_ext (insS_strict (txt_strict a)) fun x => by rw [mem_insS, mem_txt, List.mem_append, List.mem_singleton]; exact or_comm
theorem txt_nil : txt [] = [] := by have := txt_len []; exact List.eq_nil_of_length_eq_zero (by simpa using this)

theorem rgather_l (l : List S43) (hl : l.length ≤ 9223372036854775807) (ih : ∀ y ∈ l, ∀ a : List ByteArray, a.length + (atomsT y).length ≤ 4398046511000 → F31_letheref02_gather (txt a) (S43.f0 y) (S43.f1 y) (S43.f2 y) (S43.f3 y) = some (txt (a ++ atomsT y), ())) : ∀ (d i : Nat) (a : List ByteArray), l.length - i = d → i ≤ l.length → a.length + (atomsL (l.drop i)).length ≤ 4398046511000 →
    F31_letheref02_gather_l1000004 (txt a) l (l.length : Int) (i : Int) = some (txt (a ++ atomsL (l.drop i)), ()) := by
  intro d
  induction d with
  | zero => intro i a hd hi hb; rw [F31_letheref02_gather_l1000004_eq, if_neg (by omega), List.drop_eq_nil_of_le (by omega), atomsL, List.append_nil]
  | succ d ihd =>
    intro i a hd hi hb
    rw [List.drop_eq_getElem_cons (by omega : i < l.length), atomsL, List.length_append] at hb
    rw [F31_letheref02_gather_l1000004_eq, if_pos (ilt (by omega)), if_pos (inb (by omega)), rd_lt (by omega : i < l.length), ih _ (List.getElem_mem _) a (by omega), Option.bind_some, w64s (n := l.length) (by omega) (by omega), List.drop_eq_getElem_cons (by omega : i < l.length), atomsL]
    dsimp only
    rw [ihd (i + 1) _ (by omega) (by omega) (by rw [List.length_append]; omega), List.append_assoc]
theorem rgather_eq {x : S43} (h : okT x) : ∀ a : List ByteArray, a.length + (atomsT x).length ≤ 4398046511000 → F31_letheref02_gather (txt a) (S43.f0 x) (S43.f1 x) (S43.f2 x) (S43.f3 x) = some (txt (a ++ atomsT x), ()) := by
  induction h with
  | @mk x h0 h1 h2 h3 h4 h5 ih =>
    intro a hb
    have := txt_len a
    rw [atomsT_eq] at hb ⊢
    rw [F31_letheref02_gather_eq]
    by_cases c : S43.f0 x = 2
    · rw [if_pos c, if_pos c, ins_eq _ _ (by omega), Option.bind_some]
      dsimp only
      rw [ins_txt]
    · rw [if_neg c] at hb ⊢
      rw [if_neg c]
      exact rgather_l _ (by have := (okT.mk h0 h1 h2 h3 h4 h5).len; omega) ih _ 0 a rfl (by omega) hb
theorem ratoms_l (l : List S43) (hl : l.length ≤ 9223372036854775807) (ho : ∀ x ∈ l, okT x) : ∀ (d i : Nat) (a : List ByteArray), l.length - i = d → i ≤ l.length → a.length + (atomsR (l.drop i)).length ≤ 4398046511000 →
    F17_letheref02_Atoms_l1000003 (txt a) l (l.length : Int) (i : Int) = some (txt (a ++ atomsR (l.drop i)), ()) := by
  intro d
  induction d with
  | zero => intro i a hd hi hb; rw [F17_letheref02_Atoms_l1000003_eq, if_neg (by omega), List.drop_eq_nil_of_le (by omega)]; simp [atomsR]
  | succ d ihd =>
    intro i a hd hi hb
    have e : atomsR (l.drop i) = (if rightT l[i] = 0 then atomsT l[i] else []) ++ atomsR (l.drop (i + 1)) := by
      rw [List.drop_eq_getElem_cons (by omega : i < l.length)]; rfl
    rw [e, List.length_append] at hb
    have hx := ho l[i] (List.getElem_mem _)
    rw [F17_letheref02_Atoms_l1000003_eq, if_pos (ilt (by omega)), if_pos (inb (by omega)), rd_lt (by omega : i < l.length), rright_f hx, Option.bind_some, w64s (n := l.length) (by omega) (by omega), e]
    by_cases c : rightT l[i] = 0
    · rw [if_pos c] at hb ⊢
      rw [if_pos c, rgather_eq hx a (by omega), Option.bind_some]
      dsimp only
      rw [ihd (i + 1) _ (by omega) (by omega) (by rw [List.length_append]; omega), List.append_assoc]
    · rw [if_neg c] at hb ⊢
      rw [if_neg c, ihd (i + 1) a (by omega) (by omega) (by omega), List.nil_append]
theorem atoms_bk (n : Nat) : ∀ (l : List S43), SizeOf.sizeOf l < n → ∀ {k : Nat}, Bk tab (l.flatMap (lv tab (.st 43))) k → (atomsL l).length ≤ k := by
  induction n with
  | zero => intro l hl; omega
  | succ n ih =>
    intro l hl k h
    match l, hl, h with
    | [], _, _ => simp [atomsL]
    | ⟨a, b, s, r⟩ :: l, hl, h =>
      replace h : Bk tab (⟨.int .i64, a⟩ :: ⟨.int .u64, b⟩ :: ⟨.str, s⟩ :: ⟨.sl 43 (.st 43), r⟩ :: l.flatMap (lv tab (.st 43))) k := h
      obtain ⟨n1, e1, g1⟩ := h.int_inv
      obtain ⟨n2, e2, g2⟩ := g1.int_inv
      obtain ⟨n3, e3, g3⟩ := g2.str_inv
      obtain ⟨n4, k4, e4, h4, g4⟩ := g3.sl_inv
      simp only [List.cons.sizeOf_spec, S43.mk.sizeOf_spec] at hl
      have q1 := ih l (by omega) g4
      have q2 := ih r (by omega) h4
      rw [atomsL, List.length_append, atomsT_eq]
      have : (if a = 2 then [s] else atomsL r).length ≤ k4 + 1 := by
        split
        · simp
        · omega
      show (if a = 2 then [s] else atomsL r).length + _ ≤ _
      omega
theorem atomsR_le : ∀ l : List S43, (atomsR l).length ≤ (atomsL l).length
  | [] => by simp [atomsR]
  | x :: l => by
    have := atomsR_le l
    have e : atomsR (x :: l) = (if rightT x = 0 then atomsT x else []) ++ atomsR l := rfl
    rw [e, atomsL, List.length_append, List.length_append]
    have : (if rightT x = 0 then atomsT x else []).length ≤ (atomsT x).length := by split <;> simp
    omega
theorem law (l : List S43) (h : Ok tab Pr (.sl 43 (.st 43)) l) (hb : Bk tab [⟨.sl 43 (.st 43), l⟩] 1048576) : F6_lethelaw02_TermAtoms l = some (true, ()) := by
  obtain ⟨m, k, hk, h1, _⟩ := hb.sl_inv
  have hl := atoms_bk _ l (Nat.lt_succ_self _) h1
  have hr := atomsR_le l
  have hlen : List.length (α := S43) l ≤ 9223372036854775807 := sl_len h
  have ho : ∀ x ∈ l, okT x := by
    intro x hx
    obtain ⟨i, hi, rfl⟩ := List.getElem_of_mem hx
    have h3 := (Ok.inv h).2.2
    have g : ∀ (j : Nat) (d : DL tab), (lv tab (.st 43) l[i])[j]? = some d → Ok tab Pr d.1 d.2 := fun j d hd => h3 i _ j d (List.getElem?_eq_getElem hi) hd
    exact okT_of _ _ (Nat.lt_succ_self _) (g 0 _ rfl) (g 1 _ rfl) (g 2 _ rfl) (g 3 _ rfl)
  have e1 : F16_term_Atoms l = some (txt (atomsR l), ()) := by
    rw [F16_term_Atoms_eq]
    exact atoms_l l (by omega) ho _ 0 [] rfl (by omega) (by simp; omega)
  have e2 : F17_letheref02_Atoms l = some (txt (atomsR l), ()) := by
    rw [F17_letheref02_Atoms_eq]
    have := ratoms_l l (by omega) ho _ 0 [] rfl (by omega) (by simp; omega)
    rw [txt_nil] at this
    simpa using this
  have := txt_len (atomsR l)
  rw [F6_lethelaw02_TermAtoms_eq, e1, e2]
  simp only [Option.bind_some]
  rw [Same_txt _ _ (by omega)]
  simp

end
end Go.Proofs.Yteoggpajjljfmaa.TermAtomsp
