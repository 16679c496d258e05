/- The sort of numbers: it sorts. Under no condition. -/
import Derived.Test.YtckafnfidjfhjaaSrtE
import Derived.Laws.BitsLemmas
import Derived.Laws.Bits64
import Derived.Sort.AssemblyPlain
import Derived.Sort.LotD4
set_option linter.unusedVariables false
set_option linter.unusedSimpArgs false
set_option linter.unusedSectionVars false
namespace Go.Proofs.Ytckafnfidjfhjaa.Srtp
open Go Go.RowKit Go.Proofs.Ytckafnfidjfhjaa.Rx Go.Proofs.Ytckafnfidjfhjaa.Srtx
noncomputable section
theorem w64 {n : Int} (h0 : -9223372036854775808 ≤ n) (h1 : n ≤ 9223372036854775807) : IntKind.i64.wrap n = n := by rw [IntKind.wrap_i64]; omega
theorem w64s {j n : Nat} (h : j < n) (hn : n ≤ 9223372036854775807) : IntKind.i64.wrap ((j : Int) + 1) = ((j + 1 : Nat) : Int) := by rw [w64 (by omega) (by omega)]; omega
theorem w64p {j : Nat} (h : 0 < j) (hn : j ≤ 9223372036854775807) : IntKind.i64.wrap ((j : Int) - 1) = ((j - 1 : Nat) : Int) := by rw [w64 (by omega) (by omega)]; omega
theorem sl_len {e : TypeId} {t : Ty} {xs : List (den tab.S t)} (h : Ok tab Pr (.sl e t) xs) : xs.length ≤ 9223372036854775807 := by
  have := (Ok.inv h).2.1
  simp only [maxLen] at this
  omega
theorem ite_to {α : Type} {p : Prop} [Decidable p] {a b c : α} (h1 : p → a = c) (h2 : ¬ p → b = c) : (if p then a else b) = c := by
  by_cases h : p
  · rw [if_pos h]; exact h1 h
  · rw [if_neg h]; exact h2 h
theorem ob_eq {a b : Bool} (h1 : a = true → b = true) (h2 : b = true → a = true) : (some (a, ()) : Option (Bool × Unit)) = some (b, ()) := by rw [Bool.eq_iff_iff.2 ⟨h1, h2⟩]
theorem oi_eq {a b : Int} (h : a = b) : (some (a, ()) : Option (Int × Unit)) = some (b, ()) := by rw [h]
theorem rd_lt {α : Type} {z : α} {xs : List α} {i : Nat} (h : i < xs.length) : rd z xs (i : Int) = xs[i] := by simp [rd, h]
theorem drop_rd {α : Type} {z : α} {xs : List α} {i : Nat} (h : i < xs.length) : xs.drop i = rd z xs (i : Int) :: xs.drop (i + 1) := by rw [rd_lt h]; exact List.drop_eq_getElem_cons h
theorem inb {i n : Nat} (h : i < n) : (0 : Int) ≤ (i : Int) ∧ (i : Int) < (n : Int) := by omega
theorem ilt {i n : Nat} (h : i < n) : (i : Int) < (n : Int) := by omega
theorem subL_drop {α : Type} (xs : List α) {l : Int} {k : Nat} (h : l = (k : Int)) : subL xs l (xs.length : Int) = xs.drop k := by simp [subL, h]
theorem subL_take {α : Type} (xs : List α) {l : Int} {k : Nat} (h : l = (k : Int)) : subL xs 0 l = xs.take k := by simp [subL, h]

/-! ### numbers, sorted: the code's functions are those of the plain text -/
theorem rdA (d : Array Int) (i : Nat) : rd (0 : Int) d.toList (i : Int) = d[i]! := by
  unfold rd
  rw [Int.toNat_natCast, List.getD_eq_getElem?_getD, Array.getElem?_toList, Array.getElem!_eq_getD]
  simp [Array.getD_eq_getD_getElem?]
theorem setA (d : Array Int) (i j : Nat) : List.set (List.set d.toList (Int.toNat (i : Int)) d[j]!) (Int.toNat (j : Int)) d[i]! = (Sort.swp d i j).toList := by simp [Sort.swp]
theorem inA {d : Array Int} {i : Nat} (h : i < d.size) : (0 : Int) ≤ (i : Int) ∧ (i : Int) < (d.toList.length : Int) := by rw [Array.length_toList]; omega
theorem inS {d : Array Int} {i j : Nat} {x : Int} (h : i < d.size) : (0 : Int) ≤ (i : Int) ∧ (i : Int) < ((List.set d.toList j x).length : Int) := by rw [List.length_set, Array.length_toList]; omega
theorem wp1 {k : Nat} (h : k ≤ 4611686018427387904) : IntKind.i64.wrap (((k + 1 : Nat) : Int) - 1) = (k : Int) := by rw [w64 (by omega) (by omega)]; omega
theorem ws1 {k : Nat} (h : k ≤ 4611686018427387904) : IntKind.i64.wrap ((k : Int) + 1) = ((k + 1 : Nat) : Int) := by rw [w64 (by omega) (by omega)]; omega
theorem wsub {b a : Nat} (h : a ≤ b) (hb : b ≤ 4611686018427387904) : IntKind.i64.wrap ((b : Int) - (a : Int)) = ((b - a : Nat) : Int) := by rw [w64 (by omega) (by omega)]; omega
theorem wadd {a b : Nat} (h : a + b ≤ 9223372036854775807) : IntKind.i64.wrap ((a : Int) + (b : Int)) = ((a + b : Nat) : Int) := by rw [w64 (by omega) (by omega)]; omega
theorem less_eq (x y : Int) : F87_cmp_Less x y = some (Sort.ltInt x y, ()) := by rw [F87_cmp_Less_eq, F112_cmp_isNaN_eq]; simp [Sort.ltInt]
theorem ssz (d : Array Int) (i j : Nat) : (Sort.swp d i j).size = d.size := Sort.size_swp d i j
/-! insertion -/
theorem ins_in (a b i : Nat) : ∀ (j : Nat) (d : Array Int), j < d.size → d.size ≤ 1152921504606846976 →
    F81_slices_insertionSortOrdered_l1000004 a b i j d.toList = F81_slices_insertionSortOrdered_l1000001 a b (IntKind.i64.wrap ((i : Int) + 1)) (Sort.insInner Sort.ltInt a j d).toList
  | 0, d, h, hs => by rw [F81_slices_insertionSortOrdered_l1000004_eq, if_neg (by omega)]; rfl
  | j + 1, d, h, hs => by
    rw [F81_slices_insertionSortOrdered_l1000004_eq, Sort.insInner]
    by_cases c : a < j + 1
    · rw [if_pos (by omega), if_pos (inA h), wp1 (by omega), if_pos (inA (show j < d.size by omega)), rdA, rdA, less_eq, Option.bind_some]
      dsimp only
      cases hl : Sort.ltInt d[j + 1]! d[j]! with
      | true =>
        rw [if_pos rfl, if_pos (inA (show j < d.size by omega)), if_pos (inA h), if_pos (inA h), if_pos (inS (show j < d.size by omega)), setA, ins_in a b i j _ (by rw [ssz]; omega) (by rw [ssz]; exact hs)]
        rw [if_pos (by simp; omega)]
      | false => rw [if_neg (by simp), if_neg (by simp)]
    · rw [if_neg (by omega), if_neg (by simp; omega)]
theorem ins_out (a b : Nat) : ∀ (n i : Nat) (d : Array Int), b - i = n → b ≤ d.size → d.size ≤ 1152921504606846976 →
    F81_slices_insertionSortOrdered_l1000001 a b i d.toList = some ((Sort.insOuter Sort.ltInt a b i d).toList, ()) := by
  intro n
  induction n with
  | zero => intro i d hn hb hs; rw [F81_slices_insertionSortOrdered_l1000001_eq, if_neg (by omega), Sort.insOuter, if_neg (by omega)]
  | succ n ih =>
    intro i d hn hb hs
    have h1 := (Sort.insInner_spec Sort.swo_ltInt Sort.swp_permIn Sort.permIn_refl Sort.permIn_trans)
    have hz : (Sort.insInner Sort.ltInt a i d).size = d.size := by
      have : ∀ (j : Nat) (d : Array Int), (Sort.insInner Sort.ltInt a j d).size = d.size := by
        intro j
        induction j with
        | zero => intro d; rfl
        | succ j ih => intro d; rw [Sort.insInner]; split; rw [ih, ssz]; rfl
      exact this i d
    rw [F81_slices_insertionSortOrdered_l1000001_eq, if_pos (by omega), ins_in a b i i d (by omega) hs, ws1 (by omega), ih (i + 1) _ (by omega) (by rw [hz]; exact hb) (by rw [hz]; exact hs)]
    conv => rhs; rw [Sort.insOuter, if_pos (by omega)]
theorem ins_sort (a b : Nat) (d : Array Int) (ha : a ≤ b) (hb : b ≤ d.size) (hs : d.size ≤ 1152921504606846976) : F81_slices_insertionSortOrdered a b d.toList = some ((Sort.insertionSort Sort.ltInt d a b).toList, ()) := by
  rw [F81_slices_insertionSortOrdered_eq, ws1 (by omega), ins_out a b _ (a + 1) d rfl hb hs]; rfl
/-! the heap -/
theorem sift (hi F : Nat) : ∀ (n root : Nat) (d : Array Int), hi - root ≤ n → F + hi ≤ d.size → root ≤ d.size → d.size ≤ 1152921504606846976 →
    F107_slices_siftDownOrdered_l1000001 hi F root d.toList = some ((Sort.siftDown Sort.ltInt hi F root d).toList, ()) := by
  intro n
  induction n with
  | zero =>
    intro root d hn hF hr hs
    have e1 : IntKind.i64.wrap (IntKind.i64.wrap ((2 : Int) * (root : Int)) + 1) = ((2 * root + 1 : Nat) : Int) := by rw [w64 (n := (2 : Int) * (root : Int)) (by omega) (by omega), w64 (by omega) (by omega)]; omega
    rw [F107_slices_siftDownOrdered_l1000001_eq, e1, Sort.siftDown, if_pos (by omega), dif_pos (by omega)]
  | succ n ih =>
    intro root d hn hF hr hs
    have e1 : IntKind.i64.wrap (IntKind.i64.wrap ((2 : Int) * (root : Int)) + 1) = ((2 * root + 1 : Nat) : Int) := by rw [w64 (n := (2 : Int) * (root : Int)) (by omega) (by omega), w64 (by omega) (by omega)]; omega
    rw [F107_slices_siftDownOrdered_l1000001_eq, e1, Sort.siftDown]
    by_cases c0 : hi ≤ 2 * root + 1
    · rw [if_pos (by omega), dif_pos (by omega)]
    · rw [if_neg (by omega), dif_neg (by omega)]
      have e2 : IntKind.i64.wrap (((2 * root + 1 : Nat) : Int) + 1) = ((2 * root + 2 : Nat) : Int) := ws1 (by omega)
      have e3 : IntKind.i64.wrap ((F : Int) + ((2 * root + 1 : Nat) : Int)) = ((F + (2 * root + 1) : Nat) : Int) := wadd (by omega)
      have e4 : IntKind.i64.wrap (((F + (2 * root + 1) : Nat) : Int) + 1) = ((F + (2 * root + 1) + 1 : Nat) : Int) := ws1 (by omega)
      have e5 : IntKind.i64.wrap ((F : Int) + (root : Int)) = ((F + root : Nat) : Int) := wadd (by omega)
      have e6 : IntKind.i64.wrap ((F : Int) + ((2 * root + 2 : Nat) : Int)) = ((F + (2 * root + 2) : Nat) : Int) := wadd (by omega)
      simp only [e2, e3, e4, e5, e6, rdA, less_eq, Option.bind_some]
      have i1 : F + (2 * root + 1) < d.size := by omega
      have i0 : F + root < d.size := by omega
      have one : (if (!Sort.ltInt d[F + root]! d[F + (2 * root + 1)]!) = true then some (d.toList, ()) else if (0 : Int) ≤ ((F + (2 * root + 1) : Nat) : Int) ∧ ((F + (2 * root + 1) : Nat) : Int) < (d.toList.length : Int) then
            if (0 : Int) ≤ ((F + root : Nat) : Int) ∧ ((F + root : Nat) : Int) < (d.toList.length : Int) then
              if (0 : Int) ≤ ((F + root : Nat) : Int) ∧ ((F + root : Nat) : Int) < (d.toList.length : Int) then
                if (0 : Int) ≤ ((F + (2 * root + 1) : Nat) : Int) ∧ ((F + (2 * root + 1) : Nat) : Int) < ((List.set d.toList (Int.toNat ((F + root : Nat) : Int)) d[F + (2 * root + 1)]!).length : Int) then
                  F107_slices_siftDownOrdered_l1000001 hi F ((2 * root + 1 : Nat) : Int) (List.set (List.set d.toList (Int.toNat ((F + root : Nat) : Int)) d[F + (2 * root + 1)]!) (Int.toNat ((F + (2 * root + 1) : Nat) : Int)) d[F + root]!)
                else none
              else none
            else none
          else none) = some ((if (!Sort.ltInt d[F + root]! d[F + (2 * root + 1)]!) = true then d else Sort.siftDown Sort.ltInt hi F (2 * root + 1) (Sort.swp d (F + root) (F + (2 * root + 1)))).toList, ()) := by
        refine ite_to (fun h => by rw [if_pos h]) (fun h => ?_)
        rw [if_neg h, if_pos (inA i1), if_pos (inA i0), if_pos (inA i0), if_pos (inS i1), setA, ih _ _ (by omega) (by rw [ssz]; omega) (by rw [ssz]; omega) (by rw [ssz]; exact hs)]
      by_cases c1 : 2 * root + 2 < hi
      · have i2 : F + (2 * root + 1) + 1 < d.size := by omega
        rw [if_pos (by omega), if_pos (inA i1), if_pos (inA i2)]
        refine ite_to (fun h => ?_) (fun h => ?_)
        · have hc : (decide (2 * root + 1 + 1 < hi) && Sort.ltInt d[F + (2 * root + 1)]! d[F + (2 * root + 1) + 1]!) = true := by rw [h]; simp; omega
          rw [if_pos (inA i0), if_pos (inA (show F + (2 * root + 2) < d.size by omega)), if_pos hc]
          refine ite_to (fun h2 => by rw [if_pos h2]) (fun h2 => ?_)
          rw [if_neg h2, if_pos (inA (show F + (2 * root + 2) < d.size by omega)), if_pos (inA i0), if_pos (inA i0), if_pos (inS (show F + (2 * root + 2) < d.size by omega)), setA, ih _ _ (by omega) (by rw [ssz]; omega) (by rw [ssz]; omega) (by rw [ssz]; exact hs), dif_pos (by omega)]
        · have hc : ¬ (decide (2 * root + 1 + 1 < hi) && Sort.ltInt d[F + (2 * root + 1)]! d[F + (2 * root + 1) + 1]!) = true := by intro q; rw [Bool.and_eq_true] at q; exact h q.2
          rw [if_pos (inA i0), if_pos (inA i1), if_neg hc]
          exact one
      · have hc : ¬ (decide (2 * root + 1 + 1 < hi) && Sort.ltInt d[F + (2 * root + 1)]! d[F + (2 * root + 1) + 1]!) = true := by intro q; rw [Bool.and_eq_true, decide_eq_true_eq] at q; omega
        rw [if_neg (by omega), if_pos (inA i0), if_pos (inA i1), if_neg hc]
        exact one
theorem sift_sz (hi F : Nat) : ∀ (n root : Nat) (d : Array Int), hi - root ≤ n → (Sort.siftDown Sort.ltInt hi F root d).size = d.size := by
  intro n
  induction n with
  | zero => intro root d hn; rw [Sort.siftDown, dif_pos (by omega)]
  | succ n ih =>
    intro root d hn
    rw [Sort.siftDown]
    split
    · rfl
    · split
      · split
        · rfl
        · split
          · rw [ih _ _ (by omega), ssz]
          · rfl
      · split
        · rfl
        · rw [ih _ _ (by omega), ssz]
theorem heap_b (hi F : Nat) : ∀ (k : Nat) (d : Array Int), F + hi ≤ d.size → k ≤ d.size + 1 → d.size ≤ 1152921504606846976 →
    F82_slices_heapSortOrdered_l1000004 F 0 hi ((k : Int) - 1) d.toList = F82_slices_heapSortOrdered_l1000008 F 0 (IntKind.i64.wrap ((hi : Int) - 1)) (Sort.heapBuild Sort.ltInt hi F k d).toList
  | 0, d, hF, hk, hs => by rw [F82_slices_heapSortOrdered_l1000004_eq, if_neg (by omega)]; rfl
  | k + 1, d, hF, hk, hs => by
    have e : (((k + 1 : Nat) : Int) - 1) = (k : Int) := by omega
    have hz := sift_sz hi F _ k d (Nat.le_refl _)
    rw [F82_slices_heapSortOrdered_l1000004_eq, e, if_pos (by omega), F107_slices_siftDownOrdered_eq, sift hi F _ k d (Nat.le_refl _) hF (by omega) hs, Option.bind_some]
    dsimp only
    rw [w64 (by omega) (by omega), heap_b hi F k _ (by rw [hz]; exact hF) (by rw [hz]; omega) (by rw [hz]; exact hs)]
    rfl
theorem heap_p (F : Nat) : ∀ (k : Nat) (d : Array Int), F + k ≤ d.size → d.size ≤ 1152921504606846976 →
    F82_slices_heapSortOrdered_l1000008 F 0 ((k : Int) - 1) d.toList = some ((Sort.heapPop Sort.ltInt F k d).toList, ())
  | 0, d, hF, hs => by rw [F82_slices_heapSortOrdered_l1000008_eq, if_neg (by omega)]; rfl
  | k + 1, d, hF, hs => by
    have e : (((k + 1 : Nat) : Int) - 1) = (k : Int) := by omega
    have e2 : IntKind.i64.wrap ((F : Int) + (k : Int)) = ((F + k : Nat) : Int) := wadd (by omega)
    have hz := sift_sz k F _ 0 (Sort.swp d F (F + k)) (Nat.le_refl _)
    rw [ssz] at hz
    rw [F82_slices_heapSortOrdered_l1000008_eq, e, if_pos (by omega), e2, if_pos (inA (by omega)), if_pos (inA (by omega)), if_pos (inA (by omega)), rdA, rdA]
    dsimp only
    rw [if_pos (inS (by omega)), setA, F107_slices_siftDownOrdered_eq, show (0 : Int) = ((0 : Nat) : Int) from rfl, sift k F _ 0 _ (Nat.le_refl _) (by rw [ssz]; omega) (by omega) (by rw [ssz]; exact hs), Option.bind_some]
    dsimp only
    rw [w64 (by omega) (by omega), show ((0 : Nat) : Int) = (0 : Int) from rfl, heap_p F k _ (by rw [hz]; omega) (by rw [hz]; exact hs)]
    rfl
theorem heap_sz (hi F : Nat) : ∀ (k : Nat) (d : Array Int), (Sort.heapBuild Sort.ltInt hi F k d).size = d.size
  | 0, d => rfl
  | k + 1, d => by rw [Sort.heapBuild, heap_sz hi F k, sift_sz hi F _ k d (Nat.le_refl _)]
theorem heap_sort (a b : Nat) (d : Array Int) (ha : a ≤ b) (hb : b ≤ d.size) (hs : d.size ≤ 1152921504606846976) : F82_slices_heapSortOrdered a b d.toList = some ((Sort.heapSort Sort.ltInt d a b).toList, ()) := by
  have e1 : IntKind.i64.wrap (Int.tdiv (IntKind.i64.wrap (((b - a : Nat) : Int) - 1)) 2) = (((b - a - 1) / 2 + 1 : Nat) : Int) - 1 := by
    rw [w64 (n := ((b - a : Nat) : Int) - 1) (by omega) (by omega)]
    rcases Nat.eq_zero_or_pos (b - a) with c | c
    · rw [c]; rfl
    · rw [show ((b - a : Nat) : Int) - 1 = ((b - a - 1 : Nat) : Int) by omega, show Int.tdiv ((b - a - 1 : Nat) : Int) 2 = (((b - a - 1) / 2 : Nat) : Int) from rfl, w64 (by omega) (by omega)]; omega
  have e2 : IntKind.i64.wrap (((b - a : Nat) : Int) - 1) = ((b - a : Nat) : Int) - 1 := w64 (by omega) (by omega)
  have hz := heap_sz (b - a) a ((b - a - 1) / 2 + 1) d
  rw [F82_slices_heapSortOrdered_eq, wsub ha (by omega)]
  dsimp only
  rw [e1, heap_b (b - a) a _ d (by omega) (by omega) hs, e2, heap_p a (b - a) _ (by rw [hz]; omega) (by rw [hz]; exact hs)]
  rfl
/-! the range reversed -/
theorem rev_l : ∀ (n i j : Nat) (d : Array Int), j - i ≤ n → j < d.size → d.size ≤ 1152921504606846976 →
    F85_slices_reverseRangeOrdered_l1000002 i j d.toList = some ((Sort.reverseLoop i j d).toList, ()) := by
  intro n
  induction n with
  | zero => intro i j d hn hj hs; rw [F85_slices_reverseRangeOrdered_l1000002_eq, if_neg (by omega), Sort.reverseLoop, if_neg (by omega)]
  | succ n ih =>
    intro i j d hn hj hs
    rw [F85_slices_reverseRangeOrdered_l1000002_eq, Sort.reverseLoop]
    by_cases c : i < j
    · rw [if_pos (by omega), if_pos c, if_pos (inA hj), if_pos (inA (by omega)), if_pos (inA (by omega)), if_pos (inS hj), rdA, rdA]
      dsimp only
      obtain ⟨k, rfl⟩ : ∃ k, j = k + 1 := ⟨j - 1, by omega⟩
      rw [setA, ws1 (by omega), wp1 (by omega), ih (i + 1) k _ (by omega) (by rw [ssz]; omega) (by rw [ssz]; exact hs)]
      rfl
    · rw [if_neg (by omega), if_neg c]
theorem rev_eq (a b : Nat) (d : Array Int) (ha : a < b) (hb : b ≤ d.size) (hs : d.size ≤ 1152921504606846976) : F85_slices_reverseRangeOrdered a b d.toList = some ((Sort.reverseRange d a b).toList, ()) := by
  obtain ⟨k, rfl⟩ : ∃ k, b = k + 1 := ⟨b - 1, by omega⟩
  rw [F85_slices_reverseRangeOrdered_eq, wp1 (by omega), rev_l _ a k d (Nat.le_refl _) (by omega) hs]; rfl
/-! partitions -/
theorem up_max (p : Int → Bool) (d : Array Int) (j i : Nat) : Sort.scanUp p d j i ≤ max i (j + 1) := by
  by_cases c : i ≤ j + 1
  · have := (Sort.scanUp_spec p d j _ i rfl).2.1 c
    omega
  · have hc : ¬ ((decide (i ≤ j) && p d[i]!) = true) := by intro q; rw [Bool.and_eq_true, decide_eq_true_eq] at q; omega
    rw [Sort.scanUp, if_neg hc]; omega
theorem pe_up (a : Nat) (d : Array Int) (j : Nat) (ha : a < d.size) (hj : j < d.size) (hs : d.size ≤ 1152921504606846976) : ∀ (n i : Nat), j + 1 - i = n → i ≤ d.size →
    F88_slices_partitionEqualOrdered_l1000003 a i j d.toList = F88_slices_partitionEqualOrdered_l1000005 a (Sort.scanUp (fun x => !Sort.ltInt d[a]! x) d j i : Nat) j d.toList := by
  intro n
  induction n with
  | zero => intro i hn hi; rw [F88_slices_partitionEqualOrdered_l1000003_eq, if_neg (by omega), Sort.scanUp, if_neg (by simp; omega)]
  | succ n ih =>
    intro i hn hi
    rw [F88_slices_partitionEqualOrdered_l1000003_eq, if_pos (by omega), if_pos (inA ha), if_pos (inA (by omega)), rdA, rdA, less_eq, Option.bind_some, Sort.scanUp]
    dsimp only
    refine ite_to (fun h => ?_) (fun h => ?_)
    · rw [if_pos (by rw [h]; simp; omega), ws1 (by omega), ih (i + 1) (by omega) (by omega)]
    · rw [if_neg (by intro q; rw [Bool.and_eq_true] at q; exact h q.2)]
def peEnd (a i : Nat) (d : Array Int) (j : Nat) : Option (Int × List Int × Unit) :=
  if j < i then some ((i : Int), d.toList, ()) else F88_slices_partitionEqualOrdered_l1100003 a ((i + 1 : Nat) : Int) ((j - 1 : Nat) : Int) (Sort.swp d i j).toList
theorem pe_down (a i : Nat) (d : Array Int) (ha : a < d.size) (h1 : 1 ≤ i) (hi : i ≤ d.size) (hs : d.size ≤ 1152921504606846976) : ∀ (j : Nat), j < d.size →
    F88_slices_partitionEqualOrdered_l1000005 a i j d.toList = peEnd a i d (Sort.scanDown (fun x => Sort.ltInt d[a]! x) d i j) := by
  have stop : ∀ j : Nat, j < d.size → (if (j : Int) < (i : Int) then some ((i : Int), d.toList, ()) else
        if (0 : Int) ≤ (j : Int) ∧ (j : Int) < (List.length d.toList : Int) then
          if (0 : Int) ≤ (i : Int) ∧ (i : Int) < (List.length d.toList : Int) then
            if (0 : Int) ≤ (i : Int) ∧ (i : Int) < (List.length d.toList : Int) then
              if (0 : Int) ≤ (j : Int) ∧ (j : Int) < (List.length (List.set d.toList (Int.toNat (i : Int)) (rd (0 : Int) d.toList (j : Int))) : Int) then
                F88_slices_partitionEqualOrdered_l1100003 a (IntKind.i64.wrap ((i : Int) + (1 : Int))) (IntKind.i64.wrap ((j : Int) - (1 : Int))) (List.set (List.set d.toList (Int.toNat (i : Int)) (rd (0 : Int) d.toList (j : Int))) (Int.toNat (j : Int)) (rd (0 : Int) d.toList (i : Int)))
              else none
            else none
          else none
        else none) = peEnd a i d j := by
    intro j hj
    unfold peEnd
    by_cases c : j < i
    · rw [if_pos (by omega), if_pos c]
    · obtain ⟨k, rfl⟩ : ∃ k, j = k + 1 := ⟨j - 1, by omega⟩
      rw [if_neg (by omega), if_neg c, if_pos (inA hj), if_pos (inA (by omega)), if_pos (inA (by omega)), rdA, rdA, if_pos (inS hj), setA, ws1 (by omega), wp1 (by omega)]
      rfl
  intro j
  induction j with
  | zero =>
    intro hj
    rw [F88_slices_partitionEqualOrdered_l1000005_eq, if_neg (by omega)]
    dsimp only
    rw [show (0 : Int) = ((0 : Nat) : Int) from rfl]
    exact stop 0 hj
  | succ j ih =>
    intro hj
    rw [F88_slices_partitionEqualOrdered_l1000005_eq, Sort.scanDown]
    dsimp only
    by_cases c : i ≤ j + 1
    · rw [if_pos (by omega), if_pos (inA ha), if_pos (inA hj), rdA, rdA, less_eq, Option.bind_some]
      dsimp only
      by_cases h : Sort.ltInt d[a]! d[j + 1]! = true
      · have hc : (decide (i ≤ j + 1) && Sort.ltInt d[a]! d[j + 1]!) = true := by rw [h]; simp; omega
        rw [if_pos h, if_pos hc, wp1 (by omega), ih (by omega)]
      · have hc : ¬ (decide (i ≤ j + 1) && Sort.ltInt d[a]! d[j + 1]!) = true := by intro q; rw [Bool.and_eq_true] at q; exact h q.2
        have := stop (j + 1) hj
        simp only [rdA] at this ⊢
        rw [if_neg h, if_neg hc]
        exact this
    · have hc : ¬ (decide (i ≤ j + 1) && Sort.ltInt d[a]! d[j + 1]!) = true := by intro q; rw [Bool.and_eq_true, decide_eq_true_eq] at q; omega
      rw [if_neg (by omega), if_neg hc]
      exact stop (j + 1) hj
theorem pe_loop (a : Nat) : ∀ (n i j : Nat) (d : Array Int), j + 1 - i ≤ n → a < d.size → 1 ≤ i → i ≤ d.size → j < d.size → d.size ≤ 1152921504606846976 →
    F88_slices_partitionEqualOrdered_l1100003 a i j d.toList = some (((Sort.partEqLoop Sort.ltInt a i j d).1 : Int), (Sort.partEqLoop Sort.ltInt a i j d).2.toList, ()) := by
  intro n
  induction n with
  | zero =>
    intro i j d hn ha h1 hi hj hs
    have e1 : Sort.scanUp (fun x => !Sort.ltInt d[a]! x) d j i = i := by rw [Sort.scanUp, if_neg (by simp; omega)]
    have e2 : Sort.scanDown (fun x => Sort.ltInt d[a]! x) d i j = j := by
      cases j with
      | zero => rfl
      | succ j => rw [Sort.scanDown, if_neg (by simp; omega)]
    rw [F88_slices_partitionEqualOrdered_l1100003_eq, pe_up a d j ha hj hs _ i rfl hi, e1, pe_down a i d ha h1 hi hs j hj, e2, Sort.partEqLoop_eq, e1, e2, if_pos (by omega), peEnd, if_pos (by omega)]
  | succ n ih =>
    intro i j d hn ha h1 hi hj hs
    have g1 := Sort.scanUp_ge (fun x => !Sort.ltInt d[a]! x) d j i
    have g1' := up_max (fun x => !Sort.ltInt d[a]! x) d j i
    have g2 := Sort.scanDown_le (fun x => Sort.ltInt d[a]! x) d (Sort.scanUp (fun x => !Sort.ltInt d[a]! x) d j i) j
    rw [F88_slices_partitionEqualOrdered_l1100003_eq, pe_up a d j ha hj hs _ i rfl hi, pe_down a _ d ha (by omega) (by omega) hs j hj, Sort.partEqLoop_eq, peEnd]
    generalize Sort.scanUp (fun x => !Sort.ltInt d[a]! x) d j i = i2 at *
    generalize Sort.scanDown (fun x => Sort.ltInt d[a]! x) d i2 j = j2 at *
    by_cases c : j2 < i2
    · rw [if_pos c, if_pos c]
    · rw [if_neg c, if_neg (by omega), ih (i2 + 1) (j2 - 1) _ (by omega) (by rw [ssz]; exact ha) (by omega) (by rw [ssz]; omega) (by rw [ssz]; omega) (by rw [ssz]; exact hs)]
theorem pe_eq (a b p : Nat) (d : Array Int) (h1 : a ≤ p) (h2 : p < b) (hb : b ≤ d.size) (hs : d.size ≤ 1152921504606846976) : F88_slices_partitionEqualOrdered a b p d.toList = some (((Sort.partitionEqual Sort.ltInt d a b p).1 : Int), (Sort.partitionEqual Sort.ltInt d a b p).2.toList, ()) := by
  obtain ⟨k, rfl⟩ : ∃ k, b = k + 1 := ⟨b - 1, by omega⟩
  rw [F88_slices_partitionEqualOrdered_eq, if_pos (inA (by omega)), if_pos (inA (by omega)), if_pos (inA (by omega)), rdA, rdA, if_pos (inS (by omega))]
  dsimp only
  rw [setA, ws1 (by omega), wp1 (by omega), pe_loop a _ (a + 1) k _ (Nat.le_refl _) (by rw [ssz]; omega) (by omega) (by rw [ssz]; omega) (by rw [ssz]; omega) (by rw [ssz]; exact hs)]
  rfl
/-! partition -/
theorem pa_up (a : Nat) (d : Array Int) (j : Nat) (ha : a < d.size) (hj : j < d.size) (hs : d.size ≤ 1152921504606846976) : ∀ (n i : Nat), j + 1 - i = n → i ≤ d.size →
    F89_slices_partitionOrdered_l1000003 a i j d.toList = F89_slices_partitionOrdered_l1000005 a (Sort.scanUp (fun x => Sort.ltInt x d[a]!) d j i : Nat) j d.toList ∧
    F89_slices_partitionOrdered_l1000013 a i j d.toList = F89_slices_partitionOrdered_l1000015 a (Sort.scanUp (fun x => Sort.ltInt x d[a]!) d j i : Nat) j d.toList := by
  intro n
  induction n with
  | zero =>
    intro i hn hi
    have hc : ¬ (decide (i ≤ j) && Sort.ltInt d[i]! d[a]!) = true := by intro q; rw [Bool.and_eq_true, decide_eq_true_eq] at q; omega
    refine ⟨?_, ?_⟩
    · rw [F89_slices_partitionOrdered_l1000003_eq, if_neg (by omega), Sort.scanUp, if_neg hc]
    · rw [F89_slices_partitionOrdered_l1000013_eq, if_neg (by omega), Sort.scanUp, if_neg hc]
  | succ n ih =>
    intro i hn hi
    have e := ih (i + 1) (by omega) (by omega)
    by_cases h : Sort.ltInt d[i]! d[a]! = true
    · have hc : (decide (i ≤ j) && Sort.ltInt d[i]! d[a]!) = true := by rw [h]; simp; omega
      refine ⟨?_, ?_⟩
      · rw [F89_slices_partitionOrdered_l1000003_eq, if_pos (by omega), if_pos (inA (by omega)), if_pos (inA ha), rdA, rdA, less_eq, Option.bind_some, Sort.scanUp, if_pos hc]
        dsimp only
        rw [if_pos h, ws1 (by omega)]
        exact e.1
      · rw [F89_slices_partitionOrdered_l1000013_eq, if_pos (by omega), if_pos (inA (by omega)), if_pos (inA ha), rdA, rdA, less_eq, Option.bind_some, Sort.scanUp, if_pos hc]
        dsimp only
        rw [if_pos h, ws1 (by omega)]
        exact e.2
    · have hc : ¬ (decide (i ≤ j) && Sort.ltInt d[i]! d[a]!) = true := by intro q; rw [Bool.and_eq_true] at q; exact h q.2
      refine ⟨?_, ?_⟩
      · rw [F89_slices_partitionOrdered_l1000003_eq, if_pos (by omega), if_pos (inA (by omega)), if_pos (inA ha), rdA, rdA, less_eq, Option.bind_some, Sort.scanUp, if_neg hc]
        dsimp only
        rw [if_neg h]
      · rw [F89_slices_partitionOrdered_l1000013_eq, if_pos (by omega), if_pos (inA (by omega)), if_pos (inA ha), rdA, rdA, less_eq, Option.bind_some, Sort.scanUp, if_neg hc]
        dsimp only
        rw [if_neg h]
def paEnd (f : Bool) (a i : Nat) (d : Array Int) (j : Nat) : Option (Int × Bool × List Int × Unit) :=
  if j < i then some ((j : Int), f, (Sort.swp d j a).toList, ()) else F89_slices_partitionOrdered_l1100013 a ((i + 1 : Nat) : Int) ((j - 1 : Nat) : Int) (Sort.swp d i j).toList
theorem pa_stop (f : Bool) (a i : Nat) (d : Array Int) (ha : a < d.size) (h1 : 1 ≤ i) (hi : i ≤ d.size) (hs : d.size ≤ 1152921504606846976) : ∀ j : Nat, j < d.size → (if (j : Int) < (i : Int) then
        if (0 : Int) ≤ (a : Int) ∧ (a : Int) < (List.length d.toList : Int) then
          if (0 : Int) ≤ (j : Int) ∧ (j : Int) < (List.length d.toList : Int) then
            if (0 : Int) ≤ (j : Int) ∧ (j : Int) < (List.length d.toList : Int) then
              if (0 : Int) ≤ (a : Int) ∧ (a : Int) < (List.length (List.set d.toList (Int.toNat (j : Int)) d[a]!) : Int) then
                some ((j : Int), f, List.set (List.set d.toList (Int.toNat (j : Int)) d[a]!) (Int.toNat (a : Int)) d[j]!, ())
              else none
            else none
          else none
        else none
      else
        if (0 : Int) ≤ (j : Int) ∧ (j : Int) < (List.length d.toList : Int) then
          if (0 : Int) ≤ (i : Int) ∧ (i : Int) < (List.length d.toList : Int) then
            if (0 : Int) ≤ (i : Int) ∧ (i : Int) < (List.length d.toList : Int) then
              if (0 : Int) ≤ (j : Int) ∧ (j : Int) < (List.length (List.set d.toList (Int.toNat (i : Int)) d[j]!) : Int) then
                F89_slices_partitionOrdered_l1100013 a (IntKind.i64.wrap ((i : Int) + (1 : Int))) (IntKind.i64.wrap ((j : Int) - (1 : Int))) (List.set (List.set d.toList (Int.toNat (i : Int)) d[j]!) (Int.toNat (j : Int)) d[i]!)
              else none
            else none
          else none
        else none) = paEnd f a i d j := by
  intro j hj
  unfold paEnd
  by_cases c : j < i
  · rw [if_pos (by omega), if_pos c, if_pos (inA ha), if_pos (inA hj), if_pos (inA hj), if_pos (inS ha), setA]
  · obtain ⟨k, rfl⟩ : ∃ k, j = k + 1 := ⟨j - 1, by omega⟩
    rw [if_neg (by omega), if_neg c, if_pos (inA hj), if_pos (inA (by omega)), if_pos (inA (by omega)), if_pos (inS hj), setA, ws1 (by omega), wp1 (by omega)]
    rfl
theorem pa_down (a i : Nat) (d : Array Int) (ha : a < d.size) (h1 : 1 ≤ i) (hi : i ≤ d.size) (hs : d.size ≤ 1152921504606846976) : ∀ (j : Nat), j < d.size →
    F89_slices_partitionOrdered_l1000005 a i j d.toList = paEnd true a i d (Sort.scanDown (fun x => !Sort.ltInt x d[a]!) d i j) ∧
    F89_slices_partitionOrdered_l1000015 a i j d.toList = paEnd false a i d (Sort.scanDown (fun x => !Sort.ltInt x d[a]!) d i j) := by
  intro j
  induction j with
  | zero =>
    intro hj
    have s1 := pa_stop true a i d ha h1 hi hs 0 hj
    have s2 := pa_stop false a i d ha h1 hi hs 0 hj
    refine ⟨?_, ?_⟩
    · rw [F89_slices_partitionOrdered_l1000005_eq, if_neg (by omega)]
      dsimp only
      simp only [rdA]
      exact s1
    · rw [F89_slices_partitionOrdered_l1000015_eq, if_neg (by omega)]
      dsimp only
      simp only [rdA]
      exact s2
  | succ j ih =>
    intro hj
    have s1 := pa_stop true a i d ha h1 hi hs (j + 1) hj
    have s2 := pa_stop false a i d ha h1 hi hs (j + 1) hj
    have e := ih (by omega)
    by_cases c : i ≤ j + 1
    · by_cases h : Sort.ltInt d[j + 1]! d[a]! = true
      · have hc : ¬ (decide (i ≤ j + 1) && !Sort.ltInt d[j + 1]! d[a]!) = true := by intro q; rw [h] at q; simp at q
        have h' : ¬ (!Sort.ltInt d[j + 1]! d[a]!) = true := by rw [h]; simp
        refine ⟨?_, ?_⟩
        · rw [F89_slices_partitionOrdered_l1000005_eq, Sort.scanDown, if_neg hc, if_pos (by omega), if_pos (inA hj), if_pos (inA ha)]
          dsimp only
          simp only [rdA, less_eq, Option.bind_some]
          rw [if_neg h']
          exact s1
        · rw [F89_slices_partitionOrdered_l1000015_eq, Sort.scanDown, if_neg hc, if_pos (by omega), if_pos (inA hj), if_pos (inA ha)]
          dsimp only
          simp only [rdA, less_eq, Option.bind_some]
          rw [if_neg h']
          exact s2
      · have h' : (!Sort.ltInt d[j + 1]! d[a]!) = true := by simpa using h
        have hc : (decide (i ≤ j + 1) && !Sort.ltInt d[j + 1]! d[a]!) = true := by rw [h']; simp; omega
        refine ⟨?_, ?_⟩
        · rw [F89_slices_partitionOrdered_l1000005_eq, Sort.scanDown, if_pos hc, if_pos (by omega), if_pos (inA hj), if_pos (inA ha)]
          dsimp only
          simp only [rdA, less_eq, Option.bind_some]
          rw [if_pos h', wp1 (by omega)]
          exact e.1
        · rw [F89_slices_partitionOrdered_l1000015_eq, Sort.scanDown, if_pos hc, if_pos (by omega), if_pos (inA hj), if_pos (inA ha)]
          dsimp only
          simp only [rdA, less_eq, Option.bind_some]
          rw [if_pos h', wp1 (by omega)]
          exact e.2
    · have hc : ¬ (decide (i ≤ j + 1) && !Sort.ltInt d[j + 1]! d[a]!) = true := by intro q; rw [Bool.and_eq_true, decide_eq_true_eq] at q; omega
      refine ⟨?_, ?_⟩
      · rw [F89_slices_partitionOrdered_l1000005_eq, Sort.scanDown, if_neg hc, if_neg (by omega)]
        dsimp only
        simp only [rdA]
        exact s1
      · rw [F89_slices_partitionOrdered_l1000015_eq, Sort.scanDown, if_neg hc, if_neg (by omega)]
        dsimp only
        simp only [rdA]
        exact s2
theorem pa_loop (a : Nat) : ∀ (n i j : Nat) (d : Array Int), j + 1 - i ≤ n → a < d.size → 1 ≤ i → i ≤ d.size → j < d.size → d.size ≤ 1152921504606846976 →
    F89_slices_partitionOrdered_l1100013 a i j d.toList = some (((Sort.partLoop Sort.ltInt a i j d).1 : Int), false, (Sort.swp (Sort.partLoop Sort.ltInt a i j d).2 (Sort.partLoop Sort.ltInt a i j d).1 a).toList, ()) := by
  intro n
  induction n with
  | zero =>
    intro i j d hn ha h1 hi hj hs
    have e1 : Sort.scanUp (fun x => Sort.ltInt x d[a]!) d j i = i := by rw [Sort.scanUp, if_neg (by simp; omega)]
    have e2 : Sort.scanDown (fun x => !Sort.ltInt x d[a]!) d i j = j := by
      cases j with
      | zero => rfl
      | succ j => rw [Sort.scanDown, if_neg (by simp; omega)]
    rw [F89_slices_partitionOrdered_l1100013_eq, (pa_up a d j ha hj hs _ i rfl hi).2, e1, (pa_down a i d ha h1 hi hs j hj).2, e2, Sort.partLoop_eq, e1, e2, if_pos (by omega), paEnd, if_pos (by omega)]
  | succ n ih =>
    intro i j d hn ha h1 hi hj hs
    have g1 := Sort.scanUp_ge (fun x => Sort.ltInt x d[a]!) d j i
    have g1' := up_max (fun x => Sort.ltInt x d[a]!) d j i
    have g2 := Sort.scanDown_le (fun x => !Sort.ltInt x d[a]!) d (Sort.scanUp (fun x => Sort.ltInt x d[a]!) d j i) j
    rw [F89_slices_partitionOrdered_l1100013_eq, (pa_up a d j ha hj hs _ i rfl hi).2, (pa_down a _ d ha (by omega) (by omega) hs j hj).2, Sort.partLoop_eq, paEnd]
    generalize Sort.scanUp (fun x => Sort.ltInt x d[a]!) d j i = i2 at *
    generalize Sort.scanDown (fun x => !Sort.ltInt x d[a]!) d i2 j = j2 at *
    by_cases c : j2 < i2
    · rw [if_pos c, if_pos c]
    · rw [if_neg c, if_neg (by omega), ih (i2 + 1) (j2 - 1) _ (by omega) (by rw [ssz]; exact ha) (by omega) (by rw [ssz]; omega) (by rw [ssz]; omega) (by rw [ssz]; exact hs)]
theorem pa_eq (a b p : Nat) (d : Array Int) (h1 : a ≤ p) (h2 : p < b) (hb : b ≤ d.size) (hs : d.size ≤ 1152921504606846976) : F89_slices_partitionOrdered a b p d.toList = some (((Sort.partition Sort.ltInt d a b p).1 : Int), (Sort.partition Sort.ltInt d a b p).2.1, (Sort.partition Sort.ltInt d a b p).2.2.toList, ()) := by
  obtain ⟨k, rfl⟩ : ∃ k, b = k + 1 := ⟨b - 1, by omega⟩
  rw [F89_slices_partitionOrdered_eq, if_pos (inA (by omega)), if_pos (inA (by omega)), if_pos (inA (by omega)), rdA, rdA, if_pos (inS (by omega))]
  dsimp only
  rw [setA, ws1 (by omega), wp1 (by omega)]
  generalize hd : Sort.swp d a p = d1
  have hz : d1.size = d.size := by rw [← hd, ssz]
  have g1 := Sort.scanUp_ge (fun x => Sort.ltInt x d1[a]!) d1 k (a + 1)
  have g1' := up_max (fun x => Sort.ltInt x d1[a]!) d1 k (a + 1)
  have g2 := Sort.scanDown_le (fun x => !Sort.ltInt x d1[a]!) d1 (Sort.scanUp (fun x => Sort.ltInt x d1[a]!) d1 k (a + 1)) k
  rw [(pa_up a d1 k (by omega) (by omega) (by omega) _ (a + 1) rfl (by omega)).1, (pa_down a _ d1 (by omega) (by omega) (by omega) (by omega) k (by omega)).1, paEnd]
  unfold Sort.partition
  simp only [Nat.add_sub_cancel, hd]
  generalize Sort.scanUp (fun x => Sort.ltInt x d1[a]!) d1 k (a + 1) = i2 at *
  generalize Sort.scanDown (fun x => !Sort.ltInt x d1[a]!) d1 i2 k = j2 at *
  by_cases c : j2 < i2
  · rw [if_pos c, if_pos c]
  · rw [if_neg c, if_neg (by omega), pa_loop a _ (i2 + 1) (j2 - 1) _ (Nat.le_refl _) (by rw [ssz]; omega) (by omega) (by rw [ssz]; omega) (by rw [ssz]; omega) (by rw [ssz]; omega)]
/-! partial insertion -/
theorem sd_sz : ∀ (j : Nat) (d : Array Int), (Sort.shiftDown Sort.ltInt j d).size = d.size
  | 0, d => rfl
  | j + 1, d => by rw [Sort.shiftDown]; split; rfl; rw [sd_sz j, ssz]
theorem su_sz (b : Nat) : ∀ (n j : Nat) (d : Array Int), b - j = n → (Sort.shiftUp Sort.ltInt b j d).size = d.size := by
  intro n
  induction n with
  | zero => intro j d hn; rw [Sort.shiftUp, if_neg (by omega)]
  | succ n ih =>
    intro j d hn
    rw [Sort.shiftUp]
    split
    · split
      · rfl
      · rw [ih (j + 1) _ (by omega), ssz]
    · rfl
section
variable (a b i s : Nat)
/-- Behind the shift down. -/
def piB (d : Array Int) : Option (Bool × List Int × Unit) :=
  if 2 ≤ b - i then F86_slices_partialInsertionSortOrdered_l1000020 a b i s ((i + 1 : Nat) : Int) d.toList else F86_slices_partialInsertionSortOrdered_l1000003 a b i ((s + 1 : Nat) : Int) d.toList
theorem pi_down (hi : i ≤ b) (hib : b ≤ 1152921504606846976) (hs5 : s ≤ 5) : ∀ (j : Nat) (d : Array Int), j < d.size → d.size ≤ 1152921504606846976 →
    F86_slices_partialInsertionSortOrdered_l1000014 a b i s j d.toList = piB a b i s (Sort.shiftDown Sort.ltInt j d) := by
  have e1 : IntKind.i64.wrap ((b : Int) - (i : Int)) = ((b - i : Nat) : Int) := wsub hi (by omega)
  have e2 : IntKind.i64.wrap ((i : Int) + 1) = ((i + 1 : Nat) : Int) := ws1 (by omega)
  have e3 : IntKind.i64.wrap ((s : Int) + 1) = ((s + 1 : Nat) : Int) := ws1 (by omega)
  have stop : ∀ d : Array Int, (if (2 : Int) ≤ ((b - i : Nat) : Int) then F86_slices_partialInsertionSortOrdered_l1000020 a b i s ((i + 1 : Nat) : Int) d.toList else F86_slices_partialInsertionSortOrdered_l1000003 a b i ((s + 1 : Nat) : Int) d.toList) = piB a b i s d := by
    intro d
    unfold piB
    by_cases c : 2 ≤ b - i
    · rw [if_pos (by omega), if_pos c]
    · rw [if_neg (by omega), if_neg c]
  intro j
  induction j with
  | zero =>
    intro d hj hs
    rw [F86_slices_partialInsertionSortOrdered_l1000014_eq, if_neg (by omega), e1, e2, e3]
    exact stop d
  | succ j ih =>
    intro d hj hs
    rw [F86_slices_partialInsertionSortOrdered_l1000014_eq, if_pos (by omega), if_pos (inA hj), wp1 (by omega), if_pos (inA (show j < d.size by omega)), rdA, rdA, less_eq, Option.bind_some, e1, e2, e3, Sort.shiftDown]
    dsimp only
    by_cases h : (!Sort.ltInt d[j + 1]! d[j]!) = true
    · rw [if_pos h, if_pos h]
      exact stop d
    · rw [if_neg h, if_neg h, if_pos (inA (show j < d.size by omega)), if_pos (inA hj), if_pos (inA hj), if_pos (inS (show j < d.size by omega)), setA, ih _ (by rw [ssz]; omega) (by rw [ssz]; exact hs)]
theorem pi_up (hi : i ≤ b) (hs5 : s ≤ 5) : ∀ (n j : Nat) (d : Array Int), b - j = n → 1 ≤ j → b ≤ d.size → d.size ≤ 1152921504606846976 →
    F86_slices_partialInsertionSortOrdered_l1000020 a b i s j d.toList = F86_slices_partialInsertionSortOrdered_l1000003 a b i ((s + 1 : Nat) : Int) (Sort.shiftUp Sort.ltInt b j d).toList := by
  have e3 : IntKind.i64.wrap ((s : Int) + 1) = ((s + 1 : Nat) : Int) := ws1 (by omega)
  intro n
  induction n with
  | zero =>
    intro j d hn h1 hb hs
    rw [F86_slices_partialInsertionSortOrdered_l1000020_eq, if_neg (by omega), e3, Sort.shiftUp, if_neg (by omega)]
  | succ n ih =>
    intro j d hn h1 hb hs
    obtain ⟨k, rfl⟩ : ∃ k, j = k + 1 := ⟨j - 1, by omega⟩
    rw [F86_slices_partialInsertionSortOrdered_l1000020_eq, if_pos (by omega), if_pos (inA (by omega)), wp1 (by omega), if_pos (inA (show k < d.size by omega)), rdA, rdA, less_eq, Option.bind_some, e3, Sort.shiftUp, if_pos (show k + 1 < b by omega)]
    dsimp only
    simp only [Nat.add_sub_cancel]
    by_cases h : (!Sort.ltInt d[k + 1]! d[k]!) = true
    · rw [if_pos h, if_pos h]
    · rw [if_neg h, if_neg h, if_pos (inA (show k < d.size by omega)), if_pos (inA (show k + 1 < d.size by omega)), if_pos (inA (show k + 1 < d.size by omega)), if_pos (inS (show k < d.size by omega)), setA, ws1 (by omega), ih (k + 1 + 1) _ (by omega) (by omega) (by rw [ssz]; exact hb) (by rw [ssz]; exact hs)]
/-- Behind the scan. -/
def piE (d : Array Int) : Option (Bool × List Int × Unit) :=
  if i = b then some (true, d.toList, ()) else if b - a < 50 then some (false, d.toList, ()) else
    F86_slices_partialInsertionSortOrdered_l1000003 a b i ((s + 1 : Nat) : Int) (Sort.fixUp Sort.ltInt b i (Sort.fixDown Sort.ltInt a i (Sort.swp d i (i - 1)))).toList
end
theorem pi_stop (a b s : Nat) (hs5 : s ≤ 5) (i : Nat) (d : Array Int) (h1 : 1 ≤ i) (hai : a ≤ i) (hib : i ≤ b) (hb : b ≤ d.size) (hs : d.size ≤ 1152921504606846976) :
    (if (i : Int) = (b : Int) then some (true, d.toList, ()) else
      if ((b - a : Nat) : Int) < (50 : Int) then some (false, d.toList, ()) else
        if (0 : Int) ≤ ((i - 1 : Nat) : Int) ∧ ((i - 1 : Nat) : Int) < (List.length d.toList : Int) then
          if (0 : Int) ≤ (i : Int) ∧ (i : Int) < (List.length d.toList : Int) then
            if (0 : Int) ≤ (i : Int) ∧ (i : Int) < (List.length d.toList : Int) then
              if (0 : Int) ≤ ((i - 1 : Nat) : Int) ∧ ((i - 1 : Nat) : Int) < (List.length (List.set d.toList (Int.toNat (i : Int)) d[i - 1]!) : Int) then
                if (2 : Int) ≤ ((i - a : Nat) : Int) then
                  F86_slices_partialInsertionSortOrdered_l1000014 a b i s ((i - 1 : Nat) : Int) (List.set (List.set d.toList (Int.toNat (i : Int)) d[i - 1]!) (Int.toNat ((i - 1 : Nat) : Int)) d[i]!)
                else
                  if (2 : Int) ≤ ((b - i : Nat) : Int) then
                    F86_slices_partialInsertionSortOrdered_l1000020 a b i s ((i + 1 : Nat) : Int) (List.set (List.set d.toList (Int.toNat (i : Int)) d[i - 1]!) (Int.toNat ((i - 1 : Nat) : Int)) d[i]!)
                  else
                    F86_slices_partialInsertionSortOrdered_l1000003 a b i ((s + 1 : Nat) : Int) (List.set (List.set d.toList (Int.toNat (i : Int)) d[i - 1]!) (Int.toNat ((i - 1 : Nat) : Int)) d[i]!)
              else none
            else none
          else none
        else none) = piE a b i s d := by
  unfold piE
  by_cases c1 : i = b
  · rw [if_pos (by omega), if_pos c1]
  · rw [if_neg (by omega), if_neg c1]
    by_cases c2 : b - a < 50
    · rw [if_pos (by omega), if_pos c2]
    · rw [if_neg (by omega), if_neg c2, if_pos (inA (by omega)), if_pos (inA (by omega)), if_pos (inA (by omega)), if_pos (inS (by omega)), setA]
      have hz := ssz d i (i - 1)
      unfold Sort.fixUp Sort.fixDown
      by_cases c3 : 2 ≤ i - a
      · have hz2 := sd_sz (i - 1) (Sort.swp d i (i - 1))
        rw [if_pos (by omega), if_pos c3, pi_down a b i s (by omega) (by omega) hs5 (i - 1) _ (by omega) (by omega), piB]
        by_cases c4 : 2 ≤ b - i
        · rw [if_pos c4, if_pos c4, pi_up a b i s (by omega) hs5 _ (i + 1) _ rfl (by omega) (by omega) (by omega)]
        · rw [if_neg c4, if_neg c4]
      · rw [if_neg (by omega), if_neg c3]
        by_cases c4 : 2 ≤ b - i
        · rw [if_pos (by omega), if_pos c4, pi_up a b i s (by omega) hs5 _ (i + 1) _ rfl (by omega) (by omega) (by omega)]
        · rw [if_neg (by omega), if_neg c4]
theorem pi_scan (a b s : Nat) (hs5 : s ≤ 5) (d : Array Int) (hb : b ≤ d.size) (hs : d.size ≤ 1152921504606846976) : ∀ (n i : Nat), b - i = n → 1 ≤ i → a ≤ i → i ≤ b →
    F86_slices_partialInsertionSortOrdered_l1000005 a b i s d.toList = piE a b (Sort.scanSorted Sort.ltInt d b i) s d := by
  intro n
  induction n with
  | zero =>
    intro i hn h1 hai hib
    have hc : ¬ (decide (i < b) && !Sort.ltInt d[i]! d[i - 1]!) = true := by intro q; rw [Bool.and_eq_true, decide_eq_true_eq] at q; omega
    rw [Sort.scanSorted, if_neg hc, piE, if_pos (by omega), F86_slices_partialInsertionSortOrdered_l1000005_eq, if_neg (by omega), if_pos (by omega)]
  | succ n ih =>
    intro i hn h1 hai hib
    have st := pi_stop a b s hs5 i d h1 hai hib hb hs
    have e1 : IntKind.i64.wrap ((i : Int) - 1) = ((i - 1 : Nat) : Int) := by rw [w64 (by omega) (by omega)]; omega
    have e2 : IntKind.i64.wrap ((b : Int) - (a : Int)) = ((b - a : Nat) : Int) := wsub (by omega) (by omega)
    have e3 : IntKind.i64.wrap ((i : Int) - (a : Int)) = ((i - a : Nat) : Int) := wsub (by omega) (by omega)
    have e4 : IntKind.i64.wrap ((b : Int) - (i : Int)) = ((b - i : Nat) : Int) := wsub (by omega) (by omega)
    have e5 : IntKind.i64.wrap ((i : Int) + 1) = ((i + 1 : Nat) : Int) := ws1 (by omega)
    have e6 : IntKind.i64.wrap ((s : Int) + 1) = ((s + 1 : Nat) : Int) := ws1 (by omega)
    rw [F86_slices_partialInsertionSortOrdered_l1000005_eq, Sort.scanSorted]
    dsimp only
    simp only [e1, e2, e3, e4, e5, e6, rdA, less_eq, Option.bind_some]
    rw [if_pos (show (i : Int) < (b : Int) by omega), if_pos (inA (show i < d.size by omega)), if_pos (inA (show i - 1 < d.size by omega))]
    by_cases h : (!Sort.ltInt d[i]! d[i - 1]!) = true
    · have hc : (decide (i < b) && !Sort.ltInt d[i]! d[i - 1]!) = true := by rw [h]; simp; omega
      rw [if_pos h, if_pos hc]
      exact ih (i + 1) (by omega) (by omega) (by omega) (by omega)
    · have hc : ¬ (decide (i < b) && !Sort.ltInt d[i]! d[i - 1]!) = true := by intro q; rw [Bool.and_eq_true] at q; exact h q.2
      rw [if_neg h, if_neg hc, if_pos (inA (show i - 1 < d.size by omega))] at *
      exact st
theorem fix_sz (a b i : Nat) (d : Array Int) : (Sort.fixUp Sort.ltInt b i (Sort.fixDown Sort.ltInt a i d)).size = d.size := by
  unfold Sort.fixUp Sort.fixDown
  split <;> split <;> simp only [su_sz b _ _ _ rfl, sd_sz]
theorem scan_le (b : Nat) (d : Array Int) : ∀ (n i : Nat), b - i = n → i ≤ b → i ≤ Sort.scanSorted Sort.ltInt d b i ∧ Sort.scanSorted Sort.ltInt d b i ≤ b := by
  intro n
  induction n with
  | zero =>
    intro i hn hi
    have hc : ¬ (decide (i < b) && !Sort.ltInt d[i]! d[i - 1]!) = true := by intro q; rw [Bool.and_eq_true, decide_eq_true_eq] at q; omega
    rw [Sort.scanSorted, if_neg hc]; omega
  | succ n ih =>
    intro i hn hi
    rw [Sort.scanSorted]
    split
    · have := ih (i + 1) (by omega) (by omega); omega
    · omega
theorem pi_l (a b : Nat) : ∀ (k s i : Nat) (d : Array Int), s + k = 5 → 1 ≤ i → a ≤ i → i ≤ b → b ≤ d.size → d.size ≤ 1152921504606846976 →
    F86_slices_partialInsertionSortOrdered_l1000003 a b i s d.toList = some ((Sort.partialIns Sort.ltInt a b k i d).2, (Sort.partialIns Sort.ltInt a b k i d).1.toList, ()) := by
  intro k
  induction k with
  | zero => intro s i d hk h1 hai hib hb hs; rw [F86_slices_partialInsertionSortOrdered_l1000003_eq, if_neg (by omega)]; rfl
  | succ k ih =>
    intro s i d hk h1 hai hib hb hs
    obtain ⟨g1, g2⟩ := scan_le b d _ i rfl hib
    rw [F86_slices_partialInsertionSortOrdered_l1000003_eq, if_pos (by omega), pi_scan a b s (by omega) d hb hs _ i rfl h1 hai hib, Sort.partialIns_succ, piE]
    generalize Sort.scanSorted Sort.ltInt d b i = i2 at *
    by_cases c1 : i2 = b
    · rw [if_pos c1, if_pos c1]
    · rw [if_neg c1, if_neg c1]
      by_cases c2 : b - a < 50
      · rw [if_pos c2, if_pos c2]
      · have hz := fix_sz a b i2 (Sort.swp d i2 (i2 - 1))
        rw [ssz] at hz
        rw [if_neg c2, if_neg c2, ih (s + 1) i2 _ (by omega) (by omega) (by omega) (by omega) (by omega) (by omega)]
theorem pi_eq (a b : Nat) (d : Array Int) (h : a < b) (hb : b ≤ d.size) (hs : d.size ≤ 1152921504606846976) :
    F86_slices_partialInsertionSortOrdered a b d.toList = some ((Sort.partialInsertionSort Sort.ltInt d a b).2, (Sort.partialInsertionSort Sort.ltInt d a b).1.toList, ()) := by
  rw [F86_slices_partialInsertionSortOrdered_eq, ws1 (by omega), show (0 : Int) = ((0 : Nat) : Int) from rfl, pi_l a b 5 0 (a + 1) d rfl (by omega) (by omega) (by omega) hb hs]; rfl
/-! the pivot -/
theorem ord_eq (a b s : Nat) (d : Array Int) (ha : a < d.size) (hb : b < d.size) (hs : s ≤ 1000) : F122_slices_order2Ordered a b d.toList s = some (((Sort.order2 Sort.ltInt d a b s).1 : Int), ((Sort.order2 Sort.ltInt d a b s).2.1 : Int), d.toList, ((Sort.order2 Sort.ltInt d a b s).2.2 : Int), ()) := by
  rw [F122_slices_order2Ordered_eq, if_pos (inA hb), if_pos (inA ha), rdA, rdA, less_eq, Option.bind_some, ws1 (by omega), Sort.order2]
  dsimp only
  split <;> rfl
theorem ord_in (a b s n : Nat) (d : Array Int) (ha : a < n) (hb : b < n) : (Sort.order2 Sort.ltInt d a b s).1 < n ∧ (Sort.order2 Sort.ltInt d a b s).2.1 < n := by
  rcases Sort.order2_mem Sort.ltInt d a b s with ⟨h1, h2⟩ | ⟨h1, h2⟩ <;> rw [h1, h2] <;> omega
theorem med_eq (a b c s : Nat) (d : Array Int) (ha : a < d.size) (hb : b < d.size) (hc : c < d.size) (hs : s ≤ 900) : F111_slices_medianOrdered a b c d.toList s = some (((Sort.median Sort.ltInt d a b c s).1 : Int), d.toList, ((Sort.median Sort.ltInt d a b c s).2 : Int), ()) := by
  have c1 := Sort.order2_count Sort.ltInt d a b s
  obtain ⟨i1, i2⟩ := ord_in a b s d.size d ha hb
  rw [F111_slices_medianOrdered_eq, ord_eq a b s d ha hb (by omega), Option.bind_some]
  dsimp only
  have c2 := Sort.order2_count Sort.ltInt d (Sort.order2 Sort.ltInt d a b s).2.1 c (Sort.order2 Sort.ltInt d a b s).2.2
  obtain ⟨i3, i4⟩ := ord_in (Sort.order2 Sort.ltInt d a b s).2.1 c (Sort.order2 Sort.ltInt d a b s).2.2 d.size d i2 hc
  rw [ord_eq _ c _ d i2 hc (by omega), Option.bind_some]
  dsimp only
  rw [ord_eq _ _ _ d i1 i3 (by omega), Option.bind_some]
  rfl
theorem adj_eq (a s : Nat) (d : Array Int) (h1 : 1 ≤ a) (ha : a + 1 < d.size) (hz : d.size ≤ 1152921504606846976) (hs : s ≤ 900) : F110_slices_medianAdjacentOrdered a d.toList s = some (((Sort.medianAdjacent Sort.ltInt d a s).1 : Int), d.toList, ((Sort.medianAdjacent Sort.ltInt d a s).2 : Int), ()) := by
  have e : IntKind.i64.wrap ((a : Int) - 1) = ((a - 1 : Nat) : Int) := by rw [w64 (by omega) (by omega)]; omega
  rw [F110_slices_medianAdjacentOrdered_eq, e, ws1 (by omega), med_eq _ _ _ _ d (by omega) (by omega) (by omega) hs, Option.bind_some]; rfl
def hintI : Sort.Hint → Int
  | .unknown => 0 | .increasing => 1 | .decreasing => 2
theorem adj_in (a s : Nat) (d : Array Int) (ha : a + 1 < d.size) : (Sort.medianAdjacent Sort.ltInt d a s).1 < d.size := by
  rcases Sort.medianAdjacent_mem Sort.ltInt d a s with h | h | h <;> rw [h] <;> omega
theorem choose_eq (a b : Nat) (d : Array Int) (h : a < b) (hb : b ≤ d.size) (hs : d.size ≤ 1152921504606846976) :
    F84_slices_choosePivotOrdered a b d.toList = some (((Sort.choosePivot Sort.ltInt d a b).1 : Int), hintI (Sort.choosePivot Sort.ltInt d a b).2, d.toList, ()) := by
  have e0 : IntKind.i64.wrap ((b : Int) - (a : Int)) = ((b - a : Nat) : Int) := wsub (by omega) (by omega)
  have e1 : IntKind.i64.wrap (Int.tdiv ((b - a : Nat) : Int) 4) = (((b - a) / 4 : Nat) : Int) := by rw [show Int.tdiv ((b - a : Nat) : Int) 4 = (((b - a) / 4 : Nat) : Int) from rfl, w64 (by omega) (by omega)]
  have m1 : IntKind.i64.wrap ((((b - a) / 4 : Nat) : Int) * 1) = (((b - a) / 4 * 1 : Nat) : Int) := by rw [w64 (by omega) (by omega)]; omega
  have m2 : IntKind.i64.wrap ((((b - a) / 4 : Nat) : Int) * 2) = (((b - a) / 4 * 2 : Nat) : Int) := by rw [w64 (by omega) (by omega)]; omega
  have m3 : IntKind.i64.wrap ((((b - a) / 4 : Nat) : Int) * 3) = (((b - a) / 4 * 3 : Nat) : Int) := by rw [w64 (by omega) (by omega)]; omega
  have p1 : IntKind.i64.wrap ((a : Int) + (((b - a) / 4 * 1 : Nat) : Int)) = ((a + (b - a) / 4 * 1 : Nat) : Int) := wadd (by omega)
  have p2 : IntKind.i64.wrap ((a : Int) + (((b - a) / 4 * 2 : Nat) : Int)) = ((a + (b - a) / 4 * 2 : Nat) : Int) := wadd (by omega)
  have p3 : IntKind.i64.wrap ((a : Int) + (((b - a) / 4 * 3 : Nat) : Int)) = ((a + (b - a) / 4 * 3 : Nat) : Int) := wadd (by omega)
  have fin : ∀ (p s : Nat), (if (s : Int) = (0 : Int) then some ((p : Int), (1 : Int), d.toList, ()) else if (s : Int) = (12 : Int) then some ((p : Int), 2, d.toList, ()) else some ((p : Int), 0, d.toList, ())) = some ((p : Int), hintI (if s = 0 then Sort.Hint.increasing else if s = 12 then Sort.Hint.decreasing else Sort.Hint.unknown), d.toList, ()) := by
    intro p s
    by_cases c1 : s = 0
    · rw [if_pos (by omega), if_pos c1]; rfl
    · by_cases c2 : s = 12
      · rw [if_neg (by omega), if_pos (by omega), if_neg c1, if_pos c2]; rfl
      · rw [if_neg (by omega), if_neg (by omega), if_neg c1, if_neg c2]; rfl
  rw [F84_slices_choosePivotOrdered_eq]
  dsimp only
  simp only [e0, e1, m1, m2, m3, p1, p2, p3]
  unfold Sort.choosePivot
  by_cases c8 : 8 ≤ b - a
  · rw [if_pos (by omega)]
    simp only [if_pos (show b - a ≥ 8 from c8)]
    by_cases c50 : 50 ≤ b - a
    · rw [if_pos (by omega)]
      simp only [if_pos (show b - a ≥ 50 from c50)]
      have k1 := Sort.medianAdjacent_count Sort.ltInt d (a + (b - a) / 4 * 1) 0
      have q1 := adj_in (a + (b - a) / 4 * 1) 0 d (by omega)
      rw [show (0 : Int) = ((0 : Nat) : Int) from rfl, adj_eq (a + (b - a) / 4 * 1) 0 d (by omega) (by omega) hs (by omega), Option.bind_some]
      dsimp only
      generalize Sort.medianAdjacent Sort.ltInt d (a + (b - a) / 4 * 1) 0 = r1 at *
      have k2 := Sort.medianAdjacent_count Sort.ltInt d (a + (b - a) / 4 * 2) r1.2
      have q2 := adj_in (a + (b - a) / 4 * 2) r1.2 d (by omega)
      rw [adj_eq (a + (b - a) / 4 * 2) r1.2 d (by omega) (by omega) hs (by omega), Option.bind_some]
      dsimp only
      generalize Sort.medianAdjacent Sort.ltInt d (a + (b - a) / 4 * 2) r1.2 = r2 at *
      have k3 := Sort.medianAdjacent_count Sort.ltInt d (a + (b - a) / 4 * 3) r2.2
      have q3 := adj_in (a + (b - a) / 4 * 3) r2.2 d (by omega)
      rw [adj_eq (a + (b - a) / 4 * 3) r2.2 d (by omega) (by omega) hs (by omega), Option.bind_some]
      dsimp only
      generalize Sort.medianAdjacent Sort.ltInt d (a + (b - a) / 4 * 3) r2.2 = r3 at *
      rw [med_eq _ _ _ _ d q1 q2 q3 (by omega), Option.bind_some]
      exact fin _ _
    · rw [if_neg (by omega)]
      simp only [if_neg (show ¬ b - a ≥ 50 from c50)]
      rw [show (0 : Int) = ((0 : Nat) : Int) from rfl, med_eq _ _ _ _ d (by omega) (by omega) (by omega) (by omega), Option.bind_some]
      exact fin _ _
  · rw [if_neg (by omega)]
    simp only [if_neg (show ¬ b - a ≥ 8 from c8)]
    rfl
/-! how long a number is -/
def LenP (x k : Nat) : Prop := x < 2 ^ k ∧ (0 < x → 2 ^ k ≤ 2 * x)
instance (x k : Nat) : Decidable (LenP x k) := inferInstanceAs (Decidable (_ ∧ _))
theorem LenP.up {x k s : Nat} (h : LenP (x / 2 ^ s) k) (hx : 2 ^ s ≤ x) : LenP x (s + k) := by
  have hp : 0 < 2 ^ s := Nat.two_pow_pos s
  have hq : 0 < x / 2 ^ s := Nat.div_pos hx hp
  refine ⟨?_, fun _ => ?_⟩
  · have := (Nat.div_lt_iff_lt_mul hp).1 h.1
    rw [Nat.pow_add, Nat.mul_comm]; exact this
  · have h1 := h.2 hq
    have h2 : x / 2 ^ s * 2 ^ s ≤ x := Nat.div_mul_le_self x (2 ^ s)
    calc 2 ^ (s + k) = 2 ^ k * 2 ^ s := by rw [Nat.pow_add, Nat.mul_comm]
      _ ≤ 2 * (x / 2 ^ s) * 2 ^ s := Nat.mul_le_mul_right _ h1
      _ = 2 * (x / 2 ^ s * 2 ^ s) := Nat.mul_assoc _ _ _
      _ ≤ 2 * x := Nat.mul_le_mul_left _ h2
theorem shr8 (v : Nat) : shrR .u64 (v : Int) 8 = ((v / 2 ^ 8 : Nat) : Int) := by
  unfold shrR
  rw [show (8 : Int).toNat = 8 from rfl, show min 8 IntKind.u64.bits = 8 from rfl, Int.fdiv_eq_ediv_of_nonneg _ (by decide)]
  show (v : Int) / 256 = ((v / 256 : Nat) : Int)
  omega
theorem shr16 (v : Nat) : shrR .u64 (v : Int) 16 = ((v / 2 ^ 16 : Nat) : Int) := by
  unfold shrR
  rw [show (16 : Int).toNat = 16 from rfl, show min 16 IntKind.u64.bits = 16 from rfl, Int.fdiv_eq_ediv_of_nonneg _ (by decide)]
  show (v : Int) / 65536 = ((v / 65536 : Nat) : Int)
  omega
theorem shr32 (v : Nat) : shrR .u64 (v : Int) 32 = ((v / 2 ^ 32 : Nat) : Int) := by
  unfold shrR
  rw [show (32 : Int).toNat = 32 from rfl, show min 32 IntKind.u64.bits = 32 from rfl, Int.fdiv_eq_ediv_of_nonneg _ (by decide)]
  show (v : Int) / 4294967296 = ((v / 4294967296 : Nat) : Int)
  omega
theorem len10 (v n : Nat) (hv : v < 256) (hn : n ≤ 56) : ∃ k, F91_bits_Len64_l10 v n = some (((n + k : Nat) : Int), ()) ∧ LenP v k ∧ k ≤ 8 := by
  rw [F91_bits_Len64_l10_eq]
  dsimp only
  generalize hT : ByteArray.mk _ = T
  have key : ∀ q : Fin 256, T.size = 256 ∧ 0 ≤ bt T (q.val : Int) ∧ bt T (q.val : Int) ≤ 8 ∧ LenP q.val (bt T (q.val : Int)).toNat := by
    subst hT; decide +kernel
  obtain ⟨h0, h1, h2, h3⟩ := key ⟨v, hv⟩
  simp only at h1 h2 h3
  have e : IntKind.u8.wrap (v : Int) = (v : Int) := by rw [IntKind.wrap_u8]; omega
  rw [e, h0, if_pos (by omega), w64 (n := bt T (v : Int)) (by omega) (by omega), w64 (by omega) (by omega)]
  refine ⟨(bt T (v : Int)).toNat, ?_, h3, by omega⟩
  congr 2
  omega
theorem len7 (v n : Nat) (hv : v < 65536) (hn : n ≤ 48) : ∃ k, F91_bits_Len64_l7 v n = some (((n + k : Nat) : Int), ()) ∧ LenP v k ∧ k ≤ 16 := by
  rw [F91_bits_Len64_l7_eq]
  by_cases c : 256 ≤ v
  · obtain ⟨k, h1, h2, h3⟩ := len10 (v / 2 ^ 8) (n + 8) (by omega) (by omega)
    rw [if_pos (by omega), shr8, show IntKind.i64.wrap ((n : Int) + 8) = ((n + 8 : Nat) : Int) by rw [w64 (by omega) (by omega)]; omega, h1]
    exact ⟨8 + k, by rw [Nat.add_assoc], h2.up (by omega), by omega⟩
  · obtain ⟨k, h1, h2, h3⟩ := len10 v n (by omega) (by omega)
    rw [if_neg (by omega), h1]
    exact ⟨k, rfl, h2, by omega⟩
theorem len_eq (v : Nat) (hv : v < 18446744073709551616) : ∃ k : Nat, F70_bits_Len (v : Int) = some ((k : Int), ()) ∧ LenP v k ∧ k ≤ 64 := by
  suffices h : ∃ k : Nat, F91_bits_Len64 (v : Int) = some ((k : Int), ()) ∧ LenP v k ∧ k ≤ 64 by
    obtain ⟨k, h1, h2, h3⟩ := h
    exact ⟨k, by rw [F70_bits_Len_eq, h1]; rfl, h2, h3⟩
  rw [F91_bits_Len64_eq, shr32, shr16, shr16]
  by_cases c : 4294967296 ≤ v
  · rw [if_pos (by omega)]
    by_cases c2 : 65536 ≤ v / 2 ^ 32
    · obtain ⟨k, h1, h2, h3⟩ := len7 (v / 2 ^ 32 / 2 ^ 16) 48 (by omega) (by omega)
      rw [if_pos (by omega), show IntKind.i64.wrap ((32 : Int) + 16) = ((48 : Nat) : Int) from by rw [w64 (by omega) (by omega)]; rfl, h1]
      exact ⟨48 + k, rfl, by have := (h2.up (by omega)).up (s := 32) (by omega); rw [← Nat.add_assoc] at this; exact this, by omega⟩
    · obtain ⟨k, h1, h2, h3⟩ := len7 (v / 2 ^ 32) 32 (by omega) (by omega)
      rw [if_neg (by omega), show (32 : Int) = ((32 : Nat) : Int) from rfl, h1]
      exact ⟨32 + k, rfl, h2.up (by omega), by omega⟩
  · rw [if_neg (by omega)]
    by_cases c2 : 65536 ≤ v
    · obtain ⟨k, h1, h2, h3⟩ := len7 (v / 2 ^ 16) 16 (by omega) (by omega)
      rw [if_pos (by omega), show IntKind.i64.wrap ((0 : Int) + 16) = ((16 : Nat) : Int) from by rw [w64 (by omega) (by omega)]; rfl, h1]
      exact ⟨16 + k, rfl, h2.up (by omega), by omega⟩
    · obtain ⟨k, h1, h2, h3⟩ := len7 v 0 (by omega) (by omega)
      rw [if_neg (by omega), show (0 : Int) = ((0 : Nat) : Int) from rfl, h1]
      exact ⟨k, by simp, h2, by omega⟩
/-! patterns broken: places change about -/
theorem and_le (x : Int) (m : Nat) (hm : m < 18446744073709551616) : ∃ k : Nat, bitsR .and .u64 x (m : Int) = (k : Int) ∧ k ≤ m := by
  have e : (BitVec.ofInt 64 (m : Int)).toNat = m := by rw [BitVec.toNat_ofInt]; omega
  have h : ((BitVec.ofInt 64 x &&& BitVec.ofInt 64 (m : Int)).toNat) ≤ m := by
    rw [BitVec.toNat_and, e]; exact Nat.and_le_right
  refine ⟨(BitVec.ofInt 64 x &&& BitVec.ofInt 64 (m : Int)).toNat, ?_, h⟩
  show IntKind.u64.wrap (((BitVec.ofInt 64 x &&& BitVec.ofInt 64 (m : Int)).toNat : Nat) : Int) = _
  rw [IntKind.wrap_u64]
  omega
theorem brk_l (a b m : Nat) (hab : 8 ≤ b - a) (hm : 1 ≤ m) (hm2 : m ≤ 2 * (b - a)) : ∀ (n idx : Nat) (d : Array Int) (r : Int), a + (b - a) / 4 * 2 + 2 - idx = n → a ≤ idx → b ≤ d.size → d.size ≤ 1152921504606846976 →
    ∃ d', F83_slices_breakPatternsOrdered_l1000005 a ((b - a : Nat) : Int) (m : Int) idx d.toList r = some (d'.toList, ()) ∧ Sort.PermIn a b d d' := by
  intro n
  induction n with
  | zero =>
    intro idx d r hn ha hb hs
    have e1 : IntKind.i64.wrap (Int.tdiv ((b - a : Nat) : Int) 4) = (((b - a) / 4 : Nat) : Int) := by rw [show Int.tdiv ((b - a : Nat) : Int) 4 = (((b - a) / 4 : Nat) : Int) from rfl, w64 (by omega) (by omega)]
    have m2 : IntKind.i64.wrap ((((b - a) / 4 : Nat) : Int) * 2) = (((b - a) / 4 * 2 : Nat) : Int) := by rw [w64 (by omega) (by omega)]; omega
    have p2 : IntKind.i64.wrap ((a : Int) + (((b - a) / 4 * 2 : Nat) : Int)) = ((a + (b - a) / 4 * 2 : Nat) : Int) := wadd (by omega)
    rw [F83_slices_breakPatternsOrdered_l1000005_eq]
    simp only [e1, m2, p2, ws1 (show a + (b - a) / 4 * 2 ≤ 4611686018427387904 by omega)]
    rw [if_neg (by omega)]
    exact ⟨d, rfl, Sort.permIn_refl d a b⟩
  | succ n ih =>
    intro idx d r hn ha hb hs
    have e1 : IntKind.i64.wrap (Int.tdiv ((b - a : Nat) : Int) 4) = (((b - a) / 4 : Nat) : Int) := by rw [show Int.tdiv ((b - a : Nat) : Int) 4 = (((b - a) / 4 : Nat) : Int) from rfl, w64 (by omega) (by omega)]
    have m2 : IntKind.i64.wrap ((((b - a) / 4 : Nat) : Int) * 2) = (((b - a) / 4 * 2 : Nat) : Int) := by rw [w64 (by omega) (by omega)]; omega
    have p2 : IntKind.i64.wrap ((a : Int) + (((b - a) / 4 * 2 : Nat) : Int)) = ((a + (b - a) / 4 * 2 : Nat) : Int) := wadd (by omega)
    have mw : IntKind.u64.wrap (IntKind.i64.wrap ((m : Int) - 1)) = ((m - 1 : Nat) : Int) := by rw [w64 (by omega) (by omega), IntKind.wrap_u64]; omega
    have mw' : IntKind.u64.wrap ((m : Int) - 1) = ((m - 1 : Nat) : Int) := by rw [IntKind.wrap_u64]; omega
    rw [F83_slices_breakPatternsOrdered_l1000005_eq, F109_slices_xorshift_Next_eq]
    simp only [e1, m2, p2, ws1 (show a + (b - a) / 4 * 2 ≤ 4611686018427387904 by omega), Option.bind_some, mw, mw']
    rw [if_pos (by omega)]
    generalize bitsR .xor .u64 (bitsR .xor .u64 (bitsR .xor .u64 r (shlR .u64 r 13)) (shrR .u64 (bitsR .xor .u64 r (shlR .u64 r 13)) 7)) (shlR .u64 (bitsR .xor .u64 (bitsR .xor .u64 r (shlR .u64 r 13)) (shrR .u64 (bitsR .xor .u64 r (shlR .u64 r 13)) 7)) 17) = x
    obtain ⟨k, hk, hk2⟩ := and_le x (m - 1) (by omega)
    have kw : IntKind.i64.wrap (k : Int) = (k : Int) := w64 (by omega) (by omega)
    simp only [hk, kw]
    have go : ∀ o : Nat, a ≤ o → o < b → ∃ d', F83_slices_breakPatternsOrdered_l1000005 a ((b - a : Nat) : Int) (m : Int) (IntKind.i64.wrap ((idx : Int) + 1)) (List.set (List.set d.toList (Int.toNat (idx : Int)) d[o]!) (Int.toNat (o : Int)) d[idx]!) x = some (d'.toList, ()) ∧ Sort.PermIn a b d d' := by
      intro o h1 h2
      rw [setA, ws1 (by omega)]
      obtain ⟨d', q1, q2⟩ := ih (idx + 1) (Sort.swp d idx o) x (by omega) (by omega) (by rw [ssz]; exact hb) (by rw [ssz]; exact hs)
      exact ⟨d', q1, Sort.permIn_trans _ _ _ a b (Sort.swp_permIn d a b idx o ha (by omega) h1 h2 hb) q2⟩
    by_cases c : b - a ≤ k
    · have w1 : IntKind.i64.wrap ((a : Int) + IntKind.i64.wrap ((k : Int) - ((b - a : Nat) : Int))) = ((a + (k - (b - a)) : Nat) : Int) := by rw [wsub c (by omega), wadd (by omega)]
      rw [if_pos (by omega)]
      simp only [w1, rdA]
      rw [if_pos (inA (by omega)), if_pos (inA (by omega)), if_pos (inA (by omega)), if_pos (inS (by omega))]
      exact go _ (by omega) (by omega)
    · have w1 : IntKind.i64.wrap ((a : Int) + (k : Int)) = ((a + k : Nat) : Int) := wadd (by omega)
      rw [if_neg (by omega)]
      simp only [w1, rdA]
      rw [if_pos (inA (by omega)), if_pos (inA (by omega)), if_pos (inA (by omega)), if_pos (inS (by omega))]
      exact go _ (by omega) (by omega)
theorem brk_eq (a b : Nat) (d : Array Int) (h : a ≤ b) (hb : b ≤ d.size) (hs : d.size ≤ 1152921504606846976) : ∃ d', F83_slices_breakPatternsOrdered a b d.toList = some (d'.toList, ()) ∧ Sort.PermIn a b d d' := by
  have e0 : IntKind.i64.wrap ((b : Int) - (a : Int)) = ((b - a : Nat) : Int) := wsub (by omega) (by omega)
  rw [F83_slices_breakPatternsOrdered_eq, e0]
  by_cases c : 8 ≤ b - a
  · obtain ⟨k, h1, h2, h3⟩ := len_eq (b - a) (by omega)
    have hk := h2.2 (by omega)
    have hk61 : k ≤ 62 := by
      apply Classical.byContradiction
      intro hh
      have : 2 ^ 63 ≤ 2 ^ k := Nat.pow_le_pow_right (by omega) (by omega)
      omega
    have hp : 1 ≤ 2 ^ k := Nat.two_pow_pos k
    have uw : IntKind.u64.wrap ((b - a : Nat) : Int) = ((b - a : Nat) : Int) := by rw [IntKind.wrap_u64]; omega
    have sh : shlR .u64 1 (k : Int) = ((2 ^ k : Nat) : Int) := by
      unfold shlR
      rw [Int.toNat_natCast, Nat.min_eq_left (show k ≤ IntKind.u64.bits from by show k ≤ 64; omega), Int.one_mul, show ((2 : Int) ^ k) = ((2 ^ k : Nat) : Int) from (Int.natCast_pow 2 k).symm, IntKind.wrap_u64]
      have : ((2 ^ k : Nat) : Int) < 18446744073709551616 := by have : 2 ^ k < 18446744073709551616 := Nat.lt_of_le_of_lt hk (by omega); omega
      omega
    have e1 : IntKind.i64.wrap (Int.tdiv ((b - a : Nat) : Int) 4) = (((b - a) / 4 : Nat) : Int) := by rw [show Int.tdiv ((b - a : Nat) : Int) 4 = (((b - a) / 4 : Nat) : Int) from rfl, w64 (by omega) (by omega)]
    have m2 : IntKind.i64.wrap ((((b - a) / 4 : Nat) : Int) * 2) = (((b - a) / 4 * 2 : Nat) : Int) := by rw [w64 (by omega) (by omega)]; omega
    have p2 : IntKind.i64.wrap ((a : Int) + (((b - a) / 4 * 2 : Nat) : Int)) = ((a + (b - a) / 4 * 2 : Nat) : Int) := wadd (by omega)
    have p3 : IntKind.i64.wrap (((a + (b - a) / 4 * 2 : Nat) : Int) - 1) = ((a + (b - a) / 4 * 2 - 1 : Nat) : Int) := by rw [w64 (by omega) (by omega)]; omega
    rw [if_pos (by omega), F108_slices_nextPowerOfTwo_eq, uw, h1, Option.bind_some, if_pos (by omega), sh, Option.bind_some]
    simp only [e1, m2, p2, p3]
    exact brk_l a b (2 ^ k) c hp hk _ _ d _ rfl (by omega) hb hs
  · rw [if_neg (by omega)]
    exact ⟨d, rfl, Sort.permIn_refl d a b⟩
/-! the recursion -/
def Sorts (N : Nat) : Prop := ∀ (a b limit : Nat) (wb wp : Bool) (d : Array Int), b - a < N → a ≤ b → b ≤ d.size → d.size ≤ 1152921504606846976 → Sort.Below Sort.ltInt a b d → limit ≤ 1000 →
  ∃ d', F69_slices_pdqsortOrdered_l1000002 a b limit wb wp d.toList = some (d'.toList, ()) ∧ Sort.PermIn a b d d' ∧ Sort.SortedIn Sort.ltInt a b d'
theorem pdq20 (a b limit p : Nat) (ih : Sorts (b - a)) (d : Array Int) (v : Int) (h1 : a ≤ p) (h2 : p < b) (hb : b ≤ d.size) (hs : d.size ≤ 1152921504606846976) (hB : Sort.Below Sort.ltInt a b d) (hl : limit ≤ 1000) :
    ∃ d', F69_slices_pdqsortOrdered_l20 a b limit v p d.toList = some (d'.toList, ()) ∧ Sort.PermIn a b d d' ∧ Sort.SortedIn Sort.ltInt a b d' := by
  rw [F69_slices_pdqsortOrdered_l20_eq, pa_eq a b p d h1 h2 hb hs, Option.bind_some]
  obtain ⟨g1, g2, g3, g4, g5, gl, gr⟩ := Sort.round_part Sort.swo_ltInt (Sort.partition_holds Sort.ltInt) (mid := (Sort.partition Sort.ltInt d a b p).1) (ap := (Sort.partition Sort.ltInt d a b p).2.1) (d4 := (Sort.partition Sort.ltInt d a b p).2.2) h1 h2 hb hB rfl
  dsimp only
  generalize (Sort.partition Sort.ltInt d a b p).1 = mid at *
  generalize (Sort.partition Sort.ltInt d a b p).2.1 = ap at *
  generalize (Sort.partition Sort.ltInt d a b p).2.2 = d4 at *
  have e1 : IntKind.i64.wrap ((mid : Int) - (a : Int)) = ((mid - a : Nat) : Int) := wsub g1 (by omega)
  have e2 : IntKind.i64.wrap ((b : Int) - (mid : Int)) = ((b - mid : Nat) : Int) := wsub (by omega) (by omega)
  have e3 : IntKind.i64.wrap ((mid : Int) + 1) = ((mid + 1 : Nat) : Int) := ws1 (by omega)
  rw [e1, e2, e3]
  by_cases c : mid - a < b - mid
  · rw [if_pos (by omega), F69_slices_pdqsortOrdered_eq]
    obtain ⟨L, q1, q2, q3⟩ := ih a mid limit true true d4 (by omega) (by omega) (by omega) (by omega) g4 hl
    rw [q1, Option.bind_some]
    obtain ⟨r1, r2⟩ := gl L q2 q3
    obtain ⟨R, s1, s2, s3⟩ := ih (mid + 1) b limit (decide (IntKind.i64.wrap (Int.tdiv v 8) ≤ ((mid - a : Nat) : Int))) ap L (by omega) (by omega) (by rw [q2.1, g3]; exact hb) (by rw [q2.1, g3]; exact hs) r1 hl
    exact ⟨R, s1, r2 R s2 s3⟩
  · rw [if_neg (by omega), F69_slices_pdqsortOrdered_eq]
    obtain ⟨L, q1, q2, q3⟩ := ih (mid + 1) b limit true true d4 (by omega) (by omega) (by omega) (by omega) g5 hl
    rw [q1, Option.bind_some]
    obtain ⟨r1, r2⟩ := gr L q2 q3
    obtain ⟨R, s1, s2, s3⟩ := ih a mid limit (decide (IntKind.i64.wrap (Int.tdiv v 8) ≤ ((b - mid : Nat) : Int))) ap L (by omega) (by omega) (by rw [q2.1, g3]; omega) (by rw [q2.1, g3]; exact hs) r1 hl
    exact ⟨R, s1, r2 R s2 s3⟩
theorem pdq17 (a b limit p : Nat) (ih : Sorts (b - a)) (wb wp : Bool) (d : Array Int) (v : Int) (h1 : a ≤ p) (h2 : p < b) (hb : b ≤ d.size) (hs : d.size ≤ 1152921504606846976) (hB : Sort.Below Sort.ltInt a b d) (hl : limit ≤ 1000) :
    ∃ d', F69_slices_pdqsortOrdered_l17 a b limit wb wp v p d.toList = some (d'.toList, ()) ∧ Sort.PermIn a b d d' ∧ Sort.SortedIn Sort.ltInt a b d' := by
  rw [F69_slices_pdqsortOrdered_l17_eq]
  by_cases c : 0 < a
  · have e : IntKind.i64.wrap ((a : Int) - 1) = ((a - 1 : Nat) : Int) := by rw [w64 (by omega) (by omega)]; omega
    rw [if_pos (by omega), e, if_pos (inA (by omega)), if_pos (inA (by omega)), rdA, rdA, less_eq, Option.bind_some]
    dsimp only
    cases hl2 : Sort.ltInt d[a - 1]! d[p]! with
    | true => rw [if_neg (by simp)]; exact pdq20 a b limit p ih d v h1 h2 hb hs hB hl
    | false =>
      rw [if_pos (by simp), pe_eq a b p d h1 h2 hb hs, Option.bind_some]
      obtain ⟨g1, g2, g3, g4, g5⟩ := Sort.round_eq Sort.swo_ltInt (Sort.partitionEqual_holds Sort.ltInt) (mid := (Sort.partitionEqual Sort.ltInt d a b p).1) (d4 := (Sort.partitionEqual Sort.ltInt d a b p).2) c h1 h2 hb hB hl2 rfl
      dsimp only
      obtain ⟨R, s1, s2, s3⟩ := ih _ b limit wb wp _ (by omega) g2 (by rw [g3]; exact hb) (by rw [g3]; exact hs) g4 hl
      exact ⟨R, s1, g5 R s2 s3⟩
  · rw [if_neg (by omega)]; exact pdq20 a b limit p ih d v h1 h2 hb hs hB hl
theorem pdq15 (a b limit p : Nat) (ih : Sorts (b - a)) (wb wp : Bool) (d : Array Int) (v hint : Int) (h1 : a ≤ p) (h2 : p < b) (hb : b ≤ d.size) (hs : d.size ≤ 1152921504606846976) (hB : Sort.Below Sort.ltInt a b d) (hl : limit ≤ 1000) :
    ∃ d', F69_slices_pdqsortOrdered_l15 a b limit wb wp v p hint d.toList = some (d'.toList, ()) ∧ Sort.PermIn a b d d' ∧ Sort.SortedIn Sort.ltInt a b d' := by
  have go := pdq17 a b limit p ih wb wp d v h1 h2 hb hs hB hl
  rw [F69_slices_pdqsortOrdered_l15_eq]
  cases wb with
  | false => rw [if_neg (by simp)]; exact go
  | true =>
    rw [if_pos rfl]
    cases wp with
    | false => rw [if_neg (by simp)]; exact go
    | true =>
      rw [if_pos rfl]
      by_cases c : hint = 1
      · rw [if_pos c, pi_eq a b d (by omega) hb hs, Option.bind_some]
        obtain ⟨q1, q2⟩ := Sort.partialInsertionSort_holds Sort.swo_ltInt d a b (by omega) hb hB
        dsimp only
        cases hp : (Sort.partialInsertionSort Sort.ltInt d a b).2 with
        | true => rw [if_pos rfl]; exact ⟨_, rfl, q1, q2 hp⟩
        | false =>
          rw [if_neg (by simp)]
          obtain ⟨R, s1, s2, s3⟩ := pdq17 a b limit p ih true true _ v h1 h2 (by rw [q1.1]; exact hb) (by rw [q1.1]; exact hs) (hB.perm hb q1) hl
          exact ⟨R, s1, Sort.permIn_trans _ _ _ a b q1 s2, s3⟩
      · rw [if_neg c]; exact go
theorem pdqC (a b limit : Nat) (ih : Sorts (b - a)) (wb wp : Bool) (d : Array Int) (v : Int) (hab : a < b) (hb : b ≤ d.size) (hs : d.size ≤ 1152921504606846976) (hB : Sort.Below Sort.ltInt a b d) (hl : limit ≤ 1000) :
    ∃ d', ((F84_slices_choosePivotOrdered a b d.toList).bind fun y4 =>
          if y4.2.1 = (2 : Int) then
            (F85_slices_reverseRangeOrdered a b y4.2.2.1).bind fun y5 =>
            F69_slices_pdqsortOrdered_l15 a b limit wb wp v (IntKind.i64.wrap ((IntKind.i64.wrap ((b : Int) - (1 : Int))) - (IntKind.i64.wrap (y4.1 - (a : Int))))) 1 y5.1
          else
            F69_slices_pdqsortOrdered_l15 a b limit wb wp v y4.1 y4.2.1 y4.2.2.1) = some (d'.toList, ()) ∧ Sort.PermIn a b d d' ∧ Sort.SortedIn Sort.ltInt a b d' := by
  obtain ⟨c1, c2⟩ := Sort.choosePivot_holds Sort.ltInt d a b hab
  rw [choose_eq a b d hab hb hs, Option.bind_some]
  dsimp only
  generalize (Sort.choosePivot Sort.ltInt d a b).1 = p at *
  by_cases c : hintI (Sort.choosePivot Sort.ltInt d a b).2 = 2
  · have e : IntKind.i64.wrap ((IntKind.i64.wrap ((b : Int) - (1 : Int))) - (IntKind.i64.wrap ((p : Int) - (a : Int)))) = (((b - 1) - (p - a) : Nat) : Int) := by
      rw [w64 (n := (b : Int) - 1) (by omega) (by omega), w64 (n := (p : Int) - a) (by omega) (by omega), w64 (by omega) (by omega)]; omega
    have hR := Sort.reverseRange_holds d a b (by omega) hb
    rw [if_pos c, rev_eq a b d hab hb hs, Option.bind_some, e]
    obtain ⟨R, s1, s2, s3⟩ := pdq15 a b limit ((b - 1) - (p - a)) ih wb wp (Sort.reverseRange d a b) v 1 (by omega) (by omega) (by rw [hR.1]; exact hb) (by rw [hR.1]; exact hs) (hB.perm hb hR) hl
    exact ⟨R, s1, Sort.permIn_trans _ _ _ a b hR s2, s3⟩
  · rw [if_neg c]
    exact pdq15 a b limit p ih wb wp d v _ c1 c2 hb hs hB hl
theorem pdq_l : ∀ N, Sorts N := by
  intro N
  induction N with
  | zero => intro a b limit wb wp d h; omega
  | succ N ihN =>
    intro a b limit wb wp d h hab hb hs hB hl
    have ih : Sorts (b - a) := fun a' b' l' wb' wp' d' h' => ihN a' b' l' wb' wp' d' (by omega)
    have e0 : IntKind.i64.wrap ((b : Int) - (a : Int)) = ((b - a : Nat) : Int) := wsub hab (by omega)
    rw [F69_slices_pdqsortOrdered_l1000002_eq, e0]
    dsimp only
    by_cases c12 : b - a ≤ 12
    · rw [if_pos (by omega), ins_sort a b d hab hb hs]
      exact ⟨_, rfl, Sort.insertionSort_holds Sort.swo_ltInt d a b hab hb⟩
    · rw [if_neg (by omega)]
      by_cases c0 : limit = 0
      · rw [if_pos (by omega), heap_sort a b d hab hb hs]
        exact ⟨_, rfl, Sort.heapSort_holds Sort.swo_ltInt d a b hab hb⟩
      · rw [if_neg (by omega)]
        cases wb with
        | false =>
          have el : IntKind.i64.wrap ((limit : Int) - 1) = ((limit - 1 : Nat) : Int) := by rw [w64 (by omega) (by omega)]; omega
          obtain ⟨d1, q1, q2⟩ := brk_eq a b d hab hb hs
          rw [if_pos (by simp), q1, Option.bind_some, el]
          obtain ⟨R, s1, s2, s3⟩ := pdqC a b (limit - 1) ih false wp d1 ((b - a : Nat) : Int) (by omega) (by rw [q2.1]; exact hb) (by rw [q2.1]; exact hs) (hB.perm hb q2) (by omega)
          exact ⟨R, s1, Sort.permIn_trans _ _ _ a b q2 s2, s3⟩
        | true =>
          rw [if_neg (by simp)]
          exact pdqC a b limit ih true wp d ((b - a : Nat) : Int) (by omega) hb hs hB hl
/-- The code sorts. -/
theorem sort_eq (xs : List Int) (hx : xs.length ≤ 1152921504606846976) : F47_slices_Sort xs = some (xs.mergeSort (fun x y => decide (x ≤ y)), ()) := by
  obtain ⟨k, h1, h2, h3⟩ := len_eq xs.length (by omega)
  have uw : IntKind.u64.wrap (xs.length : Int) = (xs.length : Int) := by rw [IntKind.wrap_u64]; omega
  obtain ⟨d', q1, q2, q3⟩ := pdq_l _ 0 xs.length k true true xs.toArray (Nat.lt_succ_self _) (by omega) (by simp) (by simpa using hx) (.inl rfl) (by omega)
  rw [F47_slices_Sort_eq, uw, h1, Option.bind_some, F69_slices_pdqsortOrdered_eq]
  have q1' : F69_slices_pdqsortOrdered_l1000002 0 (xs.length : Int) (k : Int) true true xs = some (d'.toList, ()) := by simpa using q1
  rw [q1', Option.bind_some]
  have hu := Sort.sorted_unique_holds (lt := Sort.ltInt) Sort.swo_ltInt (fun x y a b => by simp [Sort.ltInt] at a b; omega) xs.toArray d' (by simpa using q2) (by simpa using q3)
  have hf : (fun x y : Int => !Sort.ltInt y x) = fun x y => decide (x ≤ y) := by
    funext x y
    show (!decide (y < x)) = decide (x ≤ y)
    by_cases c : y < x
    · rw [decide_eq_true c, decide_eq_false (by omega)]; rfl
    · rw [decide_eq_false c, decide_eq_true (by omega)]; rfl
  rw [hu, hf]


theorem sortsU : SortsU Pr 47 28 := sortsU_of (F_holds 0) (row := (47, fx0)) rfl (fun xs hx => ⟨(sortU xs, ()), sort_eq xs (by omega), by kernel_rfl, by kernel_rfl⟩)
end
end Go.Proofs.Ytckafnfidjfhjaa.Srtp
