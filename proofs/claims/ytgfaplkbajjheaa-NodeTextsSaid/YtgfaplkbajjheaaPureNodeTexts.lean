/- The law NodeTexts, for all arguments. Under no condition. -/
import Derived.Test.YtgfaplkbajjheaaENodeTexts
import Derived.Laws.BitsLemmas
import Derived.Laws.Bits64
set_option linter.unusedVariables false
set_option linter.unusedSimpArgs false
namespace Go.Proofs.Ytgfaplkbajjheaa.NodeTextsp
open Go Go.RowKit Go.Proofs.Ytgfaplkbajjheaa.Rx Go.Proofs.Ytgfaplkbajjheaa.NodeTextsx
noncomputable section
theorem w64 {n : Int} (h0 : -9223372036854775808 ≤ n) (h1 : n ≤ 9223372036854775807) : IntKind.i64.wrap n = n := by rw [IntKind.wrap_i64]; omega
theorem w64s {j n : Nat} (h : j < n) (hn : n ≤ 9223372036854775807) : IntKind.i64.wrap ((j : Int) + 1) = ((j + 1 : Nat) : Int) := by rw [w64 (by omega) (by omega)]; omega
theorem w64p {j : Nat} (h : 0 < j) (hn : j ≤ 9223372036854775807) : IntKind.i64.wrap ((j : Int) - 1) = ((j - 1 : Nat) : Int) := by rw [w64 (by omega) (by omega)]; omega
theorem sl_len {e : TypeId} {t : Ty} {xs : List (den tab.S t)} (h : Ok tab Pr (.sl e t) xs) : xs.length ≤ 9223372036854775807 := by
  have := (Ok.inv h).2.1
  simp only [maxLen] at this
  omega
theorem ite_to {α : Type} {p : Prop} [Decidable p] {a b c : α} (h1 : p → a = c) (h2 : ¬ p → b = c) : (if p then a else b) = c := by
  by_cases h : p
  · rw [if_pos h]; exact h1 h
  · rw [if_neg h]; exact h2 h
theorem ob_eq {a b : Bool} (h1 : a = true → b = true) (h2 : b = true → a = true) : (some (a, ()) : Option (Bool × Unit)) = some (b, ()) := by rw [Bool.eq_iff_iff.2 ⟨h1, h2⟩]
theorem oi_eq {a b : Int} (h : a = b) : (some (a, ()) : Option (Int × Unit)) = some (b, ()) := by rw [h]
theorem rd_lt {α : Type} {z : α} {xs : List α} {i : Nat} (h : i < xs.length) : rd z xs (i : Int) = xs[i] := by simp [rd, h]
theorem drop_rd {α : Type} {z : α} {xs : List α} {i : Nat} (h : i < xs.length) : xs.drop i = rd z xs (i : Int) :: xs.drop (i + 1) := by rw [rd_lt h]; exact List.drop_eq_getElem_cons h
theorem inb {i n : Nat} (h : i < n) : (0 : Int) ≤ (i : Int) ∧ (i : Int) < (n : Int) := by omega
theorem ilt {i n : Nat} (h : i < n) : (i : Int) < (n : Int) := by omega
theorem subL_drop {α : Type} (xs : List α) {l : Int} {k : Nat} (h : l = (k : Int)) : subL xs l (xs.length : Int) = xs.drop k := by simp [subL, h]
theorem subL_take {α : Type} (xs : List α) {l : Int} {k : Nat} (h : l = (k : Int)) : subL xs 0 l = xs.take k := by simp [subL, h]

/-! ### terms -/
theorem term_eta (t : S38) : S38.mk (S38.f0 t) (S38.f1 t) (S38.f2 t) (S38.f3 t) = t := by cases t; rfl
@[simp] theorem T_f0 (a b : Int) (s : ByteArray) (l : List S38) : S38.f0 (S38.mk a b s l) = a := rfl
@[simp] theorem T_f1 (a b : Int) (s : ByteArray) (l : List S38) : S38.f1 (S38.mk a b s l) = b := rfl
@[simp] theorem T_f2 (a b : Int) (s : ByteArray) (l : List S38) : S38.f2 (S38.mk a b s l) = s := rfl
@[simp] theorem T_f3 (a b : Int) (s : ByteArray) (l : List S38) : S38.f3 (S38.mk a b s l) = l := rfl
/-- A term with no list that is too long. -/
inductive Tn : S38 → Prop
  | mk (k n : Int) (b : ByteArray) (l : List S38) (h : l.length * 56 ≤ 140737488355328) (hl : ∀ x ∈ l, Tn x) : Tn (S38.mk k n b l)
abbrev T4 := Int × Int × ByteArray × List S38 × Unit
def ofT (t : S38) : Option T4 := some (S38.f0 t, S38.f1 t, S38.f2 t, S38.f3 t, ())

theorem clone_l (l : List S38) (hl : l.length * 56 ≤ 140737488355328) (hc : ∀ x ∈ l, F124_term_clone (S38.f0 x) (S38.f1 x) (S38.f2 x) (S38.f3 x) = ofT x) (k n : Int) (b : ByteArray) (l' : List S38) (o o' : Int) (s : ByteArray) (g : List S38) : ∀ (m i : Nat), l.length - i = m → i ≤ l.length →
    F124_term_clone_l1000003 l (l.length : Int) (i : Int) k n b l' o o' s (l.take i) g = some (k, n, b, l, ()) := by
  intro m
  induction m with
  | zero =>
    intro i hm hi
    rw [F124_term_clone_l1000003_eq, if_neg (by omega), List.take_of_length_le (by omega)]
  | succ m ih =>
    intro i hm hi
    rw [F124_term_clone_l1000003_eq, if_pos (ilt (by omega)), if_pos (inb (by omega)), rd_lt (by omega : i < l.length), hc _ (List.getElem_mem _)]
    show (if _ then _ else none) = _
    rw [if_pos (by simp only [List.length_take, List.length_singleton]; omega), w64s (n := l.length) (by omega) (by omega)]
    have := ih (i + 1) (by omega) (by omega)
    rw [List.take_add_one, List.getElem?_eq_getElem (by omega)] at this
    rw [term_eta]
    exact this
theorem clone_eq {t : S38} (h : Tn t) : F124_term_clone (S38.f0 t) (S38.f1 t) (S38.f2 t) (S38.f3 t) = ofT t := by
  induction h with
  | mk k n b l h hl ih =>
    show F124_term_clone k n b l = some (k, n, b, l, ())
    rw [F124_term_clone_eq]
    exact clone_l l h ih k n b l 0 0 ByteArray.empty [] l.length 0 (by omega) (by omega)

def numT (n : Int) : S38 := S38.mk 1 (IntKind.u64.wrap n) ByteArray.empty []
def atomT (s : ByteArray) : S38 := S38.mk 2 0 s []
def keyT (n : Int) : S38 := S38.mk 3 n ByteArray.empty []
def rowT (l : List S38) : S38 := S38.mk 5 0 ByteArray.empty l
theorem Tn.num (n : Int) : Tn (numT n) := .mk _ _ _ _ (by simp) (fun x hx => by cases hx)
theorem Tn.atom (s : ByteArray) : Tn (atomT s) := .mk _ _ _ _ (by simp) (fun x hx => by cases hx)
theorem Tn.key (n : Int) : Tn (keyT n) := .mk _ _ _ _ (by simp) (fun x hx => by cases hx)
theorem Tn.row {l : List S38} (h : l.length ≤ 1000000) (hl : ∀ x ∈ l, Tn x) : Tn (rowT l) := .mk _ _ _ _ (by omega) hl
theorem tatom (s : ByteArray) : F75_term_Atom s = ofT (atomT s) := by rw [F75_term_Atom_eq]; rfl
theorem tkey (n : Int) : F80_term_Key n = ofT (keyT n) := by rw [F80_term_Key_eq]; rfl
theorem tof {l : List S38} (h : l.length ≤ 1000000) (hl : ∀ x ∈ l, Tn x) : F77_term_Of l = ofT (rowT l) := by
  rw [F77_term_Of_eq, show F124_term_clone 5 0 ByteArray.empty l = ofT (rowT l) from clone_eq (Tn.row h hl)]; rfl
theorem snoc_tn {g : List S38} (hg : ∀ x ∈ g, Tn x) {y : S38} (hy : Tn y) : ∀ x ∈ g ++ [y], Tn x := by
  intro x hx
  rw [List.mem_append, List.mem_singleton] at hx
  rcases hx with h | h
  · exact hg x h
  · rw [h]; exact hy

inductive okT : S38 → Prop
  | mk {x : S38} : (Lit.int .i64 (S38.f0 x)).wf = true → (Lit.int .u64 (S38.f1 x)).wf = true → (S38.f2 x).size ≤ 140737488351232 → (S38.f3 x).length * 56 ≤ 140737488351232 → (S38.f3 x).length ≤ maxLen → (∀ y ∈ S38.f3 x, okT y) → okT x
theorem etaT (x : S38) : (S38.mk (S38.f0 x) (S38.f1 x) (S38.f2 x) (S38.f3 x)) = x := by cases x; rfl
theorem okT.leaf {n f : Int} {s : ByteArray} (h0 : (Lit.int .i64 n).wf = true) (h1 : (Lit.int .u64 f).wf = true) (h2 : s.size ≤ 140737488351232) : okT (S38.mk n f s []) := okT.mk h0 h1 h2 (by show 0 * 56 ≤ _; omega) (by show 0 ≤ _; omega) (fun y hy => by cases hy)
theorem okT.len {x : S38} (h : okT x) : (S38.f3 x).length ≤ 2513169434843 := by
  cases h with
  | mk _ _ _ h3 _ _ => omega
theorem okT.el {x : S38} (h : okT x) : ∀ y ∈ S38.f3 x, okT y := by
  cases h with
  | mk _ _ _ _ _ h5 => exact h5
theorem okT.tn {x : S38} (h : okT x) : Tn x := by
  induction h with
  | @mk x h0 h1 h2 h3 h4 h5 ih => rw [← etaT x]; exact Tn.mk _ _ _ _ (by omega) ih
theorem okT_of (n : Nat) : ∀ x : S38, SizeOf.sizeOf x < n → Ok tab Pr (.int .i64) (S38.f0 x) → Ok tab Pr (.int .u64) (S38.f1 x) → Ok tab Pr .str (S38.f2 x) → Ok tab Pr (.sl 38 (.st 38)) (S38.f3 x) → okT x := by
  induction n with
  | zero => intro x hx; omega
  | succ n ih =>
    intro x hx h0 h1 h2 h3
    have hb := (Ok.inv h3).1
    rw [show Program.bytesOf Pr 38 = 56 by kernel_rfl] at hb
    refine okT.mk (Ok.inv h0) (Ok.inv h1) (Ok.inv h2) ?_ (Ok.inv h3).2.1 (fun y hy => ?_)
    · exact hb
    · obtain ⟨i, hi, rfl⟩ := List.getElem_of_mem hy
      have hs : SizeOf.sizeOf (S38.f3 x)[i] < n := by
        have h9 := List.sizeOf_lt_of_mem hy
        have h8 : SizeOf.sizeOf (S38.f3 x) < SizeOf.sizeOf x := by cases x; simp [S38.f3]; omega
        omega
      have hc := (Ok.inv h3).2.2 i (S38.f3 x)[i]
      exact ih _ hs (hc 0 ⟨.int .i64, _⟩ (List.getElem?_eq_getElem hi) rfl) (hc 1 ⟨.int .u64, _⟩ (List.getElem?_eq_getElem hi) rfl) (hc 2 ⟨.str, _⟩ (List.getElem?_eq_getElem hi) rfl) (hc 3 ⟨.sl 38 (.st 38), _⟩ (List.getElem?_eq_getElem hi) rfl)

theorem wf_u64 {x : Int} (h : (Lit.int .u64 x).wf = true) : 0 ≤ x ∧ x < 18446744073709551616 := by
  simp [Lit.wf, IntKind.min, IntKind.max, IntKind.bits, IntKind.signed] at h
  omega
theorem wf_i64 {x : Int} (h : (Lit.int .i64 x).wf = true) : -9223372036854775808 ≤ x ∧ x ≤ 9223372036854775807 := by
  simp [Lit.wf, IntKind.min, IntKind.max, IntKind.bits, IntKind.signed] at h
  omega
theorem wrap_u64 {n : Int} (h0 : 0 ≤ n) (h1 : n < 18446744073709551616) : IntKind.u64.wrap n = n := by
  have h : IntKind.u64.wrap n = n % 18446744073709551616 := by simp [IntKind.wrap, IntKind.bits, IntKind.signed]
  rw [h]; omega

theorem wf_wrap (n : Int) : (Lit.int .u64 (IntKind.u64.wrap n)).wf = true := by
  have h : IntKind.u64.wrap n = n % 18446744073709551616 := by simp [IntKind.wrap, IntKind.bits, IntKind.signed]
  rw [h]
  simp [Lit.wf, IntKind.min, IntKind.max, IntKind.bits, IntKind.signed]
  omega
theorem okT.num (n : Int) : okT (numT n) := okT.leaf (by decide) (wf_wrap n) (by decide)
theorem okT.atom {s : ByteArray} (h : s.size ≤ 140737488351232) : okT (atomT s) := okT.leaf (by decide) (by decide) h
theorem okT.key {k : Int} (h : (Lit.int .u64 k).wf = true) : okT (keyT k) := okT.leaf (by decide) h (by decide)
theorem okT.row {l : List S38} (h : l.length ≤ 1000) (hl : ∀ x ∈ l, okT x) : okT (rowT l) :=
  okT.mk (show (Lit.int .i64 5).wf = true by decide) (show (Lit.int .u64 0).wf = true by decide) (show ByteArray.empty.size ≤ 140737488351232 by decide) (show l.length * 56 ≤ 140737488351232 by omega) (show l.length ≤ maxLen by simp only [maxLen]; omega) hl

/-! ### strings as lists of numbers -/
/-- A list of bytes. -/
def AllB (l : List Int) : Prop := ∀ c ∈ l, 0 ≤ c ∧ c ≤ 255
theorem AllB.nil : AllB [] := fun _ h => by simp at h
theorem AllB.cons {c : Int} {l : List Int} (h : 0 ≤ c ∧ c ≤ 255) (hl : AllB l) : AllB (c :: l) := fun x hx => by
  rcases List.mem_cons.1 hx with rfl | hx
  · exact h
  · exact hl x hx
theorem AllB.app {a b : List Int} (ha : AllB a) (hb : AllB b) : AllB (a ++ b) := fun x hx => by
  rcases List.mem_append.1 hx with hx | hx
  · exact ha x hx
  · exact hb x hx
theorem AllB.take {a : List Int} (ha : AllB a) (n : Nat) : AllB (a.take n) := fun x hx => ha x (List.mem_of_mem_take hx)
theorem AllB.drop {a : List Int} (ha : AllB a) (n : Nat) : AllB (a.drop n) := fun x hx => ha x (List.mem_of_mem_drop hx)
theorem AllB.of_bytes (s : ByteArray) : AllB (bytesOf s) := fun x hx => by
  obtain ⟨b, _, rfl⟩ := List.mem_map.1 hx
  have := b.toNat_lt
  omega
theorem bytesOf_str {l : List Int} (h : AllB l) : bytesOf (strOf l) = l := by
  unfold bytesOf strOf
  simp only [List.map_map]
  rw [show (List.map ((fun b : UInt8 => (b.toNat : Int)) ∘ fun n : Int => UInt8.ofNat n.toNat) l) = List.map id l from List.map_congr_left (fun x hx => by
    have := h x hx
    simp only [Function.comp, id, UInt8.toNat_ofNat']
    omega)]
  simp
theorem str_bytesOf (s : ByteArray) : strOf (bytesOf s) = s := by
  unfold bytesOf strOf
  simp only [List.map_map]
  rw [show (List.map ((fun n : Int => UInt8.ofNat n.toNat) ∘ fun b : UInt8 => (b.toNat : Int)) s.data.toList) = List.map id s.data.toList from List.map_congr_left (fun x hx => by
    simp [Function.comp])]
  simp
theorem bytesOf_inj {a b : ByteArray} (h : bytesOf a = bytesOf b) : a = b := by rw [← str_bytesOf a, ← str_bytesOf b, h]
theorem bytesOf_append (a b : ByteArray) : bytesOf (a ++ b) = bytesOf a ++ bytesOf b := by simp [bytesOf]
theorem bytesOf_extract (a : ByteArray) (i j : Nat) : bytesOf (a.extract i j) = ((bytesOf a).take j).drop i := by
  simp [bytesOf, List.extract_eq_take_drop, List.map_take, List.map_drop, List.drop_take]
theorem bytesOf_empty : bytesOf ByteArray.empty = [] := rfl
theorem bytesOf_length (s : ByteArray) : (bytesOf s).length = s.size := by rw [bytesOf, List.length_map, Array.length_toList]; rfl
theorem size_bytesOf (s : ByteArray) : s.size = (bytesOf s).length := (bytesOf_length s).symm
theorem size_str (l : List Int) : (strOf l).size = l.length := by simp [strOf, ByteArray.size]
theorem str_append (a b : List Int) : strOf (a ++ b) = strOf a ++ strOf b := by
  apply ByteArray.ext
  simp [strOf]
theorem str_take (l : List Int) (j : Nat) : (strOf l).extract 0 j = strOf (l.take j) := by
  apply ByteArray.ext
  simp [strOf, List.map_take]


/-! ### numbers in sevens -/
/-- A number in sevens. -/
def putN (n : Nat) : List Int := if h : n < 128 then [(n : Int)] else ((n % 128 + 128 : Nat) : Int) :: putN (n / 128)
termination_by n
decreasing_by omega
theorem putN_lt {n : Nat} (h : n < 128) : putN n = [(n : Int)] := by rw [putN, dif_pos h]
theorem putN_ge {n : Nat} (h : ¬ n < 128) : putN n = ((n % 128 + 128 : Nat) : Int) :: putN (n / 128) := by rw [putN, dif_neg h]
/-- Reading: i bytes were read ahead, worth acc. -/
def getN : Nat → Nat → List Int → Int × Int × Int
  | _, _, [] => (0, 0, 20)
  | i, acc, c :: t => if i = 9 ∧ c > 1 then (0, 0, 21) else if c < 128 then (if c = 0 ∧ 0 < i then (0, 0, 21) else (((acc + c.toNat * 128 ^ i : Nat) : Int), ((i + 1 : Nat) : Int), 0)) else getN (i + 1) (acc + (c.toNat - 128) * 128 ^ i) t
def IsByte (c : Int) : Prop := 0 ≤ c ∧ c ≤ 255

theorem strOf_append (xs : List Int) (n : Nat) : ∀ (ys : List Int), (xs ++ [(n : Int)]) ++ ys = xs ++ (((n : Int)) :: ys) := by simp
theorem big64 {n : Nat} (h : n < 18446744073709551616) : n < 128 ^ (100 - ([] : List Int).length) := Nat.lt_of_lt_of_le h (by decide)
theorem wraps_u64 (n : Int) (h₀ : 0 ≤ n) (h₁ : n < 2 ^ 64) : IntKind.u64.wrap n = n := by rw [IntKind.wrap_u64]; omega
theorem or_low (a b i : Nat) (hi : i ≤ 63) (ha : a < 2 ^ i) (hb : b * 2 ^ i < 18446744073709551616) : bitsR .or .u64 (a : Int) ((b * 2 ^ i : Nat) : Int) = ((a + b * 2 ^ i : Nat) : Int) := by
  have ha' : a < 2 ^ 64 := Nat.lt_of_lt_of_le ha (Nat.pow_le_pow_right (by decide) (by omega))
  rw [show bitsR .or .u64 (a : Int) ((b * 2 ^ i : Nat) : Int) = _ from (bits_nat .u64 64 (by decide) wraps_u64 a (b * 2 ^ i) ha' hb).2]
  congr 1
  rw [Nat.or_comm, Nat.mul_comm b, ← Nat.two_pow_add_eq_or_of_lt ha b, Nat.add_comm]
theorem and127 (c : Int) (h0 : 0 ≤ c) (h1 : c ≤ 255) : bitsR .and .u8 c 127 = c % 128 := bits_mask .u8 8 (by decide) wraps_u8 7 (by decide) c h0 (by omega)
theorem or7 (acc i : Nat) (c : Int) (h0 : 0 ≤ c) (h1 : c ≤ 255) (hi : i ≤ 9) (hacc : acc < 128 ^ i) (h9 : i = 9 → c ≤ 1) :
    bitsR .or .u64 (acc : Int) (shlR .u64 (IntKind.u64.wrap (bitsR .and .u8 c 127)) (IntKind.u64.wrap (IntKind.i64.wrap (7 * (i : Int))))) = ((acc + (c.toNat % 128) * 128 ^ i : Nat) : Int) := by
  rw [and127 c h0 h1, w64 (by omega) (by omega), wraps_u64 (7 * (i : Int)) (by omega) (by omega), wraps_u64 (c % 128) (by omega) (by omega)]
  have hp : 128 ^ i = 2 ^ (7 * i) := by rw [Nat.pow_mul]
  have hb : (c.toNat % 128) * 2 ^ (7 * i) < 18446744073709551616 := by
    rw [← hp]
    rcases Nat.lt_or_ge i 9 with h | h
    · have h2 : 128 ^ i ≤ 128 ^ 8 := Nat.pow_le_pow_right (by decide) (by omega)
      have h3 : (c.toNat % 128) * 128 ^ i ≤ 127 * 128 ^ 8 := Nat.mul_le_mul (by omega) h2
      exact Nat.lt_of_le_of_lt h3 (by decide)
    · obtain rfl : i = 9 := by omega
      have h3 := h9 rfl
      have h4 : (c.toNat % 128) * 128 ^ 9 ≤ 1 * 128 ^ 9 := Nat.mul_le_mul (by omega) (Nat.le_refl _)
      exact Nat.lt_of_le_of_lt h4 (by decide)
  have hs : shlR .u64 (c % 128) (7 * (i : Int)) = (((c.toNat % 128) * 2 ^ (7 * i) : Nat) : Int) := by
    unfold shlR
    rw [show (7 * (i : Int)).toNat = 7 * i from by omega, Nat.min_eq_left (show 7 * i ≤ IntKind.u64.bits from by show 7 * i ≤ 64; omega)]
    rw [show (c % 128) = ((c.toNat % 128 : Nat) : Int) from by omega]
    have : (((c.toNat % 128 : Nat) : Int) * 2 ^ (7 * i)) = (((c.toNat % 128) * 2 ^ (7 * i) : Nat) : Int) := by simp
    rw [this]
    exact wraps_u64 _ (by omega) (by exact_mod_cast hb)
  rw [hs, or_low acc _ (7 * i) (by omega) (by rw [← hp]; exact hacc) hb, hp]
theorem bt_eq {s : ByteArray} {j : Nat} (h : j < s.size) : bt s (j : Int) = (bytesOf s)[j]'(by rw [bytesOf_length]; exact h) := by
  unfold bt bytesOf
  rw [dif_pos (by simpa using h)]
  simp only [List.getElem_map, Int.toNat_natCast]
  rfl
theorem bt_byte (s : ByteArray) (i : Int) : IsByte (bt s i) := by
  unfold bt IsByte
  split
  · rename_i h; have := (s[i.toNat]'h).toNat_lt; omega
  · omega
theorem bytes_drop {s : ByteArray} {j : Nat} (h : j < s.size) : (bytesOf s).drop j = bt s (j : Int) :: (bytesOf s).drop (j + 1) := by
  have hl : j < (bytesOf s).length := by rw [bytesOf_length]; exact h
  rw [List.drop_eq_getElem_cons hl, bt_eq h]
theorem shr7 {c : Int} (h0 : 0 ≤ c) (k : IntKind) (hk : 7 ≤ k.bits) : shrR k c 7 = c / 128 := by
  unfold shrR
  rw [show (7 : Int).toNat = 7 from rfl, Nat.min_eq_left hk, Int.fdiv_eq_ediv_of_nonneg _ (by decide)]
  rfl
theorem or128 (n : Nat) : bitsR .or .u8 (IntKind.u8.wrap (n : Int)) 128 = ((n % 128 + 128 : Nat) : Int) := by
  have e3 : IntKind.u8.wrap (n : Int) = ((n % 256 : Nat) : Int) := by rw [IntKind.wrap_u8]; omega
  have e4 : bitsR .or .u8 ((n % 256 : Nat) : Int) ((128 : Nat) : Int) = (((n % 256) ||| 128 : Nat) : Int) := (bits_nat .u8 8 (by decide) wraps_u8 (n % 256) 128 (by omega) (by decide)).2
  rw [e3, show (128 : Int) = ((128 : Nat) : Int) from rfl, e4]
  congr 1
  have key : ∀ m : Fin 256, (m.val ||| 128) = m.val % 128 + 128 := by decide +kernel
  have := key ⟨n % 256, by omega⟩
  simp only at this
  rw [this]
  omega
theorem u8_small {n : Nat} (h : n < 256) : IntKind.u8.wrap (n : Int) = (n : Int) := by rw [IntKind.wrap_u8]; omega
theorem ref7 (acc i : Nat) (c : Int) (h0 : 0 ≤ c) (h1 : c ≤ 255) (hi : i ≤ 9) (hacc : acc < 128 ^ i) (h9 : i = 9 → c ≤ 1) :
    IntKind.u64.wrap ((acc : Int) + (IntKind.u64.wrap ((IntKind.u64.wrap (Int.tmod c 128)) * ((128 ^ i : Nat) : Int)))) = ((acc + (c.toNat % 128) * 128 ^ i : Nat) : Int) := by
  have e0 : Int.tmod c 128 = ((c.toNat % 128 : Nat) : Int) := by rw [Int.tmod_eq_emod_of_nonneg h0]; omega
  rw [e0, wraps_u64 ((c.toNat % 128 : Nat) : Int) (by omega) (by omega)]
  have hb : acc + (c.toNat % 128) * 128 ^ i < 18446744073709551616 := by
    rcases Nat.lt_or_ge i 9 with h | h
    · have h2 : 128 ^ i ≤ 128 ^ 8 := Nat.pow_le_pow_right (by decide) (by omega)
      have h3 : (c.toNat % 128) * 128 ^ i ≤ 127 * 128 ^ 8 := Nat.mul_le_mul (by omega) h2
      have h4 : (127 * 128 ^ 8 + 128 ^ 8 : Nat) < 18446744073709551616 := by decide
      omega
    · obtain rfl : i = 9 := by omega
      have h3 := h9 rfl
      have h4 : (c.toNat % 128) * 128 ^ 9 ≤ 1 * 128 ^ 9 := Nat.mul_le_mul (by omega) (Nat.le_refl _)
      have h5 : (1 * 128 ^ 9 + 128 ^ 9 : Nat) ≤ 18446744073709551616 := by decide
      omega
  have e1 : (((c.toNat % 128 : Nat) : Int) * ((128 ^ i : Nat) : Int)) = (((c.toNat % 128) * 128 ^ i : Nat) : Int) := by rw [Int.natCast_mul]
  rw [e1, wraps_u64 (((c.toNat % 128) * 128 ^ i : Nat) : Int) (by omega) (by omega), wraps_u64 _ (by omega) (by omega)]
  omega
theorem putN_B (n : Nat) : AllB (putN n) := by
  induction n using Nat.strongRecOn with
  | _ n ih =>
    by_cases h : n < 128
    · rw [putN_lt h]
      exact AllB.cons (by omega) AllB.nil
    · rw [putN_ge h]
      exact AllB.cons (by omega) (ih _ (by omega))
theorem putN_pos (n : Nat) : 1 ≤ (putN n).length := by
  by_cases h : n < 128
  · rw [putN_lt h]; simp
  · rw [putN_ge h]; simp
theorem putN_len (k : Nat) : ∀ n, n < 128 ^ k → 1 ≤ k → (putN n).length ≤ k := by
  induction k with
  | zero => intro n _ h; omega
  | succ k ih =>
    intro n hn _
    by_cases h : n < 128
    · rw [putN_lt h]; simp
    · rw [putN_ge h]
      have h1 : n / 128 < 128 ^ k := by rw [Nat.pow_succ] at hn; omega
      have h2 : 1 ≤ k := by
        rcases Nat.eq_zero_or_pos k with rfl | h3
        · simp at h1; omega
        · exact h3
      simpa using ih _ h1 h2
theorem putN_len10 {n : Nat} (h : n < 18446744073709551616) : (putN n).length ≤ 10 := putN_len 10 n (Nat.lt_of_lt_of_le h (by decide)) (by omega)
/-- What is written reads back, whatever comes after. -/
theorem get_put (n : Nat) : ∀ (i acc : Nat) (more : List Int), n * 128 ^ i < 18446744073709551616 → (i = 0 ∨ 0 < n) → getN i acc (putN n ++ more) = (((acc + n * 128 ^ i : Nat) : Int), ((i + (putN n).length : Nat) : Int), 0) := by
  induction n using Nat.strongRecOn with
  | _ n ih =>
    intro i acc more hb hi
    have h9 : i = 9 → n ≤ 1 := by
      intro h
      subst h
      rcases Nat.lt_or_ge 1 n with h2 | h2
      · have h3 : 2 * 128 ^ 9 ≤ n * 128 ^ 9 := Nat.mul_le_mul (by omega) (Nat.le_refl _)
        have h4 : (2 * 128 ^ 9 : Nat) = 18446744073709551616 := by decide
        omega
      · exact h2
    by_cases h : n < 128
    · rw [putN_lt h]
      have c1 : ¬ (i = 9 ∧ ((n : Nat) : Int) > 1) := by omega
      have c2 : ((n : Nat) : Int) < 128 := by omega
      have c3 : ¬ (((n : Nat) : Int) = 0 ∧ 0 < i) := by omega
      simp only [List.cons_append, List.nil_append, getN, if_neg c1, if_pos c2, if_neg c3, Int.toNat_natCast, List.length_singleton]
    · rw [putN_ge h]
      have c1 : ¬ (i = 9 ∧ ((n % 128 + 128 : Nat) : Int) > 1) := by omega
      have c2 : ¬ ((n % 128 + 128 : Nat) : Int) < 128 := by omega
      simp only [List.cons_append, getN, if_neg c1, if_neg c2, Int.toNat_natCast, List.length_cons]
      have e1 : n % 128 + 128 - 128 = n % 128 := by omega
      have e2 : n / 128 * 128 ^ (i + 1) + n % 128 * 128 ^ i = n * 128 ^ i := by
        rw [Nat.pow_succ, ← Nat.mul_assoc, Nat.mul_right_comm, ← Nat.add_mul, Nat.div_add_mod' n 128]
      rw [e1, ih (n / 128) (by omega) (i + 1) _ more (by omega) (by omega)]
      have e3 : acc + n % 128 * 128 ^ i + n / 128 * 128 ^ (i + 1) = acc + n * 128 ^ i := by omega
      have e4 : i + 1 + (putN (n / 128)).length = i + ((putN (n / 128)).length + 1) := by omega
      rw [e3, e4]
/-- A part cut short is short. -/
theorem get_cut (n : Nat) : ∀ (i acc m : Nat), n * 128 ^ i < 18446744073709551616 → m < (putN n).length → getN i acc ((putN n).take m) = (0, 0, 20) := by
  induction n using Nat.strongRecOn with
  | _ n ih =>
    intro i acc m hb hm
    by_cases h : n < 128
    · rw [putN_lt h] at hm ⊢
      have : m = 0 := by simpa using hm
      subst this
      rfl
    · rw [putN_ge h] at hm ⊢
      cases m with
      | zero => rfl
      | succ m =>
        have h9 : ¬ i = 9 := by
          intro h9
          subst h9
          have h3 : 128 * 128 ^ 9 ≤ n * 128 ^ 9 := Nat.mul_le_mul (by omega) (Nat.le_refl _)
          have h4 : (18446744073709551616 : Nat) ≤ 128 * 128 ^ 9 := by decide
          omega
        have c1 : ¬ (i = 9 ∧ ((n % 128 + 128 : Nat) : Int) > 1) := fun h => h9 h.1
        have c2 : ¬ ((n % 128 + 128 : Nat) : Int) < 128 := by omega
        simp only [List.take_succ_cons, getN, if_neg c1, if_neg c2]
        have e2 : n / 128 * 128 ^ (i + 1) + n % 128 * 128 ^ i = n * 128 ^ i := by
          rw [Nat.pow_succ, ← Nat.mul_assoc, Nat.mul_right_comm, ← Nat.add_mul, Nat.div_add_mod' n 128]
        exact ih _ (by omega) _ _ _ (by omega) (by simpa using hm)
/-- What reads was so written. -/
theorem get_is (l : List Int) : ∀ (i acc : Nat), AllB l → i ≤ 9 →
    (∃ n more, l = putN n ++ more ∧ n < 128 ^ (9 - i) * 2 ∧ (i = 0 ∨ 0 < n) ∧ getN i acc l = (((acc + n * 128 ^ i : Nat) : Int), ((i + (putN n).length : Nat) : Int), 0)) ∨ getN i acc l = (0, 0, 20) ∨ getN i acc l = (0, 0, 21) := by
  induction l with
  | nil => intro i acc _ _; exact .inr (.inl rfl)
  | cons c t ih =>
    intro i acc hB hi
    have hc := hB c (by simp)
    by_cases h1 : i = 9 ∧ c > 1
    · exact .inr (.inr (by simp only [getN, if_pos h1]))
    · by_cases h2 : c < 128
      · by_cases h3 : c = 0 ∧ 0 < i
        · exact .inr (.inr (by simp only [getN, if_neg h1, if_pos h2, if_pos h3]))
        · refine .inl ⟨c.toNat, t, ?_, ?_, by omega, ?_⟩
          · rw [putN_lt (by omega)]
            simp
            omega
          · rcases Nat.lt_or_ge i 9 with h4 | h4
            · have h5 : 128 ^ 1 ≤ 128 ^ (9 - i) := Nat.pow_le_pow_right (by decide) (by omega)
              omega
            · obtain rfl : i = 9 := by omega
              simp
              omega
          · simp only [getN, if_neg h1, if_pos h2, if_neg h3]
            rw [putN_lt (by omega)]
            rfl
      · have h4 : i < 9 := by omega
        have e : getN i acc (c :: t) = getN (i + 1) (acc + (c.toNat - 128) * 128 ^ i) t := by simp only [getN, if_neg h1, if_neg h2]
        rw [e]
        rcases ih (i + 1) (acc + (c.toNat - 128) * 128 ^ i) (fun x hx => hB x (by simp [hx])) (by omega) with ⟨n, more, h5, h6, h7, h8⟩ | h5 | h5
        · refine .inl ⟨(c.toNat - 128) + 128 * n, more, ?_, ?_, by omega, ?_⟩
          · rw [putN_ge (by omega), h5]
            rw [show (c.toNat - 128 + 128 * n) / 128 = n from by omega, show (c.toNat - 128 + 128 * n) % 128 + 128 = c.toNat from by omega]
            simp
            omega
          · have h9 : 128 ^ (9 - i) = 128 ^ (9 - (i + 1)) * 128 := by rw [← Nat.pow_succ]; congr 1; omega
            rw [h9]
            omega
          · rw [h8, putN_ge (n := c.toNat - 128 + 128 * n) (by omega), show (c.toNat - 128 + 128 * n) / 128 = n from by omega]
            have e2 : (c.toNat - 128 + 128 * n) * 128 ^ i = (c.toNat - 128) * 128 ^ i + n * 128 ^ (i + 1) := by rw [Nat.add_mul, Nat.pow_succ]; congr 1; rw [Nat.mul_comm 128 n, Nat.mul_assoc, Nat.mul_comm 128]
            rw [e2, List.length_cons]
            have e3 : acc + (c.toNat - 128) * 128 ^ i + n * 128 ^ (i + 1) = acc + ((c.toNat - 128) * 128 ^ i + n * 128 ^ (i + 1)) := by omega
            have e4 : i + 1 + (putN n).length = i + ((putN n).length + 1) := by omega
            rw [e3, e4]
        · exact .inr (.inl h5)
        · exact .inr (.inr h5)
/-- What reads was so written: from the start. -/
theorem get_is0 {l : List Int} (hB : AllB l) : (∃ n more, l = putN n ++ more ∧ n < 18446744073709551616 ∧ getN 0 0 l = ((n : Int), ((putN n).length : Int), 0)) ∨ getN 0 0 l = (0, 0, 20) ∨ getN 0 0 l = (0, 0, 21) := by
  rcases get_is l 0 0 hB (by omega) with ⟨n, more, h1, h2, _, h3⟩ | h | h
  · refine .inl ⟨n, more, h1, Nat.lt_of_lt_of_le h2 (by decide), ?_⟩
    rw [h3]
    simp
  · exact .inr (.inl h)
  · exact .inr (.inr h)
theorem get_put0 {n : Nat} (h : n < 18446744073709551616) (more : List Int) : getN 0 0 (putN n ++ more) = ((n : Int), ((putN n).length : Int), 0) := by
  rw [get_put n 0 0 more (by simpa using h) (.inl rfl)]
  simp
theorem get_cut0 {n m : Nat} (h : n < 18446744073709551616) (hm : m < (putN n).length) : getN 0 0 ((putN n).take m) = (0, 0, 20) := get_cut n 0 0 m (by simpa using h) hm


/-! ### whether a term may be -/
mutual
def parts : S38 → Nat
  | ⟨_, _, _, l⟩ => 1 + partsL l
def partsL : List S38 → Nat
  | [] => 0
  | x :: t => parts x + partsL t
end
mutual
def depth : S38 → Nat
  | ⟨_, _, _, l⟩ => 1 + depthL l
def depthL : List S38 → Nat
  | [] => 0
  | x :: t => max (depth x) (depthL t)
end
/-- The shape of a term by itself. -/
def one (n f : Int) (s : ByteArray) (len : Nat) : Bool :=
  if n = 1 ∨ n = 3 then decide (bytesOf s = [] ∧ len = 0) else if n = 2 then decide (f = 0 ∧ s.size ≤ 4000 ∧ len = 0) else if n = 4 then decide (bytesOf s = [] ∧ len = 1) else if n = 5 then decide (f = 0 ∧ bytesOf s = []) else false
mutual
def shp : S38 → Bool
  | ⟨n, f, s, l⟩ => one n f s l.length && shpL l
def shpL : List S38 → Bool
  | [] => true
  | x :: t => shp x && shpL t
end
theorem str_nil_iff {s : ByteArray} : bytesOf s = [] ↔ s = ByteArray.empty := ⟨fun h => bytesOf_inj (by rw [h]; rfl), fun h => by rw [h]; rfl⟩
theorem beqd (a b : Int) : (a == b) = decide (a = b) := by rw [Bool.eq_iff_iff, beq_iff_eq, decide_eq_true_eq]
theorem parts_eq (x : S38) : parts x = 1 + partsL x.f3 := by cases x; rw [parts]; rfl
theorem depth_eq (x : S38) : depth x = 1 + depthL x.f3 := by cases x; rw [depth]; rfl
theorem shp_eq (x : S38) : shp x = (one x.f0 x.f1 x.f2 x.f3.length && shpL x.f3) := by cases x; rw [shp]; rfl
theorem shp_mk (n f : Int) (s : ByteArray) (l : List S38) : shp (S38.mk n f s l) = (one n f s l.length && shpL l) := by rw [shp]
theorem parts_pos (x : S38) : 1 ≤ parts x := by rw [parts_eq]; omega
theorem depth_pos (x : S38) : 1 ≤ depth x := by rw [depth_eq]; omega
def rightT (x : S38) : Int := if 4000 < parts x then 23 else if 12 < depth x then 22 else if shp x = true then 0 else 25

theorem right_is {x : S38} (hr : rightT x = 0) : parts x ≤ 4000 ∧ depth x ≤ 12 ∧ shp x = true := by
  unfold rightT at hr
  split at hr
  · simp at hr
  · split at hr
    · simp at hr
    · split at hr
      · rename_i c1 c2 c3
        exact ⟨by omega, by omega, c3⟩
      · simp at hr


/-! ### bytes of terms -/
/-- The first bytes of a term: its sort, and the number behind it, and an atom's own bytes. -/
def hd (n f : Int) (s : ByteArray) (len : Nat) : List Int :=
  (n % 256) :: (if n = 1 ∨ n = 3 ∨ n = 4 then putN f.toNat else if n = 2 then putN s.size ++ bytesOf s else if n = 5 then putN len else [])
mutual
def encT : S38 → List Int
  | ⟨n, f, s, l⟩ => hd n f s l.length ++ encL l
def encL : List S38 → List Int
  | [] => []
  | x :: t => encT x ++ encL t
end
theorem encT_eq (x : S38) : encT x = hd x.f0 x.f1 x.f2 x.f3.length ++ encL x.f3 := by cases x; rw [encT]; rfl
theorem encT_mk (n f : Int) (s : ByteArray) (l : List S38) : encT (S38.mk n f s l) = hd n f s l.length ++ encL l := by rw [encT]
theorem hd_B (n f : Int) (s : ByteArray) (len : Nat) : AllB (hd n f s len) := by
  unfold hd
  refine AllB.cons (by omega) ?_
  split
  · exact putN_B _
  · split
    · exact (putN_B _).app (AllB.of_bytes s)
    · split
      · exact putN_B _
      · exact AllB.nil
theorem encL_B (l : List S38) (ih : ∀ y ∈ l, AllB (encT y)) : AllB (encL l) := by
  induction l with
  | nil => rw [encL]; exact AllB.nil
  | cons x t iht =>
    rw [encL]
    exact (ih x (by simp)).app (iht (fun y hy => ih y (by simp [hy])))
theorem encT_B {x : S38} (h : okT x) : AllB (encT x) := by
  induction h with
  | @mk x h0 h1 h2 h3 h4 h5 ih =>
    rw [encT_eq]
    exact (hd_B _ _ _ _).app (encL_B _ ih)
theorem hd_len {n f : Int} {s : ByteArray} {len : Nat} (h0 : 0 ≤ f ∧ f < 18446744073709551616) (h1 : len ≤ 2513169434843) (h : one n f s len = true) : (hd n f s len).length ≤ 4011 := by
  unfold hd
  unfold one at h
  rw [List.length_cons]
  have e1 : (putN f.toNat).length ≤ 10 := putN_len10 (by omega)
  have e2 : (putN len).length ≤ 10 := putN_len10 (by omega)
  split
  · omega
  · rename_i c
    split
    · rename_i c2
      rw [if_neg (by omega), if_pos c2, decide_eq_true_eq] at h
      have e3 : (putN s.size).length ≤ 10 := putN_len10 (by omega)
      rw [List.length_append, bytesOf_length]
      omega
    · split
      · omega
      · simp
theorem encL_len (l : List S38) (ih : ∀ y ∈ l, shp y = true → (encT y).length ≤ parts y * 4011) (h : shpL l = true) : (encL l).length ≤ partsL l * 4011 := by
  induction l with
  | nil => rw [encL]; simp
  | cons x t iht =>
    rw [shpL, Bool.and_eq_true] at h
    rw [encL, partsL, List.length_append]
    have a := ih x (by simp) h.1
    have b := iht (fun y hy => ih y (by simp [hy])) h.2
    omega
theorem encT_len {x : S38} (h : okT x) (hs : shp x = true) : (encT x).length ≤ parts x * 4011 := by
  revert hs
  induction h with
  | @mk x h0 h1 h2 h3 h4 h5 ih =>
    intro hs
    rw [shp_eq, Bool.and_eq_true] at hs
    rw [encT_eq, parts_eq, List.length_append]
    have a := hd_len (wf_u64 h1) (by omega) hs.1
    have b := encL_len _ ih hs.2
    omega
theorem right_len {x : S38} (h : okT x) (hr : rightT x = 0) : (encT x).length ≤ 16044000 := by
  unfold rightT at hr
  split at hr
  · simp at hr
  · split at hr
    · simp at hr
    · split at hr
      · rename_i c1 c2 c3
        have := encT_len h c3
        omega
      · simp at hr
/-- The bytes of a term, and why there are none. -/
def encode (x : S38) : ByteArray × Int := if rightT x = 0 then (strOf (encT x), 0) else (ByteArray.empty, rightT x)


/-! ### boxes: what is so -/
abbrev T5 := Int × Int × ByteArray × List S38 × Int × Unit
def okE (t : S38) : Option T5 := some (S38.f0 t, S38.f1 t, S38.f2 t, S38.f3 t, 0, ())
def erT (e : Int) : Option T5 := some (0, 0, ByteArray.empty, [], e, ())
def boxT (k : Int) (t : S38) : S38 := S38.mk 4 k ByteArray.empty [t]
def sealV (k : Int) (t : S38) : Option T5 := if rightT t = 0 then (if rightT (boxT k t) = 0 then okE (boxT k t) else erT (rightT (boxT k t))) else erT (rightT t)
def openV (k : Int) (t : S38) : Option T5 := if rightT t = 0 then (if S38.f0 t = 4 then (if S38.f1 t = k then okE (rd S38.z (S38.f3 t) 0) else erT 31) else erT 30) else erT (rightT t)
theorem okT.box {k : Int} {t : S38} (hk : (Lit.int .u64 k).wf = true) (h : okT t) : okT (boxT k t) :=
  okT.mk (show (Lit.int .i64 4).wf = true by decide) hk (show ByteArray.empty.size ≤ 140737488351232 by decide) (by show 1 * 56 ≤ _; omega) (by show 1 ≤ _; simp [maxLen]) (fun y hy => by rw [boxT] at hy; rw [List.mem_singleton.1 hy]; exact h)
theorem right_in {t x : S38} (h : rightT t = 0) (hx : x ∈ S38.f3 t) : rightT x = 0 := by
  obtain ⟨h1, h2, h3⟩ := right_is h
  rw [parts_eq] at h1
  rw [depth_eq] at h2
  rw [shp_eq, Bool.and_eq_true] at h3
  have key : ∀ l : List S38, x ∈ l → parts x ≤ partsL l ∧ depth x ≤ depthL l ∧ (shpL l = true → shp x = true) := by
    intro l
    induction l with
    | nil => intro hx; cases hx
    | cons y l ih =>
      intro hx
      simp only [partsL, depthL, shpL, Bool.and_eq_true]
      cases hx with
      | head => exact ⟨by omega, by omega, fun h => h.1⟩
      | tail _ hx => obtain ⟨q1, q2, q3⟩ := ih hx; exact ⟨by omega, by omega, fun h => q3 h.2⟩
  obtain ⟨q1, q2, q3⟩ := key _ hx
  unfold rightT
  rw [if_neg (by omega), if_neg (by omega), if_pos (q3 h3.2)]
theorem box_one {t : S38} (h : rightT t = 0) (h4 : S38.f0 t = 4) : (S38.f3 t).length = 1 ∧ S38.f2 t = ByteArray.empty := by
  obtain ⟨_, _, h3⟩ := right_is h
  rw [shp_eq, Bool.and_eq_true] at h3
  have := h3.1
  simp only [one, h4] at this
  simp [str_nil_iff] at this
  exact ⟨this.2, this.1⟩
theorem box_is {t : S38} (h : rightT t = 0) (h4 : S38.f0 t = 4) : ∃ x, t = boxT (S38.f1 t) x ∧ rd S38.z (S38.f3 t) 0 = x ∧ x ∈ S38.f3 t := by
  obtain ⟨h1, h2⟩ := box_one h h4
  cases t with
  | mk k n s l =>
    match l, h1 with
    | [x], _ =>
      have h4 : k = 4 := h4
      have h2 : s = ByteArray.empty := h2
      subst h4; subst h2
      exact ⟨x, rfl, rfl, List.mem_singleton.2 rfl⟩

/-! ### how large terms are -/
structure Fine (x : S38) (p d l : Nat) : Prop where
  p : parts x ≤ p
  d : depth x ≤ d
  s : shp x = true
  l : (encT x).length ≤ l
structure FineL (x : List S38) (p d l : Nat) : Prop where
  p : partsL x ≤ p
  d : depthL x ≤ d
  s : shpL x = true
  l : (encL x).length ≤ l
theorem Fine.mono {x : S38} {p d l p' d' l' : Nat} (h : Fine x p d l) (hp : p ≤ p') (hd : d ≤ d') (hl : l ≤ l') : Fine x p' d' l' := ⟨by have := h.p; omega, by have := h.d; omega, h.s, by have := h.l; omega⟩
theorem FineL.nil (d : Nat) : FineL [] 0 d 0 := ⟨by rw [partsL]; omega, by rw [depthL]; omega, by rw [shpL], by rw [encL]; simp⟩
theorem FineL.cons {x : S38} {t : List S38} {p d l p' l' : Nat} (h : Fine x p d l) (ht : FineL t p' d l') : FineL (x :: t) (p + p') d (l + l') := by
  refine ⟨?_, ?_, ?_, ?_⟩
  · rw [partsL]; have := h.p; have := ht.p; omega
  · rw [depthL]; have := h.d; have := ht.d; omega
  · rw [shpL, h.s, ht.s]; rfl
  · rw [encL, List.length_append]; have := h.l; have := ht.l; omega
theorem FineL.map {α : Type} (f : α → S38) {p d l : Nat} : ∀ (xs : List α), (∀ y ∈ xs, Fine (f y) p d l) → FineL (xs.map f) (xs.length * p) d (xs.length * l)
  | [], _ => by simpa using FineL.nil d
  | y :: ys, h => by
    have := FineL.cons (h y (by simp)) (FineL.map f ys (fun z hz => h z (by simp [hz])))
    rw [List.map_cons, List.length_cons, Nat.succ_mul, Nat.succ_mul, Nat.add_comm _ p, Nat.add_comm _ l]
    exact this
theorem Fine.num {n : Int} (k : Nat) (h0 : 0 ≤ n) (h1 : n.toNat < 128 ^ k) (hk : 1 ≤ k) (h2 : n < 18446744073709551616) : Fine (numT n) 1 1 (1 + k) := by
  have := putN_len k n.toNat h1 hk
  refine ⟨by simp [numT, parts, partsL], by simp [numT, depth, depthL], by simp [numT, shp, shpL, one, bytesOf_empty], ?_⟩
  simp only [numT, encT_mk, hd, encL, wrap_u64 h0 h2, List.length_append, List.length_cons, List.length_nil]
  simp only [true_or, if_true]; omega
theorem Fine.atom {s : ByteArray} (h : s.size ≤ 127) : Fine (atomT s) 1 1 (2 + s.size) := by
  refine ⟨by simp [atomT, parts, partsL], by simp [atomT, depth, depthL], by simp [atomT, shp, shpL, one]; omega, ?_⟩
  simp only [atomT, encT_mk, hd, encL]
  rw [if_neg (by decide), if_pos trivial, putN_lt (by omega)]
  simp only [List.length_append, List.length_cons, List.length_nil, bytesOf_length]; omega
theorem Fine.key {k : Int} (hk : (Lit.int .u64 k).wf = true) : Fine (keyT k) 1 1 11 := by
  have := putN_len10 (n := k.toNat) (by have := wf_u64 hk; omega)
  refine ⟨by simp [keyT, parts, partsL], by simp [keyT, depth, depthL], by simp [keyT, shp, shpL, one, bytesOf_empty], ?_⟩
  simp only [keyT, encT_mk, hd, encL, List.length_append, List.length_cons, List.length_nil]
  simp only [true_or, or_true, if_true]; omega
theorem Fine.row {l : List S38} {p d n : Nat} (hl : l.length ≤ 127) (h : FineL l p d n) : Fine (rowT l) (1 + p) (1 + d) (2 + n) := by
  refine ⟨?_, ?_, ?_, ?_⟩
  · rw [rowT, parts]; have := h.p; omega
  · rw [rowT, depth]; have := h.d; omega
  · rw [rowT, shp, h.s]; simp [one, bytesOf_empty]
  · rw [rowT, encT_mk, List.length_append]
    have := h.l
    simp only [hd]
    rw [if_neg (by decide), if_neg (by decide), if_pos trivial, putN_lt (by omega)]
    simp only [List.length_cons, List.length_nil]; omega
theorem Fine.box {x : S38} {k : Int} (hk : (Lit.int .u64 k).wf = true) {p d n : Nat} (h : Fine x p d n) : Fine (boxT k x) (1 + p) (1 + d) (11 + n) := by
  have := putN_len10 (n := k.toNat) (by have := wf_u64 hk; omega)
  refine ⟨?_, ?_, ?_, ?_⟩
  · rw [boxT, parts, partsL, partsL]; have := h.p; omega
  · rw [boxT, depth, depthL, depthL]; have := h.d; omega
  · rw [boxT, shp, shpL, shpL, h.s]; simp [one, bytesOf_empty]
  · rw [boxT, encT_mk, List.length_append, encL, encL, List.append_nil]
    have := h.l
    simp only [hd]
    rw [if_pos (by decide), List.length_cons]; omega
theorem Fine.right {x : S38} {p d n : Nat} (h : Fine x p d n) (hp : p ≤ 4000) (hd : d ≤ 12) : rightT x = 0 := by
  have := h.p; have := h.d
  unfold rightT
  rw [if_neg (by omega), if_neg (by omega), if_pos h.s]

abbrev bigL : Nat := 2513169434843
theorem parts_l (l : List S38) (hl : l.length ≤ bigL) (ih : ∀ x ∈ l, ∀ m : Nat, 1 ≤ m → m ≤ 1000000 → F127_term_parts (S38.f0 x) (S38.f1 x) (S38.f2 x) (S38.f3 x) (m : Int) = some (((min (parts x) m : Nat) : Int), ())) (m : Nat) (hm : m ≤ 1000000) : ∀ k i n, l.length - i = k → i ≤ l.length → n ≤ m → 1 ≤ n →
    F127_term_parts_l1000003 (m : Int) (n : Int) l (l.length : Int) (i : Int) = some (((min (n + partsL (l.drop i)) m : Nat) : Int), ()) := by
  intro k
  induction k with
  | zero =>
    intro i n hk hi hn h1
    rw [F127_term_parts_l1000003_eq, if_neg (by omega), List.drop_of_length_le (by omega)]
    exact oi_eq (by simp only [partsL]; omega)
  | succ k ihk =>
    intro i n hk hi hn h1
    simp only [bigL] at hl
    rw [F127_term_parts_l1000003_eq, if_pos (ilt (by omega)), if_pos (inb (by omega)), drop_rd (z := S38.z) (by omega : i < l.length)]
    by_cases c1 : m ≤ n
    · rw [if_pos (by omega)]
      exact oi_eq (by simp only [partsL]; omega)
    · rw [if_neg (by omega), w64 (by omega) (by omega), show (m : Int) - (n : Int) = ((m - n : Nat) : Int) by omega, rd_lt (by omega : i < l.length), ih _ (List.getElem_mem _) _ (by omega) (by omega), Option.bind_some, w64s (n := l.length) (by omega) (by omega)]
      generalize hp : parts l[i] = p
      have hp1 : 1 ≤ p := by rw [← hp]; exact parts_pos _
      rw [w64 (by omega) (by omega), show (n : Int) + ((min p (m - n) : Nat) : Int) = ((n + min p (m - n) : Nat) : Int) by omega, ihk (i + 1) _ (by omega) (by omega) (by omega) (by omega)]
      exact oi_eq (by simp only [partsL, hp]; omega)
theorem parts_f {x : S38} (h : okT x) : ∀ m : Nat, 1 ≤ m → m ≤ 1000000 → F127_term_parts (S38.f0 x) (S38.f1 x) (S38.f2 x) (S38.f3 x) (m : Int) = some (((min (parts x) m : Nat) : Int), ()) := by
  induction h with
  | @mk x h0 h1 h2 h3 h4 h5 ih =>
    intro m hm hm2
    rw [F127_term_parts_eq, parts_eq]
    exact parts_l (S38.f3 x) (by simp only [bigL]; omega) ih m hm2 _ 0 1 rfl (by omega) hm (by omega)
theorem deep_l (l : List S38) (hl : l.length ≤ bigL) (m : Nat) (hm : m ≤ 1000000) (hm2 : 2 ≤ m) (ih : ∀ x ∈ l, F128_term_deep (S38.f0 x) (S38.f1 x) (S38.f2 x) (S38.f3 x) ((m - 1 : Nat) : Int) = some (((min (depth x) (m - 1) : Nat) : Int), ())) : ∀ k i n, l.length - i = k → i ≤ l.length → n ≤ m - 1 →
    F128_term_deep_l1000004 (m : Int) (n : Int) l (l.length : Int) (i : Int) = some (((min (1 + max n (depthL (l.drop i))) m : Nat) : Int), ()) := by
  intro k
  induction k with
  | zero =>
    intro i n hk hi hn
    rw [F128_term_deep_l1000004_eq, if_neg (by omega), List.drop_of_length_le (by omega), w64 (by omega) (by omega)]
    exact oi_eq (by simp only [depthL]; omega)
  | succ k ihk =>
    intro i n hk hi hn
    simp only [bigL] at hl
    rw [F128_term_deep_l1000004_eq, if_pos (ilt (by omega)), if_pos (inb (by omega)), drop_rd (z := S38.z) (by omega : i < l.length), w64p (by omega) (by omega), rd_lt (by omega : i < l.length), ih _ (List.getElem_mem _), Option.bind_some, w64s (n := l.length) (by omega) (by omega)]
    generalize hp : depth l[i] = p
    rw [show mx (n : Int) ((min p (m - 1) : Nat) : Int) = ((max n (min p (m - 1)) : Nat) : Int) by unfold mx; split <;> omega, ihk (i + 1) _ (by omega) (by omega) (by omega)]
    exact oi_eq (by simp only [depthL, hp]; omega)
theorem deep_f {x : S38} (h : okT x) : ∀ m : Nat, 1 ≤ m → m ≤ 1000000 → F128_term_deep (S38.f0 x) (S38.f1 x) (S38.f2 x) (S38.f3 x) (m : Int) = some (((min (depth x) m : Nat) : Int), ()) := by
  induction h with
  | @mk x h0 h1 h2 h3 h4 h5 ih =>
    intro m hm hm2
    rw [F128_term_deep_eq, depth_eq]
    by_cases c1 : m = 1
    · rw [if_neg (by omega), w64 (by omega) (by omega)]
      exact oi_eq (by omega)
    · rw [if_pos (by omega)]
      have := deep_l (S38.f3 x) (by simp only [bigL]; omega) m hm2 (by omega) (fun y hy => ih y hy (m - 1) (by omega) (by omega)) _ 0 0 rfl (by omega) (by omega)
      rw [show F128_term_deep_l1000004 (m : Int) 0 (S38.f3 x) ((S38.f3 x).length : Int) 0 = _ from this]
      exact oi_eq (by simp only [List.drop_zero]; omega)
/-! shapes -/
theorem index_l (l : List S38) (hl : l.length ≤ bigL) (ih : ∀ x ∈ l, F129_term_shaped (S38.f0 x) (S38.f1 x) (S38.f2 x) (S38.f3 x) = some (shp x, ())) : ∀ k i, l.length - i = k → i ≤ l.length →
    ∃ n : Int, F185_slices_IndexFunc_157_l1000002 l (l.length : Int) (i : Int) = some (n, ()) ∧ (0 ≤ n ↔ shpL (l.drop i) = false) := by
  intro k
  induction k with
  | zero =>
    intro i hk hi
    rw [F185_slices_IndexFunc_157_l1000002_eq, if_neg (by omega), List.drop_of_length_le (by omega)]
    exact ⟨-1, rfl, by simp [shpL]⟩
  | succ k ihk =>
    intro i hk hi
    simp only [bigL] at hl
    rw [F185_slices_IndexFunc_157_l1000002_eq, if_pos (ilt (by omega)), if_pos (inb (by omega)), drop_rd (z := S38.z) (by omega : i < l.length), rd_lt (by omega : i < l.length), F157_term_shaped_1_eq, ih _ (List.getElem_mem _), Option.bind_some, Option.bind_some, w64s (n := l.length) (by omega) (by omega)]
    obtain ⟨n, q1, q2⟩ := ihk (i + 1) (by omega) (by omega)
    rw [q1]
    cases hs : shp l[i] with
    | true => exact ⟨n, by simp, by rw [q2]; simp [shpL, hs]⟩
    | false => exact ⟨i, by simp, by simp [shpL, hs]⟩
theorem shaped_f {x : S38} (h : okT x) : F129_term_shaped (S38.f0 x) (S38.f1 x) (S38.f2 x) (S38.f3 x) = some (shp x, ()) := by
  induction h with
  | @mk x h0 h1 h2 h3 h4 h5 ih =>
    have hb : ∀ b : Bool, F129_term_shaped_l12 b (S38.f0 x) (S38.f1 x) (S38.f2 x) (S38.f3 x) = some (b && shpL (S38.f3 x), ()) := by
      intro b
      obtain ⟨n, q1, q2⟩ := index_l (S38.f3 x) (by simp only [bigL]; omega) ih _ 0 rfl (by omega)
      rw [List.drop_zero] at q2
      rw [F129_term_shaped_l12_eq, F156_slices_ContainsFunc_157_eq, F185_slices_IndexFunc_157_eq, show F185_slices_IndexFunc_157_l1000002 (S38.f3 x) ((S38.f3 x).length : Int) 0 = _ from q1]
      cases b with
      | false => simp
      | true =>
        simp only [Option.bind_some, if_true, Bool.true_and]
        apply ob_eq
        · intro hh; cases hs : shpL (S38.f3 x) with
          | true => rfl
          | false => have := q2.2 hs; simp at hh; omega
        · intro hh; simp; by_cases c1 : 0 ≤ n
          · rw [q2.1 c1] at hh; cases hh
          · omega
    rw [F129_term_shaped_eq, shp_eq]
    simp only [hb]
    repeat' (refine ite_to (fun _ => ?_) (fun _ => ?_))
    all_goals (refine congrArg (fun b => some (b && shpL (S38.f3 x), ())) (Bool.eq_iff_iff.2 ?_) ; constructor <;> intro hh <;> simp only [one, str_nil_iff] at hh ⊢ <;> simp_all <;> omega)
theorem right_f {x : S38} (h : okT x) : F82_term_Right (S38.f0 x) (S38.f1 x) (S38.f2 x) (S38.f3 x) = some (rightT x, ()) := by
  have h1 := parts_f h 4001 (by omega) (by omega)
  have h2 := deep_f h 13 (by omega) (by omega)
  rw [F82_term_Right_eq, show F127_term_parts (S38.f0 x) (S38.f1 x) (S38.f2 x) (S38.f3 x) 4001 = _ from h1, show F128_term_deep (S38.f0 x) (S38.f1 x) (S38.f2 x) (S38.f3 x) 13 = _ from h2, shaped_f h]
  simp only [Option.bind_some]
  unfold rightT
  by_cases c1 : 4000 < parts x
  · rw [if_pos (by omega), if_pos c1]
  · rw [if_neg (by omega), if_neg c1]
    by_cases c2 : 12 < depth x
    · rw [if_pos (by omega), if_pos c2]
    · rw [if_neg (by omega), if_neg c2]
      cases shp x <;> simp
/-! ### boxes: what the code does -/
/-- Which answers there are. -/
theorem sealV_is {k : Int} {t : S38} (hk : (Lit.int .u64 k).wf = true) (h : okT t) : (sealV k t = okE (boxT k t) ∧ rightT t = 0 ∧ rightT (boxT k t) = 0) ∨ ∃ e, e ≠ 0 ∧ sealV k t = erT e := by
  unfold sealV
  by_cases c1 : rightT t = 0
  · rw [if_pos c1]
    by_cases c2 : rightT (boxT k t) = 0
    · rw [if_pos c2]; exact .inl ⟨rfl, c1, c2⟩
    · rw [if_neg c2]; exact .inr ⟨_, c2, rfl⟩
  · rw [if_neg c1]; exact .inr ⟨_, c1, rfl⟩
theorem openV_is {k : Int} {t : S38} (h : okT t) : (∃ x, openV k t = okE x ∧ rightT t = 0 ∧ t = boxT k x ∧ rightT x = 0 ∧ okT x) ∨ ∃ e, e ≠ 0 ∧ openV k t = erT e := by
  unfold openV
  by_cases c1 : rightT t = 0
  · rw [if_pos c1]
    by_cases c2 : S38.f0 t = 4
    · rw [if_pos c2]
      by_cases c3 : S38.f1 t = k
      · obtain ⟨x, e1, e2, e3⟩ := box_is c1 c2
        rw [if_pos c3, e2]
        exact .inl ⟨x, rfl, c1, by rw [← c3]; exact e1, right_in c1 e3, h.el x e3⟩
      · rw [if_neg c3]; exact .inr ⟨_, by decide, rfl⟩
    · rw [if_neg c2]; exact .inr ⟨_, by decide, rfl⟩
  · rw [if_neg c1]; exact .inr ⟨_, c1, rfl⟩

def t3 (r : Int × Int × Int) : Int × Int × Int × Unit := (r.1, r.2.1, r.2.2, ())
theorem u8_mod (n : Int) : IntKind.u8.wrap n = n % 256 := by rw [IntKind.wrap_u8]
/-! ### terms out of bytes -/
abbrev Rd (α : Type) := Except Int (α × List Int × Nat)
def rdL (f : List Int → Nat → Rd S38) : Nat → List Int → Nat → Rd (List S38)
  | 0, b, seen => .ok ([], b, seen)
  | m + 1, b, seen => match f b seen with
    | .error e => .error e
    | .ok (x, b', s') => match rdL f m b' s' with
      | .error e => .error e
      | .ok (l, b2, s2) => .ok (x :: l, b2, s2)
def bodyT (f : List Int → Nat → Rd S38) (c : Int) (n : Nat) (t : List Int) (seen : Nat) : Rd S38 :=
  if c = 1 ∨ c = 3 then .ok (⟨c, n, ByteArray.empty, []⟩, t, seen)
  else if c = 2 then (if 4000 < n then .error 25 else if t.length < n then .error 20 else .ok (⟨2, 0, strOf (t.take n), []⟩, t.drop n, seen))
  else match rdL f (if c = 4 then 1 else n) t seen with
    | .error e => .error e
    | .ok (l, b2, s2) => .ok (⟨c, if c = 4 then n else 0, ByteArray.empty, l⟩, b2, s2)
def headT (f : List Int → Nat → Rd S38) (b : List Int) (seen : Nat) : Rd S38 :=
  match b with
  | [] => .error 20
  | c :: t => if c < 1 ∨ 5 < c then .error 21 else if (getN 0 0 t).2.2 = 0 then bodyT f c (getN 0 0 t).1.toNat (t.drop (getN 0 0 t).2.1.toNat) (seen + 1) else .error (getN 0 0 t).2.2
def rdF : Nat → List Int → Nat → Rd S38
  | 0, b, seen => if 4000 ≤ seen then .error 23 else .error 22
  | D + 1, b, seen => if 4000 ≤ seen then .error 23 else headT (rdF D) b seen

theorem len_parts (l : List S38) : l.length ≤ partsL l := by
  induction l with
  | nil => simp
  | cons x t ih =>
    rw [partsL, List.length_cons]
    have := parts_pos x
    omega
/-- What is read, told of a term and of a row of terms. -/
structure Was (D : Nat) (b : List Int) (seen : Nat) (x : S38) (b' : List Int) (n : Nat) : Prop where
  enc : b = encT x ++ b'
  cnt : seen + parts x = n
  most : n ≤ 4000
  deep : depth x ≤ D
  shape : shp x = true
  ok : okT x
structure WasL (D : Nat) (b : List Int) (seen m : Nat) (l : List S38) (b' : List Int) (n : Nat) : Prop where
  enc : b = encL l ++ b'
  cnt : seen + partsL l = n
  most : n ≤ 4000
  deep : depthL l ≤ D
  shape : shpL l = true
  ok : ∀ y ∈ l, okT y
  len : l.length = m
theorem rdL_was {D : Nat} {f : List Int → Nat → Rd S38} (hf : ∀ b seen x b' n, AllB b → f b seen = .ok (x, b', n) → Was D b seen x b' n) (m : Nat) :
    ∀ b seen l b' n, AllB b → seen ≤ 4000 → rdL f m b seen = .ok (l, b', n) → WasL D b seen m l b' n := by
  induction m with
  | zero =>
    intro b seen l b' n hB hs h
    simp only [rdL, Except.ok.injEq, Prod.mk.injEq] at h
    obtain ⟨rfl, rfl, rfl⟩ := h
    exact ⟨by simp [encL], by simp [partsL], hs, by simp [depthL], by simp [shpL], by simp, rfl⟩
  | succ m ih =>
    intro b seen l b' n hB hs h
    rw [rdL] at h
    cases e1 : f b seen with
    | error e => rw [e1] at h; simp at h
    | ok r =>
      obtain ⟨x, b1, n1⟩ := r
      rw [e1] at h
      simp only at h
      have w1 := hf _ _ _ _ _ hB e1
      cases e2 : rdL f m b1 n1 with
      | error e => rw [e2] at h; simp at h
      | ok r =>
        obtain ⟨l1, b2, n2⟩ := r
        rw [e2] at h
        simp only [Except.ok.injEq, Prod.mk.injEq] at h
        obtain ⟨rfl, rfl, rfl⟩ := h
        have hB1 : AllB b1 := fun y hy => hB y (by rw [w1.enc]; simp [hy])
        have w2 := ih _ _ _ _ _ hB1 w1.most e2
        refine ⟨?_, ?_, w2.most, ?_, ?_, ?_, ?_⟩
        · rw [encL, List.append_assoc, ← w2.enc]; exact w1.enc
        · rw [partsL]; have := w1.cnt; have := w2.cnt; omega
        · rw [depthL]; have := w1.deep; have := w2.deep; omega
        · rw [shpL, w1.shape, w2.shape]; rfl
        · intro y hy
          rcases List.mem_cons.1 hy with rfl | hy
          · exact w1.ok
          · exact w2.ok y hy
        · rw [List.length_cons, w2.len]
theorem wf_nat {n : Nat} (h : n < 18446744073709551616) : (Lit.int .u64 (n : Int)).wf = true := by
  simp [Lit.wf, IntKind.min, IntKind.max, IntKind.bits, IntKind.signed]
  omega
theorem wf_kind {c : Int} (h : 1 ≤ c ∧ c ≤ 5) : (Lit.int .i64 c).wf = true := by
  simp [Lit.wf, IntKind.min, IntKind.max, IntKind.bits, IntKind.signed]
  omega
theorem rdF_was (D : Nat) : ∀ b seen x b' n, AllB b → rdF D b seen = .ok (x, b', n) → Was D b seen x b' n := by
  induction D with
  | zero =>
    intro b seen x b' n hB h
    rw [rdF] at h
    split at h <;> simp at h
  | succ D ih =>
    intro b seen x b' n hB h
    rw [rdF] at h
    split at h
    · simp at h
    · rename_i hs
      cases b with
      | nil => simp [headT] at h
      | cons c t =>
        rw [headT] at h
        split at h
        · simp at h
        · rename_i hc
          have hBt : AllB t := fun y hy => hB y (by simp [hy])
          rcases get_is0 hBt with ⟨k, more, h1, hk, h2⟩ | h2 | h2
          · rw [h2] at h
            simp only [if_true, Int.toNat_natCast] at h
            rw [show t.drop (putN k).length = more from by rw [h1]; simp] at h
            have hBm : AllB more := fun y hy => hBt y (by rw [h1]; simp [hy])
            have hcm : c % 256 = c := by omega
            unfold bodyT at h
            split at h
            · rename_i c13
              simp only [Except.ok.injEq, Prod.mk.injEq] at h
              obtain ⟨rfl, rfl, rfl⟩ := h
              refine ⟨?_, by rw [parts_eq]; simp [partsL], by omega, by rw [depth_eq]; simp [depthL], ?_, okT.leaf (wf_kind (by omega)) (wf_nat hk) (by simp [ByteArray.size])⟩
              · rw [encT_mk, hd, if_pos (show c = 1 ∨ c = 3 ∨ c = 4 by omega), hcm, h1]
                simp [encL]
              · rw [shp_mk, one, if_pos c13]
                simp [shpL, bytesOf_empty]
            · rename_i c13
              split at h
              · rename_i c2
                subst c2
                split at h
                · simp at h
                · rename_i hk2
                  split at h
                  · simp at h
                  · rename_i hk3
                    simp only [Except.ok.injEq, Prod.mk.injEq] at h
                    obtain ⟨rfl, rfl, rfl⟩ := h
                    have hsz : (strOf (more.take k)).size = k := by rw [size_str, List.length_take]; omega
                    refine ⟨?_, by rw [parts_eq]; simp [partsL], by omega, by rw [depth_eq]; simp [depthL], ?_, okT.leaf (wf_kind (by omega)) (by decide) (by rw [hsz]; omega)⟩
                    · rw [encT_mk, hd, if_neg (by simp), if_pos rfl]
                      simp only [hsz, bytesOf_str (hBm.take k), encL, List.append_nil]
                      rw [h1]
                      simp
                    · rw [shp_mk, one, if_neg (by simp), if_pos rfl]
                      simp only [hsz, shpL, Bool.and_true, decide_eq_true_eq]
                      exact ⟨trivial, by omega, rfl⟩
              · rename_i c2
                cases e1 : rdL (rdF D) (if c = 4 then 1 else k) more (seen + 1) with
                | error e => rw [e1] at h; simp at h
                | ok r =>
                  obtain ⟨l, b1, n1⟩ := r
                  rw [e1] at h
                  simp only [Except.ok.injEq, Prod.mk.injEq] at h
                  obtain ⟨rfl, rfl, rfl⟩ := h
                  have w := rdL_was ih _ _ _ _ _ _ hBm (by omega) e1
                  have hlen : l.length ≤ 4000 := by have := len_parts l; have := w.cnt; have := w.most; omega
                  refine ⟨?_, ?_, w.most, ?_, ?_, okT.mk (show (Lit.int .i64 c).wf = true from wf_kind (by omega)) (by show (Lit.int .u64 (if c = 4 then (k : Int) else 0)).wf = true; split; exact wf_nat hk; decide) (by simp [ByteArray.size]) (by show l.length * 56 ≤ _; omega) (by show l.length ≤ _; exact Nat.le_trans hlen (by decide)) w.ok⟩
                  · rw [encT_mk, hd, hcm]
                    by_cases c4 : c = 4
                    · rw [if_pos (by omega), if_pos c4, Int.toNat_natCast, h1, w.enc]
                      simp
                    · have hl := w.len
                      rw [if_neg c4] at hl
                      rw [if_neg (by omega), if_neg c2, if_pos (show c = 5 by omega), hl, h1, w.enc]
                      simp
                  · rw [parts_eq]; have := w.cnt; simp only [T_f0, T_f1, T_f2, T_f3]; omega
                  · rw [depth_eq]; have := w.deep; simp only [T_f0, T_f1, T_f2, T_f3]; omega
                  · rw [shp_mk, one]
                    simp only [if_neg c13, if_neg c2, w.shape, Bool.and_true]
                    have hl := w.len
                    by_cases c4 : c = 4
                    · rw [if_pos c4] at hl
                      simp [c4, hl, bytesOf_empty]
                    · simp only [if_neg c4, if_pos (show c = 5 by omega)]
                      simp [bytesOf_empty]
          · rw [h2] at h; simp at h
          · rw [h2] at h; simp at h
theorem rdL_reads {D : Nat} (l : List S38) (ih : ∀ y ∈ l, ∀ more seen, shp y = true → depth y ≤ D → seen + parts y ≤ 4000 → rdF D (encT y ++ more) seen = .ok (y, more, seen + parts y)) (hs : shpL l = true) (hd : depthL l ≤ D) :
    ∀ more seen, seen + partsL l ≤ 4000 → rdL (rdF D) l.length (encL l ++ more) seen = .ok (l, more, seen + partsL l) := by
  induction l with
  | nil => intro more seen _; simp [rdL, encL, partsL]
  | cons x t iht =>
    intro more seen hn
    rw [shpL, Bool.and_eq_true] at hs
    rw [depthL] at hd
    rw [partsL] at hn ⊢
    rw [encL, List.append_assoc, List.length_cons, rdL, ih x (by simp) _ _ hs.1 (by omega) (by omega)]
    simp only
    rw [iht (fun y hy => ih y (by simp [hy])) hs.2 (by omega) more (seen + parts x) (by omega)]
    simp only
    rw [Nat.add_assoc]
theorem one_kind {n f : Int} {s : ByteArray} {len : Nat} (h : one n f s len = true) : ((n = 1 ∨ n = 3) ∧ s = ByteArray.empty ∧ len = 0) ∨ (n = 2 ∧ f = 0 ∧ s.size ≤ 4000 ∧ len = 0) ∨ (n = 4 ∧ s = ByteArray.empty ∧ len = 1) ∨ (n = 5 ∧ f = 0 ∧ s = ByteArray.empty) := by
  unfold one at h
  simp only [str_nil_iff] at h
  split at h
  · rename_i c; exact .inl ⟨c, by simpa using h⟩
  · split at h
    · rename_i c; exact .inr (.inl ⟨c, by simpa using h⟩)
    · split at h
      · rename_i c; exact .inr (.inr (.inl ⟨c, by simpa using h⟩))
      · split at h
        · rename_i c; exact .inr (.inr (.inr ⟨c, by simpa using h⟩))
        · simp at h
theorem rdF_reads {x : S38} (h : okT x) : ∀ D more seen, shp x = true → depth x ≤ D → seen + parts x ≤ 4000 → rdF D (encT x ++ more) seen = .ok (x, more, seen + parts x) := by
  induction h with
  | @mk x h0 h1 h2 h3 h4 h5 ih =>
    intro D more seen hs hdp hn
    have hu := wf_u64 h1
    obtain ⟨f, hf⟩ : ∃ f : Nat, x.f1 = (f : Int) := ⟨x.f1.toNat, by omega⟩
    cases D with
    | zero => have := depth_pos x; omega
    | succ D =>
      rw [shp_eq, Bool.and_eq_true] at hs
      rw [depth_eq] at hdp
      rw [parts_eq] at hn ⊢
      have hl := rdL_reads (D := D) x.f3 (fun y hy more seen a b c => ih y hy D more seen a b c) hs.2 (by omega)
      rw [rdF, if_neg (by omega), encT_eq, hd]
      rcases one_kind hs.1 with ⟨c, e1, e2⟩ | ⟨c, e1, e2, e3⟩ | ⟨c, e1, e2⟩ | ⟨c, e1, e2⟩
      · have e3 : x.f3 = [] := List.length_eq_zero_iff.1 e2
        rw [if_pos (by omega), show x.f0 % 256 = x.f0 from by omega, hf, Int.toNat_natCast, List.append_assoc, List.cons_append, headT, if_neg (by omega), get_put0 (by omega)]
        simp only [if_true, Int.toNat_natCast]
        rw [bodyT, if_pos c, e3]
        simp only [encL, partsL, List.nil_append, List.drop_left']
        exact congrArg (fun y => Except.ok (y, more, seen + 1)) (show S38.mk (S38.f0 x) (f : Int) ByteArray.empty [] = x by rw [← hf, ← e1, ← e3, etaT])
      · have e4 : x.f3 = [] := List.length_eq_zero_iff.1 e3
        rw [if_neg (by omega), if_pos c, show x.f0 % 256 = 2 from by omega, List.append_assoc, List.cons_append, List.append_assoc, headT, if_neg (by omega), get_put0 (by omega)]
        simp only [if_true, Int.toNat_natCast]
        rw [bodyT, if_neg (by decide), if_pos rfl, if_neg (by omega), e4]
        have e5 : List.drop (putN x.f2.size).length (putN x.f2.size ++ (bytesOf x.f2 ++ (encL [] ++ more))) = bytesOf x.f2 ++ more := by simp [encL]
        rw [e5, if_neg (by rw [List.length_append, bytesOf_length]; omega), List.take_left' (bytesOf_length _), List.drop_left' (bytesOf_length _), str_bytesOf]
        simp only [partsL]
        exact congrArg (fun y => Except.ok (y, more, seen + 1)) (show S38.mk 2 0 (S38.f2 x) [] = x by rw [← c, ← e1, ← e4, etaT])
      · rw [if_pos (by omega), show x.f0 % 256 = x.f0 from by omega, hf, Int.toNat_natCast, List.append_assoc, List.cons_append, headT, if_neg (by omega), get_put0 (by omega)]
        simp only [if_true, Int.toNat_natCast]
        rw [bodyT, if_neg (by omega), if_neg (by omega), if_pos c, List.drop_left' rfl]
        have := hl more (seen + 1) (by omega)
        rw [e2] at this
        rw [this]
        simp only [if_pos c]
        rw [← hf, ← e1, etaT, Nat.add_assoc]
      · rw [if_neg (by omega), if_neg (by omega), if_pos c, show x.f0 % 256 = x.f0 from by omega, List.append_assoc, List.cons_append, headT, if_neg (by omega), get_put0 (by omega)]
        simp only [if_true, Int.toNat_natCast]
        rw [bodyT, if_neg (by omega), if_neg (by omega), if_neg (show ¬ x.f0 = 4 by omega), List.drop_left' rfl]
        rw [hl more (seen + 1) (by omega)]
        simp only [if_neg (show ¬ x.f0 = 4 by omega)]
        rw [← e1, ← e2, etaT, Nat.add_assoc]
theorem rdL_cut {D : Nat} (l : List S38) (ih : ∀ y ∈ l, ∀ m seen, shp y = true → depth y ≤ D → seen + parts y ≤ 4000 → m < (encT y).length → rdF D ((encT y).take m) seen = .error 20) (ho : ∀ y ∈ l, okT y) (hs : shpL l = true) (hd : depthL l ≤ D) :
    ∀ m seen, seen + partsL l ≤ 4000 → m < (encL l).length → rdL (rdF D) l.length ((encL l).take m) seen = .error 20 := by
  induction l with
  | nil => intro m seen _ hm; simp [encL] at hm
  | cons x t iht =>
    intro m seen hn hm
    rw [shpL, Bool.and_eq_true] at hs
    rw [depthL] at hd
    rw [partsL] at hn
    rw [encL, List.length_append] at hm
    rw [encL, List.length_cons, rdL, List.take_append]
    rcases Nat.lt_or_ge m (encT x).length with h | h
    · rw [show m - (encT x).length = 0 from by omega, List.take_zero, List.append_nil, ih x (by simp) m seen hs.1 (by omega) (by omega) h]
    · rw [List.take_of_length_le h, rdF_reads (ho x (by simp)) D _ _ hs.1 (by omega) (by omega)]
      simp only
      rw [iht (fun y hy => ih y (by simp [hy])) (fun y hy => ho y (by simp [hy])) hs.2 (by omega) (m - (encT x).length) (seen + parts x) (by omega) (by omega)]
theorem rdF_cut {x : S38} (h : okT x) : ∀ D m seen, shp x = true → depth x ≤ D → seen + parts x ≤ 4000 → m < (encT x).length → rdF D ((encT x).take m) seen = .error 20 := by
  induction h with
  | @mk x h0 h1 h2 h3 h4 h5 ih =>
    intro D m seen hs hdp hn hm
    have hu := wf_u64 h1
    obtain ⟨f, hf⟩ : ∃ f : Nat, x.f1 = (f : Int) := ⟨x.f1.toNat, by omega⟩
    cases D with
    | zero => have := depth_pos x; omega
    | succ D =>
      rw [shp_eq, Bool.and_eq_true] at hs
      rw [depth_eq] at hdp
      rw [parts_eq] at hn
      have hl := rdL_cut (D := D) x.f3 (fun y hy m seen a b c d => ih y hy D m seen a b c d) h5 hs.2 (by omega)
      rw [rdF, if_neg (by omega)]
      rw [encT_eq, hd] at hm ⊢
      cases m with
      | zero => rfl
      | succ m =>
        rw [List.cons_append, List.length_cons] at hm
        rw [List.cons_append, List.take_succ_cons]
        have num : ∀ (c : Int) (n : Nat) (rest : List Int), (1 ≤ c ∧ c ≤ 5) → n < 18446744073709551616 → m < (putN n ++ rest).length → (∀ j, j < rest.length → bodyT (rdF D) c n (rest.take j) (seen + 1) = .error 20) → headT (rdF D) (c :: (putN n ++ rest).take m) seen = .error 20 := by
          intro c n rest hc hn' hm' hb
          rw [headT, if_neg (by omega), List.take_append]
          rw [List.length_append] at hm'
          rcases Nat.lt_or_ge m (putN n).length with h | h
          · rw [show m - (putN n).length = 0 from by omega, List.take_zero, List.append_nil, get_cut0 hn' h]
            rfl
          · rw [List.take_of_length_le h, get_put0 hn']
            simp only [if_true, Int.toNat_natCast]
            rw [List.drop_left' rfl]
            exact hb _ (by omega)
        rcases one_kind hs.1 with ⟨c, e1, e2⟩ | ⟨c, e1, e2, e3⟩ | ⟨c, e1, e2⟩ | ⟨c, e1, e2⟩
        · have e3 : x.f3 = [] := List.length_eq_zero_iff.1 e2
          rw [if_pos (by omega), hf, Int.toNat_natCast, e3] at hm ⊢
          rw [show x.f0 % 256 = x.f0 from by omega]
          exact num _ _ _ (by omega) (by omega) (by omega) (fun j hj => by simp [encL] at hj)
        · have e4 : x.f3 = [] := List.length_eq_zero_iff.1 e3
          rw [if_neg (by omega), if_pos c, e4, List.append_assoc] at hm ⊢
          rw [show x.f0 % 256 = 2 from by omega]
          refine num _ _ _ (by omega) (by omega) (by omega) (fun j hj => ?_)
          rw [List.length_append, bytesOf_length] at hj
          simp only [encL, List.length_nil] at hj
          rw [bodyT, if_neg (by decide), if_pos rfl, if_neg (by omega), if_pos (by rw [List.length_take]; omega)]
        · rw [if_pos (by omega), hf, Int.toNat_natCast] at hm ⊢
          rw [show x.f0 % 256 = x.f0 from by omega]
          refine num _ _ _ (by omega) (by omega) (by omega) (fun j hj => ?_)
          rw [bodyT, if_neg (by omega), if_neg (by omega), if_pos c]
          have := hl j (seen + 1) (by omega) hj
          rw [e2] at this
          rw [this]
        · rw [if_neg (by omega), if_neg (by omega), if_pos c] at hm ⊢
          rw [show x.f0 % 256 = x.f0 from by omega]
          refine num _ _ _ (by omega) (by omega) (by omega) (fun j hj => ?_)
          rw [bodyT, if_neg (by omega), if_neg (by omega), if_neg (show ¬ x.f0 = 4 by omega), hl j (seen + 1) (by omega) hj]


theorem str_drop (l : List Int) (j : Nat) : (strOf l).extract j (strOf l).size = strOf (l.drop j) := by
  apply ByteArray.ext
  simp [strOf, List.map_drop, ByteArray.size]
  rw [List.take_of_length_le (by simp)]
theorem subS_drop (l : List Int) {i : Int} (j : Nat) (h : i = (j : Int)) : subS (strOf l) i ((strOf l).size : Int) = strOf (l.drop j) := by
  subst h; unfold subS; rw [Int.toNat_natCast, Int.toNat_natCast]; exact str_drop l j
theorem subS_take (l : List Int) {i : Int} (j : Nat) (h : i = (j : Int)) : subS (strOf l) 0 i = strOf (l.take j) := by
  subst h; unfold subS; rw [Int.toNat_natCast]; exact str_take l j
theorem bt_str {l : List Int} (h : AllB l) {j : Nat} (hj : j < l.length) : bt (strOf l) (j : Int) = l[j] := by
  rw [bt_eq (by rw [size_str]; exact hj)]
  have : bytesOf (strOf l) = l := bytesOf_str h
  simp only [this]
theorem str_empty_iff {l : List Int} (h : AllB l) : strOf l = ByteArray.empty ↔ l = [] := by
  rw [← str_nil_iff, bytesOf_str h]
/-- What both programs answer for a string. -/
def decode (b : List Int) : Int × Int × ByteArray × List S38 × Int × Unit :=
  match rdF 12 b 0 with
  | .ok (x, b', _) => if b' = [] then (S38.f0 x, S38.f1 x, S38.f2 x, S38.f3 x, 0, ()) else (0, 0, ByteArray.empty, [], 24, ())
  | .error e => (0, 0, ByteArray.empty, [], e, ())

/-! ### reading: the code -/
abbrev T7 := Int × Int × ByteArray × List S38 × Int × ByteArray × Int × Unit
def MeetsP (r : Rd S38) (a : Option T7) : Prop :=
  match r with
  | .ok (x, b', n) => a = some (S38.f0 x, S38.f1 x, S38.f2 x, S38.f3 x, 0, strOf b', (n : Int), ())
  | .error e => e ≠ 0 ∧ ∃ s' n', a = some (0, 0, ByteArray.empty, [], e, s', n', ())
def MeetsL (c0 c1 : Int) (c2 : ByteArray) (acc : List S38) (r : Rd (List S38)) (a : Option T7) : Prop :=
  match r with
  | .ok (l, b', n) => a = some (c0, c1, c2, acc ++ l, 0, strOf b', (n : Int), ())
  | .error e => e ≠ 0 ∧ ∃ s' n', a = some (0, 0, ByteArray.empty, [], e, s', n', ())
theorem u64_pred {m : Nat} (h : m + 1 < 18446744073709551616) : IntKind.u64.wrap (((m + 1 : Nat) : Int) - 1) = (m : Int) := by rw [wraps_u64 _ (by omega) (by omega)]; omega
theorem errNeL {f : List Int → Nat → Rd S38} {D : Nat} (hf : ∀ b seen e, AllB b → f b seen = .error e → e ≠ 0) (hw : ∀ b seen x b' n, AllB b → f b seen = .ok (x, b', n) → Was D b seen x b' n) (m : Nat) : ∀ b seen e, AllB b → rdL f m b seen = .error e → e ≠ 0 := by
  induction m with
  | zero => intro b seen e _ h; simp [rdL] at h
  | succ m ih =>
    intro b seen e hB h
    rw [rdL] at h
    cases e1 : f b seen with
    | error e' =>
      rw [e1] at h
      simp only [Except.error.injEq] at h
      subst h
      exact hf _ _ _ hB e1
    | ok r =>
      obtain ⟨x, b1, n1⟩ := r
      rw [e1] at h
      have w := hw _ _ _ _ _ hB e1
      have hB1 : AllB b1 := fun y hy => hB y (by rw [w.enc]; simp [hy])
      simp only at h
      cases e2 : rdL f m b1 n1 with
      | error e' =>
        rw [e2] at h
        simp only [Except.error.injEq] at h
        subst h
        exact ih _ _ _ hB1 e2
      | ok r => rw [e2] at h; simp at h
theorem errNe (D : Nat) : ∀ b seen e, AllB b → rdF D b seen = .error e → e ≠ 0 := by
  induction D with
  | zero =>
    intro b seen e _ h
    rw [rdF] at h
    split at h <;> (simp only [Except.error.injEq] at h; omega)
  | succ D ih =>
    intro b seen e hB h
    rw [rdF] at h
    split at h
    · simp only [Except.error.injEq] at h; omega
    · cases b with
      | nil => simp only [headT, Except.error.injEq] at h; omega
      | cons c t =>
        have hBt : AllB t := fun y hy => hB y (by simp [hy])
        rw [headT] at h
        split at h
        · simp only [Except.error.injEq] at h; omega
        · split at h
          · unfold bodyT at h
            split at h
            · simp at h
            · split at h
              · split at h
                · simp only [Except.error.injEq] at h; omega
                · split at h
                  · simp only [Except.error.injEq] at h; omega
                  · simp at h
              · cases q : rdL (rdF D) (if c = 4 then 1 else (getN 0 0 t).1.toNat) (t.drop (getN 0 0 t).2.1.toNat) (seen + 1) with
                | error e' =>
                  rw [q] at h
                  simp only [Except.error.injEq] at h
                  subst h
                  exact errNeL ih (rdF_was D) _ _ _ _ (hBt.drop _) q
                | ok r => rw [q] at h; simp at h
          · rename_i hne
            simp only [Except.error.injEq] at h
            subst h
            exact hne
/-- A decoded term: as it was, and all there is. -/
def okD (x : S38) : Int × Int × ByteArray × List S38 × Int × Unit := (S38.f0 x, S38.f1 x, S38.f2 x, S38.f3 x, 0, ())
def erD (e : Int) : Int × Int × ByteArray × List S38 × Int × Unit := (0, 0, ByteArray.empty, [], e, ())
theorem decode_is (s : ByteArray) : (∃ x, decode (bytesOf s) = okD x ∧ bytesOf s = encT x ∧ okT x ∧ rightT x = 0) ∨ ∃ e, e ≠ 0 ∧ decode (bytesOf s) = erD e := by
  unfold decode
  cases e : rdF 12 (bytesOf s) 0 with
  | error e' =>
    refine .inr ⟨e', ?_, rfl⟩
    intro he
    subst he
    exact absurd rfl (errNe 12 _ _ _ (AllB.of_bytes s) e)
  | ok r =>
    obtain ⟨x, b', n⟩ := r
    have w := rdF_was 12 _ _ _ _ _ (AllB.of_bytes s) e
    by_cases c : b' = []
    · refine .inl ⟨x, by simp only [if_pos c]; rfl, by rw [w.enc, c, List.append_nil], w.ok, ?_⟩
      have hc := w.cnt
      have hm := w.most
      have hdp := w.deep
      unfold rightT
      rw [if_neg (by omega), if_neg (by omega), if_pos w.shape]
    · exact .inr ⟨24, by decide, by simp only [if_neg c]; rfl⟩
theorem decode_enc {x : S38} (hx : okT x) (hr : rightT x = 0) : decode (bytesOf (strOf (encT x))) = okD x := by
  obtain ⟨p1, p2, p3⟩ := right_is hr
  unfold decode
  have := rdF_reads hx 12 [] 0 p3 p2 (by omega)
  rw [List.append_nil] at this
  rw [bytesOf_str (encT_B hx), this]
  simp only [if_true]; rfl

/-! ### packed boxes -/
theorem bindE {t : S38} {α : Type} (F : T5 → Option α) : (okE t).bind F = F (S38.f0 t, S38.f1 t, S38.f2 t, S38.f3 t, 0, ()) := rfl
theorem bindR {e : Int} {α : Type} (F : T5 → Option α) : (erT e).bind F = F (0, 0, ByteArray.empty, [], e, ()) := rfl
def packV (k : Int) (t : S38) : Option (ByteArray × Int × Unit) := if rightT t = 0 then (if rightT (boxT k t) = 0 then some (strOf (encT (boxT k t)), 0, ()) else some (ByteArray.empty, rightT (boxT k t), ())) else some (ByteArray.empty, rightT t, ())
def unpackV (k : Int) (s : ByteArray) : Option T5 := (some (decode (bytesOf s))).bind fun y => if ¬ y.2.2.2.2.1 = 0 then erT y.2.2.2.2.1 else openV k (S38.mk y.1 y.2.1 y.2.2.1 y.2.2.2.1)
theorem openV_some (k : Int) {t : S38} (h : okT t) : ∃ a b s l e, openV k t = some (a, b, s, l, e, ()) := by
  rcases openV_is (k := k) h with ⟨x, q, _⟩ | ⟨e, _, q⟩
  · exact ⟨_, _, _, _, _, q⟩
  · exact ⟨_, _, _, _, _, q⟩
/-- What is unpacked. -/
theorem unpackV_is (k : Int) (s : ByteArray) : (∃ x, unpackV k s = okE x ∧ bytesOf s = encT (boxT k x) ∧ okT x ∧ rightT x = 0) ∨ ∃ e, e ≠ 0 ∧ unpackV k s = erT e := by
  unfold unpackV
  simp only [Option.bind_some]
  rcases decode_is s with ⟨y, q, hb, ho, hr⟩ | ⟨e, he, q⟩
  · rw [q]
    simp only [okD, not_true_eq_false, if_false, etaT]
    rcases openV_is (k := k) ho with ⟨x, q2, _, e1, hx, hox⟩ | ⟨e, he, q2⟩
    · exact .inl ⟨x, q2, by rw [hb, e1], hox, hx⟩
    · exact .inr ⟨e, he, q2⟩
  · rw [q]
    exact .inr ⟨e, he, by simp [erD, he]⟩

/-! ### a node out of a term: what is so -/
abbrev at_ (x : S38) (i : Int) : S38 := rd S38.z (S38.f3 x) i
def isNumB (x : S38) : Bool := decide (S38.f0 x = 1) && decide (S38.f1 x ≤ 2147483647)
def verB (x : S38) : Bool := decide (S38.f0 x = 5) && (decide ((S38.f3 x).length = 3) && (isNumB (at_ x 0) && (decide (S38.f0 (at_ x 1) = 2) && decide (S38.f0 (at_ x 2) = 2))))
def toV (x : S38) : S98 := S98.mk (IntKind.i64.wrap (S38.f1 (at_ x 0))) (S38.f2 (at_ x 1)) (S38.f2 (at_ x 2))
def headB (x : S38) (k : Int) : Bool := decide (S38.f0 x = 5) && (decide (0 < (S38.f3 x).length) && decide (S38.f0 (at_ x 0) = k))
def entB (x : S38) : Bool := headB x 2 && ((S38.f3 x).drop 1).all verB
def toE (x : S38) : S96 := S96.mk (S38.f2 (at_ x 0)) (((S38.f3 x).drop 1).map toV)
def kidB (x : S38) : Bool := headB x 2 && (decide ((S38.f3 x).length = 5) && (decide (S38.f0 (at_ x 1) = 3) && (isNumB (at_ x 2) && (isNumB (at_ x 3) && isNumB (at_ x 4)))))
def toK (x : S38) : S100 := S100.mk (S38.f2 (at_ x 0)) (S38.f1 (at_ x 1)) (IntKind.i64.wrap (S38.f1 (at_ x 2))) (IntKind.i64.wrap (S38.f1 (at_ x 3))) (IntKind.i64.wrap (S38.f1 (at_ x 4)))
def leafB (x : S38) : Bool := decide (S38.f1 (at_ x 0) = 1)
def formB (x : S38) : Bool := headB x 1 && ((decide (S38.f1 (at_ x 0) = 1) || decide (S38.f1 (at_ x 0) = 2)) && ((S38.f3 x).drop 1).all (fun y => if leafB x = true then entB y else kidB y))
def ents (x : S38) : List S96 := if leafB x = true then ((S38.f3 x).drop 1).map toE else []
def kids (x : S38) : List S100 := if leafB x = true then [] else ((S38.f3 x).drop 1).map toK
theorem rd_drop1 (l : List S38) (i : Nat) : rd S38.z (l.drop 1) (i : Int) = rd S38.z l ((i + 1 : Nat) : Int) := by
  simp only [rd, Int.toNat_natCast, List.getD_eq_getElem?_getD, List.getElem?_drop, Nat.add_comm 1 i]

def quotaOk (a b c d e f g : Int) : Bool := decide (1 ≤ a ∧ a ≤ 64 ∧ 1 ≤ b ∧ b ≤ 16 ∧ 0 ≤ c ∧ c ≤ 32 ∧ 0 ≤ d ∧ d ≤ 16 ∧ 1 ≤ e ∧ e ≤ 4 ∧ 1 ≤ f ∧ f ≤ 8 ∧ 0 ≤ g ∧ g ≤ 32)
theorem q04 (a b c d e f g : Int) : F68_letheref04_Right a b c d e f g = some (quotaOk a b c d e f g, ()) := by
  rw [F68_letheref04_Right_eq]
  simp only [F68_letheref04_Right_l2_eq]
  repeat' (refine ite_to (fun _ => ?_) (fun _ => ?_))
  all_goals (apply ob_eq <;> intro hh <;> simp only [quotaOk, decide_eq_true_eq, Bool.false_eq_true] at hh ⊢ <;> omega)
theorem qin (x a b : Int) : F121_quota_in x a b = some (decide (a ≤ x ∧ x ≤ b), ()) := by
  rw [F121_quota_in_eq]
  refine ite_to (fun _ => ?_) (fun _ => ?_)
  all_goals (apply ob_eq <;> intro hh <;> simp only [decide_eq_true_eq, Bool.false_eq_true] at hh ⊢ <;> omega)
theorem q66 (a b c d e f g : Int) : F66_quota_Right a b c d e f g = some ((if quotaOk a b c d e f g = true then 0 else 40), ()) := by
  rw [F66_quota_Right_eq]
  simp only [F66_quota_Right_l3_eq, qin, Option.bind_some, decide_eq_true_eq]
  repeat' (refine ite_to (fun _ => ?_) (fun _ => ?_))
  · rw [if_pos (by simp only [quotaOk, decide_eq_true_eq]; omega)]
  all_goals rw [if_neg (by simp only [quotaOk, decide_eq_true_eq]; omega)]

/-! ### entries: what may be -/
def tooBig (c d : Int) (s t : ByteArray) : Int := if c < (s.size : Int) then 5 else if d < (t.size : Int) then 5 else 0
theorem tooBig_05 (c d : Int) (s t : ByteArray) : tooBig c d s t = 0 ∨ tooBig c d s t = 5 := by
  unfold tooBig; by_cases h1 : c < (s.size : Int) <;> by_cases h2 : d < (t.size : Int) <;> simp [h1, h2]
def versV (c d : Int) : Int → List S98 → Int
  | _, [] => 0
  | v, y :: ys => if S98.f0 y ≤ v then 50 else if 1073741824 < S98.f0 y then 50 else if tooBig c d (S98.f1 y) (S98.f2 y) = 0 then versV c d (S98.f0 y) ys else tooBig c d (S98.f1 y) (S98.f2 y)
theorem versV_cons (c d v : Int) (y : S98) (ys : List S98) : versV c d v (y :: ys) = if S98.f0 y ≤ v then 50 else if 1073741824 < S98.f0 y then 50 else if tooBig c d (S98.f1 y) (S98.f2 y) = 0 then versV c d (S98.f0 y) ys else tooBig c d (S98.f1 y) (S98.f2 y) := rfl
def namedV (a b c d e f g : Int) (s : ByteArray) (xs : List S98) : Int :=
  if quotaOk a b c d e f g = true then if s = ByteArray.empty then 4 else if b < (s.size : Int) then 5 else if e < (xs.length : Int) then 50 else versV c d 0 xs else 40
theorem texts_eq (a b c d e f g : Int) (s t : ByteArray) : F184_entry_texts a b c d e f g s t = some (tooBig c d s t, ()) := by
  rw [F184_entry_texts_eq]
  unfold tooBig
  repeat' (refine ite_to (fun h => ?_) (fun h => ?_))
  · rw [if_pos h]
  · rw [if_neg (by assumption), if_pos (by assumption)]
  · rw [if_neg (by assumption), if_neg (by assumption)]
theorem named_l (a b c d e f g : Int) (xs : List S98) (hx : xs.length ≤ 9223372036854775807) : ∀ (n i : Nat) (v : Int), xs.length - i = n → i ≤ xs.length →
    F153_entry_named_l1000011 v xs (xs.length : Int) (i : Int) a b c d e f g = some (versV c d v (xs.drop i), ()) := by
  intro n
  induction n with
  | zero =>
    intro i v hn hi
    rw [F153_entry_named_l1000011_eq, if_neg (by omega), List.drop_of_length_le (by omega)]; rfl
  | succ n ih =>
    intro i v hn hi
    rw [F153_entry_named_l1000011_eq, if_pos (ilt (by omega)), if_pos (inb (by omega)), texts_eq, Option.bind_some, drop_rd (z := S98.z) (by omega : i < xs.length), w64s (n := xs.length) (by omega) hx, ih (i + 1) _ (by omega) (by omega)]
    generalize rd S98.z xs (i : Int) = y
    rw [versV_cons]
    refine ite_to (fun h1 => by rw [if_pos h1]) (fun h1 => ?_)
    rw [if_neg h1]
    refine ite_to (fun h2 => by rw [if_pos h2]) (fun h2 => ?_)
    rw [if_neg h2]
    refine ite_to (fun h3 => by rw [if_neg h3]) (fun h3 => ?_)
    rw [if_pos (Decidable.not_not.1 h3)]
theorem ref_l (a b c d e f g : Int) (s : ByteArray) (xs : List S98) (hx : xs.length ≤ 9223372036854775807) : ∀ (n i : Nat) (v : Int), xs.length - i = n → i ≤ xs.length → (i = 0 → v = 0) → (0 < i → v = S98.f0 (rd S98.z xs ((i - 1 : Nat) : Int)) ∧ 1 ≤ v) →
    F154_letheref05_Named_l1000010 xs (xs.length : Int) (i : Int) a b c d e f g s xs = some (versV c d v (xs.drop i), ()) := by
  intro n
  induction n with
  | zero =>
    intro i v hn hi h0 h1
    rw [F154_letheref05_Named_l1000010_eq, if_neg (by omega), List.drop_of_length_le (by omega)]; rfl
  | succ n ih =>
    intro i v hn hi h0 h1
    rw [F154_letheref05_Named_l1000010_eq, if_pos (ilt (by omega)), if_pos (inb (by omega)), F154_letheref05_Named_l15_eq, drop_rd (z := S98.z) (by omega : i < xs.length), w64s (n := xs.length) (by omega) hx]
    generalize hy : rd S98.z xs (i : Int) = y
    rw [versV_cons]
    by_cases c1 : S98.f0 y < 1
    · rw [if_pos c1, if_pos]
      rcases Nat.eq_zero_or_pos i with q | q
      · rw [h0 q]; omega
      · have := (h1 q).2; omega
    · rw [if_neg c1]
      by_cases c2 : S98.f0 y ≤ v
      · rw [if_pos c2]
        refine ite_to (fun _ => rfl) (fun _ => ?_)
        rcases Nat.eq_zero_or_pos i with q | q
        · have := h0 q; omega
        · rw [if_pos (by omega), w64p q (by omega), if_pos (inb (by omega)), ← (h1 q).1, if_pos c2]
      · rw [if_neg c2]
        by_cases c3 : (1073741824 : Int) < S98.f0 y
        · rw [if_pos c3, if_pos c3]
        · rw [if_neg c3, if_neg c3, ih (i + 1) (S98.f0 y) (by omega) (by omega) (fun q => by omega) (fun _ => ⟨by rw [← hy]; rfl, by omega⟩)]
          have hr : (if c < ((S98.f1 y).size : Int) then some ((5 : Int), ()) else if d < ((S98.f2 y).size : Int) then some (5, ()) else some (versV c d (S98.f0 y) (xs.drop (i + 1)), ())) = some (if tooBig c d (S98.f1 y) (S98.f2 y) = 0 then versV c d (S98.f0 y) (xs.drop (i + 1)) else tooBig c d (S98.f1 y) (S98.f2 y), ()) := by
            unfold tooBig
            by_cases c4 : c < ((S98.f1 y).size : Int)
            · simp [c4]
            · by_cases c5 : d < ((S98.f2 y).size : Int)
              · simp [c4, c5]
              · simp [c4, c5]
          rcases Nat.eq_zero_or_pos i with q | q
          · rw [if_neg (by omega)]; exact hr
          · rw [if_pos (by omega), w64p q (by omega), if_pos (inb (by omega)), ← (h1 q).1, if_neg c2]; exact hr
theorem named_eq (a b c d e f g : Int) (s : ByteArray) (xs : List S98) (hx : xs.length ≤ 9223372036854775807) : F153_entry_named a b c d e f g s xs = some (namedV a b c d e f g s xs, ()) := by
  rw [F153_entry_named_eq, q66, Option.bind_some]
  unfold namedV
  cases quotaOk a b c d e f g with
  | false => simp
  | true =>
    simp only [if_true, not_true_eq_false, if_false]
    repeat' (refine ite_to (fun h => ?_) (fun h => ?_))
    · rw [if_pos h]
    · rw [if_neg (by assumption), if_pos h]
    · rw [if_neg (by assumption), if_neg (by assumption), if_pos h]
    · rw [if_neg (by assumption), if_neg (by assumption), if_neg h]
      exact named_l a b c d e f g xs hx xs.length 0 0 (by omega) (by omega)
theorem rnamed_eq (a b c d e f g : Int) (s : ByteArray) (xs : List S98) (hx : xs.length ≤ 9223372036854775807) : F154_letheref05_Named a b c d e f g s xs = some (namedV a b c d e f g s xs, ()) := by
  rw [F154_letheref05_Named_eq, q04, Option.bind_some]
  unfold namedV
  cases quotaOk a b c d e f g with
  | false => simp
  | true =>
    simp only [if_true, Bool.not_true, Bool.false_eq_true, if_false]
    repeat' (refine ite_to (fun h => ?_) (fun h => ?_))
    · rw [if_pos h]
    · rw [if_neg (by assumption), if_pos h]
    · rw [if_neg (by assumption), if_neg (by assumption), if_pos h]
    · rw [if_neg (by assumption), if_neg (by assumption), if_neg h]
      exact ref_l a b c d e f g s xs hx xs.length 0 0 (by omega) (by omega) (fun _ => rfl) (fun q => by omega)

def refOk (b c d : Int) : Bool := decide (0 ≤ b ∧ b ≤ 1048576 ∧ 0 ≤ c ∧ c ≤ 134217728 ∧ 1 ≤ d ∧ d ≤ 1048576)
theorem ref_eq (a b c d : Int) : F17_node_RefRight a b c d = some (refOk b c d, ()) ∧ F18_letheref06_RefRight a b c d = some (refOk b c d, ()) := by
  rw [F17_node_RefRight_eq, F18_letheref06_RefRight_eq]
  constructor
  all_goals repeat' (refine ite_to (fun _ => ?_) (fun _ => ?_))
  all_goals (apply ob_eq <;> intro hh <;> simp only [refOk, decide_eq_true_eq, Bool.false_eq_true] at hh ⊢ <;> omega)

/-! ### nodes: what may be -/
def rightV (a b c d e f g : Int) (s : ByteArray) (xs : List S98) : Int := if namedV a b c d e f g s xs = 0 then (if (xs.length : Int) = 0 then 50 else 0) else namedV a b c d e f g s xs
theorem eright_eq (a b c d e f g : Int) (s : ByteArray) (xs : List S98) (hx : xs.length ≤ 9223372036854775807) : F122_entry_Right a b c d e f g s xs = some (rightV a b c d e f g s xs, ()) := by
  rw [F122_entry_Right_eq, named_eq _ _ _ _ _ _ _ _ _ hx, Option.bind_some]
  unfold rightV
  refine ite_to (fun h => ?_) (fun h => ?_)
  · rw [if_pos h]
    refine ite_to (fun h2 => ?_) (fun h2 => ?_)
    · rw [if_pos h2]
    · rw [if_neg h2]; exact congrArg some (congrArg (·, ()) h)
  · rw [if_neg h]
theorem reright_eq (a b c d e f g : Int) (s : ByteArray) (xs : List S98) (hx : xs.length ≤ 9223372036854775807) : F123_letheref05_Right a b c d e f g s xs = some (rightV a b c d e f g s xs, ()) := by
  rw [F123_letheref05_Right_eq, rnamed_eq _ _ _ _ _ _ _ _ _ hx, Option.bind_some]
  unfold rightV
  refine ite_to (fun h => ?_) (fun h => ?_)
  · rw [if_pos h]
    refine ite_to (fun h2 => ?_) (fun h2 => ?_)
    · rw [if_pos h2]
    · rw [if_neg h2]; exact congrArg some (congrArg (·, ()) h)
  · rw [if_neg h]
def behind (p : Option ByteArray) (s : ByteArray) : Bool := match p with | none => true | some t => sLt t s
def leafV (a b c d e f g : Int) : Option ByteArray → List S96 → Int
  | _, [] => 0
  | p, y :: ys => if rightV a b c d e f g (S96.f0 y) (S96.f1 y) = 0 then (if behind p (S96.f0 y) = true then leafV a b c d e f g (some (S96.f0 y)) ys else 60) else rightV a b c d e f g (S96.f0 y) (S96.f1 y)
theorem leafV_cons (a b c d e f g : Int) (p : Option ByteArray) (y : S96) (ys : List S96) : leafV a b c d e f g p (y :: ys) = if rightV a b c d e f g (S96.f0 y) (S96.f1 y) = 0 then (if behind p (S96.f0 y) = true then leafV a b c d e f g (some (S96.f0 y)) ys else 60) else rightV a b c d e f g (S96.f0 y) (S96.f1 y) := rfl
def kidsV (b : Int) : Option ByteArray → List S100 → Int
  | _, [] => 0
  | p, y :: ys => if S100.f0 y = ByteArray.empty then 4 else if b < ((S100.f0 y).size : Int) then 5 else if refOk (S100.f2 y) (S100.f3 y) (S100.f4 y) = true then (if behind p (S100.f0 y) = true then kidsV b (some (S100.f0 y)) ys else 60) else 61
theorem kidsV_cons (b : Int) (p : Option ByteArray) (y : S100) (ys : List S100) : kidsV b p (y :: ys) = if S100.f0 y = ByteArray.empty then 4 else if b < ((S100.f0 y).size : Int) then 5 else if refOk (S100.f2 y) (S100.f3 y) (S100.f4 y) = true then (if behind p (S100.f0 y) = true then kidsV b (some (S100.f0 y)) ys else 60) else 61 := rfl
def nodeV (a b c d e f g : Int) (q : Bool) (xs : List S96) (ks : List S100) : Int :=
  if quotaOk a b c d e f g = true then
    (if q = true then (if (0 : Int) < (ks.length : Int) then 60 else if (4 : Int) < (xs.length : Int) then 60 else leafV a b c d e f g none xs)
     else (if (0 : Int) < (xs.length : Int) then 60 else if (ks.length : Int) < 2 then 60 else if (4 : Int) < (ks.length : Int) then 60 else kidsV b none ks))
  else 40
theorem prev_of {α : Type} {z : α} {n : α → ByteArray} {xs : List α} {i : Nat} {p : Option ByteArray} (h0 : i = 0 → p = none) (h1 : 0 < i → p = some (n (rd z xs ((i - 1 : Nat) : Int)))) (s : ByteArray) :
    behind p s = if (0 : Int) < (i : Int) then sLt (n (rd z xs ((i - 1 : Nat) : Int))) s else true := by
  rcases Nat.eq_zero_or_pos i with q | q
  · rw [h0 q, if_neg (by omega)]; rfl
  · rw [h1 q, if_pos (by omega)]; rfl
def EntryBound (y : S96) : Prop := List.length (α := S98) (S96.f1 y) ≤ 9223372036854775807
theorem leaf_l (a b c d e f g : Int) (q : Bool) (ks : List S100) (xs : List S96) (hx : xs.length ≤ 9223372036854775807) (hy : ∀ y ∈ xs, EntryBound y) : ∀ (n i : Nat) (p : Option ByteArray), xs.length - i = n → i ≤ xs.length → (i = 0 → p = none) → (0 < i → p = some (S96.f0 (rd S96.z xs ((i - 1 : Nat) : Int)))) →
    F67_node_leafRight_l1000004 xs (xs.length : Int) (i : Int) a b c d e f g q xs ks = some (leafV a b c d e f g p (xs.drop i), ()) ∧ F69_letheref06_leaf_l1000004 xs (xs.length : Int) (i : Int) a b c d e f g q xs ks = some (leafV a b c d e f g p (xs.drop i), ()) := by
  intro n
  induction n with
  | zero =>
    intro i p hn hi h0 h1
    rw [List.drop_of_length_le (by omega)]
    exact ⟨by rw [F67_node_leafRight_l1000004_eq, if_neg (by omega)]; rfl, by rw [F69_letheref06_leaf_l1000004_eq, if_neg (by omega)]; rfl⟩
  | succ n ih =>
    intro i p hn hi h0 h1
    have hb : EntryBound (rd S96.z xs (i : Int)) := by rw [rd_lt (by omega)]; exact hy _ (List.getElem_mem _)
    obtain ⟨p1, p2⟩ := ih (i + 1) (some (S96.f0 (rd S96.z xs (i : Int)))) (by omega) (by omega) (fun h => by omega) (fun _ => rfl)
    have hp := prev_of (n := S96.f0) h0 h1 (S96.f0 (rd S96.z xs (i : Int)))
    rw [F67_node_leafRight_l1000004_eq, F69_letheref06_leaf_l1000004_eq, if_pos (ilt (by omega)), if_pos (inb (by omega)), if_pos (ilt (by omega)), if_pos (inb (by omega)), eright_eq _ _ _ _ _ _ _ _ _ hb, reright_eq _ _ _ _ _ _ _ _ _ hb]
    simp only [Option.bind_some]
    rw [w64s (n := xs.length) (by omega) hx, p1, p2, drop_rd (z := S96.z) (by omega : i < xs.length), leafV_cons, hp]
    generalize rightV a b c d e f g (S96.f0 (rd S96.z xs (i : Int))) (S96.f1 (rd S96.z xs (i : Int))) = r
    by_cases c1 : r = 0
    · rcases Nat.eq_zero_or_pos i with hz | hz
      · subst hz; simp [c1]
      · have hi0 : (0 : Int) < (i : Int) := by omega
        have hpp : (0 : Int) ≤ ((i - 1 : Nat) : Int) ∧ ((i - 1 : Nat) : Int) < (xs.length : Int) := by omega
        rw [w64p hz (by omega)]
        simp only [if_pos hpp, if_pos hi0]
        cases sLt (S96.f0 (rd S96.z xs ((i - 1 : Nat) : Int))) (S96.f0 (rd S96.z xs (i : Int))) <;> simp [c1]
    · simp [c1]
theorem inner_l (a b c d e f g : Int) (q : Bool) (es : List S96) (xs : List S100) (hx : xs.length ≤ 9223372036854775807) : ∀ (n i : Nat) (p : Option ByteArray), xs.length - i = n → i ≤ xs.length → (i = 0 → p = none) → (0 < i → p = some (S100.f0 (rd S100.z xs ((i - 1 : Nat) : Int)))) →
    F15_node_Right_l1000008 xs (xs.length : Int) (i : Int) a b c d e f g q es xs = some (kidsV b p (xs.drop i), ()) ∧ F70_letheref06_inner_l1000004 xs (xs.length : Int) (i : Int) a b c d e f g q es xs = some (kidsV b p (xs.drop i), ()) := by
  intro n
  induction n with
  | zero =>
    intro i p hn hi h0 h1
    rw [List.drop_of_length_le (by omega)]
    exact ⟨by rw [F15_node_Right_l1000008_eq, if_neg (by omega)]; rfl, by rw [F70_letheref06_inner_l1000004_eq, if_neg (by omega)]; rfl⟩
  | succ n ih =>
    intro i p hn hi h0 h1
    obtain ⟨p1, p2⟩ := ih (i + 1) (some (S100.f0 (rd S100.z xs (i : Int)))) (by omega) (by omega) (fun h => by omega) (fun _ => rfl)
    have hp := prev_of (n := S100.f0) h0 h1 (S100.f0 (rd S100.z xs (i : Int)))
    obtain ⟨q1, q2⟩ := ref_eq (S100.f1 (rd S100.z xs (i : Int))) (S100.f2 (rd S100.z xs (i : Int))) (S100.f3 (rd S100.z xs (i : Int))) (S100.f4 (rd S100.z xs (i : Int)))
    rw [F15_node_Right_l1000008_eq, F70_letheref06_inner_l1000004_eq, if_pos (ilt (by omega)), if_pos (inb (by omega)), if_pos (ilt (by omega)), if_pos (inb (by omega)), q1, q2]
    simp only [Option.bind_some]
    rw [w64s (n := xs.length) (by omega) hx, p1, p2, drop_rd (z := S100.z) (by omega : i < xs.length), kidsV_cons, hp]
    by_cases c1 : S100.f0 (rd S100.z xs (i : Int)) = ByteArray.empty
    · simp [c1]
    · by_cases c2 : b < ((S100.f0 (rd S100.z xs (i : Int))).size : Int)
      · simp [c1, c2]
      · simp only [if_neg c1, if_neg c2]
        cases refOk (S100.f2 (rd S100.z xs (i : Int))) (S100.f3 (rd S100.z xs (i : Int))) (S100.f4 (rd S100.z xs (i : Int))) with
        | false => simp
        | true =>
          simp only [Bool.not_true, Bool.false_eq_true, if_false, if_true]
          rcases Nat.eq_zero_or_pos i with hz | hz
          · subst hz; simp
          · have hi0 : (0 : Int) < (i : Int) := by omega
            have hpp : (0 : Int) ≤ ((i - 1 : Nat) : Int) ∧ ((i - 1 : Nat) : Int) < (xs.length : Int) := by omega
            rw [w64p hz (by omega)]
            simp only [if_pos hpp, if_pos hi0]
            cases sLt (S100.f0 (rd S100.z xs ((i - 1 : Nat) : Int))) (S100.f0 (rd S100.z xs (i : Int))) <;> simp
theorem node_eq (a b c d e f g : Int) (q : Bool) (xs : List S96) (ks : List S100) (hx : xs.length ≤ 9223372036854775807) (hy : ∀ y ∈ xs, EntryBound y) (hk : ks.length ≤ 9223372036854775807) :
    F15_node_Right a b c d e f g q xs ks = some (nodeV a b c d e f g q xs ks, ()) ∧ F16_letheref06_Right a b c d e f g q xs ks = some (nodeV a b c d e f g q xs ks, ()) := by
  rw [F15_node_Right_eq, F16_letheref06_Right_eq, q66, q04]
  simp only [Option.bind_some]
  unfold nodeV
  cases quotaOk a b c d e f g with
  | false => exact ⟨by simp, by simp⟩
  | true =>
    simp only [if_true, not_true_eq_false, if_false, Bool.not_true, Bool.false_eq_true]
    cases q with
    | true =>
      simp only [if_true]
      obtain ⟨q1, q2⟩ := leaf_l a b c d e f g true ks xs hx hy xs.length 0 none (by omega) (by omega) (fun _ => rfl) (fun h => by omega)
      rw [F67_node_leafRight_eq, F69_letheref06_leaf_eq]
      rw [show F67_node_leafRight_l1000004 xs (List.length (α := S96) xs : Int) 0 a b c d e f g true xs ks = _ from q1, show F69_letheref06_leaf_l1000004 xs (List.length (α := S96) xs : Int) 0 a b c d e f g true xs ks = _ from q2]
      by_cases c1 : (0 : Int) < (ks.length : Int)
      · simp only [if_pos c1, Option.bind_some]; exact ⟨trivial, trivial⟩
      · by_cases c2 : (4 : Int) < (List.length (α := S96) xs : Int)
        · simp only [if_neg c1, if_pos c2, Option.bind_some]; exact ⟨trivial, trivial⟩
        · simp only [if_neg c1, if_neg c2, Option.bind_some]; exact ⟨rfl, rfl⟩
    | false =>
      simp only [Bool.false_eq_true, if_false]
      obtain ⟨q1, q2⟩ := inner_l a b c d e f g false xs ks hk ks.length 0 none (by omega) (by omega) (fun _ => rfl) (fun h => by omega)
      rw [F70_letheref06_inner_eq]
      rw [show F15_node_Right_l1000008 ks (ks.length : Int) 0 a b c d e f g false xs ks = _ from q1, show F70_letheref06_inner_l1000004 ks (ks.length : Int) 0 a b c d e f g false xs ks = _ from q2]
      by_cases c1 : (0 : Int) < (List.length (α := S96) xs : Int)
      · simp only [if_pos c1, Option.bind_some]; exact ⟨trivial, trivial⟩
      · by_cases c2 : (ks.length : Int) < (2 : Int)
        · simp only [if_neg c1, if_pos c2, Option.bind_some]; exact ⟨trivial, trivial⟩
        · by_cases c3 : (4 : Int) < (ks.length : Int)
          · simp only [if_neg c1, if_neg c2, if_pos c3, Option.bind_some]; exact ⟨trivial, trivial⟩
          · simp only [if_neg c1, if_neg c2, if_neg c3, Option.bind_some]; exact ⟨rfl, rfl⟩

/-! ### a node out of a term: what the code does -/
theorem ifb {α : Type} {p : Prop} [Decidable p] {a b : α} : (if p then a else b) = if decide p = true then a else b := by by_cases h : p <;> simp [h]
theorem subL1 {l : List S38} (h : 0 < l.length) : subL l 1 (l.length : Int) = l.drop 1 := subL_drop l (k := 1) rfl
/-- One version more. -/
abbrev N4 := Bool × List S96 × List S100 × Int × Unit
def endV (a b c d e f g : Int) (q : Bool) (bad : Bool) (es : List S96) (ks : List S100) : Option N4 :=
  if bad = true then some (false, [], [], 60, ()) else if nodeV a b c d e f g q es ks = 0 then some (q, es, ks, 0, ()) else some (false, [], [], nodeV a b c d e f g q es ks, ())
def pickB (q : Bool) (y : S38) : Bool := if q = true then entB y else kidB y
theorem node_r (a b c d e f g : Int) (q : Bool) (es : List S96) (ks : List S100) (h1 : es.length ≤ bigL) (h2 : ks.length ≤ bigL) (h3 : ∀ y ∈ es, EntryBound y) :
    (F15_node_Right a b c d e f g q es ks = some (nodeV a b c d e f g q es ks, ())) ∧ (F16_letheref06_Right a b c d e f g q es ks = some (nodeV a b c d e f g q es ks, ())) := by
  simp only [bigL] at h1 h2
  exact node_eq a b c d e f g q es ks (by omega) h3 (by omega)
/-- What both answer. -/
def fromV (a b c d e f g : Int) (t : S38) : Option N4 :=
  if quotaOk a b c d e f g = true then (if rightT t = 0 then endV a b c d e f g (leafB t) (!formB t) (ents t) (kids t) else some (false, [], [], rightT t, ())) else some (false, [], [], 40, ())
theorem okT.sub {t : S38} (h : okT t) : (S38.f3 t).length ≤ bigL ∧ ∀ x ∈ S38.f3 t, (S38.f3 x).length ≤ bigL := ⟨h.len, fun x hx => (h.el x hx).len⟩
theorem endV_bad (a b c d e f g : Int) (q q' : Bool) (es es' : List S96) (ks ks' : List S100) : endV a b c d e f g q true es ks = endV a b c d e f g q' true es' ks' := by simp [endV]
/-! the document's -/
theorem ents_b {t : S38} (h : okT t) : (ents t).length ≤ 9223372036854775807 ∧ (kids t).length ≤ 9223372036854775807 ∧ ∀ y ∈ ents t, EntryBound y := by
  obtain ⟨hs1, hs2⟩ := h.sub
  simp only [bigL] at hs1 hs2
  unfold ents kids
  cases leafB t with
  | true =>
    simp only [if_true]
    refine ⟨by rw [List.length_map, List.length_drop]; omega, by simp, fun y hy => ?_⟩
    obtain ⟨x, hx, rfl⟩ := List.mem_map.1 hy
    have := hs2 x (List.mem_of_mem_drop hx)
    show (((S38.f3 x).drop 1).map toV).length ≤ _
    rw [List.length_map, List.length_drop]; omega
  | false =>
    simp only [Bool.false_eq_true, if_false]
    exact ⟨by simp, by rw [List.length_map, List.length_drop]; omega, by simp⟩
theorem fromV_is (a b c d e f g : Int) {t : S38} : (fromV a b c d e f g t = some (leafB t, ents t, kids t, 0, ()) ∧ quotaOk a b c d e f g = true ∧ rightT t = 0 ∧ formB t = true ∧ nodeV a b c d e f g (leafB t) (ents t) (kids t) = 0) ∨ ∃ r, r ≠ 0 ∧ fromV a b c d e f g t = some (false, [], [], r, ()) := by
  unfold fromV
  by_cases c1 : quotaOk a b c d e f g = true
  · rw [if_pos c1]
    by_cases c2 : rightT t = 0
    · rw [if_pos c2]
      unfold endV
      cases hf : formB t with
      | false => exact .inr ⟨60, by decide, by simp⟩
      | true =>
        by_cases c3 : nodeV a b c d e f g (leafB t) (ents t) (kids t) = 0
        · exact .inl ⟨by simp [c3], c1, c2, rfl, c3⟩
        · exact .inr ⟨_, c3, by simp [c3]⟩
    · rw [if_neg c2]; exact .inr ⟨_, c2, rfl⟩
  · rw [if_neg c1]; exact .inr ⟨_, by decide, rfl⟩

/-! ### a node's term -/
def versT (v : S98) : S38 := rowT [numT (S98.f0 v), atomT (S98.f1 v), atomT (S98.f2 v)]
def entryT (e : S96) : S38 := rowT (atomT (S96.f0 e) :: (S96.f1 e).map versT)
def kidT (k : S100) : S38 := rowT [atomT (S100.f0 k), keyT (S100.f1 k), numT (S100.f2 k), numT (S100.f3 k), numT (S100.f4 k)]
def nodeT (q : Bool) (xs : List S96) (ks : List S100) : S38 := if q = true then rowT (numT 1 :: xs.map entryT) else rowT (numT 2 :: ks.map kidT)
theorem Tn.vers (v : S98) : Tn (versT v) := Tn.row (by simp) (fun x hx => by
  simp only [List.mem_cons, List.not_mem_nil, or_false] at hx
  rcases hx with h | h | h <;> subst h
  · exact Tn.num _
  · exact Tn.atom _
  · exact Tn.atom _)
theorem Tn.kid (k : S100) : Tn (kidT k) := Tn.row (by simp) (fun x hx => by
  simp only [List.mem_cons, List.not_mem_nil, or_false] at hx
  rcases hx with h | h | h | h | h <;> subst h
  · exact Tn.atom _
  · exact Tn.key _
  all_goals exact Tn.num _)
theorem Tn.entry {e : S96} (h : List.length (α := S98) (S96.f1 e) ≤ 100) : Tn (entryT e) := Tn.row (by simp; omega) (fun x hx => by
  rw [List.mem_cons, List.mem_map] at hx
  rcases hx with h | ⟨v, _, h⟩ <;> subst h
  · exact Tn.atom _
  · exact Tn.vers _)
theorem Tn.node (q : Bool) (xs : List S96) (ks : List S100) (hx : xs.length ≤ 100) (hk : ks.length ≤ 100) (h : ∀ e ∈ xs, List.length (α := S98) (S96.f1 e) ≤ 100) : Tn (nodeT q xs ks) := by
  unfold nodeT
  split
  · refine Tn.row (by simp; omega) (fun x hx => ?_)
    rw [List.mem_cons, List.mem_map] at hx
    rcases hx with e | ⟨v, hv, e⟩ <;> subst e
    · exact Tn.num _
    · exact Tn.entry (h v hv)
  · refine Tn.row (by simp; omega) (fun x hx => ?_)
    rw [List.mem_cons, List.mem_map] at hx
    rcases hx with e | ⟨v, hv, e⟩ <;> subst e
    · exact Tn.num _
    · exact Tn.kid _
/-- What the code puts together. -/
theorem tnum (n : Int) : F72_node_number n = ofT (numT n) := by rw [F72_node_number_eq, F92_term_Num_eq]; rfl
theorem tvers (v : S98) : F76_node_Term_1_1 (S98.f0 v) (S98.f1 v) (S98.f2 v) = ofT (versT v) := by
  rw [F76_node_Term_1_1_eq, tnum, tatom, tatom]
  simp only [ofT, Option.bind_some, term_eta]
  rw [tof (by simp) (by
    intro x hx
    simp only [List.mem_cons, List.not_mem_nil, or_false] at hx
    rcases hx with h | h | h <;> subst h
    · exact Tn.num _
    · exact Tn.atom _
    · exact Tn.atom _)]
  rfl
theorem tkid (k : S100) : F79_node_Term_2 (S100.f0 k) (S100.f1 k) (S100.f2 k) (S100.f3 k) (S100.f4 k) = ofT (kidT k) := by
  rw [F79_node_Term_2_eq, tatom, tkey, tnum, tnum, tnum]
  simp only [ofT, Option.bind_some, term_eta]
  rw [tof (by simp) (by
    intro x hx
    simp only [List.mem_cons, List.not_mem_nil, or_false] at hx
    rcases hx with h | h | h | h | h <;> subst h
    · exact Tn.atom _
    · exact Tn.key _
    all_goals exact Tn.num _)]
  rfl
theorem rowV_l (xs : List S98) (hx : xs.length ≤ 100) (a b : Int) (s : ByteArray) (g' : List S38) : ∀ (n i : Nat) (g : List S38), xs.length - i = n → i ≤ xs.length → g.length ≤ 1 + i → (∀ x ∈ g, Tn x) →
    F74_node_row_76_l1000003 xs (xs.length : Int) (i : Int) a b s g g' = ofT (rowT (g ++ (xs.drop i).map versT)) := by
  intro n
  induction n with
  | zero =>
    intro i g hn hi hg ht
    rw [F74_node_row_76_l1000003_eq, if_neg (by omega), List.drop_of_length_le (by omega), List.map_nil, List.append_nil, tof (by omega) ht]; rfl
  | succ n ih =>
    intro i g hn hi hg ht
    rw [F74_node_row_76_l1000003_eq, if_pos (ilt (by omega)), if_pos (inb (by omega)), tvers, drop_rd (z := S98.z) (by omega : i < xs.length), w64s (n := xs.length) (by omega) (by omega)]
    simp only [ofT, Option.bind_some, term_eta]
    rw [if_pos (by simp only [List.length_singleton]; omega), ih (i + 1) _ (by omega) (by omega) (by rw [List.length_append, List.length_singleton]; omega) (snoc_tn ht (Tn.vers _)), List.map_cons, List.append_assoc]
    rfl
theorem tentry (e : S96) (h : List.length (α := S98) (S96.f1 e) ≤ 100) : F73_node_Term_1 (S96.f0 e) (S96.f1 e) = ofT (entryT e) := by
  rw [F73_node_Term_1_eq, tatom]
  simp only [ofT, Option.bind_some]
  rw [F74_node_row_76_eq, term_eta]
  have := rowV_l _ h 0 0 ByteArray.empty [] _ 0 [atomT (S96.f0 e)] rfl (by omega) (by simp) (by intro x hx; rw [List.mem_singleton] at hx; rw [hx]; exact Tn.atom _)
  rw [show F74_node_row_76_l1000003 (S96.f1 e) (List.length (α := S98) (S96.f1 e) : Int) 0 0 0 ByteArray.empty [atomT (S96.f0 e)] [] = _ from this]
  rfl
theorem rowE_l (xs : List S96) (hx : xs.length ≤ 100) (he : ∀ e ∈ xs, List.length (α := S98) (S96.f1 e) ≤ 100) (a b : Int) (s : ByteArray) (g' : List S38) : ∀ (n i : Nat) (g : List S38), xs.length - i = n → i ≤ xs.length → g.length ≤ 1 + i → (∀ x ∈ g, Tn x) →
    F71_node_row_73_l1000003 xs (xs.length : Int) (i : Int) a b s g g' = ofT (rowT (g ++ (xs.drop i).map entryT)) := by
  intro n
  induction n with
  | zero =>
    intro i g hn hi hg ht
    rw [F71_node_row_73_l1000003_eq, if_neg (by omega), List.drop_of_length_le (by omega), List.map_nil, List.append_nil, tof (by omega) ht]; rfl
  | succ n ih =>
    intro i g hn hi hg ht
    have hb : List.length (α := S98) (S96.f1 (rd S96.z xs (i : Int))) ≤ 100 := by rw [rd_lt (by omega)]; exact he _ (List.getElem_mem _)
    rw [F71_node_row_73_l1000003_eq, if_pos (ilt (by omega)), if_pos (inb (by omega)), tentry _ hb, drop_rd (z := S96.z) (by omega : i < xs.length), w64s (n := xs.length) (by omega) (by omega)]
    simp only [ofT, Option.bind_some, term_eta]
    rw [if_pos (by simp only [List.length_singleton]; omega), ih (i + 1) _ (by omega) (by omega) (by rw [List.length_append, List.length_singleton]; omega) (snoc_tn ht (Tn.entry hb)), List.map_cons, List.append_assoc]
    rfl
theorem rowK_l (xs : List S100) (hx : xs.length ≤ 100) (a b : Int) (s : ByteArray) (g' : List S38) : ∀ (n i : Nat) (g : List S38), xs.length - i = n → i ≤ xs.length → g.length ≤ 1 + i → (∀ x ∈ g, Tn x) →
    F78_node_row_79_l1000003 xs (xs.length : Int) (i : Int) a b s g g' = ofT (rowT (g ++ (xs.drop i).map kidT)) := by
  intro n
  induction n with
  | zero =>
    intro i g hn hi hg ht
    rw [F78_node_row_79_l1000003_eq, if_neg (by omega), List.drop_of_length_le (by omega), List.map_nil, List.append_nil, tof (by omega) ht]; rfl
  | succ n ih =>
    intro i g hn hi hg ht
    rw [F78_node_row_79_l1000003_eq, if_pos (ilt (by omega)), if_pos (inb (by omega)), tkid, drop_rd (z := S100.z) (by omega : i < xs.length), w64s (n := xs.length) (by omega) (by omega)]
    simp only [ofT, Option.bind_some, term_eta]
    rw [if_pos (by simp only [List.length_singleton]; omega), ih (i + 1) _ (by omega) (by omega) (by rw [List.length_append, List.length_singleton]; omega) (snoc_tn ht (Tn.kid _)), List.map_cons, List.append_assoc]
    rfl
/-- A node's term, of both. -/
def termV (a b c d e f g : Int) (q : Bool) (xs : List S96) (ks : List S100) : Option (Int × Int × ByteArray × List S38 × Int × Unit) :=
  if nodeV a b c d e f g q xs ks = 0 then some (S38.f0 (nodeT q xs ks), S38.f1 (nodeT q xs ks), S38.f2 (nodeT q xs ks), S38.f3 (nodeT q xs ks), 0, ()) else some (0, 0, ByteArray.empty, [], nodeV a b c d e f g q xs ks, ())
theorem named_n {a b c d e f g : Int} {s : ByteArray} {xs : List S98} (h : rightV a b c d e f g s xs = 0) : (xs.length : Int) ≤ 4 := by
  unfold rightV at h
  by_cases c1 : namedV a b c d e f g s xs = 0
  · unfold namedV at c1
    by_cases c2 : quotaOk a b c d e f g = true
    · have he : e ≤ 4 := by simp only [quotaOk, decide_eq_true_eq] at c2; omega
      rw [if_pos c2] at c1
      by_cases c3 : s = ByteArray.empty
      · rw [if_pos c3] at c1; omega
      · rw [if_neg c3] at c1
        by_cases c4 : b < (s.size : Int)
        · rw [if_pos c4] at c1; omega
        · rw [if_neg c4] at c1
          by_cases c5 : e < (xs.length : Int)
          · rw [if_pos c5] at c1; omega
          · omega
    · rw [if_neg c2] at c1; omega
  · rw [if_neg c1] at h; exact absurd h c1
theorem leaf_n {a b c d e f g : Int} : ∀ {xs : List S96} {p : Option ByteArray}, leafV a b c d e f g p xs = 0 → ∀ y ∈ xs, rightV a b c d e f g (S96.f0 y) (S96.f1 y) = 0
  | [], _, _, y, hy => by cases hy
  | x :: xs, p, h, y, hy => by
    rw [leafV_cons] at h
    by_cases c1 : rightV a b c d e f g (S96.f0 x) (S96.f1 x) = 0
    · rw [if_pos c1] at h
      by_cases c2 : behind p (S96.f0 x) = true
      · rw [if_pos c2] at h
        cases hy with
        | head => exact c1
        | tail _ hy => exact leaf_n h y hy
      · rw [if_neg c2] at h; omega
    · rw [if_neg c1] at h; exact absurd h c1
theorem node_n {a b c d e f g : Int} {q : Bool} {xs : List S96} {ks : List S100} (h : nodeV a b c d e f g q xs ks = 0) : xs.length ≤ 4 ∧ ks.length ≤ 4 ∧ ∀ y ∈ xs, List.length (α := S98) (S96.f1 y) ≤ 4 := by
  unfold nodeV at h
  by_cases c1 : quotaOk a b c d e f g = true
  · rw [if_pos c1] at h
    cases q with
    | true =>
      rw [if_pos rfl] at h
      by_cases c2 : (0 : Int) < (ks.length : Int)
      · rw [if_pos c2] at h; omega
      · rw [if_neg c2] at h
        by_cases c3 : (4 : Int) < (xs.length : Int)
        · rw [if_pos c3] at h; omega
        · rw [if_neg c3] at h
          exact ⟨by omega, by omega, fun y hy => by have := named_n (leaf_n h y hy); omega⟩
    | false =>
      rw [if_neg (by simp)] at h
      by_cases c2 : (0 : Int) < (xs.length : Int)
      · rw [if_pos c2] at h; omega
      · rw [if_neg c2] at h
        by_cases c3 : (ks.length : Int) < 2
        · rw [if_pos c3] at h; omega
        · rw [if_neg c3] at h
          by_cases c4 : (4 : Int) < (ks.length : Int)
          · rw [if_pos c4] at h; omega
          · exact ⟨by omega, by omega, fun y hy => by rw [List.eq_nil_of_length_eq_zero (l := xs) (by omega)] at hy; cases hy⟩
  · rw [if_neg c1] at h; omega
theorem nterm_c (a b c d e f g : Int) (q : Bool) (xs : List S96) (ks : List S100) (hx : xs.length ≤ 9223372036854775807) (hy : ∀ y ∈ xs, EntryBound y) (hk : ks.length ≤ 9223372036854775807) :
    F21_node_Term a b c d e f g q xs ks = termV a b c d e f g q xs ks := by
  obtain ⟨q1, q2⟩ := node_eq a b c d e f g q xs ks hx hy hk
  rw [F21_node_Term_eq, q1]
  simp only [Option.bind_some]
  unfold termV
  by_cases c1 : nodeV a b c d e f g q xs ks = 0
  · obtain ⟨n1, n2, n3⟩ := node_n c1
    have n3' : ∀ y ∈ xs, List.length (α := S98) (S96.f1 y) ≤ 100 := fun y hy => by have := n3 y hy; omega
    have hc : ¬ ¬ nodeV a b c d e f g q xs ks = 0 := fun h => h c1
    rw [if_neg hc, if_pos c1]
    rw [tnum, tnum]
    simp only [ofT, Option.bind_some]
    unfold nodeT
    cases q with
    | true =>
      rw [if_pos rfl, if_pos rfl, F71_node_row_73_eq, term_eta]
      have := rowE_l xs (by omega) n3' 0 0 ByteArray.empty [] _ 0 [numT 1] rfl (by omega) (by simp) (by intro x hx; rw [List.mem_singleton] at hx; rw [hx]; exact Tn.num _)
      rw [show F71_node_row_73_l1000003 xs (List.length (α := S96) xs : Int) 0 0 0 ByteArray.empty [numT 1] [] = _ from this]
      rfl
    | false =>
      rw [if_neg (by simp), if_neg (by simp), F78_node_row_79_eq, term_eta]
      have := rowK_l ks (by omega) 0 0 ByteArray.empty [] _ 0 [numT 2] rfl (by omega) (by simp) (by intro x hx; rw [List.mem_singleton] at hx; rw [hx]; exact Tn.num _)
      rw [show F78_node_row_79_l1000003 ks (List.length (α := S100) ks : Int) 0 0 0 ByteArray.empty [numT 2] [] = _ from this]
      rfl
  · rw [if_pos c1, if_neg c1]

/-! ### what a law's nodes are known to be -/
def EntOk (y : S96) : Prop := (S96.f0 y).size ≤ 140737488351232 ∧ ∀ v ∈ S96.f1 y, (S98.f1 v).size ≤ 140737488351232 ∧ (S98.f2 v).size ≤ 140737488351232
def KidOk (y : S100) : Prop := (S100.f0 y).size ≤ 140737488351232 ∧ (Lit.int .u64 (S100.f1 y)).wf = true
theorem ents_ok {xs : List S96} (h : Ok tab Pr (.sl 96 (.st 96)) xs) : ∀ y ∈ xs, EntryBound y ∧ EntOk y := by
  intro y hy
  obtain ⟨i, hi, e⟩ := List.getElem_of_mem hy
  have h0 := (Ok.inv h).2.2 i xs[i] 0 ⟨.str, xs[i].f0⟩ (List.getElem?_eq_getElem hi) rfl
  have h1 := (Ok.inv h).2.2 i xs[i] 1 ⟨.sl 98 (.st 98), xs[i].f1⟩ (List.getElem?_eq_getElem hi) rfl
  rw [e] at h0 h1
  refine ⟨sl_len h1, Ok.inv h0, fun v hv => ?_⟩
  obtain ⟨j, hj, e2⟩ := List.getElem_of_mem hv
  have g1 := (Ok.inv h1).2.2 j y.f1[j] 1 ⟨.str, y.f1[j].f1⟩ (List.getElem?_eq_getElem hj) rfl
  have g2 := (Ok.inv h1).2.2 j y.f1[j] 2 ⟨.str, y.f1[j].f2⟩ (List.getElem?_eq_getElem hj) rfl
  rw [e2] at g1 g2
  exact ⟨Ok.inv g1, Ok.inv g2⟩
theorem kids_ok {xs : List S100} (h : Ok tab Pr (.sl 100 (.st 100)) xs) : ∀ y ∈ xs, KidOk y := by
  intro y hy
  obtain ⟨i, hi, e⟩ := List.getElem_of_mem hy
  have h0 := (Ok.inv h).2.2 i xs[i] 0 ⟨.str, xs[i].f0⟩ (List.getElem?_eq_getElem hi) rfl
  have h1 := (Ok.inv h).2.2 i xs[i] 1 ⟨.int .u64, xs[i].f1⟩ (List.getElem?_eq_getElem hi) rfl
  rw [e] at h0 h1
  exact ⟨Ok.inv h0, Ok.inv h1⟩
theorem okT.vers {v : S98} (h : (S98.f1 v).size ≤ 140737488351232 ∧ (S98.f2 v).size ≤ 140737488351232) : okT (versT v) := okT.row (by simp) (fun x hx => by
  simp only [List.mem_cons, List.not_mem_nil, or_false] at hx
  rcases hx with e | e | e <;> subst e
  · exact okT.num _
  · exact okT.atom h.1
  · exact okT.atom h.2)
theorem okT.kid {y : S100} (h : KidOk y) : okT (kidT y) := okT.row (by simp) (fun x hx => by
  simp only [List.mem_cons, List.not_mem_nil, or_false] at hx
  rcases hx with e | e | e | e | e <;> subst e
  · exact okT.atom h.1
  · exact okT.key h.2
  all_goals exact okT.num _)
theorem okT.entry {y : S96} (h : EntOk y) (hn : List.length (α := S98) (S96.f1 y) ≤ 100) : okT (entryT y) := okT.row (by simp; omega) (fun x hx => by
  rw [List.mem_cons, List.mem_map] at hx
  rcases hx with e | ⟨v, hv, e⟩ <;> subst e
  · exact okT.atom h.1
  · exact okT.vers (h.2 v hv))
theorem okT.node {q : Bool} {xs : List S96} {ks : List S100} (hx : ∀ y ∈ xs, EntOk y) (hk : ∀ y ∈ ks, KidOk y) (n1 : xs.length ≤ 4) (n2 : ks.length ≤ 4) (n3 : ∀ y ∈ xs, List.length (α := S98) (S96.f1 y) ≤ 4) : okT (nodeT q xs ks) := by
  unfold nodeT
  split
  · refine okT.row (by simp; omega) (fun x hm => ?_)
    rw [List.mem_cons, List.mem_map] at hm
    rcases hm with e | ⟨y, hy, e⟩ <;> subst e
    · exact okT.num _
    · exact okT.entry (hx y hy) (by have := n3 y hy; omega)
  · refine okT.row (by simp; omega) (fun x hm => ?_)
    rw [List.mem_cons, List.mem_map] at hm
    rcases hm with e | ⟨y, hy, e⟩ <;> subst e
    · exact okT.num _
    · exact okT.kid (hk y hy)

/-! ### nodes sealed and opened: the code -/
def sealN (a b c d e f g k : Int) (q : Bool) (xs : List S96) (ks : List S100) : Option (ByteArray × Int × Unit) := if nodeV a b c d e f g q xs ks = 0 then packV k (nodeT q xs ks) else some (ByteArray.empty, nodeV a b c d e f g q xs ks, ())
def openN (a b c d e f g k : Int) (s : ByteArray) : Option N4 := if quotaOk a b c d e f g = true then (unpackV k s).bind fun y => if ¬ y.2.2.2.2.1 = 0 then some (false, [], [], y.2.2.2.2.1, ()) else fromV a b c d e f g (S38.mk y.1 y.2.1 y.2.2.1 y.2.2.2.1) else some (false, [], [], 40, ())
theorem packV_some (k : Int) (t : S38) : ∃ r e, packV k t = some (r, e, ()) := by
  unfold packV
  by_cases c1 : rightT t = 0
  · rw [if_pos c1]
    by_cases c2 : rightT (boxT k t) = 0
    · rw [if_pos c2]; exact ⟨_, _, rfl⟩
    · rw [if_neg c2]; exact ⟨_, _, rfl⟩
  · rw [if_neg c1]; exact ⟨_, _, rfl⟩
theorem fromV_some (a b c d e f g : Int) (t : S38) : ∃ q es ks r, fromV a b c d e f g t = some (q, es, ks, r, ()) := by
  rcases fromV_is a b c d e f g (t := t) with ⟨q, _⟩ | ⟨r, _, q⟩
  · exact ⟨_, _, _, _, q⟩
  · exact ⟨_, _, _, _, q⟩
/-- What is opened. -/
theorem openN_is (a b c d e f g k : Int) (s : ByteArray) : (∃ x, openN a b c d e f g k s = some (leafB x, ents x, kids x, 0, ()) ∧ bytesOf s = encT (boxT k x) ∧ okT x ∧ rightT x = 0 ∧ formB x = true ∧ nodeV a b c d e f g (leafB x) (ents x) (kids x) = 0) ∨ ∃ r, r ≠ 0 ∧ openN a b c d e f g k s = some (false, [], [], r, ()) := by
  unfold openN
  by_cases c1 : quotaOk a b c d e f g = true
  · rw [if_pos c1]
    rcases unpackV_is k s with ⟨x, q, hb, ho, hr⟩ | ⟨e, he, q⟩
    · rw [q, bindE, if_neg (by simp), etaT]
      rcases fromV_is a b c d e f g (t := x) with ⟨q, _, _, hf, hn⟩ | ⟨r, h, q⟩
      · exact .inl ⟨x, q, hb, ho, hr, hf, hn⟩
      · exact .inr ⟨r, h, q⟩
    · rw [q, bindR, if_pos he]; exact .inr ⟨e, he, rfl⟩
  · rw [if_neg c1]; exact .inr ⟨40, by decide, rfl⟩

theorem vers_each (c d : Int) : ∀ (xs : List S98) (v : Int), versV c d v xs = 0 → 0 ≤ v → ∀ y ∈ xs, 0 < S98.f0 y ∧ S98.f0 y ≤ 1073741824 ∧ ((S98.f1 y).size : Int) ≤ c ∧ ((S98.f2 y).size : Int) ≤ d
  | [], _, _, _, y, hy => by cases hy
  | x :: xs, v, h, hv, y, hy => by
    rw [versV_cons] at h
    by_cases c1 : S98.f0 x ≤ v
    · rw [if_pos c1] at h; omega
    · rw [if_neg c1] at h
      by_cases c2 : 1073741824 < S98.f0 x
      · rw [if_pos c2] at h; omega
      · rw [if_neg c2] at h
        by_cases c3 : tooBig c d (S98.f1 x) (S98.f2 x) = 0
        · rw [if_pos c3] at h
          cases hy with
          | head =>
            unfold tooBig at c3
            by_cases c4 : c < ((S98.f1 x).size : Int)
            · rw [if_pos c4] at c3; omega
            · rw [if_neg c4] at c3
              by_cases c5 : d < ((S98.f2 x).size : Int)
              · rw [if_pos c5] at c3; omega
              · exact ⟨by omega, by omega, by omega, by omega⟩
          | tail _ hy => exact vers_each c d xs _ h (by omega) y hy
        · rw [if_neg c3] at h; exact absurd h c3
structure EntIs (b c d e : Int) (y : S96) : Prop where
  hb : ((S96.f0 y).size : Int) ≤ b
  he : ((S96.f1 y).length : Int) ≤ e
  hv : ∀ z ∈ S96.f1 y, 0 < S98.f0 z ∧ S98.f0 z ≤ 1073741824 ∧ ((S98.f1 z).size : Int) ≤ c ∧ ((S98.f2 z).size : Int) ≤ d
structure KidIs (b : Int) (y : S100) : Prop where
  hb : ((S100.f0 y).size : Int) ≤ b
  hr : refOk (S100.f2 y) (S100.f3 y) (S100.f4 y) = true
theorem right_ent {a b c d e f g : Int} {y : S96} (h : rightV a b c d e f g (S96.f0 y) (S96.f1 y) = 0) : EntIs b c d e y := by
  unfold rightV at h
  by_cases c0 : namedV a b c d e f g (S96.f0 y) (S96.f1 y) = 0
  · unfold namedV at c0
    by_cases c1 : quotaOk a b c d e f g = true
    · rw [if_pos c1] at c0
      by_cases c2 : S96.f0 y = ByteArray.empty
      · rw [if_pos c2] at c0; omega
      · rw [if_neg c2] at c0
        by_cases c3 : b < ((S96.f0 y).size : Int)
        · rw [if_pos c3] at c0; omega
        · rw [if_neg c3] at c0
          by_cases c4 : e < ((S96.f1 y).length : Int)
          · rw [if_pos c4] at c0; omega
          · rw [if_neg c4] at c0
            exact ⟨by omega, by omega, vers_each c d _ 0 c0 (by omega)⟩
    · rw [if_neg c1] at c0; omega
  · rw [if_neg c0] at h; exact absurd h c0
theorem kids_each {b : Int} : ∀ {ks : List S100} {p : Option ByteArray}, kidsV b p ks = 0 → ∀ y ∈ ks, KidIs b y
  | [], _, _, y, hy => by cases hy
  | x :: xs, p, h, y, hy => by
    rw [kidsV_cons] at h
    by_cases c1 : S100.f0 x = ByteArray.empty
    · rw [if_pos c1] at h; omega
    · rw [if_neg c1] at h
      by_cases c2 : b < ((S100.f0 x).size : Int)
      · rw [if_pos c2] at h; omega
      · rw [if_neg c2] at h
        by_cases c3 : refOk (S100.f2 x) (S100.f3 x) (S100.f4 x) = true
        · rw [if_pos c3] at h
          by_cases c4 : behind p (S100.f0 x) = true
          · rw [if_pos c4] at h
            cases hy with
            | head => exact ⟨by omega, c3⟩
            | tail _ hy => exact kids_each h y hy
          · rw [if_neg c4] at h; omega
        · rw [if_neg c3] at h; omega
/-- What is known of a node that may be. -/
theorem node_is {a b c d e f g : Int} {q : Bool} {xs : List S96} {ks : List S100} (h : nodeV a b c d e f g q xs ks = 0) : quotaOk a b c d e f g = true ∧ ((q = true ∧ ks = [] ∧ xs.length ≤ 4 ∧ ∀ y ∈ xs, EntIs b c d e y) ∨ (q = false ∧ xs = [] ∧ ks.length ≤ 4 ∧ ∀ y ∈ ks, KidIs b y)) := by
  unfold nodeV at h
  by_cases c1 : quotaOk a b c d e f g = true
  · rw [if_pos c1] at h
    refine ⟨c1, ?_⟩
    cases q with
    | true =>
      rw [if_pos rfl] at h
      by_cases c2 : (0 : Int) < (ks.length : Int)
      · rw [if_pos c2] at h; omega
      · rw [if_neg c2] at h
        by_cases c3 : (4 : Int) < (xs.length : Int)
        · rw [if_pos c3] at h; omega
        · rw [if_neg c3] at h
          exact .inl ⟨rfl, List.eq_nil_of_length_eq_zero (by omega), by omega, fun y hy => right_ent (leaf_n h y hy)⟩
    | false =>
      rw [if_neg (by simp)] at h
      by_cases c2 : (0 : Int) < (xs.length : Int)
      · rw [if_pos c2] at h; omega
      · rw [if_neg c2] at h
        by_cases c3 : (ks.length : Int) < 2
        · rw [if_pos c3] at h; omega
        · rw [if_neg c3] at h
          by_cases c4 : (4 : Int) < (ks.length : Int)
          · rw [if_pos c4] at h; omega
          · rw [if_neg c4] at h
            exact .inr ⟨rfl, List.eq_nil_of_length_eq_zero (by omega), by omega, kids_each h⟩
  · rw [if_neg c1] at h; omega
theorem quota_is {a b c d e f g : Int} (h : quotaOk a b c d e f g = true) : 1 ≤ b ∧ b ≤ 16 ∧ 0 ≤ c ∧ c ≤ 32 ∧ 0 ≤ d ∧ d ≤ 16 ∧ 1 ≤ e ∧ e ≤ 4 := by
  simp only [quotaOk, decide_eq_true_eq] at h; omega
theorem fine_vers {c d : Int} (hc : c ≤ 32) (hd : d ≤ 16) {z : S98} (h : 0 < S98.f0 z ∧ S98.f0 z ≤ 1073741824 ∧ ((S98.f1 z).size : Int) ≤ c ∧ ((S98.f2 z).size : Int) ≤ d) : Fine (versT z) 4 2 (17 + c + d).toNat := by
  have := Fine.row (l := [numT (S98.f0 z), atomT (S98.f1 z), atomT (S98.f2 z)]) (by simp) (FineL.cons (Fine.num 5 (by omega) (by omega) (by omega) (by omega)) (FineL.cons (Fine.atom (s := S98.f1 z) (by omega)) (FineL.cons (Fine.atom (s := S98.f2 z) (by omega)) (FineL.nil 1))))
  exact this.mono (by omega) (by omega) (by omega)
theorem fine_entry {b c d e : Int} (hq : 1 ≤ b ∧ b ≤ 16 ∧ 0 ≤ c ∧ c ≤ 32 ∧ 0 ≤ d ∧ d ≤ 16 ∧ 1 ≤ e ∧ e ≤ 4) {y : S96} (h : EntIs b c d e y) : Fine (entryT y) 18 3 (4 + b.toNat + e.toNat * (17 + c + d).toNat) := by
  have h1 := h.hb; have h2 := h.he
  have m := FineL.map versT (S96.f1 y) (fun z hz => fine_vers (by omega) (by omega) (h.hv z hz))
  have := Fine.row (l := atomT (S96.f0 y) :: (S96.f1 y).map versT) (by simp; omega) (FineL.cons ((Fine.atom (s := S96.f0 y) (by omega)).mono (d' := 2) (Nat.le_refl _) (by omega) (Nat.le_refl _)) m)
  have e1 : (S96.f1 y).length * (17 + c + d).toNat ≤ e.toNat * (17 + c + d).toNat := Nat.mul_le_mul_right _ (by omega)
  exact this.mono (by omega) (by omega) (by omega)
theorem fine_kid {b : Int} (hq : b ≤ 16) {y : S100} (hk : KidOk y) (h : KidIs b y) : Fine (kidT y) 6 2 (28 + b).toNat := by
  have h1 := h.hb
  have h2 := h.hr
  simp only [refOk, decide_eq_true_eq] at h2
  have := Fine.row (l := [atomT (S100.f0 y), keyT (S100.f1 y), numT (S100.f2 y), numT (S100.f3 y), numT (S100.f4 y)]) (by simp) (FineL.cons (Fine.atom (s := S100.f0 y) (by omega)) (FineL.cons (Fine.key hk.2) (FineL.cons (Fine.num 3 (by omega) (by omega) (by omega) (by omega)) (FineL.cons (Fine.num 4 (by omega) (by omega) (by omega) (by omega)) (FineL.cons (Fine.num 3 (by omega) (by omega) (by omega) (by omega)) (FineL.nil 1))))))
  exact this.mono (by omega) (by omega) (by omega)
/-- The most bytes of a page. -/
def pageV (b c d e : Int) : Int := 15 + 4 * mx (4 + b + e * (17 + c + d)) (28 + b)
theorem fine_node {a b c d e f g : Int} {q : Bool} {xs : List S96} {ks : List S100} (h : nodeV a b c d e f g q xs ks = 0) (hko : ∀ y ∈ ks, KidOk y) {k : Int} (hk : (Lit.int .u64 k).wf = true) : Fine (nodeT q xs ks) 75 4 16000 ∧ Fine (boxT k (nodeT q xs ks)) 76 5 (pageV b c d e).toNat := by
  obtain ⟨hq, h⟩ := node_is h
  have Q := quota_is hq
  have m0 : 0 ≤ e * (17 + c + d) := Int.mul_nonneg (by omega) (by omega)
  have m1 : e * (17 + c + d) ≤ 4 * (17 + c + d) := Int.mul_le_mul_of_nonneg_right (by omega) (by omega)
  have me : e.toNat * (17 + c + d).toNat = (e * (17 + c + d)).toNat := by rw [Int.toNat_mul (by omega) (by omega)]
  have mxl : 4 + b + e * (17 + c + d) ≤ mx (4 + b + e * (17 + c + d)) (28 + b) ∧ 28 + b ≤ mx (4 + b + e * (17 + c + d)) (28 + b) ∧ mx (4 + b + e * (17 + c + d)) (28 + b) ≤ 300 := by
    unfold mx; split <;> omega
  unfold pageV
  generalize mx (4 + b + e * (17 + c + d)) (28 + b) = M at mxl ⊢
  have key : ∃ n : Nat, Fine (nodeT q xs ks) 75 4 n ∧ (n : Int) ≤ 4 + 4 * M := by
    rcases h with ⟨rfl, rfl, hl, he⟩ | ⟨rfl, rfl, hl, he⟩
    · have m := FineL.map entryT xs (fun y hy => (fine_entry Q (he y hy)).mono (Nat.le_refl _) (Nat.le_refl _) (l' := M.toNat) (by rw [me]; omega))
      have e1 : xs.length * M.toNat ≤ 4 * M.toNat := Nat.mul_le_mul_right _ hl
      have := Fine.row (l := numT 1 :: xs.map entryT) (by simp; omega) (FineL.cons ((Fine.num (n := 1) 1 (by omega) (by omega) (by omega) (by omega)).mono (d' := 3) (Nat.le_refl _) (by omega) (Nat.le_refl _)) m)
      exact ⟨4 + 4 * M.toNat, by unfold nodeT; rw [if_pos rfl]; exact this.mono (by omega) (by omega) (by omega), by omega⟩
    · have m := FineL.map kidT ks (fun y hy => (fine_kid (by omega) (hko y hy) (he y hy)).mono (Nat.le_refl _) (Nat.le_refl _) (l' := M.toNat) (by omega))
      have e1 : ks.length * M.toNat ≤ 4 * M.toNat := Nat.mul_le_mul_right _ hl
      have := Fine.row (l := numT 2 :: ks.map kidT) (by simp; omega) (FineL.cons ((Fine.num (n := 2) 1 (by omega) (by omega) (by omega) (by omega)).mono (d' := 2) (Nat.le_refl _) (by omega) (Nat.le_refl _)) m)
      exact ⟨4 + 4 * M.toNat, by unfold nodeT; rw [if_neg (by decide)]; exact this.mono (by omega) (by omega) (by omega), by omega⟩
  obtain ⟨n, hf, hn⟩ := key
  exact ⟨hf.mono (Nat.le_refl _) (Nat.le_refl _) (by omega), (hf.box hk).mono (by omega) (by omega) (by omega)⟩
/-! ### a node's term is read as the node -/
theorem vers_in {z : S98} (h : 0 < S98.f0 z ∧ S98.f0 z ≤ 1073741824) : verB (versT z) = true ∧ toV (versT z) = z := by
  have w : IntKind.u64.wrap (S98.f0 z) = S98.f0 z := wrap_u64 (by omega) (by omega)
  constructor
  · unfold verB isNumB
    simp only [Bool.and_eq_true, decide_eq_true_eq]
    refine ⟨rfl, rfl, ⟨rfl, ?_⟩, rfl, rfl⟩
    show IntKind.u64.wrap (S98.f0 z) ≤ _
    rw [w]; omega
  · show S98.mk (IntKind.i64.wrap (IntKind.u64.wrap (S98.f0 z))) (S98.f1 z) (S98.f2 z) = z
    rw [w, w64 (by omega) (by omega)]
theorem map_id' {α β : Type} {f : α → β} {g : β → α} {xs : List α} (h : ∀ y ∈ xs, g (f y) = y) : (xs.map f).map g = xs := by
  induction xs with
  | nil => rfl
  | cons x xs ih => rw [List.map_cons, List.map_cons, h x (by simp), ih (fun y hy => h y (by simp [hy]))]
theorem entry_in {b c d e : Int} {y : S96} (h : EntIs b c d e y) : entB (entryT y) = true ∧ toE (entryT y) = y := by
  constructor
  · unfold entB headB
    simp only [Bool.and_eq_true, decide_eq_true_eq, List.all_eq_true]
    refine ⟨⟨rfl, by simp [entryT, rowT], rfl⟩, ?_⟩
    intro x hx
    rw [show (S38.f3 (entryT y)).drop 1 = (S96.f1 y).map versT from rfl, List.mem_map] at hx
    obtain ⟨z, hz, rfl⟩ := hx
    have := h.hv z hz
    exact (vers_in ⟨this.1, this.2.1⟩).1
  · show S96.mk (S96.f0 y) (((S96.f1 y).map versT).map toV) = y
    rw [map_id' (fun z hz => (vers_in ⟨(h.hv z hz).1, (h.hv z hz).2.1⟩).2)]
theorem kid_in {b : Int} {y : S100} (h : KidIs b y) : kidB (kidT y) = true ∧ toK (kidT y) = y := by
  have h2 := h.hr
  simp only [refOk, decide_eq_true_eq] at h2
  have w2 : IntKind.u64.wrap (S100.f2 y) = S100.f2 y := wrap_u64 (by omega) (by omega)
  have w3 : IntKind.u64.wrap (S100.f3 y) = S100.f3 y := wrap_u64 (by omega) (by omega)
  have w4 : IntKind.u64.wrap (S100.f4 y) = S100.f4 y := wrap_u64 (by omega) (by omega)
  constructor
  · unfold kidB headB isNumB
    simp only [Bool.and_eq_true, decide_eq_true_eq]
    refine ⟨⟨rfl, by simp [kidT, rowT], rfl⟩, rfl, rfl, ⟨rfl, ?_⟩, ⟨rfl, ?_⟩, rfl, ?_⟩
    · show IntKind.u64.wrap (S100.f2 y) ≤ _; rw [w2]; omega
    · show IntKind.u64.wrap (S100.f3 y) ≤ _; rw [w3]; omega
    · show IntKind.u64.wrap (S100.f4 y) ≤ _; rw [w4]; omega
  · show S100.mk (S100.f0 y) (S100.f1 y) (IntKind.i64.wrap (IntKind.u64.wrap (S100.f2 y))) (IntKind.i64.wrap (IntKind.u64.wrap (S100.f3 y))) (IntKind.i64.wrap (IntKind.u64.wrap (S100.f4 y))) = y
    rw [w2, w3, w4, w64 (by omega) (by omega), w64 (by omega) (by omega), w64 (by omega) (by omega)]
theorem node_in {a b c d e f g : Int} {q : Bool} {xs : List S96} {ks : List S100} (h : nodeV a b c d e f g q xs ks = 0) : leafB (nodeT q xs ks) = q ∧ ents (nodeT q xs ks) = xs ∧ kids (nodeT q xs ks) = ks ∧ formB (nodeT q xs ks) = true := by
  obtain ⟨_, h⟩ := node_is h
  rcases h with ⟨rfl, rfl, hl, he⟩ | ⟨rfl, rfl, hl, he⟩
  · have hlf : leafB (nodeT true xs []) = true := by simp only [leafB, decide_eq_true_eq]; rfl
    have hd1 : (S38.f3 (nodeT true xs [])).drop 1 = xs.map entryT := rfl
    refine ⟨hlf, ?_, ?_, ?_⟩
    · unfold ents; rw [if_pos hlf, hd1]; exact map_id' (fun y hy => (entry_in (he y hy)).2)
    · unfold kids; rw [if_pos hlf]
    · unfold formB headB
      rw [hd1]
      simp only [Bool.and_eq_true, Bool.or_eq_true, decide_eq_true_eq, List.all_eq_true]
      refine ⟨⟨rfl, by simp [nodeT, rowT], rfl⟩, .inl rfl, ?_⟩
      intro x hx
      obtain ⟨y, hy, rfl⟩ := List.mem_map.1 hx
      rw [if_pos hlf]; exact (entry_in (he y hy)).1
  · have hlf : leafB (nodeT false [] ks) = false := by simp only [leafB, decide_eq_false_iff_not]; show ¬ IntKind.u64.wrap 2 = 1; decide
    have hd1 : (S38.f3 (nodeT false [] ks)).drop 1 = ks.map kidT := rfl
    refine ⟨hlf, ?_, ?_, ?_⟩
    · unfold ents; rw [if_neg (by simp [hlf])]
    · unfold kids; rw [if_neg (by simp [hlf]), hd1]; exact map_id' (fun y hy => (kid_in (he y hy)).2)
    · unfold formB headB
      rw [hd1]
      simp only [Bool.and_eq_true, Bool.or_eq_true, decide_eq_true_eq, List.all_eq_true]
      refine ⟨⟨rfl, by simp [nodeT, rowT], rfl⟩, .inr rfl, ?_⟩
      intro x hx
      obtain ⟨y, hy, rfl⟩ := List.mem_map.1 hx
      rw [if_neg (by simp [hlf])]; exact (kid_in (he y hy)).1
/-- What is sealed opens with its key, and with no other. -/
theorem seal_open {a b c d e f g : Int} {q : Bool} {xs : List S96} {ks : List S100} (h : nodeV a b c d e f g q xs ks = 0) {k : Int} (hk : (Lit.int .u64 k).wf = true) (ho : okT (nodeT q xs ks)) (hr : rightT (nodeT q xs ks) = 0) (hb : rightT (boxT k (nodeT q xs ks)) = 0) (k' : Int) :
    openN a b c d e f g k' (strOf (encT (boxT k (nodeT q xs ks)))) = if k = k' then some (q, xs, ks, 0, ()) else some (false, [], [], 31, ()) := by
  have hq := (node_is h).1
  have hu : unpackV k' (strOf (encT (boxT k (nodeT q xs ks)))) = if k = k' then okE (nodeT q xs ks) else erT 31 := by
    unfold unpackV
    rw [decode_enc (ho.box hk) hb]
    simp only [okD, Option.bind_some]
    rw [if_neg (by simp), etaT]
    unfold openV
    rw [if_pos hb, if_pos (show S38.f0 (boxT k (nodeT q xs ks)) = 4 from rfl)]; rfl
  unfold openN
  rw [if_pos hq, hu]
  by_cases c1 : k = k'
  · rw [if_pos c1, if_pos c1, bindE, if_neg (by simp), etaT]
    obtain ⟨n1, n2, n3, n4⟩ := node_in h
    unfold fromV
    rw [if_pos hq, if_pos hr]
    unfold endV
    rw [n1, n2, n3, n4, if_neg (by decide), if_pos h]
  · rw [if_neg c1, if_neg c1, bindR, if_pos (by decide)]
/-! ### texts, sorted, each once -/
theorem toB_inj {x y : ByteArray} (h : toB x = toB y) : x = y := by rw [← ofB_to x, ← ofB_to y, h]
theorem sLt_eq (x y : ByteArray) : sLt x y = decide (toB x < toB y) := by
  unfold sLt toB
  rw [ByteArray.toList_eq, ByteArray.toList_eq, bytesLess_eq]
theorem mem_compact {zs : List (List UInt8)} {x : List UInt8} : x ∈ Lib.compact zs ↔ x ∈ zs := by
  unfold Lib.compact Lib.compactUpTo
  constructor
  · intro h
    obtain ⟨j, hj, rfl⟩ := List.mem_map.1 h
    have := List.mem_range.1 (List.mem_filter.1 hj).1
    rw [getElem!_pos zs.toArray j (by simpa using this)]
    exact List.getElem_mem _
  · intro h
    obtain ⟨i, hi, rfl⟩ := List.getElem_of_mem h
    -- the first place of that value's run
    have key : ∀ n i, i = n → ∀ hi : i < zs.length, ∃ j, j < zs.length ∧ Lib.keeps zs.toArray j = true ∧ zs.toArray[j]! = zs[i] := by
      intro n
      induction n with
      | zero =>
        intro i e hi
        subst e
        exact ⟨0, hi, by simp [Lib.keeps], by rw [getElem!_pos zs.toArray 0 (by simpa using hi)]; simp⟩
      | succ n ih =>
        intro i e hi
        subst e
        by_cases c : zs[n + 1] = zs[n]
        · obtain ⟨j, h1, h2, h3⟩ := ih n rfl (by omega)
          exact ⟨j, h1, h2, by rw [h3, c]⟩
        · refine ⟨n + 1, hi, ?_, by rw [getElem!_pos zs.toArray (n + 1) (by simpa using hi)]; simp⟩
          simp only [Lib.keeps, decide_eq_true_eq]
          refine .inr ?_
          rw [getElem!_pos zs.toArray (n + 1) (by simpa using hi), getElem!_pos zs.toArray (n + 1 - 1) (by simp; omega)]
          simpa using c
    obtain ⟨j, h1, h2, h3⟩ := key i i rfl hi
    exact List.mem_map.2 ⟨j, List.mem_filter.2 ⟨List.mem_range.2 h1, h2⟩, h3⟩
theorem compact_strict {zs : List (List UInt8)} (h : zs.Pairwise (· ≤ ·)) : (Lib.compact zs).Pairwise (· < ·) := by
  unfold Lib.compact Lib.compactUpTo
  rw [List.pairwise_map]
  refine List.Pairwise.imp_of_mem (R := fun a b => a < b) ?_ (List.Pairwise.filter _ List.pairwise_lt_range)
  intro i j hi hj hlt
  have hi' := List.mem_range.1 (List.mem_filter.1 hi).1
  have hj' := List.mem_range.1 (List.mem_filter.1 hj).1
  have hk := (List.mem_filter.1 hj).2
  simp only [Lib.keeps, decide_eq_true_eq] at hk
  rw [getElem!_pos zs.toArray j (by simpa using hj'), getElem!_pos zs.toArray (j - 1) (by simp; omega)] at hk
  rw [getElem!_pos zs.toArray i (by simpa using hi'), getElem!_pos zs.toArray j (by simpa using hj')]
  have hk' : zs[j] ≠ zs[j - 1]'(by omega) := by rcases hk with h | h; omega; simpa using h
  have P := List.pairwise_iff_getElem.1 h
  have q1 : zs[j - 1]'(by omega) ≤ zs[j] := P (j - 1) j (by omega) hj' (by omega)
  have q2 : zs[i] ≤ zs[j - 1]'(by omega) := by
    rcases Nat.lt_or_ge i (j - 1) with c | c
    · exact P i (j - 1) hi' (by omega) c
    · have : i = j - 1 := by omega
      subst this
      exact List.le_refl _
  have q3 : zs[i] ≤ zs[j] := List.le_trans q2 q1
  show zs[i] < zs[j]
  apply Classical.byContradiction
  intro hn
  have q4 : zs[j] ≤ zs[i] := List.not_lt.1 hn
  have q5 : zs[j] ≤ zs[j - 1]'(by omega) := List.le_trans q4 q2
  exact hk' (List.le_antisymm q5 q1)
theorem compact_self {zs : List (List UInt8)} (h : zs.Pairwise (· < ·)) : Lib.compact zs = zs := by
  refine Lib.compact_all zs (fun j hj => ?_)
  simp only [Lib.keeps, decide_eq_true_eq]
  rcases Nat.eq_zero_or_pos j with c | c
  · exact .inl c
  · refine .inr ?_
    rw [getElem!_pos zs.toArray j (by simpa using hj), getElem!_pos zs.toArray (j - 1) (by simp; omega)]
    have := List.pairwise_iff_getElem.1 h (j - 1) j (by omega) hj (by omega)
    intro e
    have e' : zs[j] = zs[j - 1]'(by omega) := by simpa using e
    rw [e'] at this
    exact List.lt_irrefl _ this
def txt (l : List ByteArray) : List ByteArray := compS (sortS l)
def leB (x y : List UInt8) : Bool := decide (x ≤ y)
theorem sort_pair (zs : List (List UInt8)) : (zs.mergeSort fun x y => decide (x ≤ y)).Pairwise (· ≤ ·) := by
  have := List.pairwise_mergeSort (le := fun x y : List UInt8 => decide (x ≤ y)) (fun a b c h1 h2 => by
    simp only [decide_eq_true_eq] at h1 h2 ⊢; exact List.le_trans h1 h2) (fun a b => by
    simp only [Bool.or_eq_true, decide_eq_true_eq]; exact List.le_total a b) zs
  exact this.imp (fun h => by simpa using h)
theorem txt_toB (l : List ByteArray) : (txt l).map toB = Lib.compact ((l.map toB).mergeSort fun x y => decide (x ≤ y)) := by
  unfold txt compS sortS
  simp only [List.map_map]
  have e : (toB ∘ ofB) = id := rfl
  rw [e, List.map_id, List.map_id]
theorem mem_txt {l : List ByteArray} {s : ByteArray} : s ∈ txt l ↔ s ∈ l := by
  have h : toB s ∈ (txt l).map toB ↔ toB s ∈ l.map toB := by rw [txt_toB, mem_compact, List.mem_mergeSort]
  have inj : ∀ m : List ByteArray, toB s ∈ m.map toB ↔ s ∈ m := by
    intro m
    constructor
    · intro h
      obtain ⟨x, hx, e⟩ := List.mem_map.1 h
      rw [← toB_inj e]; exact hx
    · exact fun h => List.mem_map.2 ⟨s, h, rfl⟩
  rw [inj, inj] at h
  exact h
theorem txt_strict (l : List ByteArray) : ((txt l).map toB).Pairwise (· < ·) := by rw [txt_toB]; exact compact_strict (sort_pair _)
theorem txt_self {l : List ByteArray} (h : (l.map toB).Pairwise (· < ·)) : txt l = l := by
  have h1 : (l.map toB).mergeSort (fun x y => decide (x ≤ y)) = l.map toB := List.mergeSort_of_pairwise (h.imp (fun {a b} hab => by
    simp only [decide_eq_true_eq]
    exact List.le_of_lt hab))
  have h2 := txt_toB l
  rw [h1, compact_self h] at h2
  have := congrArg (List.map ofB) h2
  simpa [List.map_map, show (ofB ∘ toB) = id from rfl] using this
theorem txt_next {l : List ByteArray} {i : Nat} (h : i + 1 < (txt l).length) : sLt (txt l)[i] (txt l)[i + 1] = true := by
  rw [sLt_eq, decide_eq_true_eq]
  have := List.pairwise_iff_getElem.1 (txt_strict l) i (i + 1) (by simp; omega) (by simpa using h) (by omega)
  simpa using this
theorem txt_len (l : List ByteArray) : (txt l).length ≤ l.length := by
  have h := congrArg List.length (txt_toB l)
  rw [List.length_map] at h
  rw [h]
  have := Lib.compact_length_le ((l.map toB).mergeSort fun x y => decide (x ≤ y))
  rw [List.length_mergeSort, List.length_map] at this
  exact this
theorem clip_eq (xs : List ByteArray) : F115_slices_Clip xs = some (xs, ()) := by
  rw [F115_slices_Clip_eq, if_pos (by omega), subL_take xs rfl, List.take_length]
def inS (s : ByteArray) (xs : List ByteArray) : Bool := xs.any fun x => decide (x = s)
theorem inS_iff {s : ByteArray} {xs : List ByteArray} : inS s xs = true ↔ s ∈ xs := by
  unfold inS
  rw [List.any_eq_true]
  constructor
  · rintro ⟨x, hx, h⟩
    rw [decide_eq_true_eq] at h
    rw [← h]; exact hx
  · exact fun h => ⟨s, h, by simp⟩
theorem Same_l (xs ys : List ByteArray) (hx : xs.length ≤ 9223372036854775807) (hl : xs.length = ys.length) : ∀ (d i : Nat), xs.length - i = d → i ≤ xs.length → F62_letheref02_SameTexts_l1000004 xs ys (xs.length : Int) (i : Int) = some (decide (xs.drop i = ys.drop i), ()) := by
  intro d
  induction d with
  | zero => intro i hd hi; rw [F62_letheref02_SameTexts_l1000004_eq, if_neg (by omega), List.drop_eq_nil_of_le (by omega), List.drop_eq_nil_of_le (by omega)]; simp
  | succ d ih =>
    intro i hd hi
    rw [F62_letheref02_SameTexts_l1000004_eq, if_pos (ilt (by omega)), if_pos (inb (by omega)), if_pos (inb (by omega)), w64s (n := xs.length) (by omega) (by omega), ih (i + 1) (by omega) (by omega), drop_rd (z := ByteArray.empty) (by omega : i < xs.length), drop_rd (z := ByteArray.empty) (by omega : i < ys.length)]
    by_cases c : rd ByteArray.empty xs (i : Int) = rd ByteArray.empty ys (i : Int)
    · rw [if_neg (by simp [c]), c]; simp
    · rw [if_pos c]; simp [c]
theorem Same_txt (xs ys : List ByteArray) (hx : xs.length ≤ 9223372036854775807) : F62_letheref02_SameTexts xs ys = some (decide (xs = ys), ()) := by
  rw [F62_letheref02_SameTexts_eq]
  by_cases c : (xs.length : Int) = (ys.length : Int)
  · rw [if_neg (by simp [c])]; exact Same_l xs ys hx (by omega) _ 0 rfl (by omega)
  · rw [if_pos c]
    have : ¬ xs = ys := fun e => c (by rw [e])
    simp [this]

/-! ### the atoms of terms -/
mutual
def atomsT : S38 → List ByteArray
  | ⟨n, _, s, l⟩ => if n = 2 then [s] else atomsL l
def atomsL : List S38 → List ByteArray
  | [] => []
  | x :: t => atomsT x ++ atomsL t
end
theorem atomsT_eq (x : S38) : atomsT x = if x.f0 = 2 then [x.f2] else atomsL x.f3 := by cases x; rw [atomsT]; rfl
theorem atoms_len {x : S38} (h : okT x) : (atomsT x).length ≤ parts x := by
  induction h with
  | @mk x h0 h1 h2 h3 h4 h5 ih =>
    have L : ∀ l : List S38, (∀ y ∈ l, (atomsT y).length ≤ parts y) → (atomsL l).length ≤ partsL l := by
      intro l
      induction l with
      | nil => intro _; rw [atomsL]; simp
      | cons y t iht =>
        intro hl
        rw [atomsL, partsL, List.length_append]
        have := hl y (by simp)
        have := iht (fun z hz => hl z (by simp [hz]))
        omega
    rw [atomsT_eq, parts_eq]
    split
    · simp
    · have := L _ ih; omega
abbrev G3 := Bool × List ByteArray × List ByteArray × Unit
def gOut (g a : List ByteArray) : Option G3 := if a = [] then some (false, [], g, ()) else some (true, g ++ a, [], ())
theorem gOut_bind {α : Type} (g a : List ByteArray) (F : List ByteArray → Option α) (F' : List ByteArray → Option α) (h : F' g = F (g ++ ([] : List ByteArray)) ∨ a ≠ []) : ((gOut g a).bind fun y => if y.1 = true then F y.2.1 else F' y.2.2.1) = if a = [] then F' g else F (g ++ a) := by
  unfold gOut
  by_cases c : a = []
  · rw [if_pos c, if_pos c, Option.bind_some, if_neg (by simp)]
  · rw [if_neg c, if_neg c, Option.bind_some, if_pos rfl]
theorem gather_l1 (l : List S38) (hl : l.length ≤ bigL) (ih : ∀ y ∈ l, ∀ g : List ByteArray, (g.length + (atomsT y).length) * 16 ≤ 140737488355328 → F113_term_gather (S38.f0 y) (S38.f1 y) (S38.f2 y) (S38.f3 y) g = gOut g (atomsT y)) : ∀ (d i : Nat) (g : List ByteArray), l.length - i = d → i ≤ l.length → (g.length + (atomsL (l.drop i)).length) * 16 ≤ 140737488355328 →
    F113_term_gather_l1000004_1 l (l.length : Int) (i : Int) g = some (true, g ++ atomsL (l.drop i), [], ()) := by
  simp only [bigL] at hl
  intro d
  induction d with
  | zero =>
    intro i g hd hi hb
    rw [F113_term_gather_l1000004_1_eq, if_neg (by omega), List.drop_eq_nil_of_le (by omega), atomsL, List.append_nil]
  | succ d ihd =>
    intro i g hd hi hb
    rw [List.drop_eq_getElem_cons (by omega : i < l.length), atomsL, List.length_append] at hb
    rw [F113_term_gather_l1000004_1_eq, if_pos (ilt (by omega)), if_pos (inb (by omega)), rd_lt (by omega : i < l.length), ih _ (List.getElem_mem _) g (by omega), w64s (n := l.length) (by omega) (by omega), List.drop_eq_getElem_cons (by omega : i < l.length), atomsL]
    unfold gOut
    by_cases c : atomsT l[i] = []
    · rw [if_pos c, Option.bind_some]
      dsimp only
      rw [if_neg (by simp), ihd (i + 1) g (by omega) (by omega) (by omega), c, List.nil_append]
    · rw [if_neg c, Option.bind_some]
      dsimp only
      rw [if_pos rfl, ihd (i + 1) _ (by omega) (by omega) (by rw [List.length_append]; omega), List.append_assoc]
theorem gather_l0 (l : List S38) (hl : l.length ≤ bigL) (ih : ∀ y ∈ l, ∀ g : List ByteArray, (g.length + (atomsT y).length) * 16 ≤ 140737488355328 → F113_term_gather (S38.f0 y) (S38.f1 y) (S38.f2 y) (S38.f3 y) g = gOut g (atomsT y)) : ∀ (d i : Nat) (g : List ByteArray), l.length - i = d → i ≤ l.length → (g.length + (atomsL (l.drop i)).length) * 16 ≤ 140737488355328 →
    F113_term_gather_l1000004 l (l.length : Int) (i : Int) g = gOut g (atomsL (l.drop i)) := by
  have hl' := hl
  simp only [bigL] at hl'
  intro d
  induction d with
  | zero =>
    intro i g hd hi hb
    rw [F113_term_gather_l1000004_eq, if_neg (by omega), List.drop_eq_nil_of_le (by omega), atomsL]; rfl
  | succ d ihd =>
    intro i g hd hi hb
    rw [List.drop_eq_getElem_cons (by omega : i < l.length), atomsL, List.length_append] at hb
    rw [F113_term_gather_l1000004_eq, if_pos (ilt (by omega)), if_pos (inb (by omega)), rd_lt (by omega : i < l.length), ih _ (List.getElem_mem _) g (by omega), w64s (n := l.length) (by omega) (by omega), List.drop_eq_getElem_cons (by omega : i < l.length), atomsL]
    unfold gOut
    by_cases c : atomsT l[i] = []
    · rw [if_pos c, Option.bind_some]
      dsimp only
      rw [if_neg (by simp), ihd (i + 1) g (by omega) (by omega) (by omega), c, List.nil_append]; rfl
    · rw [if_neg c, Option.bind_some]
      dsimp only
      rw [if_pos rfl, gather_l1 l hl ih _ (i + 1) _ rfl (by omega) (by rw [List.length_append]; omega), if_neg (by simp [c]), List.append_assoc]
theorem gather_eq {x : S38} (h : okT x) : ∀ g : List ByteArray, (g.length + (atomsT x).length) * 16 ≤ 140737488355328 → F113_term_gather (S38.f0 x) (S38.f1 x) (S38.f2 x) (S38.f3 x) g = gOut g (atomsT x) := by
  induction h with
  | @mk x h0 h1 h2 h3 h4 h5 ih =>
    intro g hb
    rw [atomsT_eq] at hb ⊢
    rw [F113_term_gather_eq]
    by_cases c : S38.f0 x = 2
    · rw [if_pos c] at hb ⊢
      rw [if_pos c, if_pos hb]; rfl
    · rw [if_neg c] at hb ⊢
      rw [if_neg c]
      exact gather_l0 _ (by have := (okT.mk h0 h1 h2 h3 h4 h5).len; simp only [bigL]; omega) ih _ 0 g rfl (by omega) hb
/-- The atoms of those that may be. -/
def atomsR (l : List S38) : List ByteArray := l.flatMap fun x => if rightT x = 0 then atomsT x else []
theorem atoms_l (l : List S38) (hl : l.length ≤ 9223372036854775807) (ho : ∀ x ∈ l, okT x) : ∀ (d i : Nat) (g : List ByteArray), l.length - i = d → i ≤ l.length → (g.length + (atomsR (l.drop i)).length) * 16 ≤ 140737488355328 →
    F61_term_Atoms_l1000003 l (l.length : Int) (i : Int) g = some (txt (g ++ atomsR (l.drop i)), ()) := by
  intro d
  induction d with
  | zero =>
    intro i g hd hi hb
    rw [List.drop_eq_nil_of_le (by omega)] at hb ⊢
    simp only [atomsR, List.flatMap_nil, List.length_nil, Nat.add_zero] at hb
    rw [F61_term_Atoms_l1000003_eq, if_neg (by omega), F114_slices_Sort_eq, if_pos (by omega), Option.bind_some, F116_slices_Compact_eq, Option.bind_some, clip_eq, Option.bind_some]
    simp [atomsR, txt]
  | succ d ihd =>
    intro i g hd hi hb
    have e : atomsR (l.drop i) = (if rightT l[i] = 0 then atomsT l[i] else []) ++ atomsR (l.drop (i + 1)) := by
      rw [List.drop_eq_getElem_cons (by omega : i < l.length)]; rfl
    rw [e, List.length_append] at hb
    have hx := ho l[i] (List.getElem_mem _)
    rw [F61_term_Atoms_l1000003_eq, if_pos (ilt (by omega)), if_pos (inb (by omega)), rd_lt (by omega : i < l.length), right_f hx, Option.bind_some, w64s (n := l.length) (by omega) (by omega), e]
    by_cases c : rightT l[i] = 0
    · rw [if_pos c] at hb ⊢
      rw [if_pos c, gather_eq hx g (by omega)]
      unfold gOut
      by_cases c2 : atomsT l[i] = []
      · rw [if_pos c2, Option.bind_some]
        dsimp only
        rw [if_neg (by simp), ihd (i + 1) g (by omega) (by omega) (by omega), c2, List.nil_append]
      · rw [if_neg c2, Option.bind_some]
        dsimp only
        rw [if_pos rfl, ihd (i + 1) _ (by omega) (by omega) (by rw [List.length_append]; omega), List.append_assoc]
    · rw [if_neg c] at hb ⊢
      rw [if_neg c, ihd (i + 1) g (by omega) (by omega) (by omega), List.nil_append]
theorem atomsR_len {l : List S38} (ho : ∀ x ∈ l, okT x) : (atomsR l).length ≤ l.length * 4000 := by
  induction l with
  | nil => simp [atomsR]
  | cons x t ih =>
    have := ih (fun y hy => ho y (by simp [hy]))
    have hx := atoms_len (ho x (by simp))
    have e : atomsR (x :: t) = (if rightT x = 0 then atomsT x else []) ++ atomsR t := rfl
    have hp : (if rightT x = 0 then atomsT x else []).length ≤ 4000 := by
      by_cases c : rightT x = 0
      · have := (right_is c).1
        rw [if_pos c]; omega
      · rw [if_neg c]; exact Nat.zero_le _
    rw [e, List.length_append, List.length_cons, Nat.succ_mul]
    exact Nat.le_trans (Nat.add_le_add hp this) (by rw [Nat.add_comm]; exact Nat.le_refl _)
theorem atoms_eq (l : List S38) (hl : l.length ≤ 1000) (ho : ∀ x ∈ l, okT x) : F61_term_Atoms l = some (txt (atomsR l), ()) := by
  have := atomsR_len ho
  rw [F61_term_Atoms_eq]
  exact atoms_l l (by omega) ho _ 0 [] rfl (by omega) (by simp; omega)

/-! ### the texts of entries -/
def verTexts (v : S98) : List ByteArray := [S98.f1 v, S98.f2 v]
def entTexts (e : S96) : List ByteArray := S96.f0 e :: (S96.f1 e).flatMap verTexts
theorem verTexts_len (l : List S98) : (l.flatMap verTexts).length = l.length * 2 := by
  induction l with
  | nil => rfl
  | cons x t ih => rw [List.flatMap_cons, List.length_append, ih, List.length_cons]; simp [verTexts]; omega
theorem texts_l7 (es : List S96) (n i : Int) (vs : List S98) (hv : vs.length ≤ 9223372036854775807) : ∀ (d j : Nat) (g : List ByteArray), vs.length - j = d → j ≤ vs.length → g.length + 2 * d ≤ 8796093022208 →
      F63_entry_Texts_l1000007 es n i vs (vs.length : Int) (j : Int) g = F63_entry_Texts_l1000003 es n (IntKind.i64.wrap (i + 1)) (g ++ (vs.drop j).flatMap verTexts) := by
  intro d
  induction d with
  | zero => intro j g hd hj hg; rw [F63_entry_Texts_l1000007_eq, if_neg (by omega), List.drop_eq_nil_of_le (by omega), List.flatMap_nil, List.append_nil]
  | succ d ih =>
    intro j g hd hj hg
    rw [F63_entry_Texts_l1000007_eq, if_pos (ilt (by omega)), if_pos (inb (by omega))]
    dsimp only
    rw [if_pos (by simp; omega), w64s (n := vs.length) (by omega) (by omega), ih (j + 1) _ (by omega) (by omega) (by simp; omega), drop_rd (z := S98.z) (by omega : j < vs.length), List.flatMap_cons, List.append_assoc]
    rfl
theorem entTexts_len (e : S96) : (entTexts e).length = List.length (α := S98) (S96.f1 e) * 2 + 1 := by unfold entTexts; rw [List.length_cons, verTexts_len]
theorem texts_l3 (es : List S96) (he : es.length ≤ 9223372036854775807) : ∀ (d i : Nat) (g : List ByteArray), es.length - i = d → i ≤ es.length → g.length + ((es.drop i).flatMap entTexts).length ≤ 8796093022208 →
    F63_entry_Texts_l1000003 es (es.length : Int) (i : Int) g = some (txt (g ++ (es.drop i).flatMap entTexts), ()) := by
  intro d
  induction d with
  | zero =>
    intro i g hd hi hg
    rw [F63_entry_Texts_l1000003_eq, if_neg (by omega), F114_slices_Sort_eq, if_pos (by omega), Option.bind_some, F116_slices_Compact_eq, Option.bind_some, clip_eq, Option.bind_some, List.drop_eq_nil_of_le (by omega), List.flatMap_nil, List.append_nil]
    rfl
  | succ d ih =>
    intro i g hd hi hg
    rw [drop_rd (z := S96.z) (by omega : i < es.length), List.flatMap_cons, List.length_append, entTexts_len] at hg
    rw [F63_entry_Texts_l1000003_eq, if_pos (ilt (by omega)), if_pos (inb (by omega)), if_pos (by rw [List.length_singleton]; omega)]
    have h7 := texts_l7 es (es.length : Int) (i : Int) (S96.f1 (rd S96.z es (i : Int))) (by omega) _ 0 (g ++ [S96.f0 (rd S96.z es (i : Int))]) rfl (by omega) (by simp; omega)
    refine Eq.trans h7 ?_
    rw [w64s (n := es.length) (by omega) (by omega), ih (i + 1) _ (by omega) (by omega) (by rw [List.length_append, List.length_append, List.length_singleton, List.drop_zero, verTexts_len]; omega), drop_rd (z := S96.z) (by omega : i < es.length), List.flatMap_cons, List.drop_zero]
    simp [entTexts]
theorem texts_len (es : List S96) : es.length ≤ (es.flatMap entTexts).length := by
  induction es with
  | nil => simp
  | cons x t ih => rw [List.flatMap_cons, List.length_append, entTexts_len, List.length_cons]; omega
theorem etexts_big (es : List S96) (h : (es.flatMap entTexts).length ≤ 8796093022208) : F63_entry_Texts es = some (txt (es.flatMap entTexts), ()) := by
  rw [F63_entry_Texts_eq]
  have := texts_len es
  exact texts_l3 es (by omega) _ 0 [] rfl (by omega) (by simpa using h)
theorem texts_max (es : List S96) (hv : ∀ e ∈ es, List.length (α := S98) (S96.f1 e) ≤ 100) : (es.flatMap entTexts).length ≤ es.length * 201 := by
  induction es with
  | nil => simp
  | cons x t ih => rw [List.flatMap_cons, List.length_append, entTexts_len, List.length_cons]; have := ih (fun e he => hv e (by simp [he])); have := hv x (by simp); omega
theorem etexts_eq (es : List S96) (he : es.length ≤ 100) (hv : ∀ e ∈ es, List.length (α := S98) (S96.f1 e) ≤ 100) : F63_entry_Texts es = some (txt (es.flatMap entTexts), ()) :=
  etexts_big es (by have := texts_max es hv; omega)

theorem atomsL_map {α : Type} (f : α → S38) (g : α → List ByteArray) (h : ∀ x, atomsT (f x) = g x) (l : List α) : atomsL (l.map f) = l.flatMap g := by
  induction l with
  | nil => rw [List.map_nil, atomsL]; rfl
  | cons x t ih => rw [List.map_cons, atomsL, ih, h]; rfl
theorem flat_one {α β : Type} (f : α → β) (l : List α) : l.flatMap (fun k => [f k]) = l.map f := by
  induction l with
  | nil => rfl
  | cons x t ih => rw [List.flatMap_cons, ih, List.map_cons]; rfl
theorem atoms_vers (v : S98) : atomsT (versT v) = verTexts v := by simp [versT, rowT, numT, atomT, atomsT, atomsL, verTexts]
theorem atoms_entry (e : S96) : atomsT (entryT e) = entTexts e := by
  rw [entryT, rowT, atomsT, if_neg (by decide), atomsL, atomsL_map versT verTexts atoms_vers]
  simp [atomT, atomsT, entTexts]
theorem atoms_kid (k : S100) : atomsT (kidT k) = [S100.f0 k] := by simp [kidT, rowT, numT, keyT, atomT, atomsT, atomsL]
theorem kids_strict {b : Int} : ∀ {ks : List S100} {p : Option ByteArray}, kidsV b p ks = 0 → (∀ s, p = some s → ∀ y ∈ ks, toB s < toB (S100.f0 y)) ∧ ((ks.map S100.f0).map toB).Pairwise (· < ·)
  | [], p, _ => ⟨fun _ _ y hy => by simp at hy, by simp⟩
  | x :: xs, p, h => by
    rw [kidsV_cons] at h
    by_cases c1 : S100.f0 x = ByteArray.empty
    · rw [if_pos c1] at h; omega
    · rw [if_neg c1] at h
      by_cases c2 : b < ((S100.f0 x).size : Int)
      · rw [if_pos c2] at h; omega
      · rw [if_neg c2] at h
        by_cases c3 : refOk (S100.f2 x) (S100.f3 x) (S100.f4 x) = true
        · rw [if_pos c3] at h
          by_cases c4 : behind p (S100.f0 x) = true
          · rw [if_pos c4] at h
            obtain ⟨h1, h2⟩ := kids_strict h
            have h3 := h1 _ rfl
            refine ⟨fun s hs y hy => ?_, ?_⟩
            · subst hs
              have h4 : toB s < toB (S100.f0 x) := by
                have : sLt s (S100.f0 x) = true := c4
                rw [sLt_eq, decide_eq_true_eq] at this; exact this
              rcases List.mem_cons.1 hy with e | hy
              · rw [e]; exact h4
              · exact List.lt_trans h4 (h3 y hy)
            · rw [List.map_cons, List.map_cons, List.pairwise_cons]
              refine ⟨fun t ht => ?_, h2⟩
              obtain ⟨u, hu, rfl⟩ := List.mem_map.1 ht
              obtain ⟨y, hy, rfl⟩ := List.mem_map.1 hu
              exact h3 y hy
          · rw [if_neg c4] at h; omega
        · rw [if_neg c3] at h; omega
theorem inner_is {a b c d e f g : Int} {xs : List S96} {ks : List S100} (h : nodeV a b c d e f g false xs ks = 0) : 2 ≤ ks.length ∧ kidsV b none ks = 0 := by
  unfold nodeV at h
  by_cases c1 : quotaOk a b c d e f g = true
  · rw [if_pos c1, if_neg (by simp)] at h
    by_cases c2 : (0 : Int) < (xs.length : Int)
    · rw [if_pos c2] at h; omega
    · rw [if_neg c2] at h
      by_cases c3 : (ks.length : Int) < 2
      · rw [if_pos c3] at h; omega
      · rw [if_neg c3] at h
        by_cases c4 : (4 : Int) < (ks.length : Int)
        · rw [if_pos c4] at h; omega
        · rw [if_neg c4] at h; exact ⟨by omega, h⟩
  · rw [if_neg c1] at h; omega
theorem keys_l (v7 : List ByteArray) (v63 : List S100) (v64 v65 : Int) (q : Bool) (xs : List S96) (ks : List S100) (n f : Int) (s : ByteArray) (l : List S38) (y : S100) :
    F13_lethelaw06_NodeTexts_l1000018 v7 false v63 v64 v65 (S38.f3 (kidT y)) 5 0 q xs ks n f s l (S100.f0 y) (S100.f1 y) (S100.f2 y) (S100.f3 y) (S100.f4 y) = F13_lethelaw06_NodeTexts_l1000012 v7 v63 v64 (IntKind.i64.wrap (v65 + (1 : Int))) q xs ks n f s l := by
  rw [show S38.f3 (kidT y) = [atomT (S100.f0 y), keyT (S100.f1 y), numT (S100.f2 y), numT (S100.f3 y), numT (S100.f4 y)] from rfl]
  rw [F13_lethelaw06_NodeTexts_l1000018_eq, if_pos (by decide), if_pos (by simp), if_neg (by decide), show rd S38.z [atomT (S100.f0 y), keyT (S100.f1 y), numT (S100.f2 y), numT (S100.f3 y), numT (S100.f4 y)] 0 = atomT (S100.f0 y) from rfl, if_neg (show ¬ S38.f0 (atomT (S100.f0 y)) = 3 by show ¬ (2 : Int) = 3; decide), show IntKind.i64.wrap (0 + 1) = 1 by decide]
  rw [F13_lethelaw06_NodeTexts_l1000018_eq, if_pos (by decide), if_pos (by simp), if_neg (by decide), show rd S38.z [atomT (S100.f0 y), keyT (S100.f1 y), numT (S100.f2 y), numT (S100.f3 y), numT (S100.f4 y)] 1 = keyT (S100.f1 y) from rfl, if_pos (show S38.f0 (keyT (S100.f1 y)) = 3 from rfl), show IntKind.i64.wrap (1 + 1) = 2 by decide, decide_eq_true (show S38.f1 (keyT (S100.f1 y)) = S100.f1 y from rfl)]
  rw [F13_lethelaw06_NodeTexts_l1000018_eq, if_pos (by decide), if_pos (by simp), if_pos rfl, show IntKind.i64.wrap (2 + 1) = 3 by decide]
  rw [F13_lethelaw06_NodeTexts_l1000018_eq, if_pos (by decide), if_pos (by simp), if_pos rfl, show IntKind.i64.wrap (3 + 1) = 4 by decide]
  rw [F13_lethelaw06_NodeTexts_l1000018_eq, if_pos (by decide), if_pos (by simp), if_pos rfl, show IntKind.i64.wrap (4 + 1) = 5 by decide]
  rw [F13_lethelaw06_NodeTexts_l1000018_eq, if_neg (by decide), if_neg (by decide)]
theorem kids_l (ks : List S100) (h2 : 2 ≤ ks.length) (h4 : ks.length ≤ 4) (n f : Int) (s : ByteArray) : ∀ (d i : Nat), ks.length - i = d → i ≤ ks.length →
    F13_lethelaw06_NodeTexts_l1000012 (ks.map S100.f0) ks (ks.length : Int) (i : Int) false [] ks n f s (numT 2 :: ks.map kidT) = some (true, ()) := by
  intro d
  induction d with
  | zero =>
    intro i hd hi
    rw [F13_lethelaw06_NodeTexts_l1000012_eq, if_neg (by omega), F19_node_Low_eq, if_neg (by decide), if_pos (by decide), if_pos (by omega), if_pos (by omega), Option.bind_some, if_pos (by omega)]
    simp
  | succ d ih =>
    intro i hd hi
    have hlt : i < ks.length := by omega
    have hr : rd ByteArray.empty (ks.map S100.f0) (i : Int) = S100.f0 (rd S100.z ks (i : Int)) := by
      rw [rd_lt (by simpa using hlt), rd_lt hlt, List.getElem_map]
    have ht : rd S38.z (numT 2 :: ks.map kidT) (((i + 1 : Nat) : Int)) = kidT (rd S100.z ks (i : Int)) := by
      rw [rd_lt (by simp; omega), rd_lt hlt, List.getElem_cons_succ, List.getElem_map]
    rw [F13_lethelaw06_NodeTexts_l1000012_eq, if_pos (ilt hlt), if_pos (inb hlt), if_pos (by rw [List.length_map]; exact inb hlt), hr, if_neg (by simp), w64s (n := ks.length) hlt (by omega), if_pos (by simp; omega), ht]
    have hk := keys_l (ks.map S100.f0) ks (ks.length : Int) (i : Int) false [] ks n f s (numT 2 :: ks.map kidT) (rd S100.z ks (i : Int))
    rw [w64s (n := ks.length) hlt (by omega), ih (i + 1) (by omega) (by omega)] at hk
    exact hk
theorem law (a b c d e f g : Int) (q : Bool) (xs : List S96) (ks : List S100) (_ : Ok tab Pr (.int .i64) a) (_ : Ok tab Pr (.int .i64) b) (_ : Ok tab Pr (.int .i64) c) (_ : Ok tab Pr (.int .i64) d) (_ : Ok tab Pr (.int .i64) e) (_ : Ok tab Pr (.int .i64) f) (_ : Ok tab Pr (.int .i64) g) (hx : Ok tab Pr (.sl 96 (.st 96)) xs) (hks : Ok tab Pr (.sl 100 (.st 100)) ks) : F13_lethelaw06_NodeTexts a b c d e f g q xs ks = some (true, ()) := by
  have hxe := ents_ok hx
  rw [F13_lethelaw06_NodeTexts_eq, nterm_c _ _ _ _ _ _ _ q xs ks (sl_len hx) (fun y hy => (hxe y hy).1) (sl_len hks), (node_eq _ _ _ _ _ _ _ q xs ks (sl_len hx) (fun y hy => (hxe y hy).1) (sl_len hks)).2]
  unfold termV
  by_cases c1 : nodeV a b c d e f g q xs ks = 0
  · obtain ⟨n1, n2, n3⟩ := node_n c1
    have ho := okT.node (q := q) (fun y h => (hxe y h).2) (kids_ok hks) n1 n2 n3
    have hr := (fine_node c1 (kids_ok hks) (k := 0) (by decide)).1.right (by omega) (by omega)
    have hat := atoms_eq [nodeT q xs ks] (by simp) (fun z hz => by rw [List.mem_singleton] at hz; rw [hz]; exact ho)
    rw [show atomsR [nodeT q xs ks] = atomsT (nodeT q xs ks) from by simp [atomsR, hr]] at hat
    rw [if_pos c1]
    simp only [Option.bind_some, c1, not_true_eq_false, if_false, term_eta]
    rw [hat]
    simp only [Option.bind_some]
    cases q with
    | true =>
      have h1 : atomsT (nodeT true xs ks) = xs.flatMap entTexts := by
        rw [nodeT, if_pos rfl, rowT, atomsT, if_neg (by decide), atomsL, atomsL_map entryT entTexts atoms_entry]
        simp [numT, atomsT, atomsL]
      have hl := txt_len (xs.flatMap entTexts)
      rw [if_pos rfl, h1, etexts_eq xs (by omega) (fun y hy => by have := n3 y hy; omega), Option.bind_some, Same_txt _ _ (by have := atoms_len ho; rw [h1] at this; have := (right_is hr).1; omega), Option.bind_some, if_pos (by simp), show (S38.f3 (nodeT true xs ks)).length = xs.length + 1 from by show (numT 1 :: xs.map entryT).length = _; simp, w64 (by omega) (by omega)]
      simp
    | false =>
      obtain ⟨k2, kv⟩ := inner_is c1
      obtain ⟨_, h⟩ := node_is c1
      have hx0 : xs = [] := by rcases h with h | h; exact absurd h.1 (by decide); exact h.2.1
      subst hx0
      have h1 : atomsT (nodeT false [] ks) = ks.map S100.f0 := by
        rw [nodeT, if_neg (by decide), rowT, atomsT, if_neg (by decide), atomsL, atomsL_map kidT (fun k => [S100.f0 k]) atoms_kid]
        rw [flat_one]
        simp [numT, atomsT, atomsL]
      have h2 : txt (ks.map S100.f0) = ks.map S100.f0 := txt_self (kids_strict kv).2
      rw [if_neg (by decide), h1, h2, if_neg (by simp), show S38.f3 (nodeT false [] ks) = numT 2 :: ks.map kidT from rfl, if_neg (by rw [w64 (by omega) (by omega)]; simp)]
      exact kids_l ks k2 n2 _ _ _ _ 0 rfl (by omega)
  · rw [if_neg c1]
    simp only [Option.bind_some, not_true_eq_false, if_false]
    rw [if_pos c1]

end
end Go.Proofs.Ytgfaplkbajjheaa.NodeTextsp
