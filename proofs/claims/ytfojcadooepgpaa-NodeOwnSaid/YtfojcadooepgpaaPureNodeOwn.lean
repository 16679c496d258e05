/- The law NodeOwn, for all arguments. Under no condition. -/
import Derived.Test.YtfojcadooepgpaaENodeOwn
import Derived.Laws.BitsLemmas
import Derived.Laws.Bits64
set_option linter.unusedVariables false
set_option linter.unusedSimpArgs false
set_option linter.unusedSectionVars false
namespace Go.Proofs.Ytfojcadooepgpaa.NodeOwnp
open Go Go.RowKit Go.Proofs.Ytfojcadooepgpaa.Rx Go.Proofs.Ytfojcadooepgpaa.NodeOwnx
noncomputable section
theorem w64 {n : Int} (h0 : -9223372036854775808 ≤ n) (h1 : n ≤ 9223372036854775807) : IntKind.i64.wrap n = n := by rw [IntKind.wrap_i64]; omega
theorem w64s {j n : Nat} (h : j < n) (hn : n ≤ 9223372036854775807) : IntKind.i64.wrap ((j : Int) + 1) = ((j + 1 : Nat) : Int) := by rw [w64 (by omega) (by omega)]; omega
theorem w64p {j : Nat} (h : 0 < j) (hn : j ≤ 9223372036854775807) : IntKind.i64.wrap ((j : Int) - 1) = ((j - 1 : Nat) : Int) := by rw [w64 (by omega) (by omega)]; omega
theorem sl_len {e : TypeId} {t : Ty} {xs : List (den tab.S t)} (h : Ok tab Pr (.sl e t) xs) : xs.length ≤ 9223372036854775807 := by
  have := (Ok.inv h).2.1
  simp only [maxLen] at this
  omega
theorem ite_to {α : Type} {p : Prop} [Decidable p] {a b c : α} (h1 : p → a = c) (h2 : ¬ p → b = c) : (if p then a else b) = c := by
  by_cases h : p
  · rw [if_pos h]; exact h1 h
  · rw [if_neg h]; exact h2 h
theorem ob_eq {a b : Bool} (h1 : a = true → b = true) (h2 : b = true → a = true) : (some (a, ()) : Option (Bool × Unit)) = some (b, ()) := by rw [Bool.eq_iff_iff.2 ⟨h1, h2⟩]
theorem oi_eq {a b : Int} (h : a = b) : (some (a, ()) : Option (Int × Unit)) = some (b, ()) := by rw [h]
theorem rd_lt {α : Type} {z : α} {xs : List α} {i : Nat} (h : i < xs.length) : rd z xs (i : Int) = xs[i] := by simp [rd, h]
theorem drop_rd {α : Type} {z : α} {xs : List α} {i : Nat} (h : i < xs.length) : xs.drop i = rd z xs (i : Int) :: xs.drop (i + 1) := by rw [rd_lt h]; exact List.drop_eq_getElem_cons h
theorem inb {i n : Nat} (h : i < n) : (0 : Int) ≤ (i : Int) ∧ (i : Int) < (n : Int) := by omega
theorem ilt {i n : Nat} (h : i < n) : (i : Int) < (n : Int) := by omega
theorem subL_drop {α : Type} (xs : List α) {l : Int} {k : Nat} (h : l = (k : Int)) : subL xs l (xs.length : Int) = xs.drop k := by simp [subL, h]
theorem subL_take {α : Type} (xs : List α) {l : Int} {k : Nat} (h : l = (k : Int)) : subL xs 0 l = xs.take k := by simp [subL, h]

/-! ### terms -/
theorem term_eta (t : S25) : S25.mk (S25.f0 t) (S25.f1 t) (S25.f2 t) (S25.f3 t) = t := by cases t; rfl
@[simp] theorem T_f0 (a b : Int) (s : ByteArray) (l : List S25) : S25.f0 (S25.mk a b s l) = a := rfl
@[simp] theorem T_f1 (a b : Int) (s : ByteArray) (l : List S25) : S25.f1 (S25.mk a b s l) = b := rfl
@[simp] theorem T_f2 (a b : Int) (s : ByteArray) (l : List S25) : S25.f2 (S25.mk a b s l) = s := rfl
@[simp] theorem T_f3 (a b : Int) (s : ByteArray) (l : List S25) : S25.f3 (S25.mk a b s l) = l := rfl
/-- A term with no list that is too long. -/
inductive Tn : S25 → Prop
  | mk (k n : Int) (b : ByteArray) (l : List S25) (h : l.length * 56 ≤ 140737488355328) (hl : ∀ x ∈ l, Tn x) : Tn (S25.mk k n b l)
abbrev T4 := Int × Int × ByteArray × List S25 × Unit
def ofT (t : S25) : Option T4 := some (S25.f0 t, S25.f1 t, S25.f2 t, S25.f3 t, ())

theorem clone_l (l : List S25) (hl : l.length * 56 ≤ 140737488355328) (hc : ∀ x ∈ l, F52_term_clone (S25.f0 x) (S25.f1 x) (S25.f2 x) (S25.f3 x) = ofT x) (k n : Int) (b : ByteArray) (l' : List S25) (o o' : Int) (s : ByteArray) (g : List S25) : ∀ (m i : Nat), l.length - i = m → i ≤ l.length →
    F52_term_clone_l1000003 l (l.length : Int) (i : Int) k n b l' o o' s (l.take i) g = some (k, n, b, l, ()) := by
  intro m
  induction m with
  | zero =>
    intro i hm hi
    rw [F52_term_clone_l1000003_eq, if_neg (by omega), List.take_of_length_le (by omega)]
  | succ m ih =>
    intro i hm hi
    rw [F52_term_clone_l1000003_eq, if_pos (ilt (by omega)), if_pos (inb (by omega)), rd_lt (by omega : i < l.length), hc _ (List.getElem_mem _)]
    show (if _ then _ else none) = _
    rw [if_pos (by simp only [List.length_take, List.length_singleton]; omega), w64s (n := l.length) (by omega) (by omega)]
    have := ih (i + 1) (by omega) (by omega)
    rw [List.take_add_one, List.getElem?_eq_getElem (by omega)] at this
    rw [term_eta]
    exact this
theorem clone_eq {t : S25} (h : Tn t) : F52_term_clone (S25.f0 t) (S25.f1 t) (S25.f2 t) (S25.f3 t) = ofT t := by
  induction h with
  | mk k n b l h hl ih =>
    show F52_term_clone k n b l = some (k, n, b, l, ())
    rw [F52_term_clone_eq]
    exact clone_l l h ih k n b l 0 0 ByteArray.empty [] l.length 0 (by omega) (by omega)

def numT (n : Int) : S25 := S25.mk 1 (IntKind.u64.wrap n) ByteArray.empty []
def atomT (s : ByteArray) : S25 := S25.mk 2 0 s []
def keyT (n : Int) : S25 := S25.mk 3 n ByteArray.empty []
def rowT (l : List S25) : S25 := S25.mk 5 0 ByteArray.empty l
theorem Tn.num (n : Int) : Tn (numT n) := .mk _ _ _ _ (by simp) (fun x hx => by cases hx)
theorem Tn.atom (s : ByteArray) : Tn (atomT s) := .mk _ _ _ _ (by simp) (fun x hx => by cases hx)
theorem Tn.key (n : Int) : Tn (keyT n) := .mk _ _ _ _ (by simp) (fun x hx => by cases hx)
theorem Tn.row {l : List S25} (h : l.length ≤ 1000000) (hl : ∀ x ∈ l, Tn x) : Tn (rowT l) := .mk _ _ _ _ (by omega) hl
theorem tatom (s : ByteArray) : F29_term_Atom s = ofT (atomT s) := by rw [F29_term_Atom_eq]; rfl
theorem tkey (n : Int) : F34_term_Key n = ofT (keyT n) := by rw [F34_term_Key_eq]; rfl
theorem tof {l : List S25} (h : l.length ≤ 1000000) (hl : ∀ x ∈ l, Tn x) : F31_term_Of l = ofT (rowT l) := by
  rw [F31_term_Of_eq, show F52_term_clone 5 0 ByteArray.empty l = ofT (rowT l) from clone_eq (Tn.row h hl)]; rfl
theorem snoc_tn {g : List S25} (hg : ∀ x ∈ g, Tn x) {y : S25} (hy : Tn y) : ∀ x ∈ g ++ [y], Tn x := by
  intro x hx
  rw [List.mem_append, List.mem_singleton] at hx
  rcases hx with h | h
  · exact hg x h
  · rw [h]; exact hy

inductive okT : S25 → Prop
  | mk {x : S25} : (Lit.int .i64 (S25.f0 x)).wf = true → (Lit.int .u64 (S25.f1 x)).wf = true → (S25.f2 x).size ≤ 140737488351232 → (S25.f3 x).length * 56 ≤ 140737488351232 → (S25.f3 x).length ≤ maxLen → (∀ y ∈ S25.f3 x, okT y) → okT x
theorem etaT (x : S25) : (S25.mk (S25.f0 x) (S25.f1 x) (S25.f2 x) (S25.f3 x)) = x := by cases x; rfl
theorem okT.leaf {n f : Int} {s : ByteArray} (h0 : (Lit.int .i64 n).wf = true) (h1 : (Lit.int .u64 f).wf = true) (h2 : s.size ≤ 140737488351232) : okT (S25.mk n f s []) := okT.mk h0 h1 h2 (by show 0 * 56 ≤ _; omega) (by show 0 ≤ _; omega) (fun y hy => by cases hy)
theorem okT.len {x : S25} (h : okT x) : (S25.f3 x).length ≤ 2513169434843 := by
  cases h with
  | mk _ _ _ h3 _ _ => omega
theorem okT.el {x : S25} (h : okT x) : ∀ y ∈ S25.f3 x, okT y := by
  cases h with
  | mk _ _ _ _ _ h5 => exact h5
theorem okT.tn {x : S25} (h : okT x) : Tn x := by
  induction h with
  | @mk x h0 h1 h2 h3 h4 h5 ih => rw [← etaT x]; exact Tn.mk _ _ _ _ (by omega) ih
theorem okT_of (n : Nat) : ∀ x : S25, SizeOf.sizeOf x < n → Ok tab Pr (.int .i64) (S25.f0 x) → Ok tab Pr (.int .u64) (S25.f1 x) → Ok tab Pr .str (S25.f2 x) → Ok tab Pr (.sl 25 (.st 25)) (S25.f3 x) → okT x := by
  induction n with
  | zero => intro x hx; omega
  | succ n ih =>
    intro x hx h0 h1 h2 h3
    have hb := (Ok.inv h3).1
    rw [show Program.bytesOf Pr 25 = 56 by kernel_rfl] at hb
    refine okT.mk (Ok.inv h0) (Ok.inv h1) (Ok.inv h2) ?_ (Ok.inv h3).2.1 (fun y hy => ?_)
    · exact hb
    · obtain ⟨i, hi, rfl⟩ := List.getElem_of_mem hy
      have hs : SizeOf.sizeOf (S25.f3 x)[i] < n := by
        have h9 := List.sizeOf_lt_of_mem hy
        have h8 : SizeOf.sizeOf (S25.f3 x) < SizeOf.sizeOf x := by cases x; simp [S25.f3]; omega
        omega
      have hc := (Ok.inv h3).2.2 i (S25.f3 x)[i]
      exact ih _ hs (hc 0 ⟨.int .i64, _⟩ (List.getElem?_eq_getElem hi) rfl) (hc 1 ⟨.int .u64, _⟩ (List.getElem?_eq_getElem hi) rfl) (hc 2 ⟨.str, _⟩ (List.getElem?_eq_getElem hi) rfl) (hc 3 ⟨.sl 25 (.st 25), _⟩ (List.getElem?_eq_getElem hi) rfl)

theorem wf_u64 {x : Int} (h : (Lit.int .u64 x).wf = true) : 0 ≤ x ∧ x < 18446744073709551616 := by
  simp [Lit.wf, IntKind.min, IntKind.max, IntKind.bits, IntKind.signed] at h
  omega
theorem wf_i64 {x : Int} (h : (Lit.int .i64 x).wf = true) : -9223372036854775808 ≤ x ∧ x ≤ 9223372036854775807 := by
  simp [Lit.wf, IntKind.min, IntKind.max, IntKind.bits, IntKind.signed] at h
  omega
theorem wrap_u64 {n : Int} (h0 : 0 ≤ n) (h1 : n < 18446744073709551616) : IntKind.u64.wrap n = n := by
  have h : IntKind.u64.wrap n = n % 18446744073709551616 := by simp [IntKind.wrap, IntKind.bits, IntKind.signed]
  rw [h]; omega

theorem wf_wrap (n : Int) : (Lit.int .u64 (IntKind.u64.wrap n)).wf = true := by
  have h : IntKind.u64.wrap n = n % 18446744073709551616 := by simp [IntKind.wrap, IntKind.bits, IntKind.signed]
  rw [h]
  simp [Lit.wf, IntKind.min, IntKind.max, IntKind.bits, IntKind.signed]
  omega
theorem okT.num (n : Int) : okT (numT n) := okT.leaf (by decide) (wf_wrap n) (by decide)
theorem okT.atom {s : ByteArray} (h : s.size ≤ 140737488351232) : okT (atomT s) := okT.leaf (by decide) (by decide) h
theorem okT.key {k : Int} (h : (Lit.int .u64 k).wf = true) : okT (keyT k) := okT.leaf (by decide) h (by decide)
theorem okT.row {l : List S25} (h : l.length ≤ 1000) (hl : ∀ x ∈ l, okT x) : okT (rowT l) :=
  okT.mk (show (Lit.int .i64 5).wf = true by decide) (show (Lit.int .u64 0).wf = true by decide) (show ByteArray.empty.size ≤ 140737488351232 by decide) (show l.length * 56 ≤ 140737488351232 by omega) (show l.length ≤ maxLen by simp only [maxLen]; omega) hl

/-! ### strings as lists of numbers -/
/-- A list of bytes. -/
def AllB (l : List Int) : Prop := ∀ c ∈ l, 0 ≤ c ∧ c ≤ 255
theorem AllB.nil : AllB [] := fun _ h => by simp at h
theorem AllB.cons {c : Int} {l : List Int} (h : 0 ≤ c ∧ c ≤ 255) (hl : AllB l) : AllB (c :: l) := fun x hx => by
  rcases List.mem_cons.1 hx with rfl | hx
  · exact h
  · exact hl x hx
theorem AllB.app {a b : List Int} (ha : AllB a) (hb : AllB b) : AllB (a ++ b) := fun x hx => by
  rcases List.mem_append.1 hx with hx | hx
  · exact ha x hx
  · exact hb x hx
theorem AllB.take {a : List Int} (ha : AllB a) (n : Nat) : AllB (a.take n) := fun x hx => ha x (List.mem_of_mem_take hx)
theorem AllB.drop {a : List Int} (ha : AllB a) (n : Nat) : AllB (a.drop n) := fun x hx => ha x (List.mem_of_mem_drop hx)
theorem AllB.of_bytes (s : ByteArray) : AllB (bytesOf s) := fun x hx => by
  obtain ⟨b, _, rfl⟩ := List.mem_map.1 hx
  have := b.toNat_lt
  omega
theorem bytesOf_str {l : List Int} (h : AllB l) : bytesOf (strB l) = l := by
  unfold bytesOf strB
  simp only [List.map_map]
  rw [show (List.map ((fun b : UInt8 => (b.toNat : Int)) ∘ fun n : Int => UInt8.ofNat n.toNat) l) = List.map id l from List.map_congr_left (fun x hx => by
    have := h x hx
    simp only [Function.comp, id, UInt8.toNat_ofNat']
    omega)]
  simp
theorem str_bytesOf (s : ByteArray) : strB (bytesOf s) = s := by
  unfold bytesOf strB
  simp only [List.map_map]
  rw [show (List.map ((fun n : Int => UInt8.ofNat n.toNat) ∘ fun b : UInt8 => (b.toNat : Int)) s.data.toList) = List.map id s.data.toList from List.map_congr_left (fun x hx => by
    simp [Function.comp])]
  simp
theorem bytesOf_inj {a b : ByteArray} (h : bytesOf a = bytesOf b) : a = b := by rw [← str_bytesOf a, ← str_bytesOf b, h]
theorem bytesOf_append (a b : ByteArray) : bytesOf (a ++ b) = bytesOf a ++ bytesOf b := by simp [bytesOf]
theorem bytesOf_extract (a : ByteArray) (i j : Nat) : bytesOf (a.extract i j) = ((bytesOf a).take j).drop i := by
  simp [bytesOf, List.extract_eq_take_drop, List.map_take, List.map_drop, List.drop_take]
theorem bytesOf_empty : bytesOf ByteArray.empty = [] := rfl
theorem bytesOf_length (s : ByteArray) : (bytesOf s).length = s.size := by rw [bytesOf, List.length_map, Array.length_toList]; rfl
theorem size_bytesOf (s : ByteArray) : s.size = (bytesOf s).length := (bytesOf_length s).symm
theorem size_str (l : List Int) : (strB l).size = l.length := by simp [strB, ByteArray.size]
theorem str_append (a b : List Int) : strB (a ++ b) = strB a ++ strB b := by
  apply ByteArray.ext
  simp [strB]
theorem str_take (l : List Int) (j : Nat) : (strB l).extract 0 j = strB (l.take j) := by
  apply ByteArray.ext
  simp [strB, List.map_take]


/-! ### numbers in sevens -/
/-- A number in sevens. -/
def putN (n : Nat) : List Int := if h : n < 128 then [(n : Int)] else ((n % 128 + 128 : Nat) : Int) :: putN (n / 128)
termination_by n
decreasing_by omega
theorem putN_lt {n : Nat} (h : n < 128) : putN n = [(n : Int)] := by rw [putN, dif_pos h]
theorem putN_ge {n : Nat} (h : ¬ n < 128) : putN n = ((n % 128 + 128 : Nat) : Int) :: putN (n / 128) := by rw [putN, dif_neg h]
/-- Reading: i bytes were read ahead, worth acc. -/
def getN : Nat → Nat → List Int → Int × Int × Int
  | _, _, [] => (0, 0, 20)
  | i, acc, c :: t => if i = 9 ∧ c > 1 then (0, 0, 21) else if c < 128 then (if c = 0 ∧ 0 < i then (0, 0, 21) else (((acc + c.toNat * 128 ^ i : Nat) : Int), ((i + 1 : Nat) : Int), 0)) else getN (i + 1) (acc + (c.toNat - 128) * 128 ^ i) t
def IsByte (c : Int) : Prop := 0 ≤ c ∧ c ≤ 255

theorem strB_append (xs : List Int) (n : Nat) : ∀ (ys : List Int), (xs ++ [(n : Int)]) ++ ys = xs ++ (((n : Int)) :: ys) := by simp
theorem big64 {n : Nat} (h : n < 18446744073709551616) : n < 128 ^ (100 - ([] : List Int).length) := Nat.lt_of_lt_of_le h (by decide)
theorem wraps_u64 (n : Int) (h₀ : 0 ≤ n) (h₁ : n < 2 ^ 64) : IntKind.u64.wrap n = n := by rw [IntKind.wrap_u64]; omega
theorem or_low (a b i : Nat) (hi : i ≤ 63) (ha : a < 2 ^ i) (hb : b * 2 ^ i < 18446744073709551616) : bitsR .or .u64 (a : Int) ((b * 2 ^ i : Nat) : Int) = ((a + b * 2 ^ i : Nat) : Int) := by
  have ha' : a < 2 ^ 64 := Nat.lt_of_lt_of_le ha (Nat.pow_le_pow_right (by decide) (by omega))
  rw [show bitsR .or .u64 (a : Int) ((b * 2 ^ i : Nat) : Int) = _ from (bits_nat .u64 64 (by decide) wraps_u64 a (b * 2 ^ i) ha' hb).2]
  congr 1
  rw [Nat.or_comm, Nat.mul_comm b, ← Nat.two_pow_add_eq_or_of_lt ha b, Nat.add_comm]
theorem and127 (c : Int) (h0 : 0 ≤ c) (h1 : c ≤ 255) : bitsR .and .u8 c 127 = c % 128 := bits_mask .u8 8 (by decide) wraps_u8 7 (by decide) c h0 (by omega)
theorem or7 (acc i : Nat) (c : Int) (h0 : 0 ≤ c) (h1 : c ≤ 255) (hi : i ≤ 9) (hacc : acc < 128 ^ i) (h9 : i = 9 → c ≤ 1) :
    bitsR .or .u64 (acc : Int) (shlR .u64 (IntKind.u64.wrap (bitsR .and .u8 c 127)) (IntKind.u64.wrap (IntKind.i64.wrap (7 * (i : Int))))) = ((acc + (c.toNat % 128) * 128 ^ i : Nat) : Int) := by
  rw [and127 c h0 h1, w64 (by omega) (by omega), wraps_u64 (7 * (i : Int)) (by omega) (by omega), wraps_u64 (c % 128) (by omega) (by omega)]
  have hp : 128 ^ i = 2 ^ (7 * i) := by rw [Nat.pow_mul]
  have hb : (c.toNat % 128) * 2 ^ (7 * i) < 18446744073709551616 := by
    rw [← hp]
    rcases Nat.lt_or_ge i 9 with h | h
    · have h2 : 128 ^ i ≤ 128 ^ 8 := Nat.pow_le_pow_right (by decide) (by omega)
      have h3 : (c.toNat % 128) * 128 ^ i ≤ 127 * 128 ^ 8 := Nat.mul_le_mul (by omega) h2
      exact Nat.lt_of_le_of_lt h3 (by decide)
    · obtain rfl : i = 9 := by omega
      have h3 := h9 rfl
      have h4 : (c.toNat % 128) * 128 ^ 9 ≤ 1 * 128 ^ 9 := Nat.mul_le_mul (by omega) (Nat.le_refl _)
      exact Nat.lt_of_le_of_lt h4 (by decide)
  have hs : shlR .u64 (c % 128) (7 * (i : Int)) = (((c.toNat % 128) * 2 ^ (7 * i) : Nat) : Int) := by
    unfold shlR
    rw [show (7 * (i : Int)).toNat = 7 * i from by omega, Nat.min_eq_left (show 7 * i ≤ IntKind.u64.bits from by show 7 * i ≤ 64; omega)]
    rw [show (c % 128) = ((c.toNat % 128 : Nat) : Int) from by omega]
    have : (((c.toNat % 128 : Nat) : Int) * 2 ^ (7 * i)) = (((c.toNat % 128) * 2 ^ (7 * i) : Nat) : Int) := by simp
    rw [this]
    exact wraps_u64 _ (by omega) (by exact_mod_cast hb)
  rw [hs, or_low acc _ (7 * i) (by omega) (by rw [← hp]; exact hacc) hb, hp]
theorem bt_eq {s : ByteArray} {j : Nat} (h : j < s.size) : bt s (j : Int) = (bytesOf s)[j]'(by rw [bytesOf_length]; exact h) := by
  unfold bt bytesOf
  rw [dif_pos (by simpa using h)]
  simp only [List.getElem_map, Int.toNat_natCast]
  rfl
theorem bt_byte (s : ByteArray) (i : Int) : IsByte (bt s i) := by
  unfold bt IsByte
  split
  · rename_i h; have := (s[i.toNat]'h).toNat_lt; omega
  · omega
theorem bytes_drop {s : ByteArray} {j : Nat} (h : j < s.size) : (bytesOf s).drop j = bt s (j : Int) :: (bytesOf s).drop (j + 1) := by
  have hl : j < (bytesOf s).length := by rw [bytesOf_length]; exact h
  rw [List.drop_eq_getElem_cons hl, bt_eq h]
theorem shr7 {c : Int} (h0 : 0 ≤ c) (k : IntKind) (hk : 7 ≤ k.bits) : shrR k c 7 = c / 128 := by
  unfold shrR
  rw [show (7 : Int).toNat = 7 from rfl, Nat.min_eq_left hk, Int.fdiv_eq_ediv_of_nonneg _ (by decide)]
  rfl
theorem or128 (n : Nat) : bitsR .or .u8 (IntKind.u8.wrap (n : Int)) 128 = ((n % 128 + 128 : Nat) : Int) := by
  have e3 : IntKind.u8.wrap (n : Int) = ((n % 256 : Nat) : Int) := by rw [IntKind.wrap_u8]; omega
  have e4 : bitsR .or .u8 ((n % 256 : Nat) : Int) ((128 : Nat) : Int) = (((n % 256) ||| 128 : Nat) : Int) := (bits_nat .u8 8 (by decide) wraps_u8 (n % 256) 128 (by omega) (by decide)).2
  rw [e3, show (128 : Int) = ((128 : Nat) : Int) from rfl, e4]
  congr 1
  have key : ∀ m : Fin 256, (m.val ||| 128) = m.val % 128 + 128 := by decide +kernel
  have := key ⟨n % 256, by omega⟩
  simp only at this
  rw [this]
  omega
theorem u8_small {n : Nat} (h : n < 256) : IntKind.u8.wrap (n : Int) = (n : Int) := by rw [IntKind.wrap_u8]; omega
theorem ref7 (acc i : Nat) (c : Int) (h0 : 0 ≤ c) (h1 : c ≤ 255) (hi : i ≤ 9) (hacc : acc < 128 ^ i) (h9 : i = 9 → c ≤ 1) :
    IntKind.u64.wrap ((acc : Int) + (IntKind.u64.wrap ((IntKind.u64.wrap (Int.tmod c 128)) * ((128 ^ i : Nat) : Int)))) = ((acc + (c.toNat % 128) * 128 ^ i : Nat) : Int) := by
  have e0 : Int.tmod c 128 = ((c.toNat % 128 : Nat) : Int) := by rw [Int.tmod_eq_emod_of_nonneg h0]; omega
  rw [e0, wraps_u64 ((c.toNat % 128 : Nat) : Int) (by omega) (by omega)]
  have hb : acc + (c.toNat % 128) * 128 ^ i < 18446744073709551616 := by
    rcases Nat.lt_or_ge i 9 with h | h
    · have h2 : 128 ^ i ≤ 128 ^ 8 := Nat.pow_le_pow_right (by decide) (by omega)
      have h3 : (c.toNat % 128) * 128 ^ i ≤ 127 * 128 ^ 8 := Nat.mul_le_mul (by omega) h2
      have h4 : (127 * 128 ^ 8 + 128 ^ 8 : Nat) < 18446744073709551616 := by decide
      omega
    · obtain rfl : i = 9 := by omega
      have h3 := h9 rfl
      have h4 : (c.toNat % 128) * 128 ^ 9 ≤ 1 * 128 ^ 9 := Nat.mul_le_mul (by omega) (Nat.le_refl _)
      have h5 : (1 * 128 ^ 9 + 128 ^ 9 : Nat) ≤ 18446744073709551616 := by decide
      omega
  have e1 : (((c.toNat % 128 : Nat) : Int) * ((128 ^ i : Nat) : Int)) = (((c.toNat % 128) * 128 ^ i : Nat) : Int) := by rw [Int.natCast_mul]
  rw [e1, wraps_u64 (((c.toNat % 128) * 128 ^ i : Nat) : Int) (by omega) (by omega), wraps_u64 _ (by omega) (by omega)]
  omega
theorem putN_B (n : Nat) : AllB (putN n) := by
  induction n using Nat.strongRecOn with
  | _ n ih =>
    by_cases h : n < 128
    · rw [putN_lt h]
      exact AllB.cons (by omega) AllB.nil
    · rw [putN_ge h]
      exact AllB.cons (by omega) (ih _ (by omega))
theorem putN_pos (n : Nat) : 1 ≤ (putN n).length := by
  by_cases h : n < 128
  · rw [putN_lt h]; simp
  · rw [putN_ge h]; simp
theorem putN_len (k : Nat) : ∀ n, n < 128 ^ k → 1 ≤ k → (putN n).length ≤ k := by
  induction k with
  | zero => intro n _ h; omega
  | succ k ih =>
    intro n hn _
    by_cases h : n < 128
    · rw [putN_lt h]; simp
    · rw [putN_ge h]
      have h1 : n / 128 < 128 ^ k := by rw [Nat.pow_succ] at hn; omega
      have h2 : 1 ≤ k := by
        rcases Nat.eq_zero_or_pos k with rfl | h3
        · simp at h1; omega
        · exact h3
      simpa using ih _ h1 h2
theorem putN_len10 {n : Nat} (h : n < 18446744073709551616) : (putN n).length ≤ 10 := putN_len 10 n (Nat.lt_of_lt_of_le h (by decide)) (by omega)
/-- What is written reads back, whatever comes after. -/
theorem get_put (n : Nat) : ∀ (i acc : Nat) (more : List Int), n * 128 ^ i < 18446744073709551616 → (i = 0 ∨ 0 < n) → getN i acc (putN n ++ more) = (((acc + n * 128 ^ i : Nat) : Int), ((i + (putN n).length : Nat) : Int), 0) := by
  induction n using Nat.strongRecOn with
  | _ n ih =>
    intro i acc more hb hi
    have h9 : i = 9 → n ≤ 1 := by
      intro h
      subst h
      rcases Nat.lt_or_ge 1 n with h2 | h2
      · have h3 : 2 * 128 ^ 9 ≤ n * 128 ^ 9 := Nat.mul_le_mul (by omega) (Nat.le_refl _)
        have h4 : (2 * 128 ^ 9 : Nat) = 18446744073709551616 := by decide
        omega
      · exact h2
    by_cases h : n < 128
    · rw [putN_lt h]
      have c1 : ¬ (i = 9 ∧ ((n : Nat) : Int) > 1) := by omega
      have c2 : ((n : Nat) : Int) < 128 := by omega
      have c3 : ¬ (((n : Nat) : Int) = 0 ∧ 0 < i) := by omega
      simp only [List.cons_append, List.nil_append, getN, if_neg c1, if_pos c2, if_neg c3, Int.toNat_natCast, List.length_singleton]
    · rw [putN_ge h]
      have c1 : ¬ (i = 9 ∧ ((n % 128 + 128 : Nat) : Int) > 1) := by omega
      have c2 : ¬ ((n % 128 + 128 : Nat) : Int) < 128 := by omega
      simp only [List.cons_append, getN, if_neg c1, if_neg c2, Int.toNat_natCast, List.length_cons]
      have e1 : n % 128 + 128 - 128 = n % 128 := by omega
      have e2 : n / 128 * 128 ^ (i + 1) + n % 128 * 128 ^ i = n * 128 ^ i := by
        rw [Nat.pow_succ, ← Nat.mul_assoc, Nat.mul_right_comm, ← Nat.add_mul, Nat.div_add_mod' n 128]
      rw [e1, ih (n / 128) (by omega) (i + 1) _ more (by omega) (by omega)]
      have e3 : acc + n % 128 * 128 ^ i + n / 128 * 128 ^ (i + 1) = acc + n * 128 ^ i := by omega
      have e4 : i + 1 + (putN (n / 128)).length = i + ((putN (n / 128)).length + 1) := by omega
      rw [e3, e4]
/-- A part cut short is short. -/
theorem get_cut (n : Nat) : ∀ (i acc m : Nat), n * 128 ^ i < 18446744073709551616 → m < (putN n).length → getN i acc ((putN n).take m) = (0, 0, 20) := by
  induction n using Nat.strongRecOn with
  | _ n ih =>
    intro i acc m hb hm
    by_cases h : n < 128
    · rw [putN_lt h] at hm ⊢
      have : m = 0 := by simpa using hm
      subst this
      rfl
    · rw [putN_ge h] at hm ⊢
      cases m with
      | zero => rfl
      | succ m =>
        have h9 : ¬ i = 9 := by
          intro h9
          subst h9
          have h3 : 128 * 128 ^ 9 ≤ n * 128 ^ 9 := Nat.mul_le_mul (by omega) (Nat.le_refl _)
          have h4 : (18446744073709551616 : Nat) ≤ 128 * 128 ^ 9 := by decide
          omega
        have c1 : ¬ (i = 9 ∧ ((n % 128 + 128 : Nat) : Int) > 1) := fun h => h9 h.1
        have c2 : ¬ ((n % 128 + 128 : Nat) : Int) < 128 := by omega
        simp only [List.take_succ_cons, getN, if_neg c1, if_neg c2]
        have e2 : n / 128 * 128 ^ (i + 1) + n % 128 * 128 ^ i = n * 128 ^ i := by
          rw [Nat.pow_succ, ← Nat.mul_assoc, Nat.mul_right_comm, ← Nat.add_mul, Nat.div_add_mod' n 128]
        exact ih _ (by omega) _ _ _ (by omega) (by simpa using hm)
/-- What reads was so written. -/
theorem get_is (l : List Int) : ∀ (i acc : Nat), AllB l → i ≤ 9 →
    (∃ n more, l = putN n ++ more ∧ n < 128 ^ (9 - i) * 2 ∧ (i = 0 ∨ 0 < n) ∧ getN i acc l = (((acc + n * 128 ^ i : Nat) : Int), ((i + (putN n).length : Nat) : Int), 0)) ∨ getN i acc l = (0, 0, 20) ∨ getN i acc l = (0, 0, 21) := by
  induction l with
  | nil => intro i acc _ _; exact .inr (.inl rfl)
  | cons c t ih =>
    intro i acc hB hi
    have hc := hB c (by simp)
    by_cases h1 : i = 9 ∧ c > 1
    · exact .inr (.inr (by simp only [getN, if_pos h1]))
    · by_cases h2 : c < 128
      · by_cases h3 : c = 0 ∧ 0 < i
        · exact .inr (.inr (by simp only [getN, if_neg h1, if_pos h2, if_pos h3]))
        · refine .inl ⟨c.toNat, t, ?_, ?_, by omega, ?_⟩
          · rw [putN_lt (by omega)]
            simp
            omega
          · rcases Nat.lt_or_ge i 9 with h4 | h4
            · have h5 : 128 ^ 1 ≤ 128 ^ (9 - i) := Nat.pow_le_pow_right (by decide) (by omega)
              omega
            · obtain rfl : i = 9 := by omega
              simp
              omega
          · simp only [getN, if_neg h1, if_pos h2, if_neg h3]
            rw [putN_lt (by omega)]
            rfl
      · have h4 : i < 9 := by omega
        have e : getN i acc (c :: t) = getN (i + 1) (acc + (c.toNat - 128) * 128 ^ i) t := by simp only [getN, if_neg h1, if_neg h2]
        rw [e]
        rcases ih (i + 1) (acc + (c.toNat - 128) * 128 ^ i) (fun x hx => hB x (by simp [hx])) (by omega) with ⟨n, more, h5, h6, h7, h8⟩ | h5 | h5
        · refine .inl ⟨(c.toNat - 128) + 128 * n, more, ?_, ?_, by omega, ?_⟩
          · rw [putN_ge (by omega), h5]
            rw [show (c.toNat - 128 + 128 * n) / 128 = n from by omega, show (c.toNat - 128 + 128 * n) % 128 + 128 = c.toNat from by omega]
            simp
            omega
          · have h9 : 128 ^ (9 - i) = 128 ^ (9 - (i + 1)) * 128 := by rw [← Nat.pow_succ]; congr 1; omega
            rw [h9]
            omega
          · rw [h8, putN_ge (n := c.toNat - 128 + 128 * n) (by omega), show (c.toNat - 128 + 128 * n) / 128 = n from by omega]
            have e2 : (c.toNat - 128 + 128 * n) * 128 ^ i = (c.toNat - 128) * 128 ^ i + n * 128 ^ (i + 1) := by rw [Nat.add_mul, Nat.pow_succ]; congr 1; rw [Nat.mul_comm 128 n, Nat.mul_assoc, Nat.mul_comm 128]
            rw [e2, List.length_cons]
            have e3 : acc + (c.toNat - 128) * 128 ^ i + n * 128 ^ (i + 1) = acc + ((c.toNat - 128) * 128 ^ i + n * 128 ^ (i + 1)) := by omega
            have e4 : i + 1 + (putN n).length = i + ((putN n).length + 1) := by omega
            rw [e3, e4]
        · exact .inr (.inl h5)
        · exact .inr (.inr h5)
/-- What reads was so written: from the start. -/
theorem get_is0 {l : List Int} (hB : AllB l) : (∃ n more, l = putN n ++ more ∧ n < 18446744073709551616 ∧ getN 0 0 l = ((n : Int), ((putN n).length : Int), 0)) ∨ getN 0 0 l = (0, 0, 20) ∨ getN 0 0 l = (0, 0, 21) := by
  rcases get_is l 0 0 hB (by omega) with ⟨n, more, h1, h2, _, h3⟩ | h | h
  · refine .inl ⟨n, more, h1, Nat.lt_of_lt_of_le h2 (by decide), ?_⟩
    rw [h3]
    simp
  · exact .inr (.inl h)
  · exact .inr (.inr h)
theorem get_put0 {n : Nat} (h : n < 18446744073709551616) (more : List Int) : getN 0 0 (putN n ++ more) = ((n : Int), ((putN n).length : Int), 0) := by
  rw [get_put n 0 0 more (by simpa using h) (.inl rfl)]
  simp
theorem get_cut0 {n m : Nat} (h : n < 18446744073709551616) (hm : m < (putN n).length) : getN 0 0 ((putN n).take m) = (0, 0, 20) := get_cut n 0 0 m (by simpa using h) hm


/-! ### whether a term may be -/
mutual
def parts : S25 → Nat
  | ⟨_, _, _, l⟩ => 1 + partsL l
def partsL : List S25 → Nat
  | [] => 0
  | x :: t => parts x + partsL t
end
mutual
def depth : S25 → Nat
  | ⟨_, _, _, l⟩ => 1 + depthL l
def depthL : List S25 → Nat
  | [] => 0
  | x :: t => max (depth x) (depthL t)
end
/-- The shape of a term by itself. -/
def one (n f : Int) (s : ByteArray) (len : Nat) : Bool :=
  if n = 1 ∨ n = 3 then decide (bytesOf s = [] ∧ len = 0) else if n = 2 then decide (f = 0 ∧ s.size ≤ 4000 ∧ len = 0) else if n = 4 then decide (bytesOf s = [] ∧ len = 1) else if n = 5 then decide (f = 0 ∧ bytesOf s = []) else false
mutual
def shp : S25 → Bool
  | ⟨n, f, s, l⟩ => one n f s l.length && shpL l
def shpL : List S25 → Bool
  | [] => true
  | x :: t => shp x && shpL t
end
theorem str_nil_iff {s : ByteArray} : bytesOf s = [] ↔ s = ByteArray.empty := ⟨fun h => bytesOf_inj (by rw [h]; rfl), fun h => by rw [h]; rfl⟩
theorem beqd (a b : Int) : (a == b) = decide (a = b) := by rw [Bool.eq_iff_iff, beq_iff_eq, decide_eq_true_eq]
theorem parts_eq (x : S25) : parts x = 1 + partsL x.f3 := by cases x; rw [parts]; rfl
theorem depth_eq (x : S25) : depth x = 1 + depthL x.f3 := by cases x; rw [depth]; rfl
theorem shp_eq (x : S25) : shp x = (one x.f0 x.f1 x.f2 x.f3.length && shpL x.f3) := by cases x; rw [shp]; rfl
theorem shp_mk (n f : Int) (s : ByteArray) (l : List S25) : shp (S25.mk n f s l) = (one n f s l.length && shpL l) := by rw [shp]
theorem parts_pos (x : S25) : 1 ≤ parts x := by rw [parts_eq]; omega
theorem depth_pos (x : S25) : 1 ≤ depth x := by rw [depth_eq]; omega
def rightT (x : S25) : Int := if 4000 < parts x then 23 else if 12 < depth x then 22 else if shp x = true then 0 else 25

theorem right_is {x : S25} (hr : rightT x = 0) : parts x ≤ 4000 ∧ depth x ≤ 12 ∧ shp x = true := by
  unfold rightT at hr
  split at hr
  · simp at hr
  · split at hr
    · simp at hr
    · split at hr
      · rename_i c1 c2 c3
        exact ⟨by omega, by omega, c3⟩
      · simp at hr


/-! ### bytes of terms -/
/-- The first bytes of a term: its sort, and the number behind it, and an atom's own bytes. -/
def hd (n f : Int) (s : ByteArray) (len : Nat) : List Int :=
  (n % 256) :: (if n = 1 ∨ n = 3 ∨ n = 4 then putN f.toNat else if n = 2 then putN s.size ++ bytesOf s else if n = 5 then putN len else [])
mutual
def encT : S25 → List Int
  | ⟨n, f, s, l⟩ => hd n f s l.length ++ encL l
def encL : List S25 → List Int
  | [] => []
  | x :: t => encT x ++ encL t
end
theorem encT_eq (x : S25) : encT x = hd x.f0 x.f1 x.f2 x.f3.length ++ encL x.f3 := by cases x; rw [encT]; rfl
theorem encT_mk (n f : Int) (s : ByteArray) (l : List S25) : encT (S25.mk n f s l) = hd n f s l.length ++ encL l := by rw [encT]
theorem hd_B (n f : Int) (s : ByteArray) (len : Nat) : AllB (hd n f s len) := by
  unfold hd
  refine AllB.cons (by omega) ?_
  split
  · exact putN_B _
  · split
    · exact (putN_B _).app (AllB.of_bytes s)
    · split
      · exact putN_B _
      · exact AllB.nil
theorem encL_B (l : List S25) (ih : ∀ y ∈ l, AllB (encT y)) : AllB (encL l) := by
  induction l with
  | nil => rw [encL]; exact AllB.nil
  | cons x t iht =>
    rw [encL]
    exact (ih x (by simp)).app (iht (fun y hy => ih y (by simp [hy])))
theorem encT_B {x : S25} (h : okT x) : AllB (encT x) := by
  induction h with
  | @mk x h0 h1 h2 h3 h4 h5 ih =>
    rw [encT_eq]
    exact (hd_B _ _ _ _).app (encL_B _ ih)
theorem hd_len {n f : Int} {s : ByteArray} {len : Nat} (h0 : 0 ≤ f ∧ f < 18446744073709551616) (h1 : len ≤ 2513169434843) (h : one n f s len = true) : (hd n f s len).length ≤ 4011 := by
  unfold hd
  unfold one at h
  rw [List.length_cons]
  have e1 : (putN f.toNat).length ≤ 10 := putN_len10 (by omega)
  have e2 : (putN len).length ≤ 10 := putN_len10 (by omega)
  split
  · omega
  · rename_i c
    split
    · rename_i c2
      rw [if_neg (by omega), if_pos c2, decide_eq_true_eq] at h
      have e3 : (putN s.size).length ≤ 10 := putN_len10 (by omega)
      rw [List.length_append, bytesOf_length]
      omega
    · split
      · omega
      · simp
theorem encL_len (l : List S25) (ih : ∀ y ∈ l, shp y = true → (encT y).length ≤ parts y * 4011) (h : shpL l = true) : (encL l).length ≤ partsL l * 4011 := by
  induction l with
  | nil => rw [encL]; simp
  | cons x t iht =>
    rw [shpL, Bool.and_eq_true] at h
    rw [encL, partsL, List.length_append]
    have a := ih x (by simp) h.1
    have b := iht (fun y hy => ih y (by simp [hy])) h.2
    omega
theorem encT_len {x : S25} (h : okT x) (hs : shp x = true) : (encT x).length ≤ parts x * 4011 := by
  revert hs
  induction h with
  | @mk x h0 h1 h2 h3 h4 h5 ih =>
    intro hs
    rw [shp_eq, Bool.and_eq_true] at hs
    rw [encT_eq, parts_eq, List.length_append]
    have a := hd_len (wf_u64 h1) (by omega) hs.1
    have b := encL_len _ ih hs.2
    omega
theorem right_len {x : S25} (h : okT x) (hr : rightT x = 0) : (encT x).length ≤ 16044000 := by
  unfold rightT at hr
  split at hr
  · simp at hr
  · split at hr
    · simp at hr
    · split at hr
      · rename_i c1 c2 c3
        have := encT_len h c3
        omega
      · simp at hr
/-- The bytes of a term, and why there are none. -/
def encode (x : S25) : ByteArray × Int := if rightT x = 0 then (strB (encT x), 0) else (ByteArray.empty, rightT x)


/-! ### boxes: what is so -/
abbrev T5 := Int × Int × ByteArray × List S25 × Int × Unit
def okE (t : S25) : Option T5 := some (S25.f0 t, S25.f1 t, S25.f2 t, S25.f3 t, 0, ())
def erT (e : Int) : Option T5 := some (0, 0, ByteArray.empty, [], e, ())
def boxT (k : Int) (t : S25) : S25 := S25.mk 4 k ByteArray.empty [t]
def sealV (k : Int) (t : S25) : Option T5 := if rightT t = 0 then (if rightT (boxT k t) = 0 then okE (boxT k t) else erT (rightT (boxT k t))) else erT (rightT t)
def openV (k : Int) (t : S25) : Option T5 := if rightT t = 0 then (if S25.f0 t = 4 then (if S25.f1 t = k then okE (rd S25.z (S25.f3 t) 0) else erT 31) else erT 30) else erT (rightT t)
theorem okT.box {k : Int} {t : S25} (hk : (Lit.int .u64 k).wf = true) (h : okT t) : okT (boxT k t) :=
  okT.mk (show (Lit.int .i64 4).wf = true by decide) hk (show ByteArray.empty.size ≤ 140737488351232 by decide) (by show 1 * 56 ≤ _; omega) (by show 1 ≤ _; simp [maxLen]) (fun y hy => by rw [boxT] at hy; rw [List.mem_singleton.1 hy]; exact h)
theorem right_in {t x : S25} (h : rightT t = 0) (hx : x ∈ S25.f3 t) : rightT x = 0 := by
  obtain ⟨h1, h2, h3⟩ := right_is h
  rw [parts_eq] at h1
  rw [depth_eq] at h2
  rw [shp_eq, Bool.and_eq_true] at h3
  have key : ∀ l : List S25, x ∈ l → parts x ≤ partsL l ∧ depth x ≤ depthL l ∧ (shpL l = true → shp x = true) := by
    intro l
    induction l with
    | nil => intro hx; cases hx
    | cons y l ih =>
      intro hx
      simp only [partsL, depthL, shpL, Bool.and_eq_true]
      cases hx with
      | head => exact ⟨by omega, by omega, fun h => h.1⟩
      | tail _ hx => obtain ⟨q1, q2, q3⟩ := ih hx; exact ⟨by omega, by omega, fun h => q3 h.2⟩
  obtain ⟨q1, q2, q3⟩ := key _ hx
  unfold rightT
  rw [if_neg (by omega), if_neg (by omega), if_pos (q3 h3.2)]
theorem box_one {t : S25} (h : rightT t = 0) (h4 : S25.f0 t = 4) : (S25.f3 t).length = 1 ∧ S25.f2 t = ByteArray.empty := by
  obtain ⟨_, _, h3⟩ := right_is h
  rw [shp_eq, Bool.and_eq_true] at h3
  have := h3.1
  simp only [one, h4] at this
  simp [str_nil_iff] at this
  exact ⟨this.2, this.1⟩
theorem box_is {t : S25} (h : rightT t = 0) (h4 : S25.f0 t = 4) : ∃ x, t = boxT (S25.f1 t) x ∧ rd S25.z (S25.f3 t) 0 = x ∧ x ∈ S25.f3 t := by
  obtain ⟨h1, h2⟩ := box_one h h4
  cases t with
  | mk k n s l =>
    match l, h1 with
    | [x], _ =>
      have h4 : k = 4 := h4
      have h2 : s = ByteArray.empty := h2
      subst h4; subst h2
      exact ⟨x, rfl, rfl, List.mem_singleton.2 rfl⟩

/-! ### how large terms are -/
structure Fine (x : S25) (p d l : Nat) : Prop where
  p : parts x ≤ p
  d : depth x ≤ d
  s : shp x = true
  l : (encT x).length ≤ l
structure FineL (x : List S25) (p d l : Nat) : Prop where
  p : partsL x ≤ p
  d : depthL x ≤ d
  s : shpL x = true
  l : (encL x).length ≤ l
theorem Fine.mono {x : S25} {p d l p' d' l' : Nat} (h : Fine x p d l) (hp : p ≤ p') (hd : d ≤ d') (hl : l ≤ l') : Fine x p' d' l' := ⟨by have := h.p; omega, by have := h.d; omega, h.s, by have := h.l; omega⟩
theorem FineL.nil (d : Nat) : FineL [] 0 d 0 := ⟨by rw [partsL]; omega, by rw [depthL]; omega, by rw [shpL], by rw [encL]; simp⟩
theorem FineL.cons {x : S25} {t : List S25} {p d l p' l' : Nat} (h : Fine x p d l) (ht : FineL t p' d l') : FineL (x :: t) (p + p') d (l + l') := by
  refine ⟨?_, ?_, ?_, ?_⟩
  · rw [partsL]; have := h.p; have := ht.p; omega
  · rw [depthL]; have := h.d; have := ht.d; omega
  · rw [shpL, h.s, ht.s]; rfl
  · rw [encL, List.length_append]; have := h.l; have := ht.l; omega
theorem FineL.map {α : Type} (f : α → S25) {p d l : Nat} : ∀ (xs : List α), (∀ y ∈ xs, Fine (f y) p d l) → FineL (xs.map f) (xs.length * p) d (xs.length * l)
  | [], _ => by simpa using FineL.nil d
  | y :: ys, h => by
    have := FineL.cons (h y (by simp)) (FineL.map f ys (fun z hz => h z (by simp [hz])))
    rw [List.map_cons, List.length_cons, Nat.succ_mul, Nat.succ_mul, Nat.add_comm _ p, Nat.add_comm _ l]
    exact this
theorem Fine.num {n : Int} (k : Nat) (h0 : 0 ≤ n) (h1 : n.toNat < 128 ^ k) (hk : 1 ≤ k) (h2 : n < 18446744073709551616) : Fine (numT n) 1 1 (1 + k) := by
  have := putN_len k n.toNat h1 hk
  refine ⟨by simp [numT, parts, partsL], by simp [numT, depth, depthL], by simp [numT, shp, shpL, one, bytesOf_empty], ?_⟩
  simp only [numT, encT_mk, hd, encL, wrap_u64 h0 h2, List.length_append, List.length_cons, List.length_nil]
  simp only [true_or, if_true]; omega
theorem Fine.atom {s : ByteArray} (h : s.size ≤ 127) : Fine (atomT s) 1 1 (2 + s.size) := by
  refine ⟨by simp [atomT, parts, partsL], by simp [atomT, depth, depthL], by simp [atomT, shp, shpL, one]; omega, ?_⟩
  simp only [atomT, encT_mk, hd, encL]
  rw [if_neg (by decide), if_pos trivial, putN_lt (by omega)]
  simp only [List.length_append, List.length_cons, List.length_nil, bytesOf_length]; omega
theorem Fine.key {k : Int} (hk : (Lit.int .u64 k).wf = true) : Fine (keyT k) 1 1 11 := by
  have := putN_len10 (n := k.toNat) (by have := wf_u64 hk; omega)
  refine ⟨by simp [keyT, parts, partsL], by simp [keyT, depth, depthL], by simp [keyT, shp, shpL, one, bytesOf_empty], ?_⟩
  simp only [keyT, encT_mk, hd, encL, List.length_append, List.length_cons, List.length_nil]
  simp only [true_or, or_true, if_true]; omega
theorem Fine.row {l : List S25} {p d n : Nat} (hl : l.length ≤ 127) (h : FineL l p d n) : Fine (rowT l) (1 + p) (1 + d) (2 + n) := by
  refine ⟨?_, ?_, ?_, ?_⟩
  · rw [rowT, parts]; have := h.p; omega
  · rw [rowT, depth]; have := h.d; omega
  · rw [rowT, shp, h.s]; simp [one, bytesOf_empty]
  · rw [rowT, encT_mk, List.length_append]
    have := h.l
    simp only [hd]
    rw [if_neg (by decide), if_neg (by decide), if_pos trivial, putN_lt (by omega)]
    simp only [List.length_cons, List.length_nil]; omega
theorem Fine.box {x : S25} {k : Int} (hk : (Lit.int .u64 k).wf = true) {p d n : Nat} (h : Fine x p d n) : Fine (boxT k x) (1 + p) (1 + d) (11 + n) := by
  have := putN_len10 (n := k.toNat) (by have := wf_u64 hk; omega)
  refine ⟨?_, ?_, ?_, ?_⟩
  · rw [boxT, parts, partsL, partsL]; have := h.p; omega
  · rw [boxT, depth, depthL, depthL]; have := h.d; omega
  · rw [boxT, shp, shpL, shpL, h.s]; simp [one, bytesOf_empty]
  · rw [boxT, encT_mk, List.length_append, encL, encL, List.append_nil]
    have := h.l
    simp only [hd]
    rw [if_pos (by decide), List.length_cons]; omega
theorem Fine.right {x : S25} {p d n : Nat} (h : Fine x p d n) (hp : p ≤ 4000) (hd : d ≤ 12) : rightT x = 0 := by
  have := h.p; have := h.d
  unfold rightT
  rw [if_neg (by omega), if_neg (by omega), if_pos h.s]

abbrev bigL : Nat := 2513169434843
theorem parts_l (l : List S25) (hl : l.length ≤ bigL) (ih : ∀ x ∈ l, ∀ m : Nat, 1 ≤ m → m ≤ 1000000 → F60_term_parts (S25.f0 x) (S25.f1 x) (S25.f2 x) (S25.f3 x) (m : Int) = some (((min (parts x) m : Nat) : Int), ())) (m : Nat) (hm : m ≤ 1000000) : ∀ k i n, l.length - i = k → i ≤ l.length → n ≤ m → 1 ≤ n →
    F60_term_parts_l1000003 (m : Int) (n : Int) l (l.length : Int) (i : Int) = some (((min (n + partsL (l.drop i)) m : Nat) : Int), ()) := by
  intro k
  induction k with
  | zero =>
    intro i n hk hi hn h1
    rw [F60_term_parts_l1000003_eq, if_neg (by omega), List.drop_of_length_le (by omega)]
    exact oi_eq (by simp only [partsL]; omega)
  | succ k ihk =>
    intro i n hk hi hn h1
    simp only [bigL] at hl
    rw [F60_term_parts_l1000003_eq, if_pos (ilt (by omega)), if_pos (inb (by omega)), drop_rd (z := S25.z) (by omega : i < l.length)]
    by_cases c1 : m ≤ n
    · rw [if_pos (by omega)]
      exact oi_eq (by simp only [partsL]; omega)
    · rw [if_neg (by omega), w64 (by omega) (by omega), show (m : Int) - (n : Int) = ((m - n : Nat) : Int) by omega, rd_lt (by omega : i < l.length), ih _ (List.getElem_mem _) _ (by omega) (by omega), Option.bind_some, w64s (n := l.length) (by omega) (by omega)]
      generalize hp : parts l[i] = p
      have hp1 : 1 ≤ p := by rw [← hp]; exact parts_pos _
      rw [w64 (by omega) (by omega), show (n : Int) + ((min p (m - n) : Nat) : Int) = ((n + min p (m - n) : Nat) : Int) by omega, ihk (i + 1) _ (by omega) (by omega) (by omega) (by omega)]
      exact oi_eq (by simp only [partsL, hp]; omega)
theorem parts_f {x : S25} (h : okT x) : ∀ m : Nat, 1 ≤ m → m ≤ 1000000 → F60_term_parts (S25.f0 x) (S25.f1 x) (S25.f2 x) (S25.f3 x) (m : Int) = some (((min (parts x) m : Nat) : Int), ()) := by
  induction h with
  | @mk x h0 h1 h2 h3 h4 h5 ih =>
    intro m hm hm2
    rw [F60_term_parts_eq, parts_eq]
    exact parts_l (S25.f3 x) (by simp only [bigL]; omega) ih m hm2 _ 0 1 rfl (by omega) hm (by omega)
theorem rparts_l (l : List S25) (hl : l.length ≤ bigL) (ih : ∀ x ∈ l, ∀ m : Nat, 1 ≤ m → m ≤ 1000000 → F41_letheref02_Parts (S25.f0 x) (S25.f1 x) (S25.f2 x) (S25.f3 x) (m : Int) = some (((min (parts x) m : Nat) : Int), ())) (m : Nat) (hm : m ≤ 1000000) : ∀ k i n, l.length - i = k → i ≤ l.length → n ≤ m → 1 ≤ n →
    F41_letheref02_Parts_l1000003 (m : Int) (n : Int) l (l.length : Int) (i : Int) = some (((min (n + partsL (l.drop i)) m : Nat) : Int), ()) := by
  intro k
  induction k with
  | zero =>
    intro i n hk hi hn h1
    rw [F41_letheref02_Parts_l1000003_eq, if_neg (by omega), List.drop_of_length_le (by omega), if_neg (by omega)]
    exact oi_eq (by simp only [partsL]; omega)
  | succ k ihk =>
    intro i n hk hi hn h1
    simp only [bigL] at hl
    rw [F41_letheref02_Parts_l1000003_eq, if_pos (ilt (by omega)), if_pos (inb (by omega)), drop_rd (z := S25.z) (by omega : i < l.length)]
    by_cases c1 : m ≤ n
    · rw [if_pos (by omega)]
      exact oi_eq (by simp only [partsL]; omega)
    · rw [if_neg (by omega), w64 (by omega) (by omega), show (m : Int) - (n : Int) = ((m - n : Nat) : Int) by omega, rd_lt (by omega : i < l.length), ih _ (List.getElem_mem _) _ (by omega) (by omega), Option.bind_some, w64s (n := l.length) (by omega) (by omega)]
      generalize hp : parts l[i] = p
      have hp1 : 1 ≤ p := by rw [← hp]; exact parts_pos _
      rw [w64 (by omega) (by omega), show (n : Int) + ((min p (m - n) : Nat) : Int) = ((n + min p (m - n) : Nat) : Int) by omega, ihk (i + 1) _ (by omega) (by omega) (by omega) (by omega)]
      exact oi_eq (by simp only [partsL, hp]; omega)
theorem rparts_f {x : S25} (h : okT x) : ∀ m : Nat, 1 ≤ m → m ≤ 1000000 → F41_letheref02_Parts (S25.f0 x) (S25.f1 x) (S25.f2 x) (S25.f3 x) (m : Int) = some (((min (parts x) m : Nat) : Int), ()) := by
  induction h with
  | @mk x h0 h1 h2 h3 h4 h5 ih =>
    intro m hm hm2
    rw [F41_letheref02_Parts_eq, parts_eq]
    exact rparts_l (S25.f3 x) (by simp only [bigL]; omega) ih m hm2 _ 0 1 rfl (by omega) hm (by omega)
theorem deep_l (l : List S25) (hl : l.length ≤ bigL) (m : Nat) (hm : m ≤ 1000000) (hm2 : 2 ≤ m) (ih : ∀ x ∈ l, F61_term_deep (S25.f0 x) (S25.f1 x) (S25.f2 x) (S25.f3 x) ((m - 1 : Nat) : Int) = some (((min (depth x) (m - 1) : Nat) : Int), ())) : ∀ k i n, l.length - i = k → i ≤ l.length → n ≤ m - 1 →
    F61_term_deep_l1000004 (m : Int) (n : Int) l (l.length : Int) (i : Int) = some (((min (1 + max n (depthL (l.drop i))) m : Nat) : Int), ()) := by
  intro k
  induction k with
  | zero =>
    intro i n hk hi hn
    rw [F61_term_deep_l1000004_eq, if_neg (by omega), List.drop_of_length_le (by omega), w64 (by omega) (by omega)]
    exact oi_eq (by simp only [depthL]; omega)
  | succ k ihk =>
    intro i n hk hi hn
    simp only [bigL] at hl
    rw [F61_term_deep_l1000004_eq, if_pos (ilt (by omega)), if_pos (inb (by omega)), drop_rd (z := S25.z) (by omega : i < l.length), w64p (by omega) (by omega), rd_lt (by omega : i < l.length), ih _ (List.getElem_mem _), Option.bind_some, w64s (n := l.length) (by omega) (by omega)]
    generalize hp : depth l[i] = p
    rw [show mx (n : Int) ((min p (m - 1) : Nat) : Int) = ((max n (min p (m - 1)) : Nat) : Int) by unfold mx; split <;> omega, ihk (i + 1) _ (by omega) (by omega) (by omega)]
    exact oi_eq (by simp only [depthL, hp]; omega)
theorem deep_f {x : S25} (h : okT x) : ∀ m : Nat, 1 ≤ m → m ≤ 1000000 → F61_term_deep (S25.f0 x) (S25.f1 x) (S25.f2 x) (S25.f3 x) (m : Int) = some (((min (depth x) m : Nat) : Int), ()) := by
  induction h with
  | @mk x h0 h1 h2 h3 h4 h5 ih =>
    intro m hm hm2
    rw [F61_term_deep_eq, depth_eq]
    by_cases c1 : m = 1
    · rw [if_neg (by omega), w64 (by omega) (by omega)]
      exact oi_eq (by omega)
    · rw [if_pos (by omega)]
      have := deep_l (S25.f3 x) (by simp only [bigL]; omega) m hm2 (by omega) (fun y hy => ih y hy (m - 1) (by omega) (by omega)) _ 0 0 rfl (by omega) (by omega)
      rw [show F61_term_deep_l1000004 (m : Int) 0 (S25.f3 x) ((S25.f3 x).length : Int) 0 = _ from this]
      exact oi_eq (by simp only [List.drop_zero]; omega)
theorem rdeep_l (l : List S25) (hl : l.length ≤ bigL) (m : Nat) (hm : m ≤ 1000000) (hm2 : 2 ≤ m) (ih : ∀ x ∈ l, F42_letheref02_Deep (S25.f0 x) (S25.f1 x) (S25.f2 x) (S25.f3 x) ((m - 1 : Nat) : Int) = some (((min (depth x) (m - 1) : Nat) : Int), ())) : ∀ k i n, l.length - i = k → i ≤ l.length → n < m - 1 →
    F42_letheref02_Deep_l1000005 (m : Int) (n : Int) l (l.length : Int) (i : Int) = some (((min (1 + max n (depthL (l.drop i))) m : Nat) : Int), ()) := by
  intro k
  induction k with
  | zero =>
    intro i n hk hi hn
    rw [F42_letheref02_Deep_l1000005_eq, if_neg (by omega), List.drop_of_length_le (by omega), w64 (by omega) (by omega)]
    exact oi_eq (by simp only [depthL]; omega)
  | succ k ihk =>
    intro i n hk hi hn
    simp only [bigL] at hl
    rw [F42_letheref02_Deep_l1000005_eq, if_pos (ilt (by omega)), if_pos (inb (by omega)), drop_rd (z := S25.z) (by omega : i < l.length), w64p (by omega) (by omega), rd_lt (by omega : i < l.length), ih _ (List.getElem_mem _), Option.bind_some, w64s (n := l.length) (by omega) (by omega)]
    generalize hp : depth l[i] = p
    simp only [depthL, hp]
    refine ite_to (fun c1 => ?_) (fun c1 => ?_)
    · refine ite_to (fun c2 => ?_) (fun c2 => ?_)
      · exact oi_eq (by omega)
      · have := ihk (i + 1) (min p (m - 1)) (by omega) (by omega) (by omega)
        rw [this]
        exact oi_eq (by omega)
    · refine ite_to (fun c2 => ?_) (fun c2 => ?_)
      · omega
      · have := ihk (i + 1) n (by omega) (by omega) (by omega)
        rw [this]
        exact oi_eq (by omega)
theorem rdeep_f {x : S25} (h : okT x) : ∀ m : Nat, 1 ≤ m → m ≤ 1000000 → F42_letheref02_Deep (S25.f0 x) (S25.f1 x) (S25.f2 x) (S25.f3 x) (m : Int) = some (((min (depth x) m : Nat) : Int), ()) := by
  induction h with
  | @mk x h0 h1 h2 h3 h4 h5 ih =>
    intro m hm hm2
    rw [F42_letheref02_Deep_eq, depth_eq]
    by_cases c1 : m = 1
    · rw [if_pos (by omega)]
      exact oi_eq (by omega)
    · rw [if_neg (by omega)]
      have := rdeep_l (S25.f3 x) (by simp only [bigL]; omega) m hm2 (by omega) (fun y hy => ih y hy (m - 1) (by omega) (by omega)) _ 0 0 rfl (by omega) (by omega)
      rw [show F42_letheref02_Deep_l1000005 (m : Int) 0 (S25.f3 x) ((S25.f3 x).length : Int) 0 = _ from this]
      exact oi_eq (by simp only [List.drop_zero]; omega)
/-! shapes -/
theorem one_f (n f : Int) (s : ByteArray) (l : List S25) : F63_letheref02_One n f s l = some (one n f s l.length, ()) := by
  rw [F63_letheref02_One_eq]
  repeat' (refine ite_to (fun _ => ?_) (fun _ => ?_))
  all_goals (apply ob_eq <;> intro hh <;> simp only [one, str_nil_iff] at hh ⊢ <;> simp_all <;> omega)
theorem rshaped_l (l : List S25) (hl : l.length ≤ bigL) (ih : ∀ x ∈ l, F43_letheref02_shaped (S25.f0 x) (S25.f1 x) (S25.f2 x) (S25.f3 x) = some (shp x, ())) : ∀ k i, l.length - i = k → i ≤ l.length →
    F43_letheref02_shaped_l1000004 l (l.length : Int) (i : Int) = some (shpL (l.drop i), ()) := by
  intro k
  induction k with
  | zero =>
    intro i hk hi
    rw [F43_letheref02_shaped_l1000004_eq, if_neg (by omega), List.drop_of_length_le (by omega)]
    simp [shpL]
  | succ k ihk =>
    intro i hk hi
    simp only [bigL] at hl
    rw [F43_letheref02_shaped_l1000004_eq, if_pos (ilt (by omega)), if_pos (inb (by omega)), drop_rd (z := S25.z) (by omega : i < l.length), rd_lt (by omega : i < l.length), ih _ (List.getElem_mem _), Option.bind_some, w64s (n := l.length) (by omega) (by omega), ihk (i + 1) (by omega) (by omega)]
    cases hs : shp l[i] <;> simp [shpL, hs]
theorem rshaped_f {x : S25} (h : okT x) : F43_letheref02_shaped (S25.f0 x) (S25.f1 x) (S25.f2 x) (S25.f3 x) = some (shp x, ()) := by
  induction h with
  | @mk x h0 h1 h2 h3 h4 h5 ih =>
    rw [F43_letheref02_shaped_eq, one_f, shp_eq, Option.bind_some]
    have := rshaped_l (S25.f3 x) (by simp only [bigL]; omega) ih _ 0 rfl (by omega)
    rw [show F43_letheref02_shaped_l1000004 (S25.f3 x) ((S25.f3 x).length : Int) 0 = _ from this]
    cases one (S25.f0 x) (S25.f1 x) (S25.f2 x) (S25.f3 x).length <;> simp
theorem index_l (l : List S25) (hl : l.length ≤ bigL) (ih : ∀ x ∈ l, F62_term_shaped (S25.f0 x) (S25.f1 x) (S25.f2 x) (S25.f3 x) = some (shp x, ())) : ∀ k i, l.length - i = k → i ≤ l.length →
    ∃ n : Int, F85_slices_IndexFunc_78_l1000002 l (l.length : Int) (i : Int) = some (n, ()) ∧ (0 ≤ n ↔ shpL (l.drop i) = false) := by
  intro k
  induction k with
  | zero =>
    intro i hk hi
    rw [F85_slices_IndexFunc_78_l1000002_eq, if_neg (by omega), List.drop_of_length_le (by omega)]
    exact ⟨-1, rfl, by simp [shpL]⟩
  | succ k ihk =>
    intro i hk hi
    simp only [bigL] at hl
    rw [F85_slices_IndexFunc_78_l1000002_eq, if_pos (ilt (by omega)), if_pos (inb (by omega)), drop_rd (z := S25.z) (by omega : i < l.length), rd_lt (by omega : i < l.length), F78_term_shaped_1_eq, ih _ (List.getElem_mem _), Option.bind_some, Option.bind_some, w64s (n := l.length) (by omega) (by omega)]
    obtain ⟨n, q1, q2⟩ := ihk (i + 1) (by omega) (by omega)
    rw [q1]
    cases hs : shp l[i] with
    | true => exact ⟨n, by simp, by rw [q2]; simp [shpL, hs]⟩
    | false => exact ⟨i, by simp, by simp [shpL, hs]⟩
theorem shaped_f {x : S25} (h : okT x) : F62_term_shaped (S25.f0 x) (S25.f1 x) (S25.f2 x) (S25.f3 x) = some (shp x, ()) := by
  induction h with
  | @mk x h0 h1 h2 h3 h4 h5 ih =>
    have hb : ∀ b : Bool, F62_term_shaped_l12 b (S25.f0 x) (S25.f1 x) (S25.f2 x) (S25.f3 x) = some (b && shpL (S25.f3 x), ()) := by
      intro b
      obtain ⟨n, q1, q2⟩ := index_l (S25.f3 x) (by simp only [bigL]; omega) ih _ 0 rfl (by omega)
      rw [List.drop_zero] at q2
      rw [F62_term_shaped_l12_eq, F77_slices_ContainsFunc_78_eq, F85_slices_IndexFunc_78_eq, show F85_slices_IndexFunc_78_l1000002 (S25.f3 x) ((S25.f3 x).length : Int) 0 = _ from q1]
      cases b with
      | false => simp
      | true =>
        simp only [Option.bind_some, if_true, Bool.true_and]
        apply ob_eq
        · intro hh; cases hs : shpL (S25.f3 x) with
          | true => rfl
          | false => have := q2.2 hs; simp at hh; omega
        · intro hh; simp; by_cases c1 : 0 ≤ n
          · rw [q2.1 c1] at hh; cases hh
          · omega
    rw [F62_term_shaped_eq, shp_eq]
    simp only [hb]
    repeat' (refine ite_to (fun _ => ?_) (fun _ => ?_))
    all_goals (refine congrArg (fun b => some (b && shpL (S25.f3 x), ())) (Bool.eq_iff_iff.2 ?_) ; constructor <;> intro hh <;> simp only [one, str_nil_iff] at hh ⊢ <;> simp_all <;> omega)
theorem right_f {x : S25} (h : okT x) : F40_term_Right (S25.f0 x) (S25.f1 x) (S25.f2 x) (S25.f3 x) = some (rightT x, ()) := by
  have h1 := parts_f h 4001 (by omega) (by omega)
  have h2 := deep_f h 13 (by omega) (by omega)
  rw [F40_term_Right_eq, show F60_term_parts (S25.f0 x) (S25.f1 x) (S25.f2 x) (S25.f3 x) 4001 = _ from h1, show F61_term_deep (S25.f0 x) (S25.f1 x) (S25.f2 x) (S25.f3 x) 13 = _ from h2, shaped_f h]
  simp only [Option.bind_some]
  unfold rightT
  by_cases c1 : 4000 < parts x
  · rw [if_pos (by omega), if_pos c1]
  · rw [if_neg (by omega), if_neg c1]
    by_cases c2 : 12 < depth x
    · rw [if_pos (by omega), if_pos c2]
    · rw [if_neg (by omega), if_neg c2]
      cases shp x <;> simp
theorem rright_f {x : S25} (h : okT x) : F17_letheref02_Right (S25.f0 x) (S25.f1 x) (S25.f2 x) (S25.f3 x) = some (rightT x, ()) := by
  have h1 := rparts_f h 4001 (by omega) (by omega)
  have h2 := rdeep_f h 13 (by omega) (by omega)
  rw [F17_letheref02_Right_eq, show F41_letheref02_Parts (S25.f0 x) (S25.f1 x) (S25.f2 x) (S25.f3 x) 4001 = _ from h1, show F42_letheref02_Deep (S25.f0 x) (S25.f1 x) (S25.f2 x) (S25.f3 x) 13 = _ from h2, rshaped_f h]
  simp only [Option.bind_some]
  unfold rightT
  by_cases c1 : 4000 < parts x
  · rw [if_pos (by omega), if_pos c1]
  · rw [if_neg (by omega), if_neg c1]
    by_cases c2 : 12 < depth x
    · rw [if_pos (by omega), if_pos c2]
    · rw [if_neg (by omega), if_neg c2]
      cases shp x <;> simp

theorem copy_l (l : List S25) (hl : l.length * 56 ≤ 140737488355328) (hc : ∀ x ∈ l, F45_letheref02_Copy (S25.f0 x) (S25.f1 x) (S25.f2 x) (S25.f3 x) = ofT x) (k n : Int) (b : ByteArray) (o o' : Int) (s : ByteArray) (g : List S25) : ∀ (m i : Nat), l.length - i = m → i ≤ l.length →
    F45_letheref02_Copy_l1000003 l (l.length : Int) (i : Int) o o' s k n b g (l.take i) = some (k, n, b, l, ()) := by
  intro m
  induction m with
  | zero =>
    intro i hm hi
    rw [F45_letheref02_Copy_l1000003_eq, if_neg (by omega), List.take_of_length_le (by omega)]
  | succ m ih =>
    intro i hm hi
    rw [F45_letheref02_Copy_l1000003_eq, if_pos (ilt (by omega)), if_pos (inb (by omega)), rd_lt (by omega : i < l.length), hc _ (List.getElem_mem _)]
    show (if _ then _ else none) = _
    rw [if_pos (by simp only [List.length_take, List.length_singleton]; omega), w64s (n := l.length) (by omega) (by omega)]
    have := ih (i + 1) (by omega) (by omega)
    rw [List.take_add_one, List.getElem?_eq_getElem (by omega)] at this
    rw [term_eta]
    exact this
theorem copy_eq {t : S25} (h : Tn t) : F45_letheref02_Copy (S25.f0 t) (S25.f1 t) (S25.f2 t) (S25.f3 t) = ofT t := by
  induction h with
  | mk k n b l h hl ih =>
    show F45_letheref02_Copy k n b l = some (k, n, b, l, ())
    rw [F45_letheref02_Copy_eq]
    exact copy_l l h ih k n b 0 0 ByteArray.empty [] l.length 0 (by omega) (by omega)

/-! ### boxes: what the code does -/
theorem own_eq {t : S25} (h : okT t) : F39_box_own (S25.f0 t) (S25.f1 t) (S25.f2 t) (S25.f3 t) = if rightT t = 0 then okE t else erT (rightT t) := by
  rw [F39_box_own_eq, right_f h, Option.bind_some]
  by_cases c1 : rightT t = 0
  · have ht : Tn (S25.mk 5 0 ByteArray.empty [t]) := Tn.mk _ _ _ _ (by show 1 * 56 ≤ _; omega) (fun x hx => by rw [List.mem_singleton.1 hx]; exact h.tn)
    rw [if_neg (fun hh => hh c1), if_pos c1, term_eta, F31_term_Of_eq, show F52_term_clone 5 0 ByteArray.empty [t] = ofT (S25.mk 5 0 ByteArray.empty [t]) from clone_eq ht]
    rfl
  · rw [if_pos c1, if_neg c1]; rfl
theorem open_eq {k : Int} {t : S25} (h : okT t) : F19_box_Open k (S25.f0 t) (S25.f1 t) (S25.f2 t) (S25.f3 t) = openV k t := by
  rw [F19_box_Open_eq, right_f h, Option.bind_some]
  unfold openV
  by_cases c1 : rightT t = 0
  · rw [if_neg (fun hh => hh c1), if_pos c1]
    by_cases c2 : S25.f0 t = 4
    · rw [if_neg (fun hh => hh c2), if_pos c2]
      by_cases c3 : S25.f1 t = k
      · obtain ⟨x, e1, e2, e3⟩ := box_is c1 c2
        have h1 := (box_one c1 c2).1
        rw [if_neg (fun hh => hh c3), if_pos c3, if_pos (by omega), e2, own_eq (h.el x e3), if_pos (right_in c1 e3)]
        rfl
      · rw [if_pos c3, if_neg c3]; rfl
    · rw [if_pos c2, if_neg c2]; rfl
  · rw [if_pos c1, if_neg c1]; rfl
theorem rbox_eq {k : Int} {t : S25} (h : okT t) : F44_letheref03_Box k (S25.f0 t) (S25.f1 t) (S25.f2 t) (S25.f3 t) = ofT (boxT k t) := by
  rw [F44_letheref03_Box_eq, copy_eq h.tn]
  simp only [ofT, Option.bind_some, term_eta]
  rfl
theorem rseal_eq {k : Int} {t : S25} (hk : (Lit.int .u64 k).wf = true) (h : okT t) : F18_letheref03_Seal k (S25.f0 t) (S25.f1 t) (S25.f2 t) (S25.f3 t) = sealV k t := by
  rw [F18_letheref03_Seal_eq, rright_f h, Option.bind_some]
  unfold sealV
  by_cases c1 : rightT t = 0
  · rw [if_neg (fun hh => hh c1), if_pos c1, rbox_eq h]
    simp only [ofT, Option.bind_some]
    rw [rright_f (okT.box hk h)]
    simp only [Option.bind_some]
    by_cases c2 : rightT (boxT k t) = 0
    · rw [if_neg (fun hh => hh c2), if_pos c2]; rfl
    · rw [if_pos c2, if_neg c2]; rfl
  · rw [if_pos c1, if_neg c1]; rfl
/-- Which answers there are. -/
theorem sealV_is {k : Int} {t : S25} (hk : (Lit.int .u64 k).wf = true) (h : okT t) : (sealV k t = okE (boxT k t) ∧ rightT t = 0 ∧ rightT (boxT k t) = 0) ∨ ∃ e, e ≠ 0 ∧ sealV k t = erT e := by
  unfold sealV
  by_cases c1 : rightT t = 0
  · rw [if_pos c1]
    by_cases c2 : rightT (boxT k t) = 0
    · rw [if_pos c2]; exact .inl ⟨rfl, c1, c2⟩
    · rw [if_neg c2]; exact .inr ⟨_, c2, rfl⟩
  · rw [if_neg c1]; exact .inr ⟨_, c1, rfl⟩
theorem openV_is {k : Int} {t : S25} (h : okT t) : (∃ x, openV k t = okE x ∧ rightT t = 0 ∧ t = boxT k x ∧ rightT x = 0 ∧ okT x) ∨ ∃ e, e ≠ 0 ∧ openV k t = erT e := by
  unfold openV
  by_cases c1 : rightT t = 0
  · rw [if_pos c1]
    by_cases c2 : S25.f0 t = 4
    · rw [if_pos c2]
      by_cases c3 : S25.f1 t = k
      · obtain ⟨x, e1, e2, e3⟩ := box_is c1 c2
        rw [if_pos c3, e2]
        exact .inl ⟨x, rfl, c1, by rw [← c3]; exact e1, right_in c1 e3, h.el x e3⟩
      · rw [if_neg c3]; exact .inr ⟨_, by decide, rfl⟩
    · rw [if_neg c2]; exact .inr ⟨_, by decide, rfl⟩
  · rw [if_neg c1]; exact .inr ⟨_, c1, rfl⟩

theorem rput_l (n : Nat) : ∀ (xs : List Int), n < 18446744073709551616 → xs.length + 100 < 140737488355328 → n < 128 ^ (100 - xs.length) → xs.length ≤ 99 → F71_letheref02_PutNum_l1000002 (n : Int) xs = some (strB (xs ++ putN n), ()) := by
  induction n using Nat.strongRecOn with
  | _ n ih =>
    intro xs h64 hx hn hx2
    rw [F71_letheref02_PutNum_l1000002_eq]
    by_cases h : n < 128
    · rw [if_neg (by omega), if_pos (by rw [List.length_singleton]; omega), putN_lt h, u8_small (by omega)]
    · rw [if_pos (by omega)]
      simp only []
      have e0 : Int.tmod (n : Int) 128 = ((n % 128 : Nat) : Int) := by rw [Int.tmod_eq_emod_of_nonneg (by omega)]; omega
      have e00 : Int.tdiv (n : Int) 128 = ((n / 128 : Nat) : Int) := by rw [Int.tdiv_eq_ediv_of_nonneg (by omega)]; omega
      have e1 : IntKind.u64.wrap (Int.tdiv (n : Int) 128) = ((n / 128 : Nat) : Int) := by rw [e00, IntKind.wrap_u64]; omega
      have e2 : IntKind.u8.wrap (IntKind.u64.wrap ((Int.tmod (n : Int) 128) + 128)) = ((n % 128 + 128 : Nat) : Int) := by rw [e0, IntKind.wrap_u64, IntKind.wrap_u8]; omega
      rw [if_pos (by rw [List.length_singleton]; omega), putN_ge h, e1, e2]
      have hx3 : 2 ≤ 100 - xs.length := by
        rcases Nat.lt_or_ge (100 - xs.length) 2 with h2 | h2
        · have h3 : 100 - xs.length = 1 := by omega
          rw [h3] at hn
          omega
        · exact h2
      have := ih (n / 128) (by omega) (xs ++ [((n % 128 + 128 : Nat) : Int)]) (by omega) (by simp; omega) (by
        rw [List.length_append, List.length_singleton]
        have h4 : 128 ^ (100 - xs.length) = 128 ^ (100 - (xs.length + 1)) * 128 := by rw [← Nat.pow_succ]; congr 1; omega
        rw [h4] at hn
        exact Nat.div_lt_of_lt_mul (by rw [Nat.mul_comm]; exact hn)) (by simp; omega)
      rw [List.append_assoc] at this
      exact this
theorem rput_eq {n : Nat} (h : n < 18446744073709551616) : F71_letheref02_PutNum (n : Int) = some (strB (putN n), ()) := by rw [F71_letheref02_PutNum_eq]; exact rput_l n [] h (by simp) (big64 h) (by simp)
def t3 (r : Int × Int × Int) : Int × Int × Int × Unit := (r.1, r.2.1, r.2.2, ())
theorem get_l (s : ByteArray) (hs : s.size ≤ 9223372036854775807) (d : Nat) : ∀ (i acc : Nat), i ≤ s.size → 9 - i + 1 = d → i ≤ 9 → acc < 128 ^ i → F88_term_GetNum_l1000003 s (acc : Int) (i : Int) = some (t3 (getN i acc ((bytesOf s).drop i))) := by
  induction d with
  | zero => intro i acc _ h; omega
  | succ d ih =>
    intro i acc hi hd h9 hacc
    rw [F88_term_GetNum_l1000003_eq]
    rcases Nat.lt_or_ge i s.size with hlt | hge
    · rw [if_pos (ilt hlt), if_pos (inb hlt), bytes_drop hlt]
      simp only [F88_term_GetNum_l12_eq]
      have hb := bt_byte s (i : Int)
      generalize hc : bt s (i : Int) = c at hb
      obtain ⟨h0, h1⟩ := hb
      have key : ¬ (i = 9 ∧ c > 1) → (if 0 ≤ IntKind.u64.wrap (IntKind.i64.wrap ((7 : Int) * (i : Int))) then
            if (shrR .u8 c (7 : Int)) = (0 : Int) then
              if c = (0 : Int) then
                if (0 : Int) < (i : Int) then some (0, 0, 21, ())
                else some (bitsR .or .u64 (acc : Int) (shlR .u64 (IntKind.u64.wrap (bitsR .and .u8 c (127 : Int))) (IntKind.u64.wrap (IntKind.i64.wrap ((7 : Int) * (i : Int))))), IntKind.i64.wrap ((i : Int) + (1 : Int)), 0, ())
              else some (bitsR .or .u64 (acc : Int) (shlR .u64 (IntKind.u64.wrap (bitsR .and .u8 c (127 : Int))) (IntKind.u64.wrap (IntKind.i64.wrap ((7 : Int) * (i : Int))))), IntKind.i64.wrap ((i : Int) + (1 : Int)), 0, ())
            else F88_term_GetNum_l1000003 s (bitsR .or .u64 (acc : Int) (shlR .u64 (IntKind.u64.wrap (bitsR .and .u8 c (127 : Int))) (IntKind.u64.wrap (IntKind.i64.wrap ((7 : Int) * (i : Int)))))) (IntKind.i64.wrap ((i : Int) + (1 : Int)))
          else none) = some (t3 (getN i acc (c :: (bytesOf s).drop (i + 1)))) := by
        intro hx
        have c1 : 0 ≤ IntKind.u64.wrap (IntKind.i64.wrap (7 * (i : Int))) := by rw [w64 (by omega) (by omega), wraps_u64 _ (by omega) (by omega)]; omega
        have h9' : i = 9 → c ≤ 1 := fun h => by omega
        rw [if_pos c1, or7 acc i c h0 h1 h9 hacc h9', shr7 h0 _ (by decide), getN, if_neg hx, w64s (n := 10) (by omega) (by omega)]
        by_cases h2 : c < 128
        · have c2 : c / 128 = 0 := by omega
          rw [if_pos c2, if_pos h2, Nat.mod_eq_of_lt (show c.toNat < 128 by omega)]
          by_cases h3 : c = 0
          · by_cases h4 : 0 < i
            · rw [if_pos h3, if_pos (by omega), if_pos (And.intro h3 h4)]; rfl
            · rw [if_pos h3, if_neg (by omega), if_neg (by omega)]; rfl
          · rw [if_neg h3, if_neg (by omega)]; rfl
        · have c2 : ¬ c / 128 = 0 := by omega
          rw [if_neg c2, if_neg h2, show c.toNat % 128 = c.toNat - 128 from by omega]
          have hi9 : i < 9 := by omega
          refine ih (i + 1) _ (by omega) (by omega) (by omega) ?_
          have h5 : (c.toNat - 128) * 128 ^ i ≤ 127 * 128 ^ i := Nat.mul_le_mul (by omega) (Nat.le_refl _)
          rw [Nat.pow_succ]
          omega
      by_cases h : i = 9
      · rw [if_pos (by omega)]
        by_cases hx : c > 1
        · rw [if_pos (by omega), getN, if_pos ⟨h, hx⟩]; rfl
        · rw [if_neg (by omega)]; exact key (fun hh => hx hh.2)
      · rw [if_neg (by omega)]; exact key (fun hh => h hh.1)
    · rw [if_neg (by omega), List.drop_eq_nil_of_le (by rw [bytesOf_length]; exact hge)]; rfl
theorem get_eq (s : ByteArray) (hs : s.size ≤ 9223372036854775807) : F88_term_GetNum s = some (t3 (getN 0 0 (bytesOf s))) := by rw [F88_term_GetNum_eq]; exact get_l s hs 10 0 0 (by omega) rfl (by omega) (by decide)
theorem u8_mod (n : Int) : IntKind.u8.wrap n = n % 256 := by rw [IntKind.wrap_u8]
theorem rbytes_l (l : List S25) (hl : l.length ≤ bigL) (ih : ∀ y ∈ l, (encT y).length ≤ 140737488355328 → F48_letheref02_Bytes (S25.f0 y) (S25.f1 y) (S25.f2 y) (S25.f3 y) = some (strB (encT y), ())) : ∀ (d i : Nat) (b : List Int), l.length - i = d → i ≤ l.length → b.length + (encL (l.drop i)).length ≤ 140737488355328 →
    F48_letheref02_Bytes_l1000012 (strB b) l (l.length : Int) (i : Int) = some (strB (b ++ encL (l.drop i)), ()) := by
  simp only [bigL] at hl
  intro d
  induction d with
  | zero =>
    intro i b hd hi hb
    rw [F48_letheref02_Bytes_l1000012_eq, if_neg (by omega), List.drop_eq_nil_of_le (by omega), encL, List.append_nil]
  | succ d ihd =>
    intro i b hd hi hb
    rw [List.drop_eq_getElem_cons (by omega : i < l.length), encL] at hb ⊢
    rw [List.length_append] at hb
    rw [F48_letheref02_Bytes_l1000012_eq, if_pos (ilt (by omega)), if_pos (inb (by omega)), rd_lt (by omega : i < l.length), ih _ (List.getElem_mem _) (by omega), Option.bind_some, w64s (n := l.length) (by omega) (by omega)]
    simp only []
    rw [if_pos (by rw [size_str, size_str]; omega), ← str_append, ihd (i + 1) _ (by omega) (by omega) (by rw [List.length_append]; omega), List.append_assoc]
theorem rbytes_eq {x : S25} (h : okT x) : (encT x).length ≤ 140737488355328 → F48_letheref02_Bytes (S25.f0 x) (S25.f1 x) (S25.f2 x) (S25.f3 x) = some (strB (encT x), ()) := by
  induction h with
  | @mk x h0 h1 h2 h3 h4 h5 ih =>
    intro hb
    have hu := wf_u64 h1
    obtain ⟨f, hf⟩ : ∃ f : Nat, S25.f1 x = (f : Int) := ⟨(S25.f1 x).toNat, by omega⟩
    rw [encT_eq] at hb ⊢
    generalize hn : S25.f0 x = n at *
    generalize hs : S25.f2 x = s at *
    generalize hL : S25.f3 x = l at *
    rw [hf] at hb ⊢
    rw [List.length_append] at hb
    have W : ∀ (c : List Int), c.length + (encL l).length ≤ 140737488355328 → F48_letheref02_Bytes_l11 (strB c) n (f : Int) s l = some (strB (c ++ encL l), ()) := by
      intro c hc
      rw [F48_letheref02_Bytes_l11_eq]
      have := rbytes_l l (by simp only [bigL]; omega) ih _ 0 c rfl (by omega) (by simpa using hc)
      simpa using this
    unfold hd at hb ⊢
    rw [List.length_cons] at hb
    have hz : (f : Int).toNat = f := Int.toNat_natCast f
    rw [hz] at hb ⊢
    have hst : s = strB (bytesOf s) := (str_bytesOf s).symm
    rw [F48_letheref02_Bytes_eq, u8_mod, rput_eq (by omega), wraps_u64 (s.size : Int) (by omega) (by omega), wraps_u64 (l.length : Int) (by omega) (by omega), rput_eq (by omega), rput_eq (by omega)]
    simp only [Option.bind_some, ← str_append, size_str, List.length_singleton]
    by_cases c1 : n = 1
    · rw [if_pos (Or.inl c1)] at hb ⊢
      rw [if_pos c1, if_pos c1, if_pos (by omega), W _ (by simp only [List.length_append, List.length_singleton]; omega)]; simp
    · rw [if_neg c1]
      by_cases c3 : n = 3
      · rw [if_pos (Or.inr (Or.inl c3))] at hb ⊢
        rw [if_pos c3, if_pos c3, if_pos (by omega), W _ (by simp only [List.length_append, List.length_singleton]; omega)]; simp
      · rw [if_neg c3]
        by_cases c4 : n = 4
        · rw [if_pos (Or.inr (Or.inr c4))] at hb ⊢
          rw [if_pos c4, if_pos (by omega), W _ (by simp only [List.length_append, List.length_singleton]; omega)]; simp
        · have cn : ¬ (n = 1 ∨ n = 3 ∨ n = 4) := by omega
          rw [if_neg cn] at hb ⊢
          rw [if_neg c4]
          by_cases c2 : n = 2
          · rw [if_pos c2] at hb ⊢
            rw [List.length_append, bytesOf_length] at hb
            rw [if_pos c2, if_pos (by omega)]
            rw [if_pos (by rw [List.length_append, List.length_singleton]; omega)]
            have e1 : strB ([n % 256] ++ putN s.size) ++ s = strB ([n % 256] ++ putN s.size ++ bytesOf s) := by rw [str_append ([n % 256] ++ putN s.size) (bytesOf s), str_bytesOf]
            rw [e1, W _ (by simp only [List.length_append, List.length_singleton, bytesOf_length]; omega)]; simp
          · rw [if_neg c2] at hb ⊢
            rw [if_neg c2]
            by_cases c5 : n = 5
            · rw [if_pos c5] at hb ⊢
              rw [if_pos c5, if_pos (by omega), W _ (by simp only [List.length_append, List.length_singleton]; omega)]; simp
            · rw [if_neg c5] at hb ⊢
              rw [if_neg c5, W _ (by simp only [List.length_singleton]; simp only [List.length_nil] at hb; omega)]

/-! ### terms out of bytes -/
abbrev Rd (α : Type) := Except Int (α × List Int × Nat)
def rdL (f : List Int → Nat → Rd S25) : Nat → List Int → Nat → Rd (List S25)
  | 0, b, seen => .ok ([], b, seen)
  | m + 1, b, seen => match f b seen with
    | .error e => .error e
    | .ok (x, b', s') => match rdL f m b' s' with
      | .error e => .error e
      | .ok (l, b2, s2) => .ok (x :: l, b2, s2)
def bodyT (f : List Int → Nat → Rd S25) (c : Int) (n : Nat) (t : List Int) (seen : Nat) : Rd S25 :=
  if c = 1 ∨ c = 3 then .ok (⟨c, n, ByteArray.empty, []⟩, t, seen)
  else if c = 2 then (if 4000 < n then .error 25 else if t.length < n then .error 20 else .ok (⟨2, 0, strB (t.take n), []⟩, t.drop n, seen))
  else match rdL f (if c = 4 then 1 else n) t seen with
    | .error e => .error e
    | .ok (l, b2, s2) => .ok (⟨c, if c = 4 then n else 0, ByteArray.empty, l⟩, b2, s2)
def headT (f : List Int → Nat → Rd S25) (b : List Int) (seen : Nat) : Rd S25 :=
  match b with
  | [] => .error 20
  | c :: t => if c < 1 ∨ 5 < c then .error 21 else if (getN 0 0 t).2.2 = 0 then bodyT f c (getN 0 0 t).1.toNat (t.drop (getN 0 0 t).2.1.toNat) (seen + 1) else .error (getN 0 0 t).2.2
def rdF : Nat → List Int → Nat → Rd S25
  | 0, b, seen => if 4000 ≤ seen then .error 23 else .error 22
  | D + 1, b, seen => if 4000 ≤ seen then .error 23 else headT (rdF D) b seen

theorem len_parts (l : List S25) : l.length ≤ partsL l := by
  induction l with
  | nil => simp
  | cons x t ih =>
    rw [partsL, List.length_cons]
    have := parts_pos x
    omega
/-- What is read, told of a term and of a row of terms. -/
structure Was (D : Nat) (b : List Int) (seen : Nat) (x : S25) (b' : List Int) (n : Nat) : Prop where
  enc : b = encT x ++ b'
  cnt : seen + parts x = n
  most : n ≤ 4000
  deep : depth x ≤ D
  shape : shp x = true
  ok : okT x
structure WasL (D : Nat) (b : List Int) (seen m : Nat) (l : List S25) (b' : List Int) (n : Nat) : Prop where
  enc : b = encL l ++ b'
  cnt : seen + partsL l = n
  most : n ≤ 4000
  deep : depthL l ≤ D
  shape : shpL l = true
  ok : ∀ y ∈ l, okT y
  len : l.length = m
theorem rdL_was {D : Nat} {f : List Int → Nat → Rd S25} (hf : ∀ b seen x b' n, AllB b → f b seen = .ok (x, b', n) → Was D b seen x b' n) (m : Nat) :
    ∀ b seen l b' n, AllB b → seen ≤ 4000 → rdL f m b seen = .ok (l, b', n) → WasL D b seen m l b' n := by
  induction m with
  | zero =>
    intro b seen l b' n hB hs h
    simp only [rdL, Except.ok.injEq, Prod.mk.injEq] at h
    obtain ⟨rfl, rfl, rfl⟩ := h
    exact ⟨by simp [encL], by simp [partsL], hs, by simp [depthL], by simp [shpL], by simp, rfl⟩
  | succ m ih =>
    intro b seen l b' n hB hs h
    rw [rdL] at h
    cases e1 : f b seen with
    | error e => rw [e1] at h; simp at h
    | ok r =>
      obtain ⟨x, b1, n1⟩ := r
      rw [e1] at h
      simp only at h
      have w1 := hf _ _ _ _ _ hB e1
      cases e2 : rdL f m b1 n1 with
      | error e => rw [e2] at h; simp at h
      | ok r =>
        obtain ⟨l1, b2, n2⟩ := r
        rw [e2] at h
        simp only [Except.ok.injEq, Prod.mk.injEq] at h
        obtain ⟨rfl, rfl, rfl⟩ := h
        have hB1 : AllB b1 := fun y hy => hB y (by rw [w1.enc]; simp [hy])
        have w2 := ih _ _ _ _ _ hB1 w1.most e2
        refine ⟨?_, ?_, w2.most, ?_, ?_, ?_, ?_⟩
        · rw [encL, List.append_assoc, ← w2.enc]; exact w1.enc
        · rw [partsL]; have := w1.cnt; have := w2.cnt; omega
        · rw [depthL]; have := w1.deep; have := w2.deep; omega
        · rw [shpL, w1.shape, w2.shape]; rfl
        · intro y hy
          rcases List.mem_cons.1 hy with rfl | hy
          · exact w1.ok
          · exact w2.ok y hy
        · rw [List.length_cons, w2.len]
theorem wf_nat {n : Nat} (h : n < 18446744073709551616) : (Lit.int .u64 (n : Int)).wf = true := by
  simp [Lit.wf, IntKind.min, IntKind.max, IntKind.bits, IntKind.signed]
  omega
theorem wf_kind {c : Int} (h : 1 ≤ c ∧ c ≤ 5) : (Lit.int .i64 c).wf = true := by
  simp [Lit.wf, IntKind.min, IntKind.max, IntKind.bits, IntKind.signed]
  omega
theorem rdF_was (D : Nat) : ∀ b seen x b' n, AllB b → rdF D b seen = .ok (x, b', n) → Was D b seen x b' n := by
  induction D with
  | zero =>
    intro b seen x b' n hB h
    rw [rdF] at h
    split at h <;> simp at h
  | succ D ih =>
    intro b seen x b' n hB h
    rw [rdF] at h
    split at h
    · simp at h
    · rename_i hs
      cases b with
      | nil => simp [headT] at h
      | cons c t =>
        rw [headT] at h
        split at h
        · simp at h
        · rename_i hc
          have hBt : AllB t := fun y hy => hB y (by simp [hy])
          rcases get_is0 hBt with ⟨k, more, h1, hk, h2⟩ | h2 | h2
          · rw [h2] at h
            simp only [if_true, Int.toNat_natCast] at h
            rw [show t.drop (putN k).length = more from by rw [h1]; simp] at h
            have hBm : AllB more := fun y hy => hBt y (by rw [h1]; simp [hy])
            have hcm : c % 256 = c := by omega
            unfold bodyT at h
            split at h
            · rename_i c13
              simp only [Except.ok.injEq, Prod.mk.injEq] at h
              obtain ⟨rfl, rfl, rfl⟩ := h
              refine ⟨?_, by rw [parts_eq]; simp [partsL], by omega, by rw [depth_eq]; simp [depthL], ?_, okT.leaf (wf_kind (by omega)) (wf_nat hk) (by simp [ByteArray.size])⟩
              · rw [encT_mk, hd, if_pos (show c = 1 ∨ c = 3 ∨ c = 4 by omega), hcm, h1]
                simp [encL]
              · rw [shp_mk, one, if_pos c13]
                simp [shpL, bytesOf_empty]
            · rename_i c13
              split at h
              · rename_i c2
                subst c2
                split at h
                · simp at h
                · rename_i hk2
                  split at h
                  · simp at h
                  · rename_i hk3
                    simp only [Except.ok.injEq, Prod.mk.injEq] at h
                    obtain ⟨rfl, rfl, rfl⟩ := h
                    have hsz : (strB (more.take k)).size = k := by rw [size_str, List.length_take]; omega
                    refine ⟨?_, by rw [parts_eq]; simp [partsL], by omega, by rw [depth_eq]; simp [depthL], ?_, okT.leaf (wf_kind (by omega)) (by decide) (by rw [hsz]; omega)⟩
                    · rw [encT_mk, hd, if_neg (by simp), if_pos rfl]
                      simp only [hsz, bytesOf_str (hBm.take k), encL, List.append_nil]
                      rw [h1]
                      simp
                    · rw [shp_mk, one, if_neg (by simp), if_pos rfl]
                      simp only [hsz, shpL, Bool.and_true, decide_eq_true_eq]
                      exact ⟨trivial, by omega, rfl⟩
              · rename_i c2
                cases e1 : rdL (rdF D) (if c = 4 then 1 else k) more (seen + 1) with
                | error e => rw [e1] at h; simp at h
                | ok r =>
                  obtain ⟨l, b1, n1⟩ := r
                  rw [e1] at h
                  simp only [Except.ok.injEq, Prod.mk.injEq] at h
                  obtain ⟨rfl, rfl, rfl⟩ := h
                  have w := rdL_was ih _ _ _ _ _ _ hBm (by omega) e1
                  have hlen : l.length ≤ 4000 := by have := len_parts l; have := w.cnt; have := w.most; omega
                  refine ⟨?_, ?_, w.most, ?_, ?_, okT.mk (show (Lit.int .i64 c).wf = true from wf_kind (by omega)) (by show (Lit.int .u64 (if c = 4 then (k : Int) else 0)).wf = true; split; exact wf_nat hk; decide) (by simp [ByteArray.size]) (by show l.length * 56 ≤ _; omega) (by show l.length ≤ _; exact Nat.le_trans hlen (by decide)) w.ok⟩
                  · rw [encT_mk, hd, hcm]
                    by_cases c4 : c = 4
                    · rw [if_pos (by omega), if_pos c4, Int.toNat_natCast, h1, w.enc]
                      simp
                    · have hl := w.len
                      rw [if_neg c4] at hl
                      rw [if_neg (by omega), if_neg c2, if_pos (show c = 5 by omega), hl, h1, w.enc]
                      simp
                  · rw [parts_eq]; have := w.cnt; simp only [T_f0, T_f1, T_f2, T_f3]; omega
                  · rw [depth_eq]; have := w.deep; simp only [T_f0, T_f1, T_f2, T_f3]; omega
                  · rw [shp_mk, one]
                    simp only [if_neg c13, if_neg c2, w.shape, Bool.and_true]
                    have hl := w.len
                    by_cases c4 : c = 4
                    · rw [if_pos c4] at hl
                      simp [c4, hl, bytesOf_empty]
                    · simp only [if_neg c4, if_pos (show c = 5 by omega)]
                      simp [bytesOf_empty]
          · rw [h2] at h; simp at h
          · rw [h2] at h; simp at h
theorem rdL_reads {D : Nat} (l : List S25) (ih : ∀ y ∈ l, ∀ more seen, shp y = true → depth y ≤ D → seen + parts y ≤ 4000 → rdF D (encT y ++ more) seen = .ok (y, more, seen + parts y)) (hs : shpL l = true) (hd : depthL l ≤ D) :
    ∀ more seen, seen + partsL l ≤ 4000 → rdL (rdF D) l.length (encL l ++ more) seen = .ok (l, more, seen + partsL l) := by
  induction l with
  | nil => intro more seen _; simp [rdL, encL, partsL]
  | cons x t iht =>
    intro more seen hn
    rw [shpL, Bool.and_eq_true] at hs
    rw [depthL] at hd
    rw [partsL] at hn ⊢
    rw [encL, List.append_assoc, List.length_cons, rdL, ih x (by simp) _ _ hs.1 (by omega) (by omega)]
    simp only
    rw [iht (fun y hy => ih y (by simp [hy])) hs.2 (by omega) more (seen + parts x) (by omega)]
    simp only
    rw [Nat.add_assoc]
theorem one_kind {n f : Int} {s : ByteArray} {len : Nat} (h : one n f s len = true) : ((n = 1 ∨ n = 3) ∧ s = ByteArray.empty ∧ len = 0) ∨ (n = 2 ∧ f = 0 ∧ s.size ≤ 4000 ∧ len = 0) ∨ (n = 4 ∧ s = ByteArray.empty ∧ len = 1) ∨ (n = 5 ∧ f = 0 ∧ s = ByteArray.empty) := by
  unfold one at h
  simp only [str_nil_iff] at h
  split at h
  · rename_i c; exact .inl ⟨c, by simpa using h⟩
  · split at h
    · rename_i c; exact .inr (.inl ⟨c, by simpa using h⟩)
    · split at h
      · rename_i c; exact .inr (.inr (.inl ⟨c, by simpa using h⟩))
      · split at h
        · rename_i c; exact .inr (.inr (.inr ⟨c, by simpa using h⟩))
        · simp at h
theorem rdF_reads {x : S25} (h : okT x) : ∀ D more seen, shp x = true → depth x ≤ D → seen + parts x ≤ 4000 → rdF D (encT x ++ more) seen = .ok (x, more, seen + parts x) := by
  induction h with
  | @mk x h0 h1 h2 h3 h4 h5 ih =>
    intro D more seen hs hdp hn
    have hu := wf_u64 h1
    obtain ⟨f, hf⟩ : ∃ f : Nat, x.f1 = (f : Int) := ⟨x.f1.toNat, by omega⟩
    cases D with
    | zero => have := depth_pos x; omega
    | succ D =>
      rw [shp_eq, Bool.and_eq_true] at hs
      rw [depth_eq] at hdp
      rw [parts_eq] at hn ⊢
      have hl := rdL_reads (D := D) x.f3 (fun y hy more seen a b c => ih y hy D more seen a b c) hs.2 (by omega)
      rw [rdF, if_neg (by omega), encT_eq, hd]
      rcases one_kind hs.1 with ⟨c, e1, e2⟩ | ⟨c, e1, e2, e3⟩ | ⟨c, e1, e2⟩ | ⟨c, e1, e2⟩
      · have e3 : x.f3 = [] := List.length_eq_zero_iff.1 e2
        rw [if_pos (by omega), show x.f0 % 256 = x.f0 from by omega, hf, Int.toNat_natCast, List.append_assoc, List.cons_append, headT, if_neg (by omega), get_put0 (by omega)]
        simp only [if_true, Int.toNat_natCast]
        rw [bodyT, if_pos c, e3]
        simp only [encL, partsL, List.nil_append, List.drop_left']
        exact congrArg (fun y => Except.ok (y, more, seen + 1)) (show S25.mk (S25.f0 x) (f : Int) ByteArray.empty [] = x by rw [← hf, ← e1, ← e3, etaT])
      · have e4 : x.f3 = [] := List.length_eq_zero_iff.1 e3
        rw [if_neg (by omega), if_pos c, show x.f0 % 256 = 2 from by omega, List.append_assoc, List.cons_append, List.append_assoc, headT, if_neg (by omega), get_put0 (by omega)]
        simp only [if_true, Int.toNat_natCast]
        rw [bodyT, if_neg (by decide), if_pos rfl, if_neg (by omega), e4]
        have e5 : List.drop (putN x.f2.size).length (putN x.f2.size ++ (bytesOf x.f2 ++ (encL [] ++ more))) = bytesOf x.f2 ++ more := by simp [encL]
        rw [e5, if_neg (by rw [List.length_append, bytesOf_length]; omega), List.take_left' (bytesOf_length _), List.drop_left' (bytesOf_length _), str_bytesOf]
        simp only [partsL]
        exact congrArg (fun y => Except.ok (y, more, seen + 1)) (show S25.mk 2 0 (S25.f2 x) [] = x by rw [← c, ← e1, ← e4, etaT])
      · rw [if_pos (by omega), show x.f0 % 256 = x.f0 from by omega, hf, Int.toNat_natCast, List.append_assoc, List.cons_append, headT, if_neg (by omega), get_put0 (by omega)]
        simp only [if_true, Int.toNat_natCast]
        rw [bodyT, if_neg (by omega), if_neg (by omega), if_pos c, List.drop_left' rfl]
        have := hl more (seen + 1) (by omega)
        rw [e2] at this
        rw [this]
        simp only [if_pos c]
        rw [← hf, ← e1, etaT, Nat.add_assoc]
      · rw [if_neg (by omega), if_neg (by omega), if_pos c, show x.f0 % 256 = x.f0 from by omega, List.append_assoc, List.cons_append, headT, if_neg (by omega), get_put0 (by omega)]
        simp only [if_true, Int.toNat_natCast]
        rw [bodyT, if_neg (by omega), if_neg (by omega), if_neg (show ¬ x.f0 = 4 by omega), List.drop_left' rfl]
        rw [hl more (seen + 1) (by omega)]
        simp only [if_neg (show ¬ x.f0 = 4 by omega)]
        rw [← e1, ← e2, etaT, Nat.add_assoc]
theorem rdL_cut {D : Nat} (l : List S25) (ih : ∀ y ∈ l, ∀ m seen, shp y = true → depth y ≤ D → seen + parts y ≤ 4000 → m < (encT y).length → rdF D ((encT y).take m) seen = .error 20) (ho : ∀ y ∈ l, okT y) (hs : shpL l = true) (hd : depthL l ≤ D) :
    ∀ m seen, seen + partsL l ≤ 4000 → m < (encL l).length → rdL (rdF D) l.length ((encL l).take m) seen = .error 20 := by
  induction l with
  | nil => intro m seen _ hm; simp [encL] at hm
  | cons x t iht =>
    intro m seen hn hm
    rw [shpL, Bool.and_eq_true] at hs
    rw [depthL] at hd
    rw [partsL] at hn
    rw [encL, List.length_append] at hm
    rw [encL, List.length_cons, rdL, List.take_append]
    rcases Nat.lt_or_ge m (encT x).length with h | h
    · rw [show m - (encT x).length = 0 from by omega, List.take_zero, List.append_nil, ih x (by simp) m seen hs.1 (by omega) (by omega) h]
    · rw [List.take_of_length_le h, rdF_reads (ho x (by simp)) D _ _ hs.1 (by omega) (by omega)]
      simp only
      rw [iht (fun y hy => ih y (by simp [hy])) (fun y hy => ho y (by simp [hy])) hs.2 (by omega) (m - (encT x).length) (seen + parts x) (by omega) (by omega)]
theorem rdF_cut {x : S25} (h : okT x) : ∀ D m seen, shp x = true → depth x ≤ D → seen + parts x ≤ 4000 → m < (encT x).length → rdF D ((encT x).take m) seen = .error 20 := by
  induction h with
  | @mk x h0 h1 h2 h3 h4 h5 ih =>
    intro D m seen hs hdp hn hm
    have hu := wf_u64 h1
    obtain ⟨f, hf⟩ : ∃ f : Nat, x.f1 = (f : Int) := ⟨x.f1.toNat, by omega⟩
    cases D with
    | zero => have := depth_pos x; omega
    | succ D =>
      rw [shp_eq, Bool.and_eq_true] at hs
      rw [depth_eq] at hdp
      rw [parts_eq] at hn
      have hl := rdL_cut (D := D) x.f3 (fun y hy m seen a b c d => ih y hy D m seen a b c d) h5 hs.2 (by omega)
      rw [rdF, if_neg (by omega)]
      rw [encT_eq, hd] at hm ⊢
      cases m with
      | zero => rfl
      | succ m =>
        rw [List.cons_append, List.length_cons] at hm
        rw [List.cons_append, List.take_succ_cons]
        have num : ∀ (c : Int) (n : Nat) (rest : List Int), (1 ≤ c ∧ c ≤ 5) → n < 18446744073709551616 → m < (putN n ++ rest).length → (∀ j, j < rest.length → bodyT (rdF D) c n (rest.take j) (seen + 1) = .error 20) → headT (rdF D) (c :: (putN n ++ rest).take m) seen = .error 20 := by
          intro c n rest hc hn' hm' hb
          rw [headT, if_neg (by omega), List.take_append]
          rw [List.length_append] at hm'
          rcases Nat.lt_or_ge m (putN n).length with h | h
          · rw [show m - (putN n).length = 0 from by omega, List.take_zero, List.append_nil, get_cut0 hn' h]
            rfl
          · rw [List.take_of_length_le h, get_put0 hn']
            simp only [if_true, Int.toNat_natCast]
            rw [List.drop_left' rfl]
            exact hb _ (by omega)
        rcases one_kind hs.1 with ⟨c, e1, e2⟩ | ⟨c, e1, e2, e3⟩ | ⟨c, e1, e2⟩ | ⟨c, e1, e2⟩
        · have e3 : x.f3 = [] := List.length_eq_zero_iff.1 e2
          rw [if_pos (by omega), hf, Int.toNat_natCast, e3] at hm ⊢
          rw [show x.f0 % 256 = x.f0 from by omega]
          exact num _ _ _ (by omega) (by omega) (by omega) (fun j hj => by simp [encL] at hj)
        · have e4 : x.f3 = [] := List.length_eq_zero_iff.1 e3
          rw [if_neg (by omega), if_pos c, e4, List.append_assoc] at hm ⊢
          rw [show x.f0 % 256 = 2 from by omega]
          refine num _ _ _ (by omega) (by omega) (by omega) (fun j hj => ?_)
          rw [List.length_append, bytesOf_length] at hj
          simp only [encL, List.length_nil] at hj
          rw [bodyT, if_neg (by decide), if_pos rfl, if_neg (by omega), if_pos (by rw [List.length_take]; omega)]
        · rw [if_pos (by omega), hf, Int.toNat_natCast] at hm ⊢
          rw [show x.f0 % 256 = x.f0 from by omega]
          refine num _ _ _ (by omega) (by omega) (by omega) (fun j hj => ?_)
          rw [bodyT, if_neg (by omega), if_neg (by omega), if_pos c]
          have := hl j (seen + 1) (by omega) hj
          rw [e2] at this
          rw [this]
        · rw [if_neg (by omega), if_neg (by omega), if_pos c] at hm ⊢
          rw [show x.f0 % 256 = x.f0 from by omega]
          refine num _ _ _ (by omega) (by omega) (by omega) (fun j hj => ?_)
          rw [bodyT, if_neg (by omega), if_neg (by omega), if_neg (show ¬ x.f0 = 4 by omega), hl j (seen + 1) (by omega) hj]


theorem str_drop (l : List Int) (j : Nat) : (strB l).extract j (strB l).size = strB (l.drop j) := by
  apply ByteArray.ext
  simp [strB, List.map_drop, ByteArray.size]
  rw [List.take_of_length_le (by simp)]
theorem subS_drop (l : List Int) {i : Int} (j : Nat) (h : i = (j : Int)) : subS (strB l) i ((strB l).size : Int) = strB (l.drop j) := by
  subst h; unfold subS; rw [Int.toNat_natCast, Int.toNat_natCast]; exact str_drop l j
theorem subS_take (l : List Int) {i : Int} (j : Nat) (h : i = (j : Int)) : subS (strB l) 0 i = strB (l.take j) := by
  subst h; unfold subS; rw [Int.toNat_natCast]; exact str_take l j
theorem bt_str {l : List Int} (h : AllB l) {j : Nat} (hj : j < l.length) : bt (strB l) (j : Int) = l[j] := by
  rw [bt_eq (by rw [size_str]; exact hj)]
  have : bytesOf (strB l) = l := bytesOf_str h
  simp only [this]
theorem str_empty_iff {l : List Int} (h : AllB l) : strB l = ByteArray.empty ↔ l = [] := by
  rw [← str_nil_iff, bytesOf_str h]
/-- What both programs answer for a string. -/
def decode (b : List Int) : Int × Int × ByteArray × List S25 × Int × Unit :=
  match rdF 12 b 0 with
  | .ok (x, b', _) => if b' = [] then (S25.f0 x, S25.f1 x, S25.f2 x, S25.f3 x, 0, ()) else (0, 0, ByteArray.empty, [], 24, ())
  | .error e => (0, 0, ByteArray.empty, [], e, ())

/-! ### reading: the code -/
abbrev T7 := Int × Int × ByteArray × List S25 × Int × ByteArray × Int × Unit
def MeetsP (r : Rd S25) (a : Option T7) : Prop :=
  match r with
  | .ok (x, b', n) => a = some (S25.f0 x, S25.f1 x, S25.f2 x, S25.f3 x, 0, strB b', (n : Int), ())
  | .error e => e ≠ 0 ∧ ∃ s' n', a = some (0, 0, ByteArray.empty, [], e, s', n', ())
def MeetsL (c0 c1 : Int) (c2 : ByteArray) (acc : List S25) (r : Rd (List S25)) (a : Option T7) : Prop :=
  match r with
  | .ok (l, b', n) => a = some (c0, c1, c2, acc ++ l, 0, strB b', (n : Int), ())
  | .error e => e ≠ 0 ∧ ∃ s' n', a = some (0, 0, ByteArray.empty, [], e, s', n', ())
theorem u64_pred {m : Nat} (h : m + 1 < 18446744073709551616) : IntKind.u64.wrap (((m + 1 : Nat) : Int) - 1) = (m : Int) := by rw [wraps_u64 _ (by omega) (by omega)]; omega
theorem reader_l {D : Nat} {f : List Int → Nat → Rd S25} (around : Nat) (ha : around ≤ 12)
    (hf : ∀ b seen, AllB b → b.length ≤ 281474976710656 → seen ≤ 4000 → MeetsP (f b seen) (F73_term_reader_term ((around + 1 : Nat) : Int) (strB b) (seen : Int)))
    (hw : ∀ b seen x b' n, AllB b → f b seen = .ok (x, b', n) → Was D b seen x b' n) (c0 c1 o0 o1 : Int) (c2 o2 : ByteArray) (o3 : List S25) (m : Nat) :
    ∀ b seen (acc : List S25), AllB b → b.length ≤ 281474976710656 → seen ≤ 4000 → m < 18446744073709551616 → acc.length ≤ seen →
      MeetsL c0 c1 c2 acc (rdL f m b seen) (F73_term_reader_term_l1000022 (around : Int) (m : Int) (strB b) (seen : Int) o0 o1 o2 c0 c1 c2 o3 acc) := by
  induction m with
  | zero =>
    intro b seen acc hB hb hs hm ha
    rw [rdL]
    show _ = _
    rw [F73_term_reader_term_l1000022_eq, if_neg (by omega), List.append_nil]
  | succ m ih =>
    intro b seen acc hB hb hs hm hacc
    have h1 := hf b seen hB hb hs
    rw [rdL, F73_term_reader_term_l1000022_eq, if_pos (by omega), w64s (n := 13) (by omega) (by omega), u64_pred hm]
    cases e1 : f b seen with
    | error e =>
      rw [e1] at h1
      obtain ⟨he, s', n', hev⟩ := h1
      refine ⟨he, s', n', ?_⟩
      rw [hev, Option.bind_some, if_pos he]
    | ok r =>
      obtain ⟨x, b1, n1⟩ := r
      rw [e1] at h1
      have w := hw _ _ _ _ _ hB e1
      have hpp := parts_pos x
      have hcnt := w.cnt
      have hmost := w.most
      have hB1 : AllB b1 := fun y hy => hB y (by rw [w.enc]; simp [hy])
      have hlen : b1.length ≤ 281474976710656 := by have := congrArg List.length w.enc; rw [List.length_append] at this; omega
      have h2 : F73_term_reader_term ((around + 1 : Nat) : Int) (strB b) (seen : Int) = some (S25.f0 x, S25.f1 x, S25.f2 x, S25.f3 x, 0, strB b1, (n1 : Int), ()) := h1
      rw [h2, Option.bind_some, if_neg (by simp), if_pos (by rw [List.length_singleton]; omega)]
      simp only [etaT]
      have := ih b1 n1 (acc ++ [x]) hB1 hlen hmost (by omega) (by rw [List.length_append, List.length_singleton]; omega)
      cases e2 : rdL f m b1 n1 with
      | error e =>
        rw [e2] at this
        exact this
      | ok r2 =>
        obtain ⟨l, b2, n2⟩ := r2
        rw [e2] at this
        simp only [MeetsL] at this ⊢
        rw [this, List.append_assoc]; rfl
theorem MeetsP.err {s : ByteArray} {seen around e : Int} {s' : ByteArray} {n' : Int} (he : e ≠ 0) (h : F84_term_reader_head around s seen = some (0, 0, e, s', n', ())) : MeetsP (.error e) (F73_term_reader_term around s seen) := by
  refine ⟨he, s', n', ?_⟩
  rw [F73_term_reader_term_eq, h, Option.bind_some, if_pos he]
theorem reader_eq (D : Nat) : D ≤ 12 → ∀ b seen, AllB b → b.length ≤ 281474976710656 → seen ≤ 4000 → MeetsP (rdF D b seen) (F73_term_reader_term ((12 - D : Nat) : Int) (strB b) (seen : Int)) := by
  induction D with
  | zero =>
    intro hD b seen hB hb hs
    rw [rdF]
    by_cases h1 : 4000 ≤ seen
    · rw [if_pos h1]
      exact MeetsP.err (by decide) (by rw [F84_term_reader_head_eq, if_pos (by omega)])
    · rw [if_neg h1]
      exact MeetsP.err (by decide) (by rw [F84_term_reader_head_eq, if_neg (by omega), if_pos (by omega)])
  | succ D ih =>
    intro hD b seen hB hb hs
    rw [rdF]
    by_cases h1 : 4000 ≤ seen
    · rw [if_pos h1]
      exact MeetsP.err (by decide) (by rw [F84_term_reader_head_eq, if_pos (by omega)])
    · rw [if_neg h1]
      cases b with
      | nil => rw [headT]; exact MeetsP.err (by decide) (by rw [F84_term_reader_head_eq, if_neg (by omega), if_neg (by omega), if_pos ((str_empty_iff hB).2 rfl)])
      | cons c t =>
        have hcB := hB c (by simp)
        have hBt : AllB t := fun y hy => hB y (by simp [hy])
        rw [List.length_cons] at hb
        have hsz : ((strB (c :: t)).size : Int) = (t.length : Int) + 1 := by rw [size_str, List.length_cons]; omega
        have hbt : bt (strB (c :: t)) 0 = c := bt_str hB (j := 0) (by simp)
        have hw : IntKind.i64.wrap c = c := w64 (by omega) (by omega)
        have h7 : IntKind.i64.wrap ((seen : Int) + 1) = ((seen + 1 : Nat) : Int) := w64s (n := 4001) (by omega) (by omega)
        have hne : ¬ strB (c :: t) = ByteArray.empty := fun h => by have := (str_empty_iff hB).1 h; simp at this
        have hsub : subS (strB (c :: t)) 1 ((strB (c :: t)).size : Int) = strB t := subS_drop (c :: t) 1 rfl
        have hd : F84_term_reader_head ((12 - (D + 1) : Nat) : Int) (strB (c :: t)) (seen : Int) = if c < 1 then some (0, 0, 21, strB (c :: t), ((seen + 1 : Nat) : Int), ()) else if 5 < c then some (0, 0, 21, strB (c :: t), ((seen + 1 : Nat) : Int), ()) else
            (F88_term_GetNum (strB t)).bind fun y1 => if ¬ y1.2.2.1 = (0 : Int) then some (0, 0, y1.2.2.1, strB (c :: t), ((seen + 1 : Nat) : Int), ()) else
              if (0 : Int) ≤ (IntKind.i64.wrap ((1 : Int) + y1.2.1)) ∧ (IntKind.i64.wrap ((1 : Int) + y1.2.1)) ≤ ((strB (c :: t)).size : Int) ∧ ((strB (c :: t)).size : Int) ≤ ((strB (c :: t)).size : Int) then some (c, y1.1, 0, subS (strB (c :: t)) (IntKind.i64.wrap ((1 : Int) + y1.2.1)) ((strB (c :: t)).size : Int), ((seen + 1 : Nat) : Int), ()) else none := by
          rw [F84_term_reader_head_eq, if_neg (by omega), if_neg (by omega), if_neg hne, if_pos (by omega), hbt, hw, h7, hsub, if_pos (show (0 : Int) ≤ 1 ∧ 1 ≤ ((strB (c :: t)).size : Int) ∧ ((strB (c :: t)).size : Int) ≤ ((strB (c :: t)).size : Int) by omega)]
        have g := get_eq (strB t) (by rw [size_str]; omega)
        rw [bytesOf_str hBt] at g
        rw [headT]
        by_cases h2 : c < 1 ∨ 5 < c
        · rw [if_pos h2]
          refine MeetsP.err (s' := strB (c :: t)) (n' := ((seen + 1 : Nat) : Int)) (by decide) ?_
          rw [hd]
          by_cases h3 : c < 1
          · rw [if_pos h3]
          · rw [if_neg h3, if_pos (h2.resolve_left h3)]
        · rw [if_neg h2]
          rw [if_neg (by omega), if_neg (by omega), g, Option.bind_some] at hd
          have bad : ∀ e, getN 0 0 t = (0, 0, e) → e ≠ 0 → MeetsP (.error e) (F73_term_reader_term ((12 - (D + 1) : Nat) : Int) (strB (c :: t)) (seen : Int)) := by
            intro e he he0
            refine MeetsP.err (s' := strB (c :: t)) (n' := ((seen + 1 : Nat) : Int)) he0 ?_
            rw [hd, he]
            exact if_pos he0
          rcases get_is0 hBt with ⟨n, more, e1, hn, e2⟩ | e2 | e2
          · have hBm : AllB more := fun y hy => hBt y (by rw [e1]; simp [hy])
            have hlen : t.length = (putN n).length + more.length := by rw [e1, List.length_append]
            have hq := putN_len10 hn
            have w1 : IntKind.i64.wrap (1 + ((putN n).length : Int)) = ((1 + (putN n).length : Nat) : Int) := by rw [w64 (by omega) (by omega)]; omega
            have hml : more.length ≤ 281474976710656 := by omega
            have hs1 : seen + 1 ≤ 4000 := Nat.lt_of_not_le h1
            have b5 : subS (strB (c :: t)) ((1 + (putN n).length : Nat) : Int) ((strB (c :: t)).size : Int) = strB more := by
              rw [subS_drop _ _ rfl, Nat.add_comm, List.drop_succ_cons, e1, List.drop_left' rfl]
            have hh : F84_term_reader_head ((12 - (D + 1) : Nat) : Int) (strB (c :: t)) (seen : Int) = some (c, (n : Int), 0, strB more, ((seen + 1 : Nat) : Int), ()) := by
              rw [hd, e2]
              show (if ¬ (0 : Int) = 0 then _ else _) = _
              rw [if_neg (by simp)]
              show (if (0 : Int) ≤ (IntKind.i64.wrap ((1 : Int) + ((putN n).length : Int))) ∧ (IntKind.i64.wrap ((1 : Int) + ((putN n).length : Int))) ≤ ((strB (c :: t)).size : Int) ∧ ((strB (c :: t)).size : Int) ≤ ((strB (c :: t)).size : Int) then some (c, (n : Int), 0, subS (strB (c :: t)) (IntKind.i64.wrap ((1 : Int) + ((putN n).length : Int))) ((strB (c :: t)).size : Int), ((seen + 1 : Nat) : Int), ()) else none) = _
              rw [w1, if_pos (by omega), b5]
            rw [e2]
            simp only [if_true, Int.toNat_natCast]
            rw [show t.drop (putN n).length = more from by rw [e1, List.drop_left' rfl], F73_term_reader_term_eq, hh, Option.bind_some, if_neg (by simp)]
            dsimp only
            have hL := fun (m : Nat) (hm : m < 18446744073709551616) (c1 : Int) => reader_l (D := D) (f := rdF D) (12 - (D + 1)) (by omega) (fun b s a1 a2 a3 => by have := ih (by omega) b s a1 a2 a3; rw [show 12 - (D + 1) + 1 = 12 - D from by omega]; exact this) (rdF_was D) c c1 0 0 ByteArray.empty ByteArray.empty [] m more (seen + 1) [] hBm hml hs1 hm (by simp)
            have h0 : ∀ (c1 : Int) (c2 : ByteArray) (b2 : List Int), F73_term_reader_term_l1000022 ((12 - (D + 1) : Nat) : Int) 0 (strB b2) ((seen + 1 : Nat) : Int) 0 0 ByteArray.empty c c1 c2 [] [] = some (c, c1, c2, [], 0, strB b2, ((seen + 1 : Nat) : Int), ()) := by
              intro c1 c2 b2; rw [F73_term_reader_term_l1000022_eq, if_neg (by simp)]
            rw [bodyT]
            by_cases k1 : c = 1
            · rw [if_pos k1, if_pos k1, if_pos (Or.inl k1), h0]; exact rfl
            · rw [if_neg k1]
              by_cases k3 : c = 3
              · rw [if_pos k3, if_pos (Or.inr k3), h0]; exact rfl
              · rw [if_neg k3, if_neg (by omega)]
                by_cases k2 : c = 2
                · rw [if_pos k2, if_pos k2]
                  by_cases k4 : 4000 < n
                  · rw [if_pos k4, if_pos (show (4000 : Int) < (n : Int) by omega)]
                    exact ⟨by decide, _, _, rfl⟩
                  · have hu : IntKind.u64.wrap ((strB more).size : Int) = (more.length : Int) := by rw [size_str]; exact wraps_u64 _ (by omega) (by omega)
                    have hz : ((strB more).size : Int) = (more.length : Int) := by rw [size_str]
                    rw [if_neg k4, if_neg (show ¬ (4000 : Int) < (n : Int) by omega)]
                    simp only [hu]
                    by_cases k5 : more.length < n
                    · rw [if_pos k5, if_pos (show (more.length : Int) < (n : Int) by omega)]
                      exact ⟨by decide, _, _, rfl⟩
                    · rw [if_neg k5, if_neg (show ¬ (more.length : Int) < (n : Int) by omega), if_pos (by omega), if_pos (by omega), subS_drop _ n rfl, subS_take _ n rfl, h0]
                      subst k2; exact rfl
                · rw [if_neg k2, if_neg k2]
                  by_cases k4 : c = 4
                  · have := hL 1 (by omega) (n : Int)
                    simp only [if_pos k4]
                    cases q : rdL (rdF D) 1 more (seen + 1) with
                    | error e => rw [q] at this; obtain ⟨g1, g2, g3, g4⟩ := this; exact ⟨g1, g2, g3, g4⟩
                    | ok r =>
                      obtain ⟨l, b2, s2⟩ := r
                      rw [q] at this
                      simp only [MeetsL, MeetsP, T_f0, T_f1, T_f2, T_f3, List.nil_append] at this ⊢
                      exact this
                  · have k5 : c = 5 := by omega
                    have := hL n hn 0
                    simp only [if_neg k4, if_pos k5]
                    cases q : rdL (rdF D) n more (seen + 1) with
                    | error e => rw [q] at this; obtain ⟨g1, g2, g3, g4⟩ := this; exact ⟨g1, g2, g3, g4⟩
                    | ok r =>
                      obtain ⟨l, b2, s2⟩ := r
                      rw [q] at this
                      simp only [MeetsL, MeetsP, T_f0, T_f1, T_f2, T_f3, List.nil_append] at this ⊢
                      exact this
          · rw [e2]; exact bad 20 e2 (by decide)
          · rw [e2]; exact bad 21 e2 (by decide)
theorem decode_eq (s : ByteArray) (hs : s.size ≤ 281474976710656) : F54_term_Decode s = some (decode (bytesOf s)) := by
  have h := reader_eq 12 (by omega) (bytesOf s) 0 (AllB.of_bytes s) (by rw [bytesOf_length]; exact hs) (by omega)
  rw [str_bytesOf] at h
  rw [F54_term_Decode_eq]
  unfold decode
  cases q : rdF 12 (bytesOf s) 0 with
  | error e =>
    rw [q] at h
    obtain ⟨he, s', n', hev⟩ := h
    rw [show F73_term_reader_term 0 s 0 = _ from hev, Option.bind_some, if_pos he]
  | ok r =>
    obtain ⟨x, b', n⟩ := r
    rw [q] at h
    have w := rdF_was 12 _ _ _ _ _ (AllB.of_bytes s) q
    have hB : AllB b' := fun y hy => AllB.of_bytes s y (by rw [w.enc]; simp [hy])
    have h' : F73_term_reader_term ((12 - 12 : Nat) : Int) s ((0 : Nat) : Int) = some (S25.f0 x, S25.f1 x, S25.f2 x, S25.f3 x, 0, strB b', (n : Int), ()) := h
    rw [show F73_term_reader_term 0 s 0 = _ from h', Option.bind_some, if_neg (by simp)]
    by_cases c1 : b' = []
    · rw [if_neg (fun hh => hh ((str_empty_iff hB).2 c1))]; simp only [if_pos c1]
    · rw [if_pos (fun hh => c1 ((str_empty_iff hB).1 hh))]; simp only [if_neg c1]

theorem errNeL {f : List Int → Nat → Rd S25} {D : Nat} (hf : ∀ b seen e, AllB b → f b seen = .error e → e ≠ 0) (hw : ∀ b seen x b' n, AllB b → f b seen = .ok (x, b', n) → Was D b seen x b' n) (m : Nat) : ∀ b seen e, AllB b → rdL f m b seen = .error e → e ≠ 0 := by
  induction m with
  | zero => intro b seen e _ h; simp [rdL] at h
  | succ m ih =>
    intro b seen e hB h
    rw [rdL] at h
    cases e1 : f b seen with
    | error e' =>
      rw [e1] at h
      simp only [Except.error.injEq] at h
      subst h
      exact hf _ _ _ hB e1
    | ok r =>
      obtain ⟨x, b1, n1⟩ := r
      rw [e1] at h
      have w := hw _ _ _ _ _ hB e1
      have hB1 : AllB b1 := fun y hy => hB y (by rw [w.enc]; simp [hy])
      simp only at h
      cases e2 : rdL f m b1 n1 with
      | error e' =>
        rw [e2] at h
        simp only [Except.error.injEq] at h
        subst h
        exact ih _ _ _ hB1 e2
      | ok r => rw [e2] at h; simp at h
theorem errNe (D : Nat) : ∀ b seen e, AllB b → rdF D b seen = .error e → e ≠ 0 := by
  induction D with
  | zero =>
    intro b seen e _ h
    rw [rdF] at h
    split at h <;> (simp only [Except.error.injEq] at h; omega)
  | succ D ih =>
    intro b seen e hB h
    rw [rdF] at h
    split at h
    · simp only [Except.error.injEq] at h; omega
    · cases b with
      | nil => simp only [headT, Except.error.injEq] at h; omega
      | cons c t =>
        have hBt : AllB t := fun y hy => hB y (by simp [hy])
        rw [headT] at h
        split at h
        · simp only [Except.error.injEq] at h; omega
        · split at h
          · unfold bodyT at h
            split at h
            · simp at h
            · split at h
              · split at h
                · simp only [Except.error.injEq] at h; omega
                · split at h
                  · simp only [Except.error.injEq] at h; omega
                  · simp at h
              · cases q : rdL (rdF D) (if c = 4 then 1 else (getN 0 0 t).1.toNat) (t.drop (getN 0 0 t).2.1.toNat) (seen + 1) with
                | error e' =>
                  rw [q] at h
                  simp only [Except.error.injEq] at h
                  subst h
                  exact errNeL ih (rdF_was D) _ _ _ _ (hBt.drop _) q
                | ok r => rw [q] at h; simp at h
          · rename_i hne
            simp only [Except.error.injEq] at h
            subst h
            exact hne
/-- A decoded term: as it was, and all there is. -/
def okD (x : S25) : Int × Int × ByteArray × List S25 × Int × Unit := (S25.f0 x, S25.f1 x, S25.f2 x, S25.f3 x, 0, ())
def erD (e : Int) : Int × Int × ByteArray × List S25 × Int × Unit := (0, 0, ByteArray.empty, [], e, ())
theorem decode_is (s : ByteArray) : (∃ x, decode (bytesOf s) = okD x ∧ bytesOf s = encT x ∧ okT x ∧ rightT x = 0) ∨ ∃ e, e ≠ 0 ∧ decode (bytesOf s) = erD e := by
  unfold decode
  cases e : rdF 12 (bytesOf s) 0 with
  | error e' =>
    refine .inr ⟨e', ?_, rfl⟩
    intro he
    subst he
    exact absurd rfl (errNe 12 _ _ _ (AllB.of_bytes s) e)
  | ok r =>
    obtain ⟨x, b', n⟩ := r
    have w := rdF_was 12 _ _ _ _ _ (AllB.of_bytes s) e
    by_cases c : b' = []
    · refine .inl ⟨x, by simp only [if_pos c]; rfl, by rw [w.enc, c, List.append_nil], w.ok, ?_⟩
      have hc := w.cnt
      have hm := w.most
      have hdp := w.deep
      unfold rightT
      rw [if_neg (by omega), if_neg (by omega), if_pos w.shape]
    · exact .inr ⟨24, by decide, by simp only [if_neg c]; rfl⟩
theorem decode_enc {x : S25} (hx : okT x) (hr : rightT x = 0) : decode (bytesOf (strB (encT x))) = okD x := by
  obtain ⟨p1, p2, p3⟩ := right_is hr
  unfold decode
  have := rdF_reads hx 12 [] 0 p3 p2 (by omega)
  rw [List.append_nil] at this
  rw [bytesOf_str (encT_B hx), this]
  simp only [if_true]; rfl

/-! ### packed boxes -/
theorem bindE {t : S25} {α : Type} (F : T5 → Option α) : (okE t).bind F = F (S25.f0 t, S25.f1 t, S25.f2 t, S25.f3 t, 0, ()) := rfl
theorem bindR {e : Int} {α : Type} (F : T5 → Option α) : (erT e).bind F = F (0, 0, ByteArray.empty, [], e, ()) := rfl
def packV (k : Int) (t : S25) : Option (ByteArray × Int × Unit) := if rightT t = 0 then (if rightT (boxT k t) = 0 then some (strB (encT (boxT k t)), 0, ()) else some (ByteArray.empty, rightT (boxT k t), ())) else some (ByteArray.empty, rightT t, ())
def unpackV (k : Int) (s : ByteArray) : Option T5 := (some (decode (bytesOf s))).bind fun y => if ¬ y.2.2.2.2.1 = 0 then erT y.2.2.2.2.1 else openV k (S25.mk y.1 y.2.1 y.2.2.1 y.2.2.2.1)
theorem openV_some (k : Int) {t : S25} (h : okT t) : ∃ a b s l e, openV k t = some (a, b, s, l, e, ()) := by
  rcases openV_is (k := k) h with ⟨x, q, _⟩ | ⟨e, _, q⟩
  · exact ⟨_, _, _, _, _, q⟩
  · exact ⟨_, _, _, _, _, q⟩
theorem unpack_eq (k : Int) {s : ByteArray} (hs : s.size ≤ 281474976710656) : F36_box_Unpack k s = unpackV k s := by
  rw [F36_box_Unpack_eq, decode_eq s hs]
  unfold unpackV
  simp only [Option.bind_some]
  rcases decode_is s with ⟨x, q, _, ho, _⟩ | ⟨e, he, q⟩
  · rw [q]
    simp only [okD, not_true_eq_false, if_false, etaT]
    rw [open_eq ho]
    obtain ⟨a, b, s, l, e, q⟩ := openV_some k ho
    rw [q]; rfl
  · rw [q]
    simp [erD, he, erT]
/-- What is unpacked. -/
theorem unpackV_is (k : Int) (s : ByteArray) : (∃ x, unpackV k s = okE x ∧ bytesOf s = encT (boxT k x) ∧ okT x ∧ rightT x = 0) ∨ ∃ e, e ≠ 0 ∧ unpackV k s = erT e := by
  unfold unpackV
  simp only [Option.bind_some]
  rcases decode_is s with ⟨y, q, hb, ho, hr⟩ | ⟨e, he, q⟩
  · rw [q]
    simp only [okD, not_true_eq_false, if_false, etaT]
    rcases openV_is (k := k) ho with ⟨x, q2, _, e1, hx, hox⟩ | ⟨e, he, q2⟩
    · exact .inl ⟨x, q2, by rw [hb, e1], hox, hx⟩
    · exact .inr ⟨e, he, q2⟩
  · rw [q]
    exact .inr ⟨e, he, by simp [erD, he]⟩

/-! ### a node out of a term: what is so -/
abbrev at_ (x : S25) (i : Int) : S25 := rd S25.z (S25.f3 x) i
def isNumB (x : S25) : Bool := decide (S25.f0 x = 1) && decide (S25.f1 x ≤ 2147483647)
def verB (x : S25) : Bool := decide (S25.f0 x = 5) && (decide ((S25.f3 x).length = 3) && (isNumB (at_ x 0) && (decide (S25.f0 (at_ x 1) = 2) && decide (S25.f0 (at_ x 2) = 2))))
def toV (x : S25) : S49 := S49.mk (IntKind.i64.wrap (S25.f1 (at_ x 0))) (S25.f2 (at_ x 1)) (S25.f2 (at_ x 2))
def headB (x : S25) (k : Int) : Bool := decide (S25.f0 x = 5) && (decide (0 < (S25.f3 x).length) && decide (S25.f0 (at_ x 0) = k))
def entB (x : S25) : Bool := headB x 2 && ((S25.f3 x).drop 1).all verB
def toE (x : S25) : S47 := S47.mk (S25.f2 (at_ x 0)) (((S25.f3 x).drop 1).map toV)
def kidB (x : S25) : Bool := headB x 2 && (decide ((S25.f3 x).length = 5) && (decide (S25.f0 (at_ x 1) = 3) && (isNumB (at_ x 2) && (isNumB (at_ x 3) && isNumB (at_ x 4)))))
def toK (x : S25) : S53 := S53.mk (S25.f2 (at_ x 0)) (S25.f1 (at_ x 1)) (IntKind.i64.wrap (S25.f1 (at_ x 2))) (IntKind.i64.wrap (S25.f1 (at_ x 3))) (IntKind.i64.wrap (S25.f1 (at_ x 4)))
def leafB (x : S25) : Bool := decide (S25.f1 (at_ x 0) = 1)
def formB (x : S25) : Bool := headB x 1 && ((decide (S25.f1 (at_ x 0) = 1) || decide (S25.f1 (at_ x 0) = 2)) && ((S25.f3 x).drop 1).all (fun y => if leafB x = true then entB y else kidB y))
def ents (x : S25) : List S47 := if leafB x = true then ((S25.f3 x).drop 1).map toE else []
def kids (x : S25) : List S53 := if leafB x = true then [] else ((S25.f3 x).drop 1).map toK
theorem rd_drop1 (l : List S25) (i : Nat) : rd S25.z (l.drop 1) (i : Int) = rd S25.z l ((i + 1 : Nat) : Int) := by
  simp only [rd, Int.toNat_natCast, List.getD_eq_getElem?_getD, List.getElem?_drop, Nat.add_comm 1 i]

def quotaOk (a b c d e f g : Int) : Bool := decide (1 ≤ a ∧ a ≤ 64 ∧ 1 ≤ b ∧ b ≤ 16 ∧ 0 ≤ c ∧ c ≤ 32 ∧ 0 ≤ d ∧ d ≤ 16 ∧ 1 ≤ e ∧ e ≤ 4 ∧ 1 ≤ f ∧ f ≤ 8 ∧ 0 ≤ g ∧ g ≤ 32)
theorem q04 (a b c d e f g : Int) : F64_letheref04_Right a b c d e f g = some (quotaOk a b c d e f g, ()) := by
  rw [F64_letheref04_Right_eq]
  simp only [F64_letheref04_Right_l2_eq]
  repeat' (refine ite_to (fun _ => ?_) (fun _ => ?_))
  all_goals (apply ob_eq <;> intro hh <;> simp only [quotaOk, decide_eq_true_eq, Bool.false_eq_true] at hh ⊢ <;> omega)
theorem qin (x a b : Int) : F53_quota_in x a b = some (decide (a ≤ x ∧ x ≤ b), ()) := by
  rw [F53_quota_in_eq]
  refine ite_to (fun _ => ?_) (fun _ => ?_)
  all_goals (apply ob_eq <;> intro hh <;> simp only [decide_eq_true_eq, Bool.false_eq_true] at hh ⊢ <;> omega)
theorem q66 (a b c d e f g : Int) : F35_quota_Right a b c d e f g = some ((if quotaOk a b c d e f g = true then 0 else 40), ()) := by
  rw [F35_quota_Right_eq]
  simp only [F35_quota_Right_l3_eq, qin, Option.bind_some, decide_eq_true_eq]
  repeat' (refine ite_to (fun _ => ?_) (fun _ => ?_))
  · rw [if_pos (by simp only [quotaOk, decide_eq_true_eq]; omega)]
  all_goals rw [if_neg (by simp only [quotaOk, decide_eq_true_eq]; omega)]

/-! ### entries: what may be -/
def tooBig (c d : Int) (s t : ByteArray) : Int := if c < (s.size : Int) then 5 else if d < (t.size : Int) then 5 else 0
theorem tooBig_05 (c d : Int) (s t : ByteArray) : tooBig c d s t = 0 ∨ tooBig c d s t = 5 := by
  unfold tooBig; by_cases h1 : c < (s.size : Int) <;> by_cases h2 : d < (t.size : Int) <;> simp [h1, h2]
def versV (c d : Int) : Int → List S49 → Int
  | _, [] => 0
  | v, y :: ys => if S49.f0 y ≤ v then 50 else if 1073741824 < S49.f0 y then 50 else if tooBig c d (S49.f1 y) (S49.f2 y) = 0 then versV c d (S49.f0 y) ys else tooBig c d (S49.f1 y) (S49.f2 y)
theorem versV_cons (c d v : Int) (y : S49) (ys : List S49) : versV c d v (y :: ys) = if S49.f0 y ≤ v then 50 else if 1073741824 < S49.f0 y then 50 else if tooBig c d (S49.f1 y) (S49.f2 y) = 0 then versV c d (S49.f0 y) ys else tooBig c d (S49.f1 y) (S49.f2 y) := rfl
def namedV (a b c d e f g : Int) (s : ByteArray) (xs : List S49) : Int :=
  if quotaOk a b c d e f g = true then if s = ByteArray.empty then 4 else if b < (s.size : Int) then 5 else if e < (xs.length : Int) then 50 else versV c d 0 xs else 40
theorem texts_eq (a b c d e f g : Int) (s t : ByteArray) : F87_entry_texts a b c d e f g s t = some (tooBig c d s t, ()) := by
  rw [F87_entry_texts_eq]
  unfold tooBig
  repeat' (refine ite_to (fun h => ?_) (fun h => ?_))
  · rw [if_pos h]
  · rw [if_neg (by assumption), if_pos (by assumption)]
  · rw [if_neg (by assumption), if_neg (by assumption)]
theorem named_l (a b c d e f g : Int) (xs : List S49) (hx : xs.length ≤ 9223372036854775807) : ∀ (n i : Nat) (v : Int), xs.length - i = n → i ≤ xs.length →
    F83_entry_named_l1000011 v xs (xs.length : Int) (i : Int) a b c d e f g = some (versV c d v (xs.drop i), ()) := by
  intro n
  induction n with
  | zero =>
    intro i v hn hi
    rw [F83_entry_named_l1000011_eq, if_neg (by omega), List.drop_of_length_le (by omega)]; rfl
  | succ n ih =>
    intro i v hn hi
    rw [F83_entry_named_l1000011_eq, if_pos (ilt (by omega)), if_pos (inb (by omega)), texts_eq, Option.bind_some, drop_rd (z := S49.z) (by omega : i < xs.length), w64s (n := xs.length) (by omega) hx, ih (i + 1) _ (by omega) (by omega)]
    generalize rd S49.z xs (i : Int) = y
    rw [versV_cons]
    refine ite_to (fun h1 => by rw [if_pos h1]) (fun h1 => ?_)
    rw [if_neg h1]
    refine ite_to (fun h2 => by rw [if_pos h2]) (fun h2 => ?_)
    rw [if_neg h2]
    refine ite_to (fun h3 => by rw [if_neg h3]) (fun h3 => ?_)
    rw [if_pos (Decidable.not_not.1 h3)]
theorem ref_l (a b c d e f g : Int) (s : ByteArray) (xs : List S49) (hx : xs.length ≤ 9223372036854775807) : ∀ (n i : Nat) (v : Int), xs.length - i = n → i ≤ xs.length → (i = 0 → v = 0) → (0 < i → v = S49.f0 (rd S49.z xs ((i - 1 : Nat) : Int)) ∧ 1 ≤ v) →
    F86_letheref05_Named_l1000010 xs (xs.length : Int) (i : Int) a b c d e f g s xs = some (versV c d v (xs.drop i), ()) := by
  intro n
  induction n with
  | zero =>
    intro i v hn hi h0 h1
    rw [F86_letheref05_Named_l1000010_eq, if_neg (by omega), List.drop_of_length_le (by omega)]; rfl
  | succ n ih =>
    intro i v hn hi h0 h1
    rw [F86_letheref05_Named_l1000010_eq, if_pos (ilt (by omega)), if_pos (inb (by omega)), F86_letheref05_Named_l15_eq, drop_rd (z := S49.z) (by omega : i < xs.length), w64s (n := xs.length) (by omega) hx]
    generalize hy : rd S49.z xs (i : Int) = y
    rw [versV_cons]
    by_cases c1 : S49.f0 y < 1
    · rw [if_pos c1, if_pos]
      rcases Nat.eq_zero_or_pos i with q | q
      · rw [h0 q]; omega
      · have := (h1 q).2; omega
    · rw [if_neg c1]
      by_cases c2 : S49.f0 y ≤ v
      · rw [if_pos c2]
        refine ite_to (fun _ => rfl) (fun _ => ?_)
        rcases Nat.eq_zero_or_pos i with q | q
        · have := h0 q; omega
        · rw [if_pos (by omega), w64p q (by omega), if_pos (inb (by omega)), ← (h1 q).1, if_pos c2]
      · rw [if_neg c2]
        by_cases c3 : (1073741824 : Int) < S49.f0 y
        · rw [if_pos c3, if_pos c3]
        · rw [if_neg c3, if_neg c3, ih (i + 1) (S49.f0 y) (by omega) (by omega) (fun q => by omega) (fun _ => ⟨by rw [← hy]; rfl, by omega⟩)]
          have hr : (if c < ((S49.f1 y).size : Int) then some ((5 : Int), ()) else if d < ((S49.f2 y).size : Int) then some (5, ()) else some (versV c d (S49.f0 y) (xs.drop (i + 1)), ())) = some (if tooBig c d (S49.f1 y) (S49.f2 y) = 0 then versV c d (S49.f0 y) (xs.drop (i + 1)) else tooBig c d (S49.f1 y) (S49.f2 y), ()) := by
            unfold tooBig
            by_cases c4 : c < ((S49.f1 y).size : Int)
            · simp [c4]
            · by_cases c5 : d < ((S49.f2 y).size : Int)
              · simp [c4, c5]
              · simp [c4, c5]
          rcases Nat.eq_zero_or_pos i with q | q
          · rw [if_neg (by omega)]; exact hr
          · rw [if_pos (by omega), w64p q (by omega), if_pos (inb (by omega)), ← (h1 q).1, if_neg c2]; exact hr
theorem named_eq (a b c d e f g : Int) (s : ByteArray) (xs : List S49) (hx : xs.length ≤ 9223372036854775807) : F83_entry_named a b c d e f g s xs = some (namedV a b c d e f g s xs, ()) := by
  rw [F83_entry_named_eq, q66, Option.bind_some]
  unfold namedV
  cases quotaOk a b c d e f g with
  | false => simp
  | true =>
    simp only [if_true, not_true_eq_false, if_false]
    repeat' (refine ite_to (fun h => ?_) (fun h => ?_))
    · rw [if_pos h]
    · rw [if_neg (by assumption), if_pos h]
    · rw [if_neg (by assumption), if_neg (by assumption), if_pos h]
    · rw [if_neg (by assumption), if_neg (by assumption), if_neg h]
      exact named_l a b c d e f g xs hx xs.length 0 0 (by omega) (by omega)
theorem rnamed_eq (a b c d e f g : Int) (s : ByteArray) (xs : List S49) (hx : xs.length ≤ 9223372036854775807) : F86_letheref05_Named a b c d e f g s xs = some (namedV a b c d e f g s xs, ()) := by
  rw [F86_letheref05_Named_eq, q04, Option.bind_some]
  unfold namedV
  cases quotaOk a b c d e f g with
  | false => simp
  | true =>
    simp only [if_true, Bool.not_true, Bool.false_eq_true, if_false]
    repeat' (refine ite_to (fun h => ?_) (fun h => ?_))
    · rw [if_pos h]
    · rw [if_neg (by assumption), if_pos h]
    · rw [if_neg (by assumption), if_neg (by assumption), if_pos h]
    · rw [if_neg (by assumption), if_neg (by assumption), if_neg h]
      exact ref_l a b c d e f g s xs hx xs.length 0 0 (by omega) (by omega) (fun _ => rfl) (fun q => by omega)

def refOk (b c d : Int) : Bool := decide (0 ≤ b ∧ b ≤ 1048576 ∧ 0 ≤ c ∧ c ≤ 134217728 ∧ 1 ≤ d ∧ d ≤ 1048576)
theorem ref_eq (a b c d : Int) : F50_node_RefRight a b c d = some (refOk b c d, ()) ∧ F80_letheref06_RefRight a b c d = some (refOk b c d, ()) := by
  rw [F50_node_RefRight_eq, F80_letheref06_RefRight_eq]
  constructor
  all_goals repeat' (refine ite_to (fun _ => ?_) (fun _ => ?_))
  all_goals (apply ob_eq <;> intro hh <;> simp only [refOk, decide_eq_true_eq, Bool.false_eq_true] at hh ⊢ <;> omega)

/-! ### nodes: what may be -/
def rightV (a b c d e f g : Int) (s : ByteArray) (xs : List S49) : Int := if namedV a b c d e f g s xs = 0 then (if (xs.length : Int) = 0 then 50 else 0) else namedV a b c d e f g s xs
theorem eright_eq (a b c d e f g : Int) (s : ByteArray) (xs : List S49) (hx : xs.length ≤ 9223372036854775807) : F72_entry_Right a b c d e f g s xs = some (rightV a b c d e f g s xs, ()) := by
  rw [F72_entry_Right_eq, named_eq _ _ _ _ _ _ _ _ _ hx, Option.bind_some]
  unfold rightV
  refine ite_to (fun h => ?_) (fun h => ?_)
  · rw [if_pos h]
    refine ite_to (fun h2 => ?_) (fun h2 => ?_)
    · rw [if_pos h2]
    · rw [if_neg h2]; exact congrArg some (congrArg (·, ()) h)
  · rw [if_neg h]
theorem reright_eq (a b c d e f g : Int) (s : ByteArray) (xs : List S49) (hx : xs.length ≤ 9223372036854775807) : F79_letheref05_Right a b c d e f g s xs = some (rightV a b c d e f g s xs, ()) := by
  rw [F79_letheref05_Right_eq, rnamed_eq _ _ _ _ _ _ _ _ _ hx, Option.bind_some]
  unfold rightV
  refine ite_to (fun h => ?_) (fun h => ?_)
  · rw [if_pos h]
    refine ite_to (fun h2 => ?_) (fun h2 => ?_)
    · rw [if_pos h2]
    · rw [if_neg h2]; exact congrArg some (congrArg (·, ()) h)
  · rw [if_neg h]
def behind (p : Option ByteArray) (s : ByteArray) : Bool := match p with | none => true | some t => sLt t s
def leafV (a b c d e f g : Int) : Option ByteArray → List S47 → Int
  | _, [] => 0
  | p, y :: ys => if rightV a b c d e f g (S47.f0 y) (S47.f1 y) = 0 then (if behind p (S47.f0 y) = true then leafV a b c d e f g (some (S47.f0 y)) ys else 60) else rightV a b c d e f g (S47.f0 y) (S47.f1 y)
theorem leafV_cons (a b c d e f g : Int) (p : Option ByteArray) (y : S47) (ys : List S47) : leafV a b c d e f g p (y :: ys) = if rightV a b c d e f g (S47.f0 y) (S47.f1 y) = 0 then (if behind p (S47.f0 y) = true then leafV a b c d e f g (some (S47.f0 y)) ys else 60) else rightV a b c d e f g (S47.f0 y) (S47.f1 y) := rfl
def kidsV (b : Int) : Option ByteArray → List S53 → Int
  | _, [] => 0
  | p, y :: ys => if S53.f0 y = ByteArray.empty then 4 else if b < ((S53.f0 y).size : Int) then 5 else if refOk (S53.f2 y) (S53.f3 y) (S53.f4 y) = true then (if behind p (S53.f0 y) = true then kidsV b (some (S53.f0 y)) ys else 60) else 61
theorem kidsV_cons (b : Int) (p : Option ByteArray) (y : S53) (ys : List S53) : kidsV b p (y :: ys) = if S53.f0 y = ByteArray.empty then 4 else if b < ((S53.f0 y).size : Int) then 5 else if refOk (S53.f2 y) (S53.f3 y) (S53.f4 y) = true then (if behind p (S53.f0 y) = true then kidsV b (some (S53.f0 y)) ys else 60) else 61 := rfl
def nodeV (a b c d e f g : Int) (q : Bool) (xs : List S47) (ks : List S53) : Int :=
  if quotaOk a b c d e f g = true then
    (if q = true then (if (0 : Int) < (ks.length : Int) then 60 else if (4 : Int) < (xs.length : Int) then 60 else leafV a b c d e f g none xs)
     else (if (0 : Int) < (xs.length : Int) then 60 else if (ks.length : Int) < 2 then 60 else if (4 : Int) < (ks.length : Int) then 60 else kidsV b none ks))
  else 40
theorem prev_of {α : Type} {z : α} {n : α → ByteArray} {xs : List α} {i : Nat} {p : Option ByteArray} (h0 : i = 0 → p = none) (h1 : 0 < i → p = some (n (rd z xs ((i - 1 : Nat) : Int)))) (s : ByteArray) :
    behind p s = if (0 : Int) < (i : Int) then sLt (n (rd z xs ((i - 1 : Nat) : Int))) s else true := by
  rcases Nat.eq_zero_or_pos i with q | q
  · rw [h0 q, if_neg (by omega)]; rfl
  · rw [h1 q, if_pos (by omega)]; rfl
def EntryBound (y : S47) : Prop := List.length (α := S49) (S47.f1 y) ≤ 9223372036854775807
theorem leaf_l (a b c d e f g : Int) (q : Bool) (ks : List S53) (xs : List S47) (hx : xs.length ≤ 9223372036854775807) (hy : ∀ y ∈ xs, EntryBound y) : ∀ (n i : Nat) (p : Option ByteArray), xs.length - i = n → i ≤ xs.length → (i = 0 → p = none) → (0 < i → p = some (S47.f0 (rd S47.z xs ((i - 1 : Nat) : Int)))) →
    F49_node_leafRight_l1000004 xs (xs.length : Int) (i : Int) a b c d e f g q xs ks = some (leafV a b c d e f g p (xs.drop i), ()) ∧ F65_letheref06_leaf_l1000004 xs (xs.length : Int) (i : Int) a b c d e f g q xs ks = some (leafV a b c d e f g p (xs.drop i), ()) := by
  intro n
  induction n with
  | zero =>
    intro i p hn hi h0 h1
    rw [List.drop_of_length_le (by omega)]
    exact ⟨by rw [F49_node_leafRight_l1000004_eq, if_neg (by omega)]; rfl, by rw [F65_letheref06_leaf_l1000004_eq, if_neg (by omega)]; rfl⟩
  | succ n ih =>
    intro i p hn hi h0 h1
    have hb : EntryBound (rd S47.z xs (i : Int)) := by rw [rd_lt (by omega)]; exact hy _ (List.getElem_mem _)
    obtain ⟨p1, p2⟩ := ih (i + 1) (some (S47.f0 (rd S47.z xs (i : Int)))) (by omega) (by omega) (fun h => by omega) (fun _ => rfl)
    have hp := prev_of (n := S47.f0) h0 h1 (S47.f0 (rd S47.z xs (i : Int)))
    rw [F49_node_leafRight_l1000004_eq, F65_letheref06_leaf_l1000004_eq, if_pos (ilt (by omega)), if_pos (inb (by omega)), if_pos (ilt (by omega)), if_pos (inb (by omega)), eright_eq _ _ _ _ _ _ _ _ _ hb, reright_eq _ _ _ _ _ _ _ _ _ hb]
    simp only [Option.bind_some]
    rw [w64s (n := xs.length) (by omega) hx, p1, p2, drop_rd (z := S47.z) (by omega : i < xs.length), leafV_cons, hp]
    generalize rightV a b c d e f g (S47.f0 (rd S47.z xs (i : Int))) (S47.f1 (rd S47.z xs (i : Int))) = r
    by_cases c1 : r = 0
    · rcases Nat.eq_zero_or_pos i with hz | hz
      · subst hz; simp [c1]
      · have hi0 : (0 : Int) < (i : Int) := by omega
        have hpp : (0 : Int) ≤ ((i - 1 : Nat) : Int) ∧ ((i - 1 : Nat) : Int) < (xs.length : Int) := by omega
        rw [w64p hz (by omega)]
        simp only [if_pos hpp, if_pos hi0]
        cases sLt (S47.f0 (rd S47.z xs ((i - 1 : Nat) : Int))) (S47.f0 (rd S47.z xs (i : Int))) <;> simp [c1]
    · simp [c1]
theorem inner_l (a b c d e f g : Int) (q : Bool) (es : List S47) (xs : List S53) (hx : xs.length ≤ 9223372036854775807) : ∀ (n i : Nat) (p : Option ByteArray), xs.length - i = n → i ≤ xs.length → (i = 0 → p = none) → (0 < i → p = some (S53.f0 (rd S53.z xs ((i - 1 : Nat) : Int)))) →
    F24_node_Right_l1000008 xs (xs.length : Int) (i : Int) a b c d e f g q es xs = some (kidsV b p (xs.drop i), ()) ∧ F66_letheref06_inner_l1000004 xs (xs.length : Int) (i : Int) a b c d e f g q es xs = some (kidsV b p (xs.drop i), ()) := by
  intro n
  induction n with
  | zero =>
    intro i p hn hi h0 h1
    rw [List.drop_of_length_le (by omega)]
    exact ⟨by rw [F24_node_Right_l1000008_eq, if_neg (by omega)]; rfl, by rw [F66_letheref06_inner_l1000004_eq, if_neg (by omega)]; rfl⟩
  | succ n ih =>
    intro i p hn hi h0 h1
    obtain ⟨p1, p2⟩ := ih (i + 1) (some (S53.f0 (rd S53.z xs (i : Int)))) (by omega) (by omega) (fun h => by omega) (fun _ => rfl)
    have hp := prev_of (n := S53.f0) h0 h1 (S53.f0 (rd S53.z xs (i : Int)))
    obtain ⟨q1, q2⟩ := ref_eq (S53.f1 (rd S53.z xs (i : Int))) (S53.f2 (rd S53.z xs (i : Int))) (S53.f3 (rd S53.z xs (i : Int))) (S53.f4 (rd S53.z xs (i : Int)))
    rw [F24_node_Right_l1000008_eq, F66_letheref06_inner_l1000004_eq, if_pos (ilt (by omega)), if_pos (inb (by omega)), if_pos (ilt (by omega)), if_pos (inb (by omega)), q1, q2]
    simp only [Option.bind_some]
    rw [w64s (n := xs.length) (by omega) hx, p1, p2, drop_rd (z := S53.z) (by omega : i < xs.length), kidsV_cons, hp]
    by_cases c1 : S53.f0 (rd S53.z xs (i : Int)) = ByteArray.empty
    · simp [c1]
    · by_cases c2 : b < ((S53.f0 (rd S53.z xs (i : Int))).size : Int)
      · simp [c1, c2]
      · simp only [if_neg c1, if_neg c2]
        cases refOk (S53.f2 (rd S53.z xs (i : Int))) (S53.f3 (rd S53.z xs (i : Int))) (S53.f4 (rd S53.z xs (i : Int))) with
        | false => simp
        | true =>
          simp only [Bool.not_true, Bool.false_eq_true, if_false, if_true]
          rcases Nat.eq_zero_or_pos i with hz | hz
          · subst hz; simp
          · have hi0 : (0 : Int) < (i : Int) := by omega
            have hpp : (0 : Int) ≤ ((i - 1 : Nat) : Int) ∧ ((i - 1 : Nat) : Int) < (xs.length : Int) := by omega
            rw [w64p hz (by omega)]
            simp only [if_pos hpp, if_pos hi0]
            cases sLt (S53.f0 (rd S53.z xs ((i - 1 : Nat) : Int))) (S53.f0 (rd S53.z xs (i : Int))) <;> simp
theorem node_eq (a b c d e f g : Int) (q : Bool) (xs : List S47) (ks : List S53) (hx : xs.length ≤ 9223372036854775807) (hy : ∀ y ∈ xs, EntryBound y) (hk : ks.length ≤ 9223372036854775807) :
    F24_node_Right a b c d e f g q xs ks = some (nodeV a b c d e f g q xs ks, ()) ∧ F46_letheref06_Right a b c d e f g q xs ks = some (nodeV a b c d e f g q xs ks, ()) := by
  rw [F24_node_Right_eq, F46_letheref06_Right_eq, q66, q04]
  simp only [Option.bind_some]
  unfold nodeV
  cases quotaOk a b c d e f g with
  | false => exact ⟨by simp, by simp⟩
  | true =>
    simp only [if_true, not_true_eq_false, if_false, Bool.not_true, Bool.false_eq_true]
    cases q with
    | true =>
      simp only [if_true]
      obtain ⟨q1, q2⟩ := leaf_l a b c d e f g true ks xs hx hy xs.length 0 none (by omega) (by omega) (fun _ => rfl) (fun h => by omega)
      rw [F49_node_leafRight_eq, F65_letheref06_leaf_eq]
      rw [show F49_node_leafRight_l1000004 xs (List.length (α := S47) xs : Int) 0 a b c d e f g true xs ks = _ from q1, show F65_letheref06_leaf_l1000004 xs (List.length (α := S47) xs : Int) 0 a b c d e f g true xs ks = _ from q2]
      by_cases c1 : (0 : Int) < (ks.length : Int)
      · simp only [if_pos c1, Option.bind_some]; exact ⟨trivial, trivial⟩
      · by_cases c2 : (4 : Int) < (List.length (α := S47) xs : Int)
        · simp only [if_neg c1, if_pos c2, Option.bind_some]; exact ⟨trivial, trivial⟩
        · simp only [if_neg c1, if_neg c2, Option.bind_some]; exact ⟨rfl, rfl⟩
    | false =>
      simp only [Bool.false_eq_true, if_false]
      obtain ⟨q1, q2⟩ := inner_l a b c d e f g false xs ks hk ks.length 0 none (by omega) (by omega) (fun _ => rfl) (fun h => by omega)
      rw [F66_letheref06_inner_eq]
      rw [show F24_node_Right_l1000008 ks (ks.length : Int) 0 a b c d e f g false xs ks = _ from q1, show F66_letheref06_inner_l1000004 ks (ks.length : Int) 0 a b c d e f g false xs ks = _ from q2]
      by_cases c1 : (0 : Int) < (List.length (α := S47) xs : Int)
      · simp only [if_pos c1, Option.bind_some]; exact ⟨trivial, trivial⟩
      · by_cases c2 : (ks.length : Int) < (2 : Int)
        · simp only [if_neg c1, if_pos c2, Option.bind_some]; exact ⟨trivial, trivial⟩
        · by_cases c3 : (4 : Int) < (ks.length : Int)
          · simp only [if_neg c1, if_neg c2, if_pos c3, Option.bind_some]; exact ⟨trivial, trivial⟩
          · simp only [if_neg c1, if_neg c2, if_neg c3, Option.bind_some]; exact ⟨rfl, rfl⟩

/-! ### a node out of a term: what the code does -/
theorem want_eq (o b : Bool) : F56_node_reader_want o b = some (!b && o, b || !o, ()) := by
  rw [F56_node_reader_want_eq]; cases b <;> cases o <;> rfl
theorem ifb {α : Type} {p : Prop} [Decidable p] {a b : α} : (if p then a else b) = if decide p = true then a else b := by by_cases h : p <;> simp [h]
theorem subL1 {l : List S25} (h : 0 < l.length) : subL l 1 (l.length : Int) = l.drop 1 := subL_drop l (k := 1) rfl
theorem rest_bad (x : S25) (k : Int) : F55_node_reader_rest (S25.f0 x) (S25.f1 x) (S25.f2 x) (S25.f3 x) k true = some (0, 0, ByteArray.empty, [], [], true, ()) := by
  rw [F55_node_reader_rest_eq]
  simp only [want_eq, Bool.not_true, Bool.false_and, Bool.true_or, Option.bind_some, Bool.false_eq_true, if_false]
  refine ite_to (fun _ => ?_) (fun _ => rfl)
  refine ite_to (fun h => ?_) (fun _ => rfl)
  rw [if_pos (by omega)]
theorem rest_eq (x : S25) (k : Int) : F55_node_reader_rest (S25.f0 x) (S25.f1 x) (S25.f2 x) (S25.f3 x) k false =
    if headB x k = true then some (S25.f0 (at_ x 0), S25.f1 (at_ x 0), S25.f2 (at_ x 0), S25.f3 (at_ x 0), (S25.f3 x).drop 1, false, ()) else some (0, 0, ByteArray.empty, [], [], true, ()) := by
  rw [F55_node_reader_rest_eq]
  simp only [want_eq, Bool.not_false, Bool.true_and, Bool.false_or, Option.bind_some]
  unfold headB
  by_cases c1 : S25.f0 x = 5
  · rw [if_pos c1]
    by_cases c2 : 0 < (S25.f3 x).length
    · have hin : (0 : Int) ≤ 0 ∧ 0 < ((S25.f3 x).length : Int) := by omega
      have hin1 : (0 : Int) ≤ 1 ∧ 1 ≤ ((S25.f3 x).length : Int) ∧ ((S25.f3 x).length : Int) ≤ ((S25.f3 x).length : Int) := by omega
      simp only [if_pos hin, if_pos hin.2, if_pos hin1, subL1 c2]
      by_cases c3 : S25.f0 (at_ x 0) = k <;> simp [c1, c2, c3]
    · have : ¬ (0 : Int) < ((S25.f3 x).length : Int) := by omega
      simp [c1, c2, this]
  · rw [if_neg c1]; simp [c1]
theorem number_eq (x : S25) (b : Bool) : F74_node_reader_number (S25.f0 x) (S25.f1 x) (S25.f2 x) (S25.f3 x) b = some ((if (!b && isNumB x) = true then IntKind.i64.wrap (S25.f1 x) else 0), b || !isNumB x, ()) := by
  rw [F74_node_reader_number_eq]
  simp only [want_eq, Option.bind_some]
  unfold isNumB
  by_cases c1 : S25.f0 x = 1 <;> by_cases c2 : S25.f1 x ≤ 2147483647 <;> cases b <;> simp [c1, c2]
theorem atom_eq (x : S25) (b : Bool) : F75_node_reader_atom (S25.f0 x) (S25.f1 x) (S25.f2 x) (S25.f3 x) b = some (S25.f2 x, b || !decide (S25.f0 x = 2), ()) := by
  rw [F75_node_reader_atom_eq]
  simp only [want_eq, Option.bind_some]
/-- One version more. -/
theorem entry_step (l : List S25) (hl : l.length ≤ bigL) (i : Nat) (hi : i < l.length) (b : Bool) (s t : ByteArray) (g g' : List S49) (hg : g'.length ≤ i) :
    ∃ g'', F57_node_reader_entry_l1000004 l (l.length : Int) (i : Int) b s t g g' = F57_node_reader_entry_l1000004 l (l.length : Int) ((i + 1 : Nat) : Int) (b || !verB l[i]) s t g g'' ∧ g''.length ≤ i + 1 ∧ ((b || !verB l[i]) = false → g'' = g' ++ [toV l[i]]) := by
  simp only [bigL] at hl
  have hn : ∀ y : S49, (g'.length + [y].length) * 40 ≤ 140737488355328 := fun y => by rw [List.length_singleton]; omega
  rw [F57_node_reader_entry_l1000004_eq, if_pos (ilt (by omega)), if_pos (inb (by omega)), rd_lt (by omega : i < l.length)]
  simp only [want_eq, Option.bind_some, F57_node_reader_entry_l8_eq, number_eq, atom_eq, w64s (n := l.length) (by omega) (by omega : l.length ≤ 9223372036854775807)]
  generalize l[i] = x
  by_cases c1 : S25.f0 x = 5
  · by_cases c2 : (S25.f3 x).length = 3
    · have i0 : (0 : Int) ≤ 0 ∧ 0 < ((S25.f3 x).length : Int) := by omega
      have i1 : (0 : Int) ≤ 1 ∧ 1 < ((S25.f3 x).length : Int) := by omega
      have i2 : (0 : Int) ≤ 2 ∧ 2 < ((S25.f3 x).length : Int) := by omega
      have i3 : ((S25.f3 x).length : Int) = 3 := by omega
      simp only [if_pos c1, if_pos i0, if_pos i1, if_pos i2, hn, if_true, i3, decide_true]
      cases b with
      | true =>
        refine ⟨g', ?_, by omega, by simp⟩
        simp
      | false =>
        refine ⟨g' ++ [S49.mk (if isNumB (at_ x 0) = true then IntKind.i64.wrap (S25.f1 (at_ x 0)) else 0) (S25.f2 (at_ x 1)) (S25.f2 (at_ x 2))], by simp [verB, c1, c2, Bool.or_assoc, at_], by rw [List.length_append, List.length_singleton]; omega, fun hh => ?_⟩
        simp [verB, c1, c2] at hh
        rw [if_pos hh.1]; rfl
    · have i3 : ¬ ((S25.f3 x).length : Int) = 3 := by omega
      refine ⟨g', ?_, by omega, by simp [verB, c2]⟩
      simp [c1, i3, verB, c2]
  · refine ⟨g', ?_, by omega, by simp [verB, c1]⟩
    simp [c1, verB]
theorem rkid_bad (x : S25) : F58_node_reader_kid (S25.f0 x) (S25.f1 x) (S25.f2 x) (S25.f3 x) true = some (ByteArray.empty, 0, 0, 0, 0, true, ()) := by
  rw [F58_node_reader_kid_eq, rest_bad, Option.bind_some]
  simp [want_eq]
theorem rkid_eq (x : S25) : ∃ a b c d e, F58_node_reader_kid (S25.f0 x) (S25.f1 x) (S25.f2 x) (S25.f3 x) false = some (a, b, c, d, e, !kidB x, ()) ∧ (kidB x = true → S53.mk a b c d e = toK x) := by
  rw [F58_node_reader_kid_eq, rest_eq, kidB]
  cases hh : headB x 2 with
  | false =>
    simp only [Bool.false_eq_true, if_false, Option.bind_some, want_eq]
    exact ⟨_, _, _, _, _, by simp; exact ⟨rfl, rfl, rfl, rfl, rfl⟩, by simp⟩
  | true =>
    simp only [if_true, Option.bind_some, want_eq, number_eq]
    by_cases c1 : (S25.f3 x).length = 5
    · have hl : (((S25.f3 x).drop 1).length : Int) = 4 := by rw [List.length_drop]; omega
      have e0 : rd S25.z ((S25.f3 x).drop 1) 0 = at_ x 1 := rd_drop1 _ 0
      have e1 : rd S25.z ((S25.f3 x).drop 1) 1 = at_ x 2 := rd_drop1 _ 1
      have e2 : rd S25.z ((S25.f3 x).drop 1) 2 = at_ x 3 := rd_drop1 _ 2
      have e3 : rd S25.z ((S25.f3 x).drop 1) 3 = at_ x 4 := rd_drop1 _ 3
      rw [hl, e0, e1, e2, e3]
      by_cases c2 : S25.f0 (at_ x 1) = 3
      · refine ⟨_, _, _, _, _, by simp [c1, c2, Bool.or_assoc]; exact ⟨rfl, rfl, rfl, rfl, rfl⟩, fun h => ?_⟩
        simp [c1, c2] at h
        simp [h.1, h.2.1, h.2.2, toK]
      · exact ⟨_, _, _, _, _, by simp [c1, c2]; exact ⟨rfl, rfl, rfl, rfl, rfl⟩, by simp [c2]⟩
    · have hl : ¬ (((S25.f3 x).drop 1).length : Int) = 4 := by rw [List.length_drop]; omega
      exact ⟨_, _, _, _, _, by simp only [if_neg hl]; simp [c1]; exact ⟨rfl, rfl, rfl, rfl, rfl⟩, by simp [c1]⟩
abbrev N4 := Bool × List S47 × List S53 × Int × Unit
def endV (a b c d e f g : Int) (q : Bool) (bad : Bool) (es : List S47) (ks : List S53) : Option N4 :=
  if bad = true then some (false, [], [], 60, ()) else if nodeV a b c d e f g q es ks = 0 then some (q, es, ks, 0, ()) else some (false, [], [], nodeV a b c d e f g q es ks, ())
def pickB (q : Bool) (y : S25) : Bool := if q = true then entB y else kidB y
theorem node_r (a b c d e f g : Int) (q : Bool) (es : List S47) (ks : List S53) (h1 : es.length ≤ bigL) (h2 : ks.length ≤ bigL) (h3 : ∀ y ∈ es, EntryBound y) :
    (F24_node_Right a b c d e f g q es ks = some (nodeV a b c d e f g q es ks, ())) ∧ (F46_letheref06_Right a b c d e f g q es ks = some (nodeV a b c d e f g q es ks, ())) := by
  simp only [bigL] at h1 h2
  exact node_eq a b c d e f g q es ks (by omega) h3 (by omega)
/-- What both answer. -/
def fromV (a b c d e f g : Int) (t : S25) : Option N4 :=
  if quotaOk a b c d e f g = true then (if rightT t = 0 then endV a b c d e f g (leafB t) (!formB t) (ents t) (kids t) else some (false, [], [], rightT t, ())) else some (false, [], [], 40, ())
theorem okT.sub {t : S25} (h : okT t) : (S25.f3 t).length ≤ bigL ∧ ∀ x ∈ S25.f3 t, (S25.f3 x).length ≤ bigL := ⟨h.len, fun x hx => (h.el x hx).len⟩
theorem endV_bad (a b c d e f g : Int) (q q' : Bool) (es es' : List S47) (ks ks' : List S53) : endV a b c d e f g q true es ks = endV a b c d e f g q' true es' ks' := by simp [endV]
/-! the document's -/
theorem ents_b {t : S25} (h : okT t) : (ents t).length ≤ 9223372036854775807 ∧ (kids t).length ≤ 9223372036854775807 ∧ ∀ y ∈ ents t, EntryBound y := by
  obtain ⟨hs1, hs2⟩ := h.sub
  simp only [bigL] at hs1 hs2
  unfold ents kids
  cases leafB t with
  | true =>
    simp only [if_true]
    refine ⟨by rw [List.length_map, List.length_drop]; omega, by simp, fun y hy => ?_⟩
    obtain ⟨x, hx, rfl⟩ := List.mem_map.1 hy
    have := hs2 x (List.mem_of_mem_drop hx)
    show (((S25.f3 x).drop 1).map toV).length ≤ _
    rw [List.length_map, List.length_drop]; omega
  | false =>
    simp only [Bool.false_eq_true, if_false]
    exact ⟨by simp, by rw [List.length_map, List.length_drop]; omega, by simp⟩
theorem fromV_is (a b c d e f g : Int) {t : S25} : (fromV a b c d e f g t = some (leafB t, ents t, kids t, 0, ()) ∧ quotaOk a b c d e f g = true ∧ rightT t = 0 ∧ formB t = true ∧ nodeV a b c d e f g (leafB t) (ents t) (kids t) = 0) ∨ ∃ r, r ≠ 0 ∧ fromV a b c d e f g t = some (false, [], [], r, ()) := by
  unfold fromV
  by_cases c1 : quotaOk a b c d e f g = true
  · rw [if_pos c1]
    by_cases c2 : rightT t = 0
    · rw [if_pos c2]
      unfold endV
      cases hf : formB t with
      | false => exact .inr ⟨60, by decide, by simp⟩
      | true =>
        by_cases c3 : nodeV a b c d e f g (leafB t) (ents t) (kids t) = 0
        · exact .inl ⟨by simp [c3], c1, c2, rfl, c3⟩
        · exact .inr ⟨_, c3, by simp [c3]⟩
    · rw [if_neg c2]; exact .inr ⟨_, c2, rfl⟩
  · rw [if_neg c1]; exact .inr ⟨_, by decide, rfl⟩

/-! ### a node's term -/
def versT (v : S49) : S25 := rowT [numT (S49.f0 v), atomT (S49.f1 v), atomT (S49.f2 v)]
def entryT (e : S47) : S25 := rowT (atomT (S47.f0 e) :: (S47.f1 e).map versT)
def kidT (k : S53) : S25 := rowT [atomT (S53.f0 k), keyT (S53.f1 k), numT (S53.f2 k), numT (S53.f3 k), numT (S53.f4 k)]
def nodeT (q : Bool) (xs : List S47) (ks : List S53) : S25 := if q = true then rowT (numT 1 :: xs.map entryT) else rowT (numT 2 :: ks.map kidT)
theorem Tn.vers (v : S49) : Tn (versT v) := Tn.row (by simp) (fun x hx => by
  simp only [List.mem_cons, List.not_mem_nil, or_false] at hx
  rcases hx with h | h | h <;> subst h
  · exact Tn.num _
  · exact Tn.atom _
  · exact Tn.atom _)
theorem Tn.kid (k : S53) : Tn (kidT k) := Tn.row (by simp) (fun x hx => by
  simp only [List.mem_cons, List.not_mem_nil, or_false] at hx
  rcases hx with h | h | h | h | h <;> subst h
  · exact Tn.atom _
  · exact Tn.key _
  all_goals exact Tn.num _)
theorem Tn.entry {e : S47} (h : List.length (α := S49) (S47.f1 e) ≤ 100) : Tn (entryT e) := Tn.row (by simp; omega) (fun x hx => by
  rw [List.mem_cons, List.mem_map] at hx
  rcases hx with h | ⟨v, _, h⟩ <;> subst h
  · exact Tn.atom _
  · exact Tn.vers _)
theorem Tn.node (q : Bool) (xs : List S47) (ks : List S53) (hx : xs.length ≤ 100) (hk : ks.length ≤ 100) (h : ∀ e ∈ xs, List.length (α := S49) (S47.f1 e) ≤ 100) : Tn (nodeT q xs ks) := by
  unfold nodeT
  split
  · refine Tn.row (by simp; omega) (fun x hx => ?_)
    rw [List.mem_cons, List.mem_map] at hx
    rcases hx with e | ⟨v, hv, e⟩ <;> subst e
    · exact Tn.num _
    · exact Tn.entry (h v hv)
  · refine Tn.row (by simp; omega) (fun x hx => ?_)
    rw [List.mem_cons, List.mem_map] at hx
    rcases hx with e | ⟨v, hv, e⟩ <;> subst e
    · exact Tn.num _
    · exact Tn.kid _
/-- What the code puts together. -/
theorem tnum (n : Int) : F26_node_number n = ofT (numT n) := by rw [F26_node_number_eq, F51_term_Num_eq]; rfl
theorem tvers (v : S49) : F30_node_Term_1_1 (S49.f0 v) (S49.f1 v) (S49.f2 v) = ofT (versT v) := by
  rw [F30_node_Term_1_1_eq, tnum, tatom, tatom]
  simp only [ofT, Option.bind_some, term_eta]
  rw [tof (by simp) (by
    intro x hx
    simp only [List.mem_cons, List.not_mem_nil, or_false] at hx
    rcases hx with h | h | h <;> subst h
    · exact Tn.num _
    · exact Tn.atom _
    · exact Tn.atom _)]
  rfl
theorem tkid (k : S53) : F33_node_Term_2 (S53.f0 k) (S53.f1 k) (S53.f2 k) (S53.f3 k) (S53.f4 k) = ofT (kidT k) := by
  rw [F33_node_Term_2_eq, tatom, tkey, tnum, tnum, tnum]
  simp only [ofT, Option.bind_some, term_eta]
  rw [tof (by simp) (by
    intro x hx
    simp only [List.mem_cons, List.not_mem_nil, or_false] at hx
    rcases hx with h | h | h | h | h <;> subst h
    · exact Tn.atom _
    · exact Tn.key _
    all_goals exact Tn.num _)]
  rfl
theorem rowV_l (xs : List S49) (hx : xs.length ≤ 100) (a b : Int) (s : ByteArray) (g' : List S25) : ∀ (n i : Nat) (g : List S25), xs.length - i = n → i ≤ xs.length → g.length ≤ 1 + i → (∀ x ∈ g, Tn x) →
    F28_node_row_30_l1000003 xs (xs.length : Int) (i : Int) a b s g g' = ofT (rowT (g ++ (xs.drop i).map versT)) := by
  intro n
  induction n with
  | zero =>
    intro i g hn hi hg ht
    rw [F28_node_row_30_l1000003_eq, if_neg (by omega), List.drop_of_length_le (by omega), List.map_nil, List.append_nil, tof (by omega) ht]; rfl
  | succ n ih =>
    intro i g hn hi hg ht
    rw [F28_node_row_30_l1000003_eq, if_pos (ilt (by omega)), if_pos (inb (by omega)), tvers, drop_rd (z := S49.z) (by omega : i < xs.length), w64s (n := xs.length) (by omega) (by omega)]
    simp only [ofT, Option.bind_some, term_eta]
    rw [if_pos (by simp only [List.length_singleton]; omega), ih (i + 1) _ (by omega) (by omega) (by rw [List.length_append, List.length_singleton]; omega) (snoc_tn ht (Tn.vers _)), List.map_cons, List.append_assoc]
    rfl
theorem tentry (e : S47) (h : List.length (α := S49) (S47.f1 e) ≤ 100) : F27_node_Term_1 (S47.f0 e) (S47.f1 e) = ofT (entryT e) := by
  rw [F27_node_Term_1_eq, tatom]
  simp only [ofT, Option.bind_some]
  rw [F28_node_row_30_eq, term_eta]
  have := rowV_l _ h 0 0 ByteArray.empty [] _ 0 [atomT (S47.f0 e)] rfl (by omega) (by simp) (by intro x hx; rw [List.mem_singleton] at hx; rw [hx]; exact Tn.atom _)
  rw [show F28_node_row_30_l1000003 (S47.f1 e) (List.length (α := S49) (S47.f1 e) : Int) 0 0 0 ByteArray.empty [atomT (S47.f0 e)] [] = _ from this]
  rfl
theorem rowE_l (xs : List S47) (hx : xs.length ≤ 100) (he : ∀ e ∈ xs, List.length (α := S49) (S47.f1 e) ≤ 100) (a b : Int) (s : ByteArray) (g' : List S25) : ∀ (n i : Nat) (g : List S25), xs.length - i = n → i ≤ xs.length → g.length ≤ 1 + i → (∀ x ∈ g, Tn x) →
    F25_node_row_27_l1000003 xs (xs.length : Int) (i : Int) a b s g g' = ofT (rowT (g ++ (xs.drop i).map entryT)) := by
  intro n
  induction n with
  | zero =>
    intro i g hn hi hg ht
    rw [F25_node_row_27_l1000003_eq, if_neg (by omega), List.drop_of_length_le (by omega), List.map_nil, List.append_nil, tof (by omega) ht]; rfl
  | succ n ih =>
    intro i g hn hi hg ht
    have hb : List.length (α := S49) (S47.f1 (rd S47.z xs (i : Int))) ≤ 100 := by rw [rd_lt (by omega)]; exact he _ (List.getElem_mem _)
    rw [F25_node_row_27_l1000003_eq, if_pos (ilt (by omega)), if_pos (inb (by omega)), tentry _ hb, drop_rd (z := S47.z) (by omega : i < xs.length), w64s (n := xs.length) (by omega) (by omega)]
    simp only [ofT, Option.bind_some, term_eta]
    rw [if_pos (by simp only [List.length_singleton]; omega), ih (i + 1) _ (by omega) (by omega) (by rw [List.length_append, List.length_singleton]; omega) (snoc_tn ht (Tn.entry hb)), List.map_cons, List.append_assoc]
    rfl
theorem rowK_l (xs : List S53) (hx : xs.length ≤ 100) (a b : Int) (s : ByteArray) (g' : List S25) : ∀ (n i : Nat) (g : List S25), xs.length - i = n → i ≤ xs.length → g.length ≤ 1 + i → (∀ x ∈ g, Tn x) →
    F32_node_row_33_l1000003 xs (xs.length : Int) (i : Int) a b s g g' = ofT (rowT (g ++ (xs.drop i).map kidT)) := by
  intro n
  induction n with
  | zero =>
    intro i g hn hi hg ht
    rw [F32_node_row_33_l1000003_eq, if_neg (by omega), List.drop_of_length_le (by omega), List.map_nil, List.append_nil, tof (by omega) ht]; rfl
  | succ n ih =>
    intro i g hn hi hg ht
    rw [F32_node_row_33_l1000003_eq, if_pos (ilt (by omega)), if_pos (inb (by omega)), tkid, drop_rd (z := S53.z) (by omega : i < xs.length), w64s (n := xs.length) (by omega) (by omega)]
    simp only [ofT, Option.bind_some, term_eta]
    rw [if_pos (by simp only [List.length_singleton]; omega), ih (i + 1) _ (by omega) (by omega) (by rw [List.length_append, List.length_singleton]; omega) (snoc_tn ht (Tn.kid _)), List.map_cons, List.append_assoc]
    rfl
/-- A node's term, of both. -/
def termV (a b c d e f g : Int) (q : Bool) (xs : List S47) (ks : List S53) : Option (Int × Int × ByteArray × List S25 × Int × Unit) :=
  if nodeV a b c d e f g q xs ks = 0 then some (S25.f0 (nodeT q xs ks), S25.f1 (nodeT q xs ks), S25.f2 (nodeT q xs ks), S25.f3 (nodeT q xs ks), 0, ()) else some (0, 0, ByteArray.empty, [], nodeV a b c d e f g q xs ks, ())
theorem named_n {a b c d e f g : Int} {s : ByteArray} {xs : List S49} (h : rightV a b c d e f g s xs = 0) : (xs.length : Int) ≤ 4 := by
  unfold rightV at h
  by_cases c1 : namedV a b c d e f g s xs = 0
  · unfold namedV at c1
    by_cases c2 : quotaOk a b c d e f g = true
    · have he : e ≤ 4 := by simp only [quotaOk, decide_eq_true_eq] at c2; omega
      rw [if_pos c2] at c1
      by_cases c3 : s = ByteArray.empty
      · rw [if_pos c3] at c1; omega
      · rw [if_neg c3] at c1
        by_cases c4 : b < (s.size : Int)
        · rw [if_pos c4] at c1; omega
        · rw [if_neg c4] at c1
          by_cases c5 : e < (xs.length : Int)
          · rw [if_pos c5] at c1; omega
          · omega
    · rw [if_neg c2] at c1; omega
  · rw [if_neg c1] at h; exact absurd h c1
theorem leaf_n {a b c d e f g : Int} : ∀ {xs : List S47} {p : Option ByteArray}, leafV a b c d e f g p xs = 0 → ∀ y ∈ xs, rightV a b c d e f g (S47.f0 y) (S47.f1 y) = 0
  | [], _, _, y, hy => by cases hy
  | x :: xs, p, h, y, hy => by
    rw [leafV_cons] at h
    by_cases c1 : rightV a b c d e f g (S47.f0 x) (S47.f1 x) = 0
    · rw [if_pos c1] at h
      by_cases c2 : behind p (S47.f0 x) = true
      · rw [if_pos c2] at h
        cases hy with
        | head => exact c1
        | tail _ hy => exact leaf_n h y hy
      · rw [if_neg c2] at h; omega
    · rw [if_neg c1] at h; exact absurd h c1
theorem node_n {a b c d e f g : Int} {q : Bool} {xs : List S47} {ks : List S53} (h : nodeV a b c d e f g q xs ks = 0) : xs.length ≤ 4 ∧ ks.length ≤ 4 ∧ ∀ y ∈ xs, List.length (α := S49) (S47.f1 y) ≤ 4 := by
  unfold nodeV at h
  by_cases c1 : quotaOk a b c d e f g = true
  · rw [if_pos c1] at h
    cases q with
    | true =>
      rw [if_pos rfl] at h
      by_cases c2 : (0 : Int) < (ks.length : Int)
      · rw [if_pos c2] at h; omega
      · rw [if_neg c2] at h
        by_cases c3 : (4 : Int) < (xs.length : Int)
        · rw [if_pos c3] at h; omega
        · rw [if_neg c3] at h
          exact ⟨by omega, by omega, fun y hy => by have := named_n (leaf_n h y hy); omega⟩
    | false =>
      rw [if_neg (by simp)] at h
      by_cases c2 : (0 : Int) < (xs.length : Int)
      · rw [if_pos c2] at h; omega
      · rw [if_neg c2] at h
        by_cases c3 : (ks.length : Int) < 2
        · rw [if_pos c3] at h; omega
        · rw [if_neg c3] at h
          by_cases c4 : (4 : Int) < (ks.length : Int)
          · rw [if_pos c4] at h; omega
          · exact ⟨by omega, by omega, fun y hy => by rw [List.eq_nil_of_length_eq_zero (l := xs) (by omega)] at hy; cases hy⟩
  · rw [if_neg c1] at h; omega
/-! ### what a law's nodes are known to be -/
def EntOk (y : S47) : Prop := (S47.f0 y).size ≤ 140737488351232 ∧ ∀ v ∈ S47.f1 y, (S49.f1 v).size ≤ 140737488351232 ∧ (S49.f2 v).size ≤ 140737488351232
def KidOk (y : S53) : Prop := (S53.f0 y).size ≤ 140737488351232 ∧ (Lit.int .u64 (S53.f1 y)).wf = true
theorem ents_ok {xs : List S47} (h : Ok tab Pr (.sl 47 (.st 47)) xs) : ∀ y ∈ xs, EntryBound y ∧ EntOk y := by
  intro y hy
  obtain ⟨i, hi, e⟩ := List.getElem_of_mem hy
  have h0 := (Ok.inv h).2.2 i xs[i] 0 ⟨.str, xs[i].f0⟩ (List.getElem?_eq_getElem hi) rfl
  have h1 := (Ok.inv h).2.2 i xs[i] 1 ⟨.sl 49 (.st 49), xs[i].f1⟩ (List.getElem?_eq_getElem hi) rfl
  rw [e] at h0 h1
  refine ⟨sl_len h1, Ok.inv h0, fun v hv => ?_⟩
  obtain ⟨j, hj, e2⟩ := List.getElem_of_mem hv
  have g1 := (Ok.inv h1).2.2 j y.f1[j] 1 ⟨.str, y.f1[j].f1⟩ (List.getElem?_eq_getElem hj) rfl
  have g2 := (Ok.inv h1).2.2 j y.f1[j] 2 ⟨.str, y.f1[j].f2⟩ (List.getElem?_eq_getElem hj) rfl
  rw [e2] at g1 g2
  exact ⟨Ok.inv g1, Ok.inv g2⟩
theorem kids_ok {xs : List S53} (h : Ok tab Pr (.sl 53 (.st 53)) xs) : ∀ y ∈ xs, KidOk y := by
  intro y hy
  obtain ⟨i, hi, e⟩ := List.getElem_of_mem hy
  have h0 := (Ok.inv h).2.2 i xs[i] 0 ⟨.str, xs[i].f0⟩ (List.getElem?_eq_getElem hi) rfl
  have h1 := (Ok.inv h).2.2 i xs[i] 1 ⟨.int .u64, xs[i].f1⟩ (List.getElem?_eq_getElem hi) rfl
  rw [e] at h0 h1
  exact ⟨Ok.inv h0, Ok.inv h1⟩
theorem okT.vers {v : S49} (h : (S49.f1 v).size ≤ 140737488351232 ∧ (S49.f2 v).size ≤ 140737488351232) : okT (versT v) := okT.row (by simp) (fun x hx => by
  simp only [List.mem_cons, List.not_mem_nil, or_false] at hx
  rcases hx with e | e | e <;> subst e
  · exact okT.num _
  · exact okT.atom h.1
  · exact okT.atom h.2)
theorem okT.kid {y : S53} (h : KidOk y) : okT (kidT y) := okT.row (by simp) (fun x hx => by
  simp only [List.mem_cons, List.not_mem_nil, or_false] at hx
  rcases hx with e | e | e | e | e <;> subst e
  · exact okT.atom h.1
  · exact okT.key h.2
  all_goals exact okT.num _)
theorem okT.entry {y : S47} (h : EntOk y) (hn : List.length (α := S49) (S47.f1 y) ≤ 100) : okT (entryT y) := okT.row (by simp; omega) (fun x hx => by
  rw [List.mem_cons, List.mem_map] at hx
  rcases hx with e | ⟨v, hv, e⟩ <;> subst e
  · exact okT.atom h.1
  · exact okT.vers (h.2 v hv))
theorem okT.node {q : Bool} {xs : List S47} {ks : List S53} (hx : ∀ y ∈ xs, EntOk y) (hk : ∀ y ∈ ks, KidOk y) (n1 : xs.length ≤ 4) (n2 : ks.length ≤ 4) (n3 : ∀ y ∈ xs, List.length (α := S49) (S47.f1 y) ≤ 4) : okT (nodeT q xs ks) := by
  unfold nodeT
  split
  · refine okT.row (by simp; omega) (fun x hm => ?_)
    rw [List.mem_cons, List.mem_map] at hm
    rcases hm with e | ⟨y, hy, e⟩ <;> subst e
    · exact okT.num _
    · exact okT.entry (hx y hy) (by have := n3 y hy; omega)
  · refine okT.row (by simp; omega) (fun x hm => ?_)
    rw [List.mem_cons, List.mem_map] at hm
    rcases hm with e | ⟨y, hy, e⟩ <;> subst e
    · exact okT.num _
    · exact okT.kid (hk y hy)

/-! ### nodes sealed and opened: the code -/
def sealN (a b c d e f g k : Int) (q : Bool) (xs : List S47) (ks : List S53) : Option (ByteArray × Int × Unit) := if nodeV a b c d e f g q xs ks = 0 then packV k (nodeT q xs ks) else some (ByteArray.empty, nodeV a b c d e f g q xs ks, ())
def openN (a b c d e f g k : Int) (s : ByteArray) : Option N4 := if quotaOk a b c d e f g = true then (unpackV k s).bind fun y => if ¬ y.2.2.2.2.1 = 0 then some (false, [], [], y.2.2.2.2.1, ()) else fromV a b c d e f g (S25.mk y.1 y.2.1 y.2.2.1 y.2.2.2.1) else some (false, [], [], 40, ())
theorem packV_some (k : Int) (t : S25) : ∃ r e, packV k t = some (r, e, ()) := by
  unfold packV
  by_cases c1 : rightT t = 0
  · rw [if_pos c1]
    by_cases c2 : rightT (boxT k t) = 0
    · rw [if_pos c2]; exact ⟨_, _, rfl⟩
    · rw [if_neg c2]; exact ⟨_, _, rfl⟩
  · rw [if_neg c1]; exact ⟨_, _, rfl⟩
theorem fromV_some (a b c d e f g : Int) (t : S25) : ∃ q es ks r, fromV a b c d e f g t = some (q, es, ks, r, ()) := by
  rcases fromV_is a b c d e f g (t := t) with ⟨q, _⟩ | ⟨r, _, q⟩
  · exact ⟨_, _, _, _, q⟩
  · exact ⟨_, _, _, _, q⟩
/-- What is opened. -/
theorem openN_is (a b c d e f g k : Int) (s : ByteArray) : (∃ x, openN a b c d e f g k s = some (leafB x, ents x, kids x, 0, ()) ∧ bytesOf s = encT (boxT k x) ∧ okT x ∧ rightT x = 0 ∧ formB x = true ∧ nodeV a b c d e f g (leafB x) (ents x) (kids x) = 0) ∨ ∃ r, r ≠ 0 ∧ openN a b c d e f g k s = some (false, [], [], r, ()) := by
  unfold openN
  by_cases c1 : quotaOk a b c d e f g = true
  · rw [if_pos c1]
    rcases unpackV_is k s with ⟨x, q, hb, ho, hr⟩ | ⟨e, he, q⟩
    · rw [q, bindE, if_neg (by simp), etaT]
      rcases fromV_is a b c d e f g (t := x) with ⟨q, _, _, hf, hn⟩ | ⟨r, h, q⟩
      · exact .inl ⟨x, q, hb, ho, hr, hf, hn⟩
      · exact .inr ⟨r, h, q⟩
    · rw [q, bindR, if_pos he]; exact .inr ⟨e, he, rfl⟩
  · rw [if_neg c1]; exact .inr ⟨40, by decide, rfl⟩

theorem vers_each (c d : Int) : ∀ (xs : List S49) (v : Int), versV c d v xs = 0 → 0 ≤ v → ∀ y ∈ xs, 0 < S49.f0 y ∧ S49.f0 y ≤ 1073741824 ∧ ((S49.f1 y).size : Int) ≤ c ∧ ((S49.f2 y).size : Int) ≤ d
  | [], _, _, _, y, hy => by cases hy
  | x :: xs, v, h, hv, y, hy => by
    rw [versV_cons] at h
    by_cases c1 : S49.f0 x ≤ v
    · rw [if_pos c1] at h; omega
    · rw [if_neg c1] at h
      by_cases c2 : 1073741824 < S49.f0 x
      · rw [if_pos c2] at h; omega
      · rw [if_neg c2] at h
        by_cases c3 : tooBig c d (S49.f1 x) (S49.f2 x) = 0
        · rw [if_pos c3] at h
          cases hy with
          | head =>
            unfold tooBig at c3
            by_cases c4 : c < ((S49.f1 x).size : Int)
            · rw [if_pos c4] at c3; omega
            · rw [if_neg c4] at c3
              by_cases c5 : d < ((S49.f2 x).size : Int)
              · rw [if_pos c5] at c3; omega
              · exact ⟨by omega, by omega, by omega, by omega⟩
          | tail _ hy => exact vers_each c d xs _ h (by omega) y hy
        · rw [if_neg c3] at h; exact absurd h c3
structure EntIs (b c d e : Int) (y : S47) : Prop where
  hb : ((S47.f0 y).size : Int) ≤ b
  he : ((S47.f1 y).length : Int) ≤ e
  hv : ∀ z ∈ S47.f1 y, 0 < S49.f0 z ∧ S49.f0 z ≤ 1073741824 ∧ ((S49.f1 z).size : Int) ≤ c ∧ ((S49.f2 z).size : Int) ≤ d
structure KidIs (b : Int) (y : S53) : Prop where
  hb : ((S53.f0 y).size : Int) ≤ b
  hr : refOk (S53.f2 y) (S53.f3 y) (S53.f4 y) = true
theorem right_ent {a b c d e f g : Int} {y : S47} (h : rightV a b c d e f g (S47.f0 y) (S47.f1 y) = 0) : EntIs b c d e y := by
  unfold rightV at h
  by_cases c0 : namedV a b c d e f g (S47.f0 y) (S47.f1 y) = 0
  · unfold namedV at c0
    by_cases c1 : quotaOk a b c d e f g = true
    · rw [if_pos c1] at c0
      by_cases c2 : S47.f0 y = ByteArray.empty
      · rw [if_pos c2] at c0; omega
      · rw [if_neg c2] at c0
        by_cases c3 : b < ((S47.f0 y).size : Int)
        · rw [if_pos c3] at c0; omega
        · rw [if_neg c3] at c0
          by_cases c4 : e < ((S47.f1 y).length : Int)
          · rw [if_pos c4] at c0; omega
          · rw [if_neg c4] at c0
            exact ⟨by omega, by omega, vers_each c d _ 0 c0 (by omega)⟩
    · rw [if_neg c1] at c0; omega
  · rw [if_neg c0] at h; exact absurd h c0
theorem kids_each {b : Int} : ∀ {ks : List S53} {p : Option ByteArray}, kidsV b p ks = 0 → ∀ y ∈ ks, KidIs b y
  | [], _, _, y, hy => by cases hy
  | x :: xs, p, h, y, hy => by
    rw [kidsV_cons] at h
    by_cases c1 : S53.f0 x = ByteArray.empty
    · rw [if_pos c1] at h; omega
    · rw [if_neg c1] at h
      by_cases c2 : b < ((S53.f0 x).size : Int)
      · rw [if_pos c2] at h; omega
      · rw [if_neg c2] at h
        by_cases c3 : refOk (S53.f2 x) (S53.f3 x) (S53.f4 x) = true
        · rw [if_pos c3] at h
          by_cases c4 : behind p (S53.f0 x) = true
          · rw [if_pos c4] at h
            cases hy with
            | head => exact ⟨by omega, c3⟩
            | tail _ hy => exact kids_each h y hy
          · rw [if_neg c4] at h; omega
        · rw [if_neg c3] at h; omega
/-- What is known of a node that may be. -/
theorem node_is {a b c d e f g : Int} {q : Bool} {xs : List S47} {ks : List S53} (h : nodeV a b c d e f g q xs ks = 0) : quotaOk a b c d e f g = true ∧ ((q = true ∧ ks = [] ∧ xs.length ≤ 4 ∧ ∀ y ∈ xs, EntIs b c d e y) ∨ (q = false ∧ xs = [] ∧ ks.length ≤ 4 ∧ ∀ y ∈ ks, KidIs b y)) := by
  unfold nodeV at h
  by_cases c1 : quotaOk a b c d e f g = true
  · rw [if_pos c1] at h
    refine ⟨c1, ?_⟩
    cases q with
    | true =>
      rw [if_pos rfl] at h
      by_cases c2 : (0 : Int) < (ks.length : Int)
      · rw [if_pos c2] at h; omega
      · rw [if_neg c2] at h
        by_cases c3 : (4 : Int) < (xs.length : Int)
        · rw [if_pos c3] at h; omega
        · rw [if_neg c3] at h
          exact .inl ⟨rfl, List.eq_nil_of_length_eq_zero (by omega), by omega, fun y hy => right_ent (leaf_n h y hy)⟩
    | false =>
      rw [if_neg (by simp)] at h
      by_cases c2 : (0 : Int) < (xs.length : Int)
      · rw [if_pos c2] at h; omega
      · rw [if_neg c2] at h
        by_cases c3 : (ks.length : Int) < 2
        · rw [if_pos c3] at h; omega
        · rw [if_neg c3] at h
          by_cases c4 : (4 : Int) < (ks.length : Int)
          · rw [if_pos c4] at h; omega
          · rw [if_neg c4] at h
            exact .inr ⟨rfl, List.eq_nil_of_length_eq_zero (by omega), by omega, kids_each h⟩
  · rw [if_neg c1] at h; omega
theorem quota_is {a b c d e f g : Int} (h : quotaOk a b c d e f g = true) : 1 ≤ b ∧ b ≤ 16 ∧ 0 ≤ c ∧ c ≤ 32 ∧ 0 ≤ d ∧ d ≤ 16 ∧ 1 ≤ e ∧ e ≤ 4 := by
  simp only [quotaOk, decide_eq_true_eq] at h; omega
theorem fine_vers {c d : Int} (hc : c ≤ 32) (hd : d ≤ 16) {z : S49} (h : 0 < S49.f0 z ∧ S49.f0 z ≤ 1073741824 ∧ ((S49.f1 z).size : Int) ≤ c ∧ ((S49.f2 z).size : Int) ≤ d) : Fine (versT z) 4 2 (17 + c + d).toNat := by
  have := Fine.row (l := [numT (S49.f0 z), atomT (S49.f1 z), atomT (S49.f2 z)]) (by simp) (FineL.cons (Fine.num 5 (by omega) (by omega) (by omega) (by omega)) (FineL.cons (Fine.atom (s := S49.f1 z) (by omega)) (FineL.cons (Fine.atom (s := S49.f2 z) (by omega)) (FineL.nil 1))))
  exact this.mono (by omega) (by omega) (by omega)
theorem fine_entry {b c d e : Int} (hq : 1 ≤ b ∧ b ≤ 16 ∧ 0 ≤ c ∧ c ≤ 32 ∧ 0 ≤ d ∧ d ≤ 16 ∧ 1 ≤ e ∧ e ≤ 4) {y : S47} (h : EntIs b c d e y) : Fine (entryT y) 18 3 (4 + b.toNat + e.toNat * (17 + c + d).toNat) := by
  have h1 := h.hb; have h2 := h.he
  have m := FineL.map versT (S47.f1 y) (fun z hz => fine_vers (by omega) (by omega) (h.hv z hz))
  have := Fine.row (l := atomT (S47.f0 y) :: (S47.f1 y).map versT) (by simp; omega) (FineL.cons ((Fine.atom (s := S47.f0 y) (by omega)).mono (d' := 2) (Nat.le_refl _) (by omega) (Nat.le_refl _)) m)
  have e1 : (S47.f1 y).length * (17 + c + d).toNat ≤ e.toNat * (17 + c + d).toNat := Nat.mul_le_mul_right _ (by omega)
  exact this.mono (by omega) (by omega) (by omega)
theorem fine_kid {b : Int} (hq : b ≤ 16) {y : S53} (hk : KidOk y) (h : KidIs b y) : Fine (kidT y) 6 2 (28 + b).toNat := by
  have h1 := h.hb
  have h2 := h.hr
  simp only [refOk, decide_eq_true_eq] at h2
  have := Fine.row (l := [atomT (S53.f0 y), keyT (S53.f1 y), numT (S53.f2 y), numT (S53.f3 y), numT (S53.f4 y)]) (by simp) (FineL.cons (Fine.atom (s := S53.f0 y) (by omega)) (FineL.cons (Fine.key hk.2) (FineL.cons (Fine.num 3 (by omega) (by omega) (by omega) (by omega)) (FineL.cons (Fine.num 4 (by omega) (by omega) (by omega) (by omega)) (FineL.cons (Fine.num 3 (by omega) (by omega) (by omega) (by omega)) (FineL.nil 1))))))
  exact this.mono (by omega) (by omega) (by omega)
/-- The most bytes of a page. -/
def pageV (b c d e : Int) : Int := 15 + 4 * mx (4 + b + e * (17 + c + d)) (28 + b)
theorem fine_node {a b c d e f g : Int} {q : Bool} {xs : List S47} {ks : List S53} (h : nodeV a b c d e f g q xs ks = 0) (hko : ∀ y ∈ ks, KidOk y) {k : Int} (hk : (Lit.int .u64 k).wf = true) : Fine (nodeT q xs ks) 75 4 16000 ∧ Fine (boxT k (nodeT q xs ks)) 76 5 (pageV b c d e).toNat := by
  obtain ⟨hq, h⟩ := node_is h
  have Q := quota_is hq
  have m0 : 0 ≤ e * (17 + c + d) := Int.mul_nonneg (by omega) (by omega)
  have m1 : e * (17 + c + d) ≤ 4 * (17 + c + d) := Int.mul_le_mul_of_nonneg_right (by omega) (by omega)
  have me : e.toNat * (17 + c + d).toNat = (e * (17 + c + d)).toNat := by rw [Int.toNat_mul (by omega) (by omega)]
  have mxl : 4 + b + e * (17 + c + d) ≤ mx (4 + b + e * (17 + c + d)) (28 + b) ∧ 28 + b ≤ mx (4 + b + e * (17 + c + d)) (28 + b) ∧ mx (4 + b + e * (17 + c + d)) (28 + b) ≤ 300 := by
    unfold mx; split <;> omega
  unfold pageV
  generalize mx (4 + b + e * (17 + c + d)) (28 + b) = M at mxl ⊢
  have key : ∃ n : Nat, Fine (nodeT q xs ks) 75 4 n ∧ (n : Int) ≤ 4 + 4 * M := by
    rcases h with ⟨rfl, rfl, hl, he⟩ | ⟨rfl, rfl, hl, he⟩
    · have m := FineL.map entryT xs (fun y hy => (fine_entry Q (he y hy)).mono (Nat.le_refl _) (Nat.le_refl _) (l' := M.toNat) (by rw [me]; omega))
      have e1 : xs.length * M.toNat ≤ 4 * M.toNat := Nat.mul_le_mul_right _ hl
      have := Fine.row (l := numT 1 :: xs.map entryT) (by simp; omega) (FineL.cons ((Fine.num (n := 1) 1 (by omega) (by omega) (by omega) (by omega)).mono (d' := 3) (Nat.le_refl _) (by omega) (Nat.le_refl _)) m)
      exact ⟨4 + 4 * M.toNat, by unfold nodeT; rw [if_pos rfl]; exact this.mono (by omega) (by omega) (by omega), by omega⟩
    · have m := FineL.map kidT ks (fun y hy => (fine_kid (by omega) (hko y hy) (he y hy)).mono (Nat.le_refl _) (Nat.le_refl _) (l' := M.toNat) (by omega))
      have e1 : ks.length * M.toNat ≤ 4 * M.toNat := Nat.mul_le_mul_right _ hl
      have := Fine.row (l := numT 2 :: ks.map kidT) (by simp; omega) (FineL.cons ((Fine.num (n := 2) 1 (by omega) (by omega) (by omega) (by omega)).mono (d' := 2) (Nat.le_refl _) (by omega) (Nat.le_refl _)) m)
      exact ⟨4 + 4 * M.toNat, by unfold nodeT; rw [if_neg (by decide)]; exact this.mono (by omega) (by omega) (by omega), by omega⟩
  obtain ⟨n, hf, hn⟩ := key
  exact ⟨hf.mono (Nat.le_refl _) (Nat.le_refl _) (by omega), (hf.box hk).mono (by omega) (by omega) (by omega)⟩
/-! ### a node's term is read as the node -/
theorem vers_in {z : S49} (h : 0 < S49.f0 z ∧ S49.f0 z ≤ 1073741824) : verB (versT z) = true ∧ toV (versT z) = z := by
  have w : IntKind.u64.wrap (S49.f0 z) = S49.f0 z := wrap_u64 (by omega) (by omega)
  constructor
  · unfold verB isNumB
    simp only [Bool.and_eq_true, decide_eq_true_eq]
    refine ⟨rfl, rfl, ⟨rfl, ?_⟩, rfl, rfl⟩
    show IntKind.u64.wrap (S49.f0 z) ≤ _
    rw [w]; omega
  · show S49.mk (IntKind.i64.wrap (IntKind.u64.wrap (S49.f0 z))) (S49.f1 z) (S49.f2 z) = z
    rw [w, w64 (by omega) (by omega)]
theorem map_id' {α β : Type} {f : α → β} {g : β → α} {xs : List α} (h : ∀ y ∈ xs, g (f y) = y) : (xs.map f).map g = xs := by
  induction xs with
  | nil => rfl
  | cons x xs ih => rw [List.map_cons, List.map_cons, h x (by simp), ih (fun y hy => h y (by simp [hy]))]
theorem entry_in {b c d e : Int} {y : S47} (h : EntIs b c d e y) : entB (entryT y) = true ∧ toE (entryT y) = y := by
  constructor
  · unfold entB headB
    simp only [Bool.and_eq_true, decide_eq_true_eq, List.all_eq_true]
    refine ⟨⟨rfl, by simp [entryT, rowT], rfl⟩, ?_⟩
    intro x hx
    rw [show (S25.f3 (entryT y)).drop 1 = (S47.f1 y).map versT from rfl, List.mem_map] at hx
    obtain ⟨z, hz, rfl⟩ := hx
    have := h.hv z hz
    exact (vers_in ⟨this.1, this.2.1⟩).1
  · show S47.mk (S47.f0 y) (((S47.f1 y).map versT).map toV) = y
    rw [map_id' (fun z hz => (vers_in ⟨(h.hv z hz).1, (h.hv z hz).2.1⟩).2)]
theorem kid_in {b : Int} {y : S53} (h : KidIs b y) : kidB (kidT y) = true ∧ toK (kidT y) = y := by
  have h2 := h.hr
  simp only [refOk, decide_eq_true_eq] at h2
  have w2 : IntKind.u64.wrap (S53.f2 y) = S53.f2 y := wrap_u64 (by omega) (by omega)
  have w3 : IntKind.u64.wrap (S53.f3 y) = S53.f3 y := wrap_u64 (by omega) (by omega)
  have w4 : IntKind.u64.wrap (S53.f4 y) = S53.f4 y := wrap_u64 (by omega) (by omega)
  constructor
  · unfold kidB headB isNumB
    simp only [Bool.and_eq_true, decide_eq_true_eq]
    refine ⟨⟨rfl, by simp [kidT, rowT], rfl⟩, rfl, rfl, ⟨rfl, ?_⟩, ⟨rfl, ?_⟩, rfl, ?_⟩
    · show IntKind.u64.wrap (S53.f2 y) ≤ _; rw [w2]; omega
    · show IntKind.u64.wrap (S53.f3 y) ≤ _; rw [w3]; omega
    · show IntKind.u64.wrap (S53.f4 y) ≤ _; rw [w4]; omega
  · show S53.mk (S53.f0 y) (S53.f1 y) (IntKind.i64.wrap (IntKind.u64.wrap (S53.f2 y))) (IntKind.i64.wrap (IntKind.u64.wrap (S53.f3 y))) (IntKind.i64.wrap (IntKind.u64.wrap (S53.f4 y))) = y
    rw [w2, w3, w4, w64 (by omega) (by omega), w64 (by omega) (by omega), w64 (by omega) (by omega)]
theorem node_in {a b c d e f g : Int} {q : Bool} {xs : List S47} {ks : List S53} (h : nodeV a b c d e f g q xs ks = 0) : leafB (nodeT q xs ks) = q ∧ ents (nodeT q xs ks) = xs ∧ kids (nodeT q xs ks) = ks ∧ formB (nodeT q xs ks) = true := by
  obtain ⟨_, h⟩ := node_is h
  rcases h with ⟨rfl, rfl, hl, he⟩ | ⟨rfl, rfl, hl, he⟩
  · have hlf : leafB (nodeT true xs []) = true := by simp only [leafB, decide_eq_true_eq]; rfl
    have hd1 : (S25.f3 (nodeT true xs [])).drop 1 = xs.map entryT := rfl
    refine ⟨hlf, ?_, ?_, ?_⟩
    · unfold ents; rw [if_pos hlf, hd1]; exact map_id' (fun y hy => (entry_in (he y hy)).2)
    · unfold kids; rw [if_pos hlf]
    · unfold formB headB
      rw [hd1]
      simp only [Bool.and_eq_true, Bool.or_eq_true, decide_eq_true_eq, List.all_eq_true]
      refine ⟨⟨rfl, by simp [nodeT, rowT], rfl⟩, .inl rfl, ?_⟩
      intro x hx
      obtain ⟨y, hy, rfl⟩ := List.mem_map.1 hx
      rw [if_pos hlf]; exact (entry_in (he y hy)).1
  · have hlf : leafB (nodeT false [] ks) = false := by simp only [leafB, decide_eq_false_iff_not]; show ¬ IntKind.u64.wrap 2 = 1; decide
    have hd1 : (S25.f3 (nodeT false [] ks)).drop 1 = ks.map kidT := rfl
    refine ⟨hlf, ?_, ?_, ?_⟩
    · unfold ents; rw [if_neg (by simp [hlf])]
    · unfold kids; rw [if_neg (by simp [hlf]), hd1]; exact map_id' (fun y hy => (kid_in (he y hy)).2)
    · unfold formB headB
      rw [hd1]
      simp only [Bool.and_eq_true, Bool.or_eq_true, decide_eq_true_eq, List.all_eq_true]
      refine ⟨⟨rfl, by simp [nodeT, rowT], rfl⟩, .inr rfl, ?_⟩
      intro x hx
      obtain ⟨y, hy, rfl⟩ := List.mem_map.1 hx
      rw [if_neg (by simp [hlf])]; exact (kid_in (he y hy)).1
/-- What is sealed opens with its key, and with no other. -/
theorem seal_open {a b c d e f g : Int} {q : Bool} {xs : List S47} {ks : List S53} (h : nodeV a b c d e f g q xs ks = 0) {k : Int} (hk : (Lit.int .u64 k).wf = true) (ho : okT (nodeT q xs ks)) (hr : rightT (nodeT q xs ks) = 0) (hb : rightT (boxT k (nodeT q xs ks)) = 0) (k' : Int) :
    openN a b c d e f g k' (strB (encT (boxT k (nodeT q xs ks)))) = if k = k' then some (q, xs, ks, 0, ()) else some (false, [], [], 31, ()) := by
  have hq := (node_is h).1
  have hu : unpackV k' (strB (encT (boxT k (nodeT q xs ks)))) = if k = k' then okE (nodeT q xs ks) else erT 31 := by
    unfold unpackV
    rw [decode_enc (ho.box hk) hb]
    simp only [okD, Option.bind_some]
    rw [if_neg (by simp), etaT]
    unfold openV
    rw [if_pos hb, if_pos (show S25.f0 (boxT k (nodeT q xs ks)) = 4 from rfl)]; rfl
  unfold openN
  rw [if_pos hq, hu]
  by_cases c1 : k = k'
  · rw [if_pos c1, if_pos c1, bindE, if_neg (by simp), etaT]
    obtain ⟨n1, n2, n3, n4⟩ := node_in h
    unfold fromV
    rw [if_pos hq, if_pos hr]
    unfold endV
    rw [n1, n2, n3, n4, if_neg (by decide), if_pos h]
  · rw [if_neg c1, if_neg c1, bindR, if_pos (by decide)]
/-! ### alike -/
instance : DecidableEq S49 := fun x y => decidable_of_iff (x.f0 = y.f0 ∧ x.f1 = y.f1 ∧ x.f2 = y.f2) ⟨fun h => by obtain ⟨x0, x1, x2⟩ := x; obtain ⟨y0, y1, y2⟩ := y; simp_all, fun h => by rw [h]; exact ⟨rfl, rfl, rfl⟩⟩
theorem like_l (xs ys : List S49) (hx : xs.length ≤ 9223372036854775807) (hl : xs.length = ys.length) : ∀ (n i : Nat), xs.length - i = n → i ≤ xs.length →
    F76_letheref05_LikeVersions_l1000004 xs ys (xs.length : Int) (i : Int) = some (decide (xs.drop i = ys.drop i), ()) := by
  intro n
  induction n with
  | zero =>
    intro i hn hi
    rw [F76_letheref05_LikeVersions_l1000004_eq, if_neg (by omega), List.drop_of_length_le (by omega), List.drop_of_length_le (by omega)]; rfl
  | succ n ih =>
    intro i hn hi
    rw [F76_letheref05_LikeVersions_l1000004_eq, if_pos (ilt (by omega)), if_pos (inb (by omega)), if_pos (inb (by omega)), drop_rd (z := S49.z) (by omega : i < xs.length), drop_rd (z := S49.z) (by omega : i < ys.length), w64s (n := xs.length) (by omega) hx, ih (i + 1) (by omega) (by omega)]
    generalize rd S49.z xs (i : Int) = x
    generalize rd S49.z ys (i : Int) = y
    by_cases c1 : x = y
    · rw [if_neg (by simp [c1])]; simp [c1]
    · rw [if_pos (by intro hh; apply c1; obtain ⟨x0, x1, x2⟩ := x; obtain ⟨y0, y1, y2⟩ := y; simp_all)]; simp [c1]
theorem like_eq (xs ys : List S49) (hx : xs.length ≤ 9223372036854775807) : F76_letheref05_LikeVersions xs ys = some (decide (xs = ys), ()) := by
  rw [F76_letheref05_LikeVersions_eq]
  by_cases c1 : xs.length = ys.length
  · rw [if_neg (by omega)]
    have := like_l xs ys hx c1 xs.length 0 (by omega) (by omega)
    simpa using this
  · rw [if_pos (by omega), decide_eq_false (fun h => c1 (by rw [h]))]

/-! ### nodes that are alike -/
instance : DecidableEq S47 := fun x y => decidable_of_iff (x.f0 = y.f0 ∧ x.f1 = y.f1) ⟨fun h => by obtain ⟨x0, x1⟩ := x; obtain ⟨y0, y1⟩ := y; simp_all, fun h => by rw [h]; exact ⟨rfl, rfl⟩⟩
instance : DecidableEq S53 := fun x y => decidable_of_iff (x.f0 = y.f0 ∧ x.f1 = y.f1 ∧ x.f2 = y.f2 ∧ x.f3 = y.f3 ∧ x.f4 = y.f4) ⟨fun h => by obtain ⟨x0, x1, x2, x3, x4⟩ := x; obtain ⟨y0, y1, y2, y3, y4⟩ := y; simp_all, fun h => by rw [h]; exact ⟨rfl, rfl, rfl, rfl, rfl⟩⟩
theorem likeE_eq (x y : S47) (hx : EntryBound x) : F59_letheref05_Like (S47.f0 x) (S47.f1 x) (S47.f0 y) (S47.f1 y) = some (decide (x = y), ()) := by
  obtain ⟨x0, x1⟩ := x
  obtain ⟨y0, y1⟩ := y
  rw [F59_letheref05_Like_eq, like_eq _ _ hx, Option.bind_some]
  by_cases c1 : x0 = y0 <;> simp [c1]
theorem likeAll_l (xs ys : List S47) (hx : xs.length ≤ 9223372036854775807) (hb : ∀ x ∈ xs, EntryBound x) (hl : xs.length = ys.length) : ∀ (n i : Nat), xs.length - i = n → i ≤ xs.length →
    F38_letheref05_LikeAll_l1000004 xs ys (xs.length : Int) (i : Int) = some (decide (xs.drop i = ys.drop i), ()) := by
  intro n
  induction n with
  | zero =>
    intro i hn hi
    rw [F38_letheref05_LikeAll_l1000004_eq, if_neg (by omega), List.drop_of_length_le (by omega), List.drop_of_length_le (by omega)]; rfl
  | succ n ih =>
    intro i hn hi
    have hbi : EntryBound (rd S47.z xs (i : Int)) := by rw [rd_lt (by omega)]; exact hb _ (List.getElem_mem _)
    rw [F38_letheref05_LikeAll_l1000004_eq, if_pos (ilt (by omega)), if_pos (inb (by omega)), if_pos (inb (by omega)), drop_rd (z := S47.z) (by omega : i < xs.length), drop_rd (z := S47.z) (by omega : i < ys.length), likeE_eq _ _ hbi, Option.bind_some, w64s (n := xs.length) (by omega) hx, ih (i + 1) (by omega) (by omega)]
    by_cases c1 : rd S47.z xs (i : Int) = rd S47.z ys (i : Int) <;> simp [c1]
theorem likeAll_eq (xs ys : List S47) (hx : xs.length ≤ 9223372036854775807) (hb : ∀ x ∈ xs, EntryBound x) : F38_letheref05_LikeAll xs ys = some (decide (xs = ys), ()) := by
  rw [F38_letheref05_LikeAll_eq]
  by_cases c1 : xs.length = ys.length
  · rw [if_neg (by omega)]
    have := likeAll_l xs ys hx hb c1 xs.length 0 (by omega) (by omega)
    simpa using this
  · rw [if_pos (by omega), decide_eq_false (fun h => c1 (by rw [h]))]
theorem likeK_l (xs ys : List S53) (q r : Bool) (es fs : List S47) (hx : xs.length ≤ 9223372036854775807) (hl : xs.length = ys.length) : ∀ (n i : Nat), xs.length - i = n → i ≤ xs.length →
    F14_letheref06_Like_l1000004 (xs.length : Int) (i : Int) q es xs r fs ys = some (decide (xs.drop i = ys.drop i), ()) := by
  intro n
  induction n with
  | zero =>
    intro i hn hi
    rw [F14_letheref06_Like_l1000004_eq, if_neg (by omega), List.drop_of_length_le (by omega), List.drop_of_length_le (by omega)]; rfl
  | succ n ih =>
    intro i hn hi
    rw [F14_letheref06_Like_l1000004_eq, if_pos (ilt (by omega)), if_pos (inb (by omega)), if_pos (inb (by omega)), drop_rd (z := S53.z) (by omega : i < xs.length), drop_rd (z := S53.z) (by omega : i < ys.length), w64s (n := xs.length) (by omega) hx, ih (i + 1) (by omega) (by omega)]
    generalize rd S53.z xs (i : Int) = x
    generalize rd S53.z ys (i : Int) = y
    by_cases c1 : x = y
    · rw [if_neg (by simp [c1])]; simp [c1]
    · rw [if_pos (by intro hh; apply c1; obtain ⟨x0, x1, x2, x3, x4⟩ := x; obtain ⟨y0, y1, y2, y3, y4⟩ := y; simp_all)]; simp [c1]
theorem likeN_eq (q r : Bool) (es fs : List S47) (xs ys : List S53) (hx : xs.length ≤ 9223372036854775807) (he : es.length ≤ 9223372036854775807) (hb : ∀ x ∈ es, EntryBound x) :
    F14_letheref06_Like q es xs r fs ys = some (decide (q = r ∧ es = fs ∧ xs = ys), ()) := by
  rw [F14_letheref06_Like_eq, likeAll_eq _ _ he hb, Option.bind_some]
  by_cases c0 : q = r
  · by_cases c1 : xs.length = ys.length
    · have := likeK_l xs ys q r es fs hx c1 xs.length 0 (by omega) (by omega)
      rw [show F14_letheref06_Like_l1000004 (xs.length : Int) 0 q es xs r fs ys = _ from this]
      have i1 : (xs.length : Int) = (ys.length : Int) := by omega
      by_cases c2 : es = fs
      · simp [c0, c2, i1]
      · simp [c0, c2, i1]
    · have i1 : ¬ (xs.length : Int) = (ys.length : Int) := by omega
      have i2 : ¬ xs = ys := fun h => c1 (by rw [h])
      simp [c0, i1, i2]
  · have : (q == r) = false := by cases q <;> cases r <;> simp_all
    simp [c0, this]

/-! ### reading: the document's -/
abbrev T8 := Int × Int × ByteArray × List S25 × Int × Int × Int × Unit
def MeetsR (tot : Nat) (r : Rd S25) (a : Option T8) : Prop :=
  match r with
  | .ok (x, b', n) => a = some (S25.f0 x, S25.f1 x, S25.f2 x, S25.f3 x, ((tot - b'.length : Nat) : Int), (n : Int), 0, ())
  | .error e => e ≠ 0 ∧ a = some (0, 0, ByteArray.empty, [], 0, 0, e, ())
def MeetsRL (tot : Nat) (c0 c1 : Int) (c2 : ByteArray) (acc : List S25) (r : Rd (List S25)) (a : Option T8) : Prop :=
  match r with
  | .ok (l, b', n) => a = some (c0, c1, c2, acc ++ l, ((tot - b'.length : Nat) : Int), (n : Int), 0, ())
  | .error e => e ≠ 0 ∧ a = some (0, 0, ByteArray.empty, [], 0, 0, e, ())
theorem u64_pred' {m : Nat} (h : m + 1 < 18446744073709551616) : IntKind.u64.wrap (((m + 1 : Nat) : Int) - 1) = (m : Int) := by rw [wraps_u64 _ (by omega) (by omega)]; omega
theorem suffix_at {B b' : List Int} {p : Nat} {e : List Int} (h : B.drop p = e ++ b') (hp : p ≤ B.length) : b' = B.drop (B.length - b'.length) ∧ b'.length ≤ B.length - p ∧ e.length + b'.length = B.length - p := by
  have h1 : b' = (B.drop p).drop e.length := by rw [h, List.drop_left' rfl]
  have h2 := congrArg List.length h
  rw [List.length_drop, List.length_append] at h2
  refine ⟨?_, by omega, by omega⟩
  rw [List.drop_drop] at h1
  rw [show B.length - b'.length = p + e.length by omega]
  exact h1
theorem ext_part (B : List Int) (i n : Nat) : (strB B).extract i (i + n) = strB ((B.drop i).take n) := by
  apply ByteArray.ext
  simp [strB, List.map_take, List.map_drop, List.drop_take]
theorem rpack_eq {k : Int} {t : S25} (hk : (Lit.int .u64 k).wf = true) (h : okT t) : F23_letheref03_Pack k (S25.f0 t) (S25.f1 t) (S25.f2 t) (S25.f3 t) = packV k t := by
  rw [F23_letheref03_Pack_eq, rseal_eq hk h]
  unfold sealV packV
  by_cases c1 : rightT t = 0
  · rw [if_pos c1, if_pos c1]
    by_cases c2 : rightT (boxT k t) = 0
    · have := right_len (okT.box hk h) c2
      rw [if_pos c2, if_pos c2, bindE, if_neg (by simp), rbytes_eq (okT.box hk h) (by omega), Option.bind_some]
    · rw [if_neg c2, if_neg c2, bindR, if_pos c2]
  · rw [if_neg c1, if_neg c1, bindR, if_pos c1]
theorem rnum (n : Int) : F67_letheref06_Num n = ofT (numT n) := by rw [F67_letheref06_Num_eq]; rfl
theorem ratom (s : ByteArray) : F81_letheref06_Atom s = ofT (atomT s) := by rw [F81_letheref06_Atom_eq]; rfl
theorem rkey (n : Int) : F82_letheref06_Key n = ofT (keyT n) := by rw [F82_letheref06_Key_eq]; rfl
theorem rrow (l : List S25) : F69_letheref06_Row l = ofT (rowT l) := by rw [F69_letheref06_Row_eq]; rfl

/-- The document's own. -/
theorem rkid (k : S53) : F70_letheref06_kidTerm (S53.f0 k) (S53.f1 k) (S53.f2 k) (S53.f3 k) (S53.f4 k) = ofT (kidT k) := by
  rw [F70_letheref06_kidTerm_eq, ratom, rkey, rnum, rnum, rnum]
  simp only [ofT, Option.bind_some, term_eta, rrow]
  rfl
theorem rentry_l (xs : List S49) (hx : xs.length ≤ 100) (a b : Int) (s : ByteArray) (g' : List S25) : ∀ (n i : Nat) (g : List S25), xs.length - i = n → i ≤ xs.length → g.length ≤ 1 + i →
    F68_letheref06_entryTerm_l1000003 xs (xs.length : Int) (i : Int) a b s g g' = ofT (rowT (g ++ (xs.drop i).map versT)) := by
  intro n
  induction n with
  | zero =>
    intro i g hn hi hg
    rw [F68_letheref06_entryTerm_l1000003_eq, if_neg (by omega), List.drop_of_length_le (by omega), List.map_nil, List.append_nil, rrow]; rfl
  | succ n ih =>
    intro i g hn hi hg
    rw [F68_letheref06_entryTerm_l1000003_eq, if_pos (ilt (by omega)), if_pos (inb (by omega)), rnum, ratom, ratom, drop_rd (z := S49.z) (by omega : i < xs.length), w64s (n := xs.length) (by omega) (by omega)]
    simp only [ofT, Option.bind_some, term_eta, rrow]
    rw [if_pos (by simp only [List.length_singleton]; omega), ih (i + 1) _ (by omega) (by omega) (by rw [List.length_append, List.length_singleton]; omega), List.map_cons, List.append_assoc]
    rfl
theorem rentry (e : S47) (h : List.length (α := S49) (S47.f1 e) ≤ 100) : F68_letheref06_entryTerm (S47.f0 e) (S47.f1 e) = ofT (entryT e) := by
  rw [F68_letheref06_entryTerm_eq, ratom]
  simp only [ofT, Option.bind_some, term_eta]
  exact rentry_l _ h 0 0 ByteArray.empty [] _ 0 [atomT (S47.f0 e)] rfl (by omega) (by simp)
theorem ofE_l (xs : List S47) (hx : xs.length ≤ 100) (he : ∀ e ∈ xs, List.length (α := S49) (S47.f1 e) ≤ 100) (a b : Int) (s : ByteArray) (g' : List S25) : ∀ (n i : Nat) (g : List S25), xs.length - i = n → i ≤ xs.length → g.length ≤ 1 + i →
    F47_letheref06_Of_l1000004 xs (xs.length : Int) (i : Int) a b s g g' = ofT (rowT (g ++ (xs.drop i).map entryT)) := by
  intro n
  induction n with
  | zero =>
    intro i g hn hi hg
    rw [F47_letheref06_Of_l1000004_eq, if_neg (by omega), List.drop_of_length_le (by omega), List.map_nil, List.append_nil, rrow]; rfl
  | succ n ih =>
    intro i g hn hi hg
    have hb : List.length (α := S49) (S47.f1 (rd S47.z xs (i : Int))) ≤ 100 := by rw [rd_lt (by omega)]; exact he _ (List.getElem_mem _)
    rw [F47_letheref06_Of_l1000004_eq, if_pos (ilt (by omega)), if_pos (inb (by omega)), rentry _ hb, drop_rd (z := S47.z) (by omega : i < xs.length), w64s (n := xs.length) (by omega) (by omega)]
    simp only [ofT, Option.bind_some, term_eta]
    rw [if_pos (by simp only [List.length_singleton]; omega), ih (i + 1) _ (by omega) (by omega) (by rw [List.length_append, List.length_singleton]; omega), List.map_cons, List.append_assoc]
    rfl
theorem ofK_l (xs : List S53) (hx : xs.length ≤ 100) (a b : Int) (s : ByteArray) (g' : List S25) : ∀ (n i : Nat) (g : List S25), xs.length - i = n → i ≤ xs.length → g.length ≤ 1 + i →
    F47_letheref06_Of_l1000011 xs (xs.length : Int) (i : Int) a b s g g' = ofT (rowT (g ++ (xs.drop i).map kidT)) := by
  intro n
  induction n with
  | zero =>
    intro i g hn hi hg
    rw [F47_letheref06_Of_l1000011_eq, if_neg (by omega), List.drop_of_length_le (by omega), List.map_nil, List.append_nil, rrow]; rfl
  | succ n ih =>
    intro i g hn hi hg
    rw [F47_letheref06_Of_l1000011_eq, if_pos (ilt (by omega)), if_pos (inb (by omega)), rkid, drop_rd (z := S53.z) (by omega : i < xs.length), w64s (n := xs.length) (by omega) (by omega)]
    simp only [ofT, Option.bind_some, term_eta]
    rw [if_pos (by simp only [List.length_singleton]; omega), ih (i + 1) _ (by omega) (by omega) (by rw [List.length_append, List.length_singleton]; omega), List.map_cons, List.append_assoc]
    rfl
theorem rof (q : Bool) (xs : List S47) (ks : List S53) (hx : xs.length ≤ 100) (hk : ks.length ≤ 100) (h : ∀ e ∈ xs, List.length (α := S49) (S47.f1 e) ≤ 100) : F47_letheref06_Of q xs ks = ofT (nodeT q xs ks) := by
  rw [F47_letheref06_Of_eq, rnum, rnum]
  simp only [ofT, Option.bind_some, term_eta]
  unfold nodeT
  cases q with
  | true => exact ofE_l xs hx h 0 0 ByteArray.empty [] _ 0 [numT 1] rfl (by omega) (by simp)
  | false => exact ofK_l ks hk 0 0 ByteArray.empty [] _ 0 [numT 2] rfl (by omega) (by simp)
theorem rterm_c (a b c d e f g : Int) (q : Bool) (xs : List S47) (ks : List S53) (hx : xs.length ≤ 9223372036854775807) (hy : ∀ y ∈ xs, EntryBound y) (hk : ks.length ≤ 9223372036854775807) :
    F22_letheref06_Term a b c d e f g q xs ks = termV a b c d e f g q xs ks := by
  obtain ⟨q1, q2⟩ := node_eq a b c d e f g q xs ks hx hy hk
  rw [F22_letheref06_Term_eq, q2]
  simp only [Option.bind_some]
  unfold termV
  by_cases c1 : nodeV a b c d e f g q xs ks = 0
  · obtain ⟨n1, n2, n3⟩ := node_n c1
    have n3' : ∀ y ∈ xs, List.length (α := S49) (S47.f1 y) ≤ 100 := fun y hy => by have := n3 y hy; omega
    have hc : ¬ ¬ nodeV a b c d e f g q xs ks = 0 := fun h => h c1
    rw [if_neg hc, if_pos c1, rof q xs ks (by omega) (by omega) n3']
    rfl
  · rw [if_pos c1, if_neg c1]
theorem rnseal_eq (a b c d e f g : Int) {k : Int} (hk : (Lit.int .u64 k).wf = true) (q : Bool) {xs : List S47} {ks : List S53} (hx : xs.length ≤ 9223372036854775807) (hy : ∀ y ∈ xs, EntryBound y ∧ EntOk y) (hkl : ks.length ≤ 9223372036854775807) (hko : ∀ y ∈ ks, KidOk y) :
    F11_letheref06_Seal a b c d e f g k q xs ks = sealN a b c d e f g k q xs ks := by
  rw [F11_letheref06_Seal_eq, rterm_c _ _ _ _ _ _ _ _ _ _ hx (fun y h => (hy y h).1) hkl]
  unfold termV sealN
  by_cases c1 : nodeV a b c d e f g q xs ks = 0
  · obtain ⟨n1, n2, n3⟩ := node_n c1
    rw [if_pos c1, if_pos c1, Option.bind_some, if_neg (by simp), rpack_eq hk (okT.node (fun y h => (hy y h).2) hko n1 n2 n3)]
    obtain ⟨r, e, h⟩ := packV_some k (nodeT q xs ks)
    rw [h]; rfl
  · rw [if_neg c1, if_neg c1, Option.bind_some, if_pos c1]
/-! what is handed out with lists of its own: its lists come last -/
def ow4 (o : Option N4) : Option (Bool × Int × List S47 × List S53 × Unit) := o.map fun y => (y.1, y.2.2.2.1, y.2.1, y.2.2.1, ())
theorem ow4_some (q : Bool) (xs : List S47) (ks : List S53) (r : Int) : ow4 (some (q, xs, ks, r, ())) = some (q, r, xs, ks, ()) := rfl
theorem ow4_if (c : Prop) [Decidable c] (a b : Option N4) : ow4 (if c then a else b) = if c then ow4 a else ow4 b := by split <;> rfl
theorem entry_l (l : List S25) (hl : l.length ≤ bigL) (s t : ByteArray) (g : List S49) : ∀ (n i : Nat) (b : Bool) (g' : List S49), l.length - i = n → i ≤ l.length → g'.length ≤ i →
    ∃ g'', F57_node_reader_entry_l1000004 l (l.length : Int) (i : Int) b s t g g' = some (t, b || !((l.drop i).all verB), g'', ()) ∧ g''.length ≤ l.length ∧ ((b || !((l.drop i).all verB)) = false → g'' = g' ++ (l.drop i).map toV) := by
  intro n
  induction n with
  | zero =>
    intro i b g' hn hi hg
    rw [F57_node_reader_entry_l1000004_eq, if_neg (by omega), List.drop_of_length_le (by omega)]
    exact ⟨g', by simp, by omega, by simp⟩
  | succ n ih =>
    intro i b g' hn hi hg
    obtain ⟨g1, q1, q2, q3⟩ := entry_step l hl i (by omega) b s t g g' hg
    obtain ⟨g2, p1, p2, p3⟩ := ih (i + 1) (b || !verB l[i]) g1 (by omega) (by omega) q2
    rw [q1, p1, List.drop_eq_getElem_cons (by omega : i < l.length)]
    have e : (b || !verB l[i] || !((l.drop (i + 1)).all verB)) = (b || !((l[i] :: l.drop (i + 1)).all verB)) := by
      rw [List.all_cons]; cases b <;> cases verB l[i] <;> simp
    rw [e] at p3 ⊢
    refine ⟨g2, rfl, p2, fun hh => ?_⟩
    rw [p3 hh, q3 (by rw [← e] at hh; cases hb : (b || !verB l[i]) with | false => rfl | true => rw [hb] at hh; simp at hh), List.map_cons, List.append_assoc]
    rfl
theorem rentry_bad (x : S25) : F57_node_reader_entry (S25.f0 x) (S25.f1 x) (S25.f2 x) (S25.f3 x) true = some (ByteArray.empty, true, [], ()) := by
  rw [F57_node_reader_entry_eq, rest_bad, Option.bind_some, F57_node_reader_entry_l1000004_eq, if_neg (by simp)]
theorem rentry_eq {x : S25} (hx : (S25.f3 x).length ≤ bigL) : ∃ s g, F57_node_reader_entry (S25.f0 x) (S25.f1 x) (S25.f2 x) (S25.f3 x) false = some (s, !entB x, g, ()) ∧ g.length ≤ (S25.f3 x).length ∧ (entB x = true → S47.mk s g = toE x) := by
  rw [F57_node_reader_entry_eq, rest_eq, entB]
  cases hh : headB x 2 with
  | false =>
    simp only [Bool.false_eq_true, if_false, Option.bind_some]
    rw [F57_node_reader_entry_l1000004_eq, if_neg (by simp)]
    exact ⟨_, _, rfl, by simp, by simp⟩
  | true =>
    simp only [if_true, Option.bind_some]
    obtain ⟨g, q1, q2, q3⟩ := entry_l ((S25.f3 x).drop 1) (by rw [List.length_drop]; omega) ByteArray.empty (S25.f2 (at_ x 0)) [] _ 0 false [] rfl (by omega) (by simp)
    rw [List.drop_zero] at q1 q3
    rw [show F57_node_reader_entry_l1000004 ((S25.f3 x).drop 1) (((S25.f3 x).drop 1).length : Int) 0 false ByteArray.empty (S25.f2 (at_ x 0)) [] [] = _ from q1]
    refine ⟨_, _, rfl, by rw [List.length_drop] at q2; omega, fun h => ?_⟩
    rw [q3 (by simpa using h), toE]; rfl
theorem from_l (a b c d e f g : Int) (q h1 : Bool) (l : List S25) (hl : l.length ≤ bigL) (hx : ∀ x ∈ l, (S25.f3 x).length ≤ bigL) (g4 : List S47) (g5 : List S53) : ∀ (n i : Nat) (bad : Bool) (es : List S47) (ks : List S53), l.length - i = n → i ≤ l.length → es.length ≤ i → ks.length ≤ i → (∀ y ∈ es, EntryBound y) →
    ∃ es' ks', F37_node_From_l1000011 l (l.length : Int) (i : Int) a b c d e f g h1 bad q g4 g5 es ks = ow4 (endV a b c d e f g q (bad || !((l.drop i).all (pickB q))) es' ks') ∧
      ((bad || !((l.drop i).all (pickB q))) = false → es' = es ++ (if q = true then (l.drop i).map toE else []) ∧ ks' = ks ++ (if q = true then [] else (l.drop i).map toK)) := by
  have hl' := hl
  simp only [bigL] at hl'
  intro n
  induction n with
  | zero =>
    intro i bad es ks hn hi h2 h3 h4
    refine ⟨es, ks, ?_, ?_⟩
    · rw [F37_node_From_l1000011_eq, if_neg (by omega), List.drop_of_length_le (by omega), (node_r a b c d e f g q es ks (by omega) (by omega) h4).1]
      cases bad with
      | true => simp [endV, ow4]
      | false =>
        simp only [Bool.false_eq_true, if_false, Option.bind_some, List.all_nil, Bool.not_true, Bool.or_self]
        unfold endV
        by_cases hz : nodeV a b c d e f g q es ks = 0
        · rw [if_neg (fun h => h hz), if_neg (by simp), if_pos hz]; rfl
        · rw [if_pos hz, if_neg (by simp), if_neg hz]; rfl
    · intro _
      rw [List.drop_of_length_le (by omega)]
      cases q <;> simp
  | succ n ih =>
    intro i bad es ks hn hi h2 h3 h4
    have hxi := hx l[i] (List.getElem_mem _)
    rw [List.drop_eq_getElem_cons (by omega : i < l.length), List.all_cons]
    rw [F37_node_From_l1000011_eq, if_pos (ilt (by omega)), if_pos (inb (by omega)), rd_lt (by omega : i < l.length), w64s (n := l.length) (by omega) (by omega)]
    cases q with
    | true =>
      rw [if_pos rfl]
      obtain ⟨s, g', q1, q2, q3⟩ : ∃ s g', F57_node_reader_entry (S25.f0 l[i]) (S25.f1 l[i]) (S25.f2 l[i]) (S25.f3 l[i]) bad = some (s, bad || !entB l[i], g', ()) ∧ g'.length ≤ bigL ∧ ((bad || !entB l[i]) = false → S47.mk s g' = toE l[i]) := by
        cases bad with
        | true => exact ⟨_, _, rentry_bad _, by simp, by simp⟩
        | false =>
          obtain ⟨s, g', r1, r2, r3⟩ := rentry_eq hxi
          exact ⟨s, g', by simpa using r1, by omega, fun h => r3 (by simpa using h)⟩
      rw [q1]
      simp only [Option.bind_some]
      rw [if_pos (by rw [List.length_singleton]; omega)]
      obtain ⟨es', ks', r1, r2⟩ := ih (i + 1) (bad || !entB l[i]) (es ++ [S47.mk s g']) ks (by omega) (by omega) (by rw [List.length_append, List.length_singleton]; omega) (by omega) (by
        intro y hy
        rw [List.mem_append, List.mem_singleton] at hy
        rcases hy with hy | hy
        · exact h4 y hy
        · rw [hy]; show g'.length ≤ _; simp only [bigL] at q2; omega)
      have eb : (bad || !entB l[i] || !((l.drop (i + 1)).all (pickB true))) = (bad || !(pickB true l[i] && (l.drop (i + 1)).all (pickB true))) := by
        simp only [pickB, if_true]; cases bad <;> cases entB l[i] <;> simp
      rw [eb] at r1 r2
      refine ⟨es', ks', r1, fun hh => ?_⟩
      obtain ⟨p1, p2⟩ := r2 hh
      simp only [if_true] at p1 p2 ⊢
      refine ⟨?_, p2⟩
      rw [p1, q3 (by rw [← eb] at hh; cases hb : (bad || !entB l[i]) with | false => rfl | true => rw [hb] at hh; simp at hh), List.map_cons, List.append_assoc]
      rfl
    | false =>
      rw [if_neg (by simp)]
      obtain ⟨k0, k1, k2, k3, k4, q1, q3⟩ : ∃ k0 k1 k2 k3 k4, F58_node_reader_kid (S25.f0 l[i]) (S25.f1 l[i]) (S25.f2 l[i]) (S25.f3 l[i]) bad = some (k0, k1, k2, k3, k4, bad || !kidB l[i], ()) ∧ ((bad || !kidB l[i]) = false → S53.mk k0 k1 k2 k3 k4 = toK l[i]) := by
        cases bad with
        | true => exact ⟨_, _, _, _, _, rkid_bad _, by simp⟩
        | false =>
          obtain ⟨k0, k1, k2, k3, k4, r1, r3⟩ := rkid_eq l[i]
          exact ⟨k0, k1, k2, k3, k4, by simpa using r1, fun h => r3 (by simpa using h)⟩
      rw [q1]
      simp only [Option.bind_some]
      rw [if_pos (by rw [List.length_singleton]; omega)]
      obtain ⟨es', ks', r1, r2⟩ := ih (i + 1) (bad || !kidB l[i]) es (ks ++ [S53.mk k0 k1 k2 k3 k4]) (by omega) (by omega) (by omega) (by rw [List.length_append, List.length_singleton]; omega) h4
      have eb : (bad || !kidB l[i] || !((l.drop (i + 1)).all (pickB false))) = (bad || !(pickB false l[i] && (l.drop (i + 1)).all (pickB false))) := by
        simp only [pickB, Bool.false_eq_true, if_false]; cases bad <;> cases kidB l[i] <;> simp
      rw [eb] at r1 r2
      refine ⟨es', ks', r1, fun hh => ?_⟩
      obtain ⟨p1, p2⟩ := r2 hh
      simp only [Bool.false_eq_true, if_false] at p1 p2 ⊢
      refine ⟨p1, ?_⟩
      rw [p2, q3 (by rw [← eb] at hh; cases hb : (bad || !kidB l[i]) with | false => rfl | true => rw [hb] at hh; simp at hh), List.map_cons, List.append_assoc]
      rfl
theorem from_eq (a b c d e f g : Int) {t : S25} (h : okT t) : F37_node_From a b c d e f g (S25.f0 t) (S25.f1 t) (S25.f2 t) (S25.f3 t) = ow4 (fromV a b c d e f g t) := by
  rw [F37_node_From_eq, q66, right_f h]
  simp only [Option.bind_some]
  unfold fromV
  cases quotaOk a b c d e f g with
  | false => simp [ow4]
  | true =>
    simp only [if_true, not_true_eq_false, if_false]
    by_cases c1 : rightT t = 0
    · rw [if_neg (fun hh => hh c1), if_pos c1, rest_eq]
      obtain ⟨hs1, hs2⟩ := h.sub
      cases hh : headB t 1 with
      | false =>
        simp only [Bool.false_eq_true, if_false, Option.bind_some, want_eq]
        rw [if_neg (by omega)]
        obtain ⟨es, ks, r1, r2⟩ := from_l a b c d e f g (decide ((0 : Int) = 1)) false [] (by simp) (by simp) [] [] 0 0 true [] [] rfl (by simp) (by simp) (by simp) (by simp)
        have hb : formB t = false := by simp [formB, hh]
        rw [hb]
        exact r1.trans (congrArg ow4 (endV_bad _ _ _ _ _ _ _ _ _ _ _ _ _))
      | true =>
        simp only [if_true, Option.bind_some, want_eq]
        have key : ∀ bad : Bool, (bad = !(decide (S25.f1 (at_ t 0) = 1) || decide (S25.f1 (at_ t 0) = 2))) → F37_node_From_l1000011 ((S25.f3 t).drop 1) (((S25.f3 t).drop 1).length : Int) 0 a b c d e f g false bad (leafB t) [] [] [] [] = ow4 (endV a b c d e f g (leafB t) (!formB t) (ents t) (kids t)) := by
          intro bad hbad
          obtain ⟨es, ks, r1, r2⟩ := from_l a b c d e f g (leafB t) false ((S25.f3 t).drop 1) (by rw [List.length_drop]; omega) (fun x hx => hs2 x (List.mem_of_mem_drop hx)) [] [] _ 0 bad [] [] rfl (by omega) (by simp) (by simp) (by simp)
          rw [List.drop_zero] at r1 r2
          have eb : (bad || !(((S25.f3 t).drop 1).all (pickB (leafB t)))) = !formB t := by
            rw [hbad, formB, hh]
            show _ = !(true && (_ && ((S25.f3 t).drop 1).all (pickB (leafB t))))
            cases (decide (S25.f1 (at_ t 0) = 1) || decide (S25.f1 (at_ t 0) = 2)) <;> simp
          rw [eb] at r1 r2
          rw [show F37_node_From_l1000011 ((S25.f3 t).drop 1) (((S25.f3 t).drop 1).length : Int) 0 a b c d e f g false bad (leafB t) [] [] [] [] = _ from r1]
          cases hf : formB t with
          | false => simp [endV, ow4]
          | true =>
            obtain ⟨p1, p2⟩ := r2 (by rw [hf]; rfl)
            rw [p1, p2]; rfl
        by_cases c2 : S25.f1 (at_ t 0) = 1
        · rw [if_pos c2]
          exact key false (by simp [c2])
        · rw [if_neg c2]
          exact key (!(decide (S25.f1 (at_ t 0) = 2))) (by simp [c2])
    · rw [if_pos c1, if_neg c1]; rfl
def ow5 (o : Option (Int × Int × ByteArray × List S25 × Int × Unit)) : Option (Int × Int × ByteArray × Int × List S25 × Unit) := o.map fun y => (y.1, y.2.1, y.2.2.1, y.2.2.2.2.1, y.2.2.2.1, ())
theorem nterm_c (a b c d e f g : Int) (q : Bool) (xs : List S47) (ks : List S53) (hx : xs.length ≤ 9223372036854775807) (hy : ∀ y ∈ xs, EntryBound y) (hk : ks.length ≤ 9223372036854775807) :
    F12_node_Term a b c d e f g q xs ks = ow5 (termV a b c d e f g q xs ks) := by
  obtain ⟨q1, q2⟩ := node_eq a b c d e f g q xs ks hx hy hk
  rw [F12_node_Term_eq, q1]
  simp only [Option.bind_some]
  unfold termV
  by_cases c1 : nodeV a b c d e f g q xs ks = 0
  · obtain ⟨n1, n2, n3⟩ := node_n c1
    have n3' : ∀ y ∈ xs, List.length (α := S49) (S47.f1 y) ≤ 100 := fun y hy => by have := n3 y hy; omega
    have hc : ¬ ¬ nodeV a b c d e f g q xs ks = 0 := fun h => h c1
    rw [if_neg hc, if_pos c1]
    rw [tnum, tnum]
    simp only [ofT, Option.bind_some]
    unfold nodeT
    cases q with
    | true =>
      rw [if_pos rfl, if_pos rfl, F25_node_row_27_eq, term_eta]
      have := rowE_l xs (by omega) n3' 0 0 ByteArray.empty [] _ 0 [numT 1] rfl (by omega) (by simp) (by intro x hx; rw [List.mem_singleton] at hx; rw [hx]; exact Tn.num _)
      rw [show F25_node_row_27_l1000003 xs (List.length (α := S47) xs : Int) 0 0 0 ByteArray.empty [numT 1] [] = _ from this]
      rfl
    | false =>
      rw [if_neg (by simp), if_neg (by simp), F32_node_row_33_eq, term_eta]
      have := rowK_l ks (by omega) 0 0 ByteArray.empty [] _ 0 [numT 2] rfl (by omega) (by simp) (by intro x hx; rw [List.mem_singleton] at hx; rw [hx]; exact Tn.num _)
      rw [show F32_node_row_33_l1000003 ks (List.length (α := S53) ks : Int) 0 0 0 ByteArray.empty [numT 2] [] = _ from this]
      rfl
  · rw [if_pos c1, if_neg c1]; rfl
theorem nopen_eq (a b c d e f g k : Int) {s : ByteArray} (hs : s.size ≤ 281474976710656) : F13_node_Open a b c d e f g k s = ow4 (openN a b c d e f g k s) := by
  rw [F13_node_Open_eq, q66, Option.bind_some, unpack_eq k hs]
  unfold openN
  by_cases c1 : quotaOk a b c d e f g = true
  · rw [if_pos c1, if_pos c1, if_neg (by simp)]
    rcases unpackV_is k s with ⟨x, q, _, ho, _⟩ | ⟨e, he, q⟩
    · rw [q, bindE, bindE, if_neg (by simp), if_neg (by simp), from_eq _ _ _ _ _ _ _ ho]
      obtain ⟨q, es, ks, r, h⟩ := fromV_some a b c d e f g x
      rw [etaT, h]; rfl
    · rw [q, bindR, bindR, if_pos he, if_pos he]; rfl
  · rw [if_neg c1, if_neg c1, if_pos (by simp)]; rfl
theorem cap {e : TypeId} {t : Ty} {xs : List (den tab.S t)} {z : Nat} (h : Ok tab Pr (.sl e t) xs) (hz : Pr.bytesOf e = z) : xs.length * z ≤ 140737488351232 := by rw [← hz]; exact (Ok.inv h).1
theorem rcopyE (s : ByteArray) (xs : List S49) (h : xs.length * 40 ≤ 140737488351232) : F21_letheref05_Copy s xs = some (s, xs, ()) := by
  rw [F21_letheref05_Copy_eq, if_pos (by omega), List.nil_append]
def VL (g : List S47) : Prop := ∀ y ∈ g, List.length (α := S49) (S47.f1 y) * 40 ≤ 140737488351232
theorem etaEn (y : S47) : S47.mk (S47.f0 y) (S47.f1 y) = y := rfl
theorem rcopy_l1 (xs : List S47) (hx : xs.length * 40 ≤ 140737488351232) (hv : VL xs) (b b' : Bool) (ks : List S53) (g : List S47) (g' : List S53) : ∀ (n i : Nat), xs.length - i = n → i ≤ xs.length →
    F10_letheref06_Copy_l1000003_1 xs (xs.length : Int) (i : Int) b b' g g' (xs.take i) ks = some (b', xs, ks, ()) := by
  intro n
  induction n with
  | zero =>
    intro i hn hi
    rw [F10_letheref06_Copy_l1000003_1_eq, if_neg (by omega), List.take_of_length_le (by omega)]
  | succ n ih =>
    intro i hn hi
    have h := ih (i + 1) (by omega) (by omega)
    rw [List.take_add_one, List.getElem?_eq_getElem (by omega)] at h
    rw [F10_letheref06_Copy_l1000003_1_eq, if_pos (ilt (by omega)), if_pos (inb (by omega)), rd_lt (by omega : i < xs.length), rcopyE _ _ (hv _ (List.getElem_mem _)), Option.bind_some]
    dsimp only
    rw [if_pos (by simp only [List.length_take, List.length_singleton]; omega), w64s (n := xs.length) (by omega) (by omega)]
    exact h
theorem rcopyN (q : Bool) (xs : List S47) (ks : List S53) (hx : xs.length * 40 ≤ 140737488351232) (hk : ks.length * 48 ≤ 140737488351232) (hv : VL xs) : F10_letheref06_Copy q xs ks = some (q, xs, ks, ()) := by
  rw [F10_letheref06_Copy_eq, if_pos (by omega), List.nil_append, F10_letheref06_Copy_l1000003_eq]
  by_cases h : 0 < xs.length
  · have h1 := rcopy_l1 xs hx hv false q ks [] [] _ 1 rfl (by omega)
    rw [List.take_add_one, List.getElem?_eq_getElem h, List.take_zero] at h1
    rw [if_pos (by omega), if_pos (by omega), show (0 : Int) = ((0 : Nat) : Int) from rfl, rd_lt h, rcopyE _ _ (hv _ (List.getElem_mem _)), Option.bind_some]
    dsimp only
    rw [if_pos (by simp), w64s (n := xs.length) (by omega) (by omega)]
    exact h1
  · rw [if_neg (by omega), List.eq_nil_of_length_eq_zero (l := xs) (by omega)]
def TL (g : List S25) : Prop := ∀ y ∈ g, List.length (α := S25) (S25.f3 y) ≤ bigL
theorem f3_mk (a b : Int) (s : ByteArray) (l : List S25) : S25.f3 (S25.mk a b s l) = l := rfl
theorem sp_10 (s : ByteArray) (a b c d e f g : Int) (q1 : Bool) (x1 : List S47) (k1 : List S53) (q2 : Bool) (x2 : List S47) (k2 : List S53) (t0 t1 : Int) (t2 : ByteArray) (R : Option (Bool × Unit)) (i m cnt : Nat) (hc : cnt ≤ bigL)
    (next : ∀ G : List S25, G.length = m → TL G → F4_lethelaw06_NodeOwn_l1000007 s (m : Int) (IntKind.i64.wrap ((i : Int) + 1)) a b c d e f g q1 x1 k1 q2 x2 k2 t0 t1 t2 G = R) : ∀ (n j : Nat) (G : List S25), cnt - j = n → j ≤ cnt → i < G.length → G.length = m → TL G → List.length (α := S25) (S25.f3 (rd S25.z G (i : Int))) = cnt →
    F4_lethelaw06_NodeOwn_l1000010 s (i : Int) (m : Int) (i : Int) (cnt : Int) (j : Int) a b c d e f g q1 x1 k1 q2 x2 k2 t0 t1 t2 G = R := by
  simp only [bigL] at hc
  intro n
  induction n with
  | zero => intro j G hn hj hi hm hT hl; rw [F4_lethelaw06_NodeOwn_l1000010_eq, if_neg (by omega)]; exact next G hm hT
  | succ n ih =>
    intro j G hn hj hi hm hT hl
    rw [F4_lethelaw06_NodeOwn_l1000010_eq, if_pos (ilt (by omega)), if_pos (inb hi), if_pos (by rw [hl]; exact inb (by omega)), w64s (n := cnt) (by omega) (by omega)]
    dsimp only
    refine ih (j + 1) _ (by omega) (by omega) (by rw [List.length_set]; exact hi) (by rw [List.length_set]; exact hm) ?_ ?_
    · intro y hy
      rcases List.mem_or_eq_of_mem_set hy with hy | hy
      · exact hT y hy
      · rw [hy, f3_mk, List.length_set, hl]; simp only [bigL]; exact hc
    · rw [Int.toNat_natCast, rd_lt (by rw [List.length_set]; exact hi), List.getElem_set_self]
      rw [f3_mk, List.length_set]
      exact hl
theorem sp_7 (s : ByteArray) (a b c d e f g : Int) (q1 : Bool) (x1 : List S47) (k1 : List S53) (q2 : Bool) (x2 : List S47) (k2 : List S53) (t0 t1 : Int) (t2 : ByteArray) (R : Option (Bool × Unit)) (m : Nat) (hm : m ≤ bigL)
    (fin : ∀ G : List S25, F4_lethelaw06_NodeOwn_l1000007 s (m : Int) (m : Int) a b c d e f g q1 x1 k1 q2 x2 k2 t0 t1 t2 G = R) : ∀ (n i : Nat) (G : List S25), m - i = n → i ≤ m → G.length = m → TL G →
    F4_lethelaw06_NodeOwn_l1000007 s (m : Int) (i : Int) a b c d e f g q1 x1 k1 q2 x2 k2 t0 t1 t2 G = R := by
  simp only [bigL] at hm
  intro n
  induction n with
  | zero => intro i G hn hi hG hT; rw [show i = m by omega]; exact fin G
  | succ n ih =>
    intro i G hn hi hG hT
    rw [F4_lethelaw06_NodeOwn_l1000007_eq, if_pos (ilt (by omega)), if_pos (inb (by omega))]
    refine sp_10 s a b c d e f g q1 x1 k1 q2 x2 k2 t0 t1 t2 R i m _ (by rw [rd_lt (by omega : i < G.length)]; exact hT _ (List.getElem_mem _)) (fun G' h1 h2 => ?_) _ 0 G rfl (Nat.zero_le _) (by omega) hG hT rfl
    rw [w64s (n := m) (by omega) (by omega)]
    exact ih (i + 1) G' (by omega) (by omega) h1 h2
theorem sp_28 (v w : Int) (q1 : Bool) (x1 : List S47) (k1 : List S53) (q2 : Bool) (x2 : List S47) (k2 : List S53) (q3 q4 : Bool) (g4 : List S47) (g6 : List S47) (g7 : List S53) (R : Option (Bool × Unit)) (m : Nat) (hm : m ≤ 1000)
    (fin : ∀ G : List S53, F4_lethelaw06_NodeOwn_l1000028 v w (m : Int) (m : Int) q1 x1 k1 q2 x2 k2 q3 q4 g4 G g6 g7 = R) : ∀ (n i : Nat) (G : List S53), m - i = n → i ≤ m → G.length = m →
    F4_lethelaw06_NodeOwn_l1000028 v w (m : Int) (i : Int) q1 x1 k1 q2 x2 k2 q3 q4 g4 G g6 g7 = R := by
  intro n
  induction n with
  | zero => intro i G hn hi hG; rw [show i = m by omega]; exact fin G
  | succ n ih =>
    intro i G hn hi hG
    rw [F4_lethelaw06_NodeOwn_l1000028_eq, if_pos (ilt (by omega)), if_pos (inb (by omega)), w64s (n := m) (by omega) (by omega)]
    dsimp only
    exact ih (i + 1) _ (by omega) (by omega) (by rw [List.length_set]; exact hG)
def EL (g : List S47) : Prop := ∀ y ∈ g, List.length (α := S49) (S47.f1 y) ≤ 1000
theorem sp_21 (v w : Int) (q1 : Bool) (x1 : List S47) (k1 : List S53) (q2 : Bool) (x2 : List S47) (k2 : List S53) (q3 q4 : Bool) (g5 : List S53) (g6 : List S47) (g7 : List S53) (R : Option (Bool × Unit)) (i m cnt : Nat) (hc : cnt ≤ 1000)
    (next : ∀ G : List S47, G.length = m → EL G → F4_lethelaw06_NodeOwn_l1000018 v w (m : Int) (IntKind.i64.wrap ((i : Int) + 1)) q1 x1 k1 q2 x2 k2 q3 q4 G g5 g6 g7 = R) : ∀ (n j : Nat) (G : List S47), cnt - j = n → j ≤ cnt → i < G.length → G.length = m → EL G → List.length (α := S49) (S47.f1 (rd S47.z G (i : Int))) = cnt →
    F4_lethelaw06_NodeOwn_l1000021 v w (i : Int) (m : Int) (i : Int) (cnt : Int) (j : Int) q1 x1 k1 q2 x2 k2 q3 q4 G g5 g6 g7 = R := by
  intro n
  induction n with
  | zero =>
    intro j G hn hj hi hm hT hl
    rw [F4_lethelaw06_NodeOwn_l1000021_eq, if_neg (by omega), if_pos (inb hi)]
    dsimp only
    refine next _ (by rw [List.length_set]; exact hm) (fun y hy => ?_)
    rcases List.mem_or_eq_of_mem_set hy with hy | hy
    · exact hT y hy
    · rw [hy]
      exact Nat.le_trans (Nat.le_of_eq hl) hc
  | succ n ih =>
    intro j G hn hj hi hm hT hl
    rw [F4_lethelaw06_NodeOwn_l1000021_eq, if_pos (ilt (by omega)), if_pos (inb hi), if_pos (by rw [hl]; exact inb (by omega)), w64s (n := cnt) (by omega) (by omega)]
    dsimp only
    refine ih (j + 1) _ (by omega) (by omega) (by rw [List.length_set]; exact hi) (by rw [List.length_set]; exact hm) ?_ ?_
    · intro y hy
      rcases List.mem_or_eq_of_mem_set hy with hy | hy
      · exact hT y hy
      · rw [hy]
        exact Nat.le_trans (Nat.le_of_eq (List.length_set.trans hl)) hc
    · rw [Int.toNat_natCast, rd_lt (by rw [List.length_set]; exact hi), List.getElem_set_self]
      try dsimp only
      rw [List.length_set]
      exact hl
theorem sp_18 (v w : Int) (q1 : Bool) (x1 : List S47) (k1 : List S53) (q2 : Bool) (x2 : List S47) (k2 : List S53) (q3 q4 : Bool) (g5 : List S53) (g6 : List S47) (g7 : List S53) (R : Option (Bool × Unit)) (m : Nat) (hm : m ≤ 1000)
    (fin : ∀ G : List S47, F4_lethelaw06_NodeOwn_l1000018 v w (m : Int) (m : Int) q1 x1 k1 q2 x2 k2 q3 q4 G g5 g6 g7 = R) : ∀ (n i : Nat) (G : List S47), m - i = n → i ≤ m → G.length = m → EL G →
    F4_lethelaw06_NodeOwn_l1000018 v w (m : Int) (i : Int) q1 x1 k1 q2 x2 k2 q3 q4 G g5 g6 g7 = R := by
  intro n
  induction n with
  | zero => intro i G hn hi hG hT; rw [show i = m by omega]; exact fin G
  | succ n ih =>
    intro i G hn hi hG hT
    rw [F4_lethelaw06_NodeOwn_l1000018_eq, if_pos (ilt (by omega)), if_pos (inb (by omega))]
    refine sp_21 v w q1 x1 k1 q2 x2 k2 q3 q4 g5 g6 g7 R i m _ (by rw [rd_lt (by omega : i < G.length)]; exact hT _ (List.getElem_mem _)) (fun G' h1 h2 => ?_) _ 0 G rfl (Nat.zero_le _) (by omega) hG hT rfl
    rw [w64s (n := m) (by omega) (by omega)]
    exact ih (i + 1) G' (by omega) (by omega) h1 h2
theorem law (a b c d e f g : Int) (q : Bool) (xs : List S47) (ks : List S53) (_ : Ok tab Pr (.int .i64) a) (_ : Ok tab Pr (.int .i64) b) (_ : Ok tab Pr (.int .i64) c) (_ : Ok tab Pr (.int .i64) d) (_ : Ok tab Pr (.int .i64) e) (_ : Ok tab Pr (.int .i64) f) (_ : Ok tab Pr (.int .i64) g) (hx : Ok tab Pr (.sl 47 (.st 47)) xs) (hks : Ok tab Pr (.sl 53 (.st 53)) ks) : F4_lethelaw06_NodeOwn a b c d e f g q xs ks = some (true, ()) := by
  have hxe := ents_ok hx
  have hk1 : (Lit.int .u64 1).wf = true := by decide
  have hv : VL xs := by
    intro y hy
    obtain ⟨i, hi, e⟩ := List.getElem_of_mem hy
    have h1 := (Ok.inv hx).2.2 i xs[i] 1 ⟨.sl 49 (.st 49), xs[i].f1⟩ (List.getElem?_eq_getElem hi) rfl
    rw [e] at h1
    exact cap h1 (by kernel_rfl)
  rw [F4_lethelaw06_NodeOwn_eq, rcopyN q xs ks (cap hx (by kernel_rfl)) (cap hks (by kernel_rfl)) hv, Option.bind_some, rnseal_eq _ _ _ _ _ _ _ hk1 q (sl_len hx) hxe (sl_len hks) (kids_ok hks), nterm_c _ _ _ _ _ _ _ q xs ks (sl_len hx) (fun y hy => (hxe y hy).1) (sl_len hks)]
  unfold sealN
  by_cases c1 : nodeV a b c d e f g q xs ks = 0
  · obtain ⟨f1, f2⟩ := fine_node c1 (kids_ok hks) (k := 1) hk1
    have r1 := f1.right (by omega) (by omega)
    have r2 := f2.right (by omega) (by omega)
    obtain ⟨n1, n2, n3⟩ := node_n c1
    have ho := okT.node (q := q) (fun y h => (hxe y h).2) (kids_ok hks) n1 n2 n3
    have hpk : packV 1 (nodeT q xs ks) = some (strB (encT (boxT 1 (nodeT q xs ks))), 0, ()) := by unfold packV; rw [if_pos r1, if_pos r2]
    have hlen := f2.l
    have hq := (node_is c1).1
    have Q := quota_is hq
    have hp : 0 ≤ pageV b c d e ∧ pageV b c d e ≤ 2000 := by
      have m0 : 0 ≤ e * (17 + c + d) := Int.mul_nonneg (by omega) (by omega)
      have m1 : e * (17 + c + d) ≤ 4 * (17 + c + d) := Int.mul_le_mul_of_nonneg_right (by omega) (by omega)
      unfold pageV mx; split <;> omega
    have hs : (strB (encT (boxT 1 (nodeT q xs ks)))).size ≤ 281474976710656 := by rw [size_str]; omega
    have hT : ow5 (termV a b c d e f g q xs ks) = some (S25.f0 (nodeT q xs ks), S25.f1 (nodeT q xs ks), S25.f2 (nodeT q xs ks), 0, S25.f3 (nodeT q xs ks), ()) := by unfold termV; rw [if_pos c1]; rfl
    obtain ⟨ho1, ho2⟩ := ho.sub
    rw [if_pos c1, hpk, Option.bind_some, hT, Option.bind_some]
    dsimp only
    rw [if_neg (by simp), if_neg (by simp), show (0 : Int) = ((0 : Nat) : Int) from rfl]
    refine sp_7 _ a b c d e f g q xs ks q xs ks _ _ _ _ _ ho1 (fun G => ?_) _ 0 _ rfl (Nat.zero_le _) rfl ho2
    rw [F4_lethelaw06_NodeOwn_l1000007_eq, if_neg (by omega), nopen_eq _ _ _ _ _ _ _ 1 hs, seal_open c1 hk1 ho r1 r2, if_pos rfl, ow4_some, Option.bind_some, Option.bind_some]
    dsimp only
    have hE : EL xs := fun y hy => by have := n3 y hy; omega
    rw [show (0 : Int) = ((0 : Nat) : Int) from rfl]
    refine sp_18 _ _ q xs ks q xs ks q q _ _ _ _ xs.length (by omega) (fun G => ?_) _ 0 xs rfl (Nat.zero_le _) rfl hE
    rw [F4_lethelaw06_NodeOwn_l1000018_eq, if_neg (by omega), show (0 : Int) = ((0 : Nat) : Int) from rfl]
    refine sp_28 _ _ q xs ks q xs ks q q _ _ _ _ ks.length (by omega) (fun G => ?_) _ 0 ks rfl (Nat.zero_le _) rfl
    rw [F4_lethelaw06_NodeOwn_l1000028_eq, if_neg (by omega), if_pos (show ((0 : Nat) : Int) = 0 from rfl), if_pos (show ((0 : Nat) : Int) = 0 from rfl), likeN_eq _ _ _ _ _ _ (sl_len hks) (sl_len hx) (fun y hy => (hxe y hy).1), Option.bind_some]
    simp
  · rw [if_neg c1]
    have hT : ow5 (termV a b c d e f g q xs ks) = some (0, 0, ByteArray.empty, nodeV a b c d e f g q xs ks, [], ()) := by unfold termV; rw [if_neg c1]; rfl
    rw [Option.bind_some, hT, Option.bind_some]
    dsimp only
    rw [if_neg (by simp), if_pos c1]
    simp

end
end Go.Proofs.Ytfojcadooepgpaa.NodeOwnp
