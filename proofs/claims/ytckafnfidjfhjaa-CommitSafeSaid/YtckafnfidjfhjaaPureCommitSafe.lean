/- The law CommitSafe, for all arguments. Under no condition. -/
import Derived.Test.YtckafnfidjfhjaaECommitSafe
import Derived.Laws.BitsLemmas
import Derived.Laws.Bits64
set_option linter.unusedVariables false
set_option linter.unusedSimpArgs false
set_option linter.unusedSectionVars false
namespace Go.Proofs.Ytckafnfidjfhjaa.CommitSafep
open Go Go.RowKit Go.Proofs.Ytckafnfidjfhjaa.Rx Go.Proofs.Ytckafnfidjfhjaa.CommitSafex
noncomputable section
theorem w64 {n : Int} (h0 : -9223372036854775808 ≤ n) (h1 : n ≤ 9223372036854775807) : IntKind.i64.wrap n = n := by rw [IntKind.wrap_i64]; omega
theorem w64s {j n : Nat} (h : j < n) (hn : n ≤ 9223372036854775807) : IntKind.i64.wrap ((j : Int) + 1) = ((j + 1 : Nat) : Int) := by rw [w64 (by omega) (by omega)]; omega
theorem w64p {j : Nat} (h : 0 < j) (hn : j ≤ 9223372036854775807) : IntKind.i64.wrap ((j : Int) - 1) = ((j - 1 : Nat) : Int) := by rw [w64 (by omega) (by omega)]; omega
theorem sl_len {e : TypeId} {t : Ty} {xs : List (den tab.S t)} (h : Ok tab Pr (.sl e t) xs) : xs.length ≤ 9223372036854775807 := by
  have := (Ok.inv h).2.1
  simp only [maxLen] at this
  omega
theorem ite_to {α : Type} {p : Prop} [Decidable p] {a b c : α} (h1 : p → a = c) (h2 : ¬ p → b = c) : (if p then a else b) = c := by
  by_cases h : p
  · rw [if_pos h]; exact h1 h
  · rw [if_neg h]; exact h2 h
theorem ob_eq {a b : Bool} (h1 : a = true → b = true) (h2 : b = true → a = true) : (some (a, ()) : Option (Bool × Unit)) = some (b, ()) := by rw [Bool.eq_iff_iff.2 ⟨h1, h2⟩]
theorem oi_eq {a b : Int} (h : a = b) : (some (a, ()) : Option (Int × Unit)) = some (b, ()) := by rw [h]
theorem rd_lt {α : Type} {z : α} {xs : List α} {i : Nat} (h : i < xs.length) : rd z xs (i : Int) = xs[i] := by simp [rd, h]
theorem drop_rd {α : Type} {z : α} {xs : List α} {i : Nat} (h : i < xs.length) : xs.drop i = rd z xs (i : Int) :: xs.drop (i + 1) := by rw [rd_lt h]; exact List.drop_eq_getElem_cons h
theorem inb {i n : Nat} (h : i < n) : (0 : Int) ≤ (i : Int) ∧ (i : Int) < (n : Int) := by omega
theorem ilt {i n : Nat} (h : i < n) : (i : Int) < (n : Int) := by omega
theorem subL_drop {α : Type} (xs : List α) {l : Int} {k : Nat} (h : l = (k : Int)) : subL xs l (xs.length : Int) = xs.drop k := by simp [subL, h]
theorem subL_take {α : Type} (xs : List α) {l : Int} {k : Nat} (h : l = (k : Int)) : subL xs 0 l = xs.take k := by simp [subL, h]

/-! ### terms -/
theorem term_eta (t : S114) : S114.mk (S114.f0 t) (S114.f1 t) (S114.f2 t) (S114.f3 t) = t := by cases t; rfl
@[simp] theorem T_f0 (a b : Int) (s : ByteArray) (l : List S114) : S114.f0 (S114.mk a b s l) = a := rfl
@[simp] theorem T_f1 (a b : Int) (s : ByteArray) (l : List S114) : S114.f1 (S114.mk a b s l) = b := rfl
@[simp] theorem T_f2 (a b : Int) (s : ByteArray) (l : List S114) : S114.f2 (S114.mk a b s l) = s := rfl
@[simp] theorem T_f3 (a b : Int) (s : ByteArray) (l : List S114) : S114.f3 (S114.mk a b s l) = l := rfl
/-- A term with no list that is too long. -/
inductive Tn : S114 → Prop
  | mk (k n : Int) (b : ByteArray) (l : List S114) (h : l.length * 56 ≤ 140737488355328) (hl : ∀ x ∈ l, Tn x) : Tn (S114.mk k n b l)
abbrev T4 := Int × Int × ByteArray × List S114 × Unit
def ofT (t : S114) : Option T4 := some (S114.f0 t, S114.f1 t, S114.f2 t, S114.f3 t, ())

theorem clone_l (l : List S114) (hl : l.length * 56 ≤ 140737488355328) (hc : ∀ x ∈ l, F79_term_clone (S114.f0 x) (S114.f1 x) (S114.f2 x) (S114.f3 x) = ofT x) (k n : Int) (b : ByteArray) (l' : List S114) (o o' : Int) (s : ByteArray) (g : List S114) : ∀ (m i : Nat), l.length - i = m → i ≤ l.length →
    F79_term_clone_l1000003 l (l.length : Int) (i : Int) k n b l' o o' s (l.take i) g = some (k, n, b, l, ()) := by
  intro m
  induction m with
  | zero =>
    intro i hm hi
    rw [F79_term_clone_l1000003_eq, if_neg (by omega), List.take_of_length_le (by omega)]
  | succ m ih =>
    intro i hm hi
    rw [F79_term_clone_l1000003_eq, if_pos (ilt (by omega)), if_pos (inb (by omega)), rd_lt (by omega : i < l.length), hc _ (List.getElem_mem _)]
    show (if _ then _ else none) = _
    rw [if_pos (by simp only [List.length_take, List.length_singleton]; omega), w64s (n := l.length) (by omega) (by omega)]
    have := ih (i + 1) (by omega) (by omega)
    rw [List.take_add_one, List.getElem?_eq_getElem (by omega)] at this
    rw [term_eta]
    exact this
theorem clone_eq {t : S114} (h : Tn t) : F79_term_clone (S114.f0 t) (S114.f1 t) (S114.f2 t) (S114.f3 t) = ofT t := by
  induction h with
  | mk k n b l h hl ih =>
    show F79_term_clone k n b l = some (k, n, b, l, ())
    rw [F79_term_clone_eq]
    exact clone_l l h ih k n b l 0 0 ByteArray.empty [] l.length 0 (by omega) (by omega)

def numT (n : Int) : S114 := S114.mk 1 (IntKind.u64.wrap n) ByteArray.empty []
def atomT (s : ByteArray) : S114 := S114.mk 2 0 s []
def keyT (n : Int) : S114 := S114.mk 3 n ByteArray.empty []
def rowT (l : List S114) : S114 := S114.mk 5 0 ByteArray.empty l
theorem Tn.num (n : Int) : Tn (numT n) := .mk _ _ _ _ (by simp) (fun x hx => by cases hx)
theorem Tn.atom (s : ByteArray) : Tn (atomT s) := .mk _ _ _ _ (by simp) (fun x hx => by cases hx)
theorem Tn.key (n : Int) : Tn (keyT n) := .mk _ _ _ _ (by simp) (fun x hx => by cases hx)
theorem Tn.row {l : List S114} (h : l.length ≤ 1000000) (hl : ∀ x ∈ l, Tn x) : Tn (rowT l) := .mk _ _ _ _ (by omega) hl
theorem tatom (s : ByteArray) : F49_term_Atom s = ofT (atomT s) := by rw [F49_term_Atom_eq]; rfl
theorem tkey (n : Int) : F63_term_Key n = ofT (keyT n) := by rw [F63_term_Key_eq]; rfl
theorem tof {l : List S114} (h : l.length ≤ 1000000) (hl : ∀ x ∈ l, Tn x) : F65_term_Of l = ofT (rowT l) := by
  rw [F65_term_Of_eq, show F79_term_clone 5 0 ByteArray.empty l = ofT (rowT l) from clone_eq (Tn.row h hl)]; rfl
theorem snoc_tn {g : List S114} (hg : ∀ x ∈ g, Tn x) {y : S114} (hy : Tn y) : ∀ x ∈ g ++ [y], Tn x := by
  intro x hx
  rw [List.mem_append, List.mem_singleton] at hx
  rcases hx with h | h
  · exact hg x h
  · rw [h]; exact hy

inductive okT : S114 → Prop
  | mk {x : S114} : (Lit.int .i64 (S114.f0 x)).wf = true → (Lit.int .u64 (S114.f1 x)).wf = true → (S114.f2 x).size ≤ 140737488351232 → (S114.f3 x).length * 56 ≤ 140737488351232 → (S114.f3 x).length ≤ maxLen → (∀ y ∈ S114.f3 x, okT y) → okT x
theorem etaT (x : S114) : (S114.mk (S114.f0 x) (S114.f1 x) (S114.f2 x) (S114.f3 x)) = x := by cases x; rfl
theorem okT.leaf {n f : Int} {s : ByteArray} (h0 : (Lit.int .i64 n).wf = true) (h1 : (Lit.int .u64 f).wf = true) (h2 : s.size ≤ 140737488351232) : okT (S114.mk n f s []) := okT.mk h0 h1 h2 (by show 0 * 56 ≤ _; omega) (by show 0 ≤ _; omega) (fun y hy => by cases hy)
theorem okT.len {x : S114} (h : okT x) : (S114.f3 x).length ≤ 2513169434843 := by
  cases h with
  | mk _ _ _ h3 _ _ => omega
theorem okT.el {x : S114} (h : okT x) : ∀ y ∈ S114.f3 x, okT y := by
  cases h with
  | mk _ _ _ _ _ h5 => exact h5
theorem okT.tn {x : S114} (h : okT x) : Tn x := by
  induction h with
  | @mk x h0 h1 h2 h3 h4 h5 ih => rw [← etaT x]; exact Tn.mk _ _ _ _ (by omega) ih
theorem okT_of (n : Nat) : ∀ x : S114, SizeOf.sizeOf x < n → Ok tab Pr (.int .i64) (S114.f0 x) → Ok tab Pr (.int .u64) (S114.f1 x) → Ok tab Pr .str (S114.f2 x) → Ok tab Pr (.sl 114 (.st 114)) (S114.f3 x) → okT x := by
  induction n with
  | zero => intro x hx; omega
  | succ n ih =>
    intro x hx h0 h1 h2 h3
    have hb := (Ok.inv h3).1
    rw [show Program.bytesOf Pr 114 = 56 by kernel_rfl] at hb
    refine okT.mk (Ok.inv h0) (Ok.inv h1) (Ok.inv h2) ?_ (Ok.inv h3).2.1 (fun y hy => ?_)
    · exact hb
    · obtain ⟨i, hi, rfl⟩ := List.getElem_of_mem hy
      have hs : SizeOf.sizeOf (S114.f3 x)[i] < n := by
        have h9 := List.sizeOf_lt_of_mem hy
        have h8 : SizeOf.sizeOf (S114.f3 x) < SizeOf.sizeOf x := by cases x; simp [S114.f3]; omega
        omega
      have hc := (Ok.inv h3).2.2 i (S114.f3 x)[i]
      exact ih _ hs (hc 0 ⟨.int .i64, _⟩ (List.getElem?_eq_getElem hi) rfl) (hc 1 ⟨.int .u64, _⟩ (List.getElem?_eq_getElem hi) rfl) (hc 2 ⟨.str, _⟩ (List.getElem?_eq_getElem hi) rfl) (hc 3 ⟨.sl 114 (.st 114), _⟩ (List.getElem?_eq_getElem hi) rfl)

theorem wf_u64 {x : Int} (h : (Lit.int .u64 x).wf = true) : 0 ≤ x ∧ x < 18446744073709551616 := by
  simp [Lit.wf, IntKind.min, IntKind.max, IntKind.bits, IntKind.signed] at h
  omega
theorem wf_i64 {x : Int} (h : (Lit.int .i64 x).wf = true) : -9223372036854775808 ≤ x ∧ x ≤ 9223372036854775807 := by
  simp [Lit.wf, IntKind.min, IntKind.max, IntKind.bits, IntKind.signed] at h
  omega
theorem wrap_u64 {n : Int} (h0 : 0 ≤ n) (h1 : n < 18446744073709551616) : IntKind.u64.wrap n = n := by
  have h : IntKind.u64.wrap n = n % 18446744073709551616 := by simp [IntKind.wrap, IntKind.bits, IntKind.signed]
  rw [h]; omega

theorem wf_wrap (n : Int) : (Lit.int .u64 (IntKind.u64.wrap n)).wf = true := by
  have h : IntKind.u64.wrap n = n % 18446744073709551616 := by simp [IntKind.wrap, IntKind.bits, IntKind.signed]
  rw [h]
  simp [Lit.wf, IntKind.min, IntKind.max, IntKind.bits, IntKind.signed]
  omega
theorem okT.num (n : Int) : okT (numT n) := okT.leaf (by decide) (wf_wrap n) (by decide)
theorem okT.atom {s : ByteArray} (h : s.size ≤ 140737488351232) : okT (atomT s) := okT.leaf (by decide) (by decide) h
theorem okT.key {k : Int} (h : (Lit.int .u64 k).wf = true) : okT (keyT k) := okT.leaf (by decide) h (by decide)
theorem okT.row {l : List S114} (h : l.length ≤ 1000) (hl : ∀ x ∈ l, okT x) : okT (rowT l) :=
  okT.mk (show (Lit.int .i64 5).wf = true by decide) (show (Lit.int .u64 0).wf = true by decide) (show ByteArray.empty.size ≤ 140737488351232 by decide) (show l.length * 56 ≤ 140737488351232 by omega) (show l.length ≤ maxLen by simp only [maxLen]; omega) hl

/-! ### strings as lists of numbers -/
/-- A list of bytes. -/
def AllB (l : List Int) : Prop := ∀ c ∈ l, 0 ≤ c ∧ c ≤ 255
theorem AllB.nil : AllB [] := fun _ h => by simp at h
theorem AllB.cons {c : Int} {l : List Int} (h : 0 ≤ c ∧ c ≤ 255) (hl : AllB l) : AllB (c :: l) := fun x hx => by
  rcases List.mem_cons.1 hx with rfl | hx
  · exact h
  · exact hl x hx
theorem AllB.app {a b : List Int} (ha : AllB a) (hb : AllB b) : AllB (a ++ b) := fun x hx => by
  rcases List.mem_append.1 hx with hx | hx
  · exact ha x hx
  · exact hb x hx
theorem AllB.take {a : List Int} (ha : AllB a) (n : Nat) : AllB (a.take n) := fun x hx => ha x (List.mem_of_mem_take hx)
theorem AllB.drop {a : List Int} (ha : AllB a) (n : Nat) : AllB (a.drop n) := fun x hx => ha x (List.mem_of_mem_drop hx)
theorem AllB.of_bytes (s : ByteArray) : AllB (bytesOf s) := fun x hx => by
  obtain ⟨b, _, rfl⟩ := List.mem_map.1 hx
  have := b.toNat_lt
  omega
theorem bytesOf_str {l : List Int} (h : AllB l) : bytesOf (strB l) = l := by
  unfold bytesOf strB
  simp only [List.map_map]
  rw [show (List.map ((fun b : UInt8 => (b.toNat : Int)) ∘ fun n : Int => UInt8.ofNat n.toNat) l) = List.map id l from List.map_congr_left (fun x hx => by
    have := h x hx
    simp only [Function.comp, id, UInt8.toNat_ofNat']
    omega)]
  simp
theorem str_bytesOf (s : ByteArray) : strB (bytesOf s) = s := by
  unfold bytesOf strB
  simp only [List.map_map]
  rw [show (List.map ((fun n : Int => UInt8.ofNat n.toNat) ∘ fun b : UInt8 => (b.toNat : Int)) s.data.toList) = List.map id s.data.toList from List.map_congr_left (fun x hx => by
    simp [Function.comp])]
  simp
theorem bytesOf_inj {a b : ByteArray} (h : bytesOf a = bytesOf b) : a = b := by rw [← str_bytesOf a, ← str_bytesOf b, h]
theorem bytesOf_append (a b : ByteArray) : bytesOf (a ++ b) = bytesOf a ++ bytesOf b := by simp [bytesOf]
theorem bytesOf_extract (a : ByteArray) (i j : Nat) : bytesOf (a.extract i j) = ((bytesOf a).take j).drop i := by
  simp [bytesOf, List.extract_eq_take_drop, List.map_take, List.map_drop, List.drop_take]
theorem bytesOf_empty : bytesOf ByteArray.empty = [] := rfl
theorem bytesOf_length (s : ByteArray) : (bytesOf s).length = s.size := by rw [bytesOf, List.length_map, Array.length_toList]; rfl
theorem size_bytesOf (s : ByteArray) : s.size = (bytesOf s).length := (bytesOf_length s).symm
theorem size_str (l : List Int) : (strB l).size = l.length := by simp [strB, ByteArray.size]
theorem str_append (a b : List Int) : strB (a ++ b) = strB a ++ strB b := by
  apply ByteArray.ext
  simp [strB]
theorem str_take (l : List Int) (j : Nat) : (strB l).extract 0 j = strB (l.take j) := by
  apply ByteArray.ext
  simp [strB, List.map_take]


/-! ### whether a term may be -/
mutual
def parts : S114 → Nat
  | ⟨_, _, _, l⟩ => 1 + partsL l
def partsL : List S114 → Nat
  | [] => 0
  | x :: t => parts x + partsL t
end
mutual
def depth : S114 → Nat
  | ⟨_, _, _, l⟩ => 1 + depthL l
def depthL : List S114 → Nat
  | [] => 0
  | x :: t => max (depth x) (depthL t)
end
/-- The shape of a term by itself. -/
def one (n f : Int) (s : ByteArray) (len : Nat) : Bool :=
  if n = 1 ∨ n = 3 then decide (bytesOf s = [] ∧ len = 0) else if n = 2 then decide (f = 0 ∧ s.size ≤ 4000 ∧ len = 0) else if n = 4 then decide (bytesOf s = [] ∧ len = 1) else if n = 5 then decide (f = 0 ∧ bytesOf s = []) else false
mutual
def shp : S114 → Bool
  | ⟨n, f, s, l⟩ => one n f s l.length && shpL l
def shpL : List S114 → Bool
  | [] => true
  | x :: t => shp x && shpL t
end
theorem str_nil_iff {s : ByteArray} : bytesOf s = [] ↔ s = ByteArray.empty := ⟨fun h => bytesOf_inj (by rw [h]; rfl), fun h => by rw [h]; rfl⟩
theorem beqd (a b : Int) : (a == b) = decide (a = b) := by rw [Bool.eq_iff_iff, beq_iff_eq, decide_eq_true_eq]
theorem parts_eq (x : S114) : parts x = 1 + partsL x.f3 := by cases x; rw [parts]; rfl
theorem depth_eq (x : S114) : depth x = 1 + depthL x.f3 := by cases x; rw [depth]; rfl
theorem shp_eq (x : S114) : shp x = (one x.f0 x.f1 x.f2 x.f3.length && shpL x.f3) := by cases x; rw [shp]; rfl
theorem shp_mk (n f : Int) (s : ByteArray) (l : List S114) : shp (S114.mk n f s l) = (one n f s l.length && shpL l) := by rw [shp]
theorem parts_pos (x : S114) : 1 ≤ parts x := by rw [parts_eq]; omega
theorem depth_pos (x : S114) : 1 ≤ depth x := by rw [depth_eq]; omega
def rightT (x : S114) : Int := if 4000 < parts x then 23 else if 12 < depth x then 22 else if shp x = true then 0 else 25

theorem right_is {x : S114} (hr : rightT x = 0) : parts x ≤ 4000 ∧ depth x ≤ 12 ∧ shp x = true := by
  unfold rightT at hr
  split at hr
  · simp at hr
  · split at hr
    · simp at hr
    · split at hr
      · rename_i c1 c2 c3
        exact ⟨by omega, by omega, c3⟩
      · simp at hr


theorem shp_in {x : S114} (h : shp x = true) {y : S114} (hy : y ∈ S114.f3 x) : shp y = true := by
  rw [shp_eq, Bool.and_eq_true] at h
  have : ∀ l : List S114, shpL l = true → y ∈ l → shp y = true := by
    intro l
    induction l with
    | nil => intro _ hy; cases hy
    | cons z l ih =>
      intro h hy
      simp only [shpL, Bool.and_eq_true] at h
      cases hy with
      | head => exact h.1
      | tail _ hy => exact ih h.2 hy
  exact this _ h.2 hy
theorem shp_num {x : S114} (h : shp x = true) (h0 : S114.f0 x = 1) : x = S114.mk 1 (S114.f1 x) ByteArray.empty [] := by
  rw [shp_eq, Bool.and_eq_true, h0] at h
  have := h.1
  simp [one, str_nil_iff] at this
  rw [← etaT x, h0, this.1, this.2]; rfl
theorem shp_key {x : S114} (h : shp x = true) (h0 : S114.f0 x = 3) : x = keyT (S114.f1 x) := by
  rw [shp_eq, Bool.and_eq_true, h0] at h
  have := h.1
  simp [one, str_nil_iff] at this
  rw [← etaT x, h0, this.1, this.2]; rfl
theorem shp_atom {x : S114} (h : shp x = true) (h0 : S114.f0 x = 2) : x = atomT (S114.f2 x) := by
  rw [shp_eq, Bool.and_eq_true, h0] at h
  have := h.1
  simp [one] at this
  rw [← etaT x, h0, this.1, this.2.2]; rfl
theorem shp_row {x : S114} (h : shp x = true) (h0 : S114.f0 x = 5) : x = rowT (S114.f3 x) := by
  rw [shp_eq, Bool.and_eq_true, h0] at h
  have := h.1
  simp [one, str_nil_iff] at this
  rw [← etaT x, h0, this.1, this.2]; rfl

def refOk (b c d : Int) : Bool := decide (0 ≤ b ∧ b ≤ 1048576 ∧ 0 ≤ c ∧ c ≤ 134217728 ∧ 1 ≤ d ∧ d ≤ 1048576)
theorem ref_eq (a b c d : Int) : F61_node_RefRight a b c d = some (refOk b c d, ()) ∧ F25_letheref06_RefRight a b c d = some (refOk b c d, ()) := by
  rw [F61_node_RefRight_eq, F25_letheref06_RefRight_eq]
  constructor
  all_goals repeat' (refine ite_to (fun _ => ?_) (fun _ => ?_))
  all_goals (apply ob_eq <;> intro hh <;> simp only [refOk, decide_eq_true_eq, Bool.false_eq_true] at hh ⊢ <;> omega)

/-! ### numbers in sevens -/
/-- A number in sevens. -/
def putN (n : Nat) : List Int := if h : n < 128 then [(n : Int)] else ((n % 128 + 128 : Nat) : Int) :: putN (n / 128)
termination_by n
decreasing_by omega
theorem putN_lt {n : Nat} (h : n < 128) : putN n = [(n : Int)] := by rw [putN, dif_pos h]
theorem putN_ge {n : Nat} (h : ¬ n < 128) : putN n = ((n % 128 + 128 : Nat) : Int) :: putN (n / 128) := by rw [putN, dif_neg h]
/-- Reading: i bytes were read ahead, worth acc. -/
def getN : Nat → Nat → List Int → Int × Int × Int
  | _, _, [] => (0, 0, 20)
  | i, acc, c :: t => if i = 9 ∧ c > 1 then (0, 0, 21) else if c < 128 then (if c = 0 ∧ 0 < i then (0, 0, 21) else (((acc + c.toNat * 128 ^ i : Nat) : Int), ((i + 1 : Nat) : Int), 0)) else getN (i + 1) (acc + (c.toNat - 128) * 128 ^ i) t
def IsByte (c : Int) : Prop := 0 ≤ c ∧ c ≤ 255

theorem strB_append (xs : List Int) (n : Nat) : ∀ (ys : List Int), (xs ++ [(n : Int)]) ++ ys = xs ++ (((n : Int)) :: ys) := by simp
theorem big64 {n : Nat} (h : n < 18446744073709551616) : n < 128 ^ (100 - ([] : List Int).length) := Nat.lt_of_lt_of_le h (by decide)
theorem wraps_u64 (n : Int) (h₀ : 0 ≤ n) (h₁ : n < 2 ^ 64) : IntKind.u64.wrap n = n := by rw [IntKind.wrap_u64]; omega
theorem or_low (a b i : Nat) (hi : i ≤ 63) (ha : a < 2 ^ i) (hb : b * 2 ^ i < 18446744073709551616) : bitsR .or .u64 (a : Int) ((b * 2 ^ i : Nat) : Int) = ((a + b * 2 ^ i : Nat) : Int) := by
  have ha' : a < 2 ^ 64 := Nat.lt_of_lt_of_le ha (Nat.pow_le_pow_right (by decide) (by omega))
  rw [show bitsR .or .u64 (a : Int) ((b * 2 ^ i : Nat) : Int) = _ from (bits_nat .u64 64 (by decide) wraps_u64 a (b * 2 ^ i) ha' hb).2]
  congr 1
  rw [Nat.or_comm, Nat.mul_comm b, ← Nat.two_pow_add_eq_or_of_lt ha b, Nat.add_comm]
theorem and127 (c : Int) (h0 : 0 ≤ c) (h1 : c ≤ 255) : bitsR .and .u8 c 127 = c % 128 := bits_mask .u8 8 (by decide) wraps_u8 7 (by decide) c h0 (by omega)
theorem or7 (acc i : Nat) (c : Int) (h0 : 0 ≤ c) (h1 : c ≤ 255) (hi : i ≤ 9) (hacc : acc < 128 ^ i) (h9 : i = 9 → c ≤ 1) :
    bitsR .or .u64 (acc : Int) (shlR .u64 (IntKind.u64.wrap (bitsR .and .u8 c 127)) (IntKind.u64.wrap (IntKind.i64.wrap (7 * (i : Int))))) = ((acc + (c.toNat % 128) * 128 ^ i : Nat) : Int) := by
  rw [and127 c h0 h1, w64 (by omega) (by omega), wraps_u64 (7 * (i : Int)) (by omega) (by omega), wraps_u64 (c % 128) (by omega) (by omega)]
  have hp : 128 ^ i = 2 ^ (7 * i) := by rw [Nat.pow_mul]
  have hb : (c.toNat % 128) * 2 ^ (7 * i) < 18446744073709551616 := by
    rw [← hp]
    rcases Nat.lt_or_ge i 9 with h | h
    · have h2 : 128 ^ i ≤ 128 ^ 8 := Nat.pow_le_pow_right (by decide) (by omega)
      have h3 : (c.toNat % 128) * 128 ^ i ≤ 127 * 128 ^ 8 := Nat.mul_le_mul (by omega) h2
      exact Nat.lt_of_le_of_lt h3 (by decide)
    · obtain rfl : i = 9 := by omega
      have h3 := h9 rfl
      have h4 : (c.toNat % 128) * 128 ^ 9 ≤ 1 * 128 ^ 9 := Nat.mul_le_mul (by omega) (Nat.le_refl _)
      exact Nat.lt_of_le_of_lt h4 (by decide)
  have hs : shlR .u64 (c % 128) (7 * (i : Int)) = (((c.toNat % 128) * 2 ^ (7 * i) : Nat) : Int) := by
    unfold shlR
    rw [show (7 * (i : Int)).toNat = 7 * i from by omega, Nat.min_eq_left (show 7 * i ≤ IntKind.u64.bits from by show 7 * i ≤ 64; omega)]
    rw [show (c % 128) = ((c.toNat % 128 : Nat) : Int) from by omega]
    have : (((c.toNat % 128 : Nat) : Int) * 2 ^ (7 * i)) = (((c.toNat % 128) * 2 ^ (7 * i) : Nat) : Int) := by simp
    rw [this]
    exact wraps_u64 _ (by omega) (by exact_mod_cast hb)
  rw [hs, or_low acc _ (7 * i) (by omega) (by rw [← hp]; exact hacc) hb, hp]
theorem bt_eq {s : ByteArray} {j : Nat} (h : j < s.size) : bt s (j : Int) = (bytesOf s)[j]'(by rw [bytesOf_length]; exact h) := by
  unfold bt bytesOf
  rw [dif_pos (by simpa using h)]
  simp only [List.getElem_map, Int.toNat_natCast]
  rfl
theorem bt_byte (s : ByteArray) (i : Int) : IsByte (bt s i) := by
  unfold bt IsByte
  split
  · rename_i h; have := (s[i.toNat]'h).toNat_lt; omega
  · omega
theorem bytes_drop {s : ByteArray} {j : Nat} (h : j < s.size) : (bytesOf s).drop j = bt s (j : Int) :: (bytesOf s).drop (j + 1) := by
  have hl : j < (bytesOf s).length := by rw [bytesOf_length]; exact h
  rw [List.drop_eq_getElem_cons hl, bt_eq h]
theorem shr7 {c : Int} (h0 : 0 ≤ c) (k : IntKind) (hk : 7 ≤ k.bits) : shrR k c 7 = c / 128 := by
  unfold shrR
  rw [show (7 : Int).toNat = 7 from rfl, Nat.min_eq_left hk, Int.fdiv_eq_ediv_of_nonneg _ (by decide)]
  rfl
theorem or128 (n : Nat) : bitsR .or .u8 (IntKind.u8.wrap (n : Int)) 128 = ((n % 128 + 128 : Nat) : Int) := by
  have e3 : IntKind.u8.wrap (n : Int) = ((n % 256 : Nat) : Int) := by rw [IntKind.wrap_u8]; omega
  have e4 : bitsR .or .u8 ((n % 256 : Nat) : Int) ((128 : Nat) : Int) = (((n % 256) ||| 128 : Nat) : Int) := (bits_nat .u8 8 (by decide) wraps_u8 (n % 256) 128 (by omega) (by decide)).2
  rw [e3, show (128 : Int) = ((128 : Nat) : Int) from rfl, e4]
  congr 1
  have key : ∀ m : Fin 256, (m.val ||| 128) = m.val % 128 + 128 := by decide +kernel
  have := key ⟨n % 256, by omega⟩
  simp only at this
  rw [this]
  omega
theorem u8_small {n : Nat} (h : n < 256) : IntKind.u8.wrap (n : Int) = (n : Int) := by rw [IntKind.wrap_u8]; omega
theorem ref7 (acc i : Nat) (c : Int) (h0 : 0 ≤ c) (h1 : c ≤ 255) (hi : i ≤ 9) (hacc : acc < 128 ^ i) (h9 : i = 9 → c ≤ 1) :
    IntKind.u64.wrap ((acc : Int) + (IntKind.u64.wrap ((IntKind.u64.wrap (Int.tmod c 128)) * ((128 ^ i : Nat) : Int)))) = ((acc + (c.toNat % 128) * 128 ^ i : Nat) : Int) := by
  have e0 : Int.tmod c 128 = ((c.toNat % 128 : Nat) : Int) := by rw [Int.tmod_eq_emod_of_nonneg h0]; omega
  rw [e0, wraps_u64 ((c.toNat % 128 : Nat) : Int) (by omega) (by omega)]
  have hb : acc + (c.toNat % 128) * 128 ^ i < 18446744073709551616 := by
    rcases Nat.lt_or_ge i 9 with h | h
    · have h2 : 128 ^ i ≤ 128 ^ 8 := Nat.pow_le_pow_right (by decide) (by omega)
      have h3 : (c.toNat % 128) * 128 ^ i ≤ 127 * 128 ^ 8 := Nat.mul_le_mul (by omega) h2
      have h4 : (127 * 128 ^ 8 + 128 ^ 8 : Nat) < 18446744073709551616 := by decide
      omega
    · obtain rfl : i = 9 := by omega
      have h3 := h9 rfl
      have h4 : (c.toNat % 128) * 128 ^ 9 ≤ 1 * 128 ^ 9 := Nat.mul_le_mul (by omega) (Nat.le_refl _)
      have h5 : (1 * 128 ^ 9 + 128 ^ 9 : Nat) ≤ 18446744073709551616 := by decide
      omega
  have e1 : (((c.toNat % 128 : Nat) : Int) * ((128 ^ i : Nat) : Int)) = (((c.toNat % 128) * 128 ^ i : Nat) : Int) := by rw [Int.natCast_mul]
  rw [e1, wraps_u64 (((c.toNat % 128) * 128 ^ i : Nat) : Int) (by omega) (by omega), wraps_u64 _ (by omega) (by omega)]
  omega
theorem putN_B (n : Nat) : AllB (putN n) := by
  induction n using Nat.strongRecOn with
  | _ n ih =>
    by_cases h : n < 128
    · rw [putN_lt h]
      exact AllB.cons (by omega) AllB.nil
    · rw [putN_ge h]
      exact AllB.cons (by omega) (ih _ (by omega))
theorem putN_pos (n : Nat) : 1 ≤ (putN n).length := by
  by_cases h : n < 128
  · rw [putN_lt h]; simp
  · rw [putN_ge h]; simp
theorem putN_len (k : Nat) : ∀ n, n < 128 ^ k → 1 ≤ k → (putN n).length ≤ k := by
  induction k with
  | zero => intro n _ h; omega
  | succ k ih =>
    intro n hn _
    by_cases h : n < 128
    · rw [putN_lt h]; simp
    · rw [putN_ge h]
      have h1 : n / 128 < 128 ^ k := by rw [Nat.pow_succ] at hn; omega
      have h2 : 1 ≤ k := by
        rcases Nat.eq_zero_or_pos k with rfl | h3
        · simp at h1; omega
        · exact h3
      simpa using ih _ h1 h2
theorem putN_len10 {n : Nat} (h : n < 18446744073709551616) : (putN n).length ≤ 10 := putN_len 10 n (Nat.lt_of_lt_of_le h (by decide)) (by omega)
/-- What is written reads back, whatever comes after. -/
theorem get_put (n : Nat) : ∀ (i acc : Nat) (more : List Int), n * 128 ^ i < 18446744073709551616 → (i = 0 ∨ 0 < n) → getN i acc (putN n ++ more) = (((acc + n * 128 ^ i : Nat) : Int), ((i + (putN n).length : Nat) : Int), 0) := by
  induction n using Nat.strongRecOn with
  | _ n ih =>
    intro i acc more hb hi
    have h9 : i = 9 → n ≤ 1 := by
      intro h
      subst h
      rcases Nat.lt_or_ge 1 n with h2 | h2
      · have h3 : 2 * 128 ^ 9 ≤ n * 128 ^ 9 := Nat.mul_le_mul (by omega) (Nat.le_refl _)
        have h4 : (2 * 128 ^ 9 : Nat) = 18446744073709551616 := by decide
        omega
      · exact h2
    by_cases h : n < 128
    · rw [putN_lt h]
      have c1 : ¬ (i = 9 ∧ ((n : Nat) : Int) > 1) := by omega
      have c2 : ((n : Nat) : Int) < 128 := by omega
      have c3 : ¬ (((n : Nat) : Int) = 0 ∧ 0 < i) := by omega
      simp only [List.cons_append, List.nil_append, getN, if_neg c1, if_pos c2, if_neg c3, Int.toNat_natCast, List.length_singleton]
    · rw [putN_ge h]
      have c1 : ¬ (i = 9 ∧ ((n % 128 + 128 : Nat) : Int) > 1) := by omega
      have c2 : ¬ ((n % 128 + 128 : Nat) : Int) < 128 := by omega
      simp only [List.cons_append, getN, if_neg c1, if_neg c2, Int.toNat_natCast, List.length_cons]
      have e1 : n % 128 + 128 - 128 = n % 128 := by omega
      have e2 : n / 128 * 128 ^ (i + 1) + n % 128 * 128 ^ i = n * 128 ^ i := by
        rw [Nat.pow_succ, ← Nat.mul_assoc, Nat.mul_right_comm, ← Nat.add_mul, Nat.div_add_mod' n 128]
      rw [e1, ih (n / 128) (by omega) (i + 1) _ more (by omega) (by omega)]
      have e3 : acc + n % 128 * 128 ^ i + n / 128 * 128 ^ (i + 1) = acc + n * 128 ^ i := by omega
      have e4 : i + 1 + (putN (n / 128)).length = i + ((putN (n / 128)).length + 1) := by omega
      rw [e3, e4]
/-- A part cut short is short. -/
theorem get_cut (n : Nat) : ∀ (i acc m : Nat), n * 128 ^ i < 18446744073709551616 → m < (putN n).length → getN i acc ((putN n).take m) = (0, 0, 20) := by
  induction n using Nat.strongRecOn with
  | _ n ih =>
    intro i acc m hb hm
    by_cases h : n < 128
    · rw [putN_lt h] at hm ⊢
      have : m = 0 := by simpa using hm
      subst this
      rfl
    · rw [putN_ge h] at hm ⊢
      cases m with
      | zero => rfl
      | succ m =>
        have h9 : ¬ i = 9 := by
          intro h9
          subst h9
          have h3 : 128 * 128 ^ 9 ≤ n * 128 ^ 9 := Nat.mul_le_mul (by omega) (Nat.le_refl _)
          have h4 : (18446744073709551616 : Nat) ≤ 128 * 128 ^ 9 := by decide
          omega
        have c1 : ¬ (i = 9 ∧ ((n % 128 + 128 : Nat) : Int) > 1) := fun h => h9 h.1
        have c2 : ¬ ((n % 128 + 128 : Nat) : Int) < 128 := by omega
        simp only [List.take_succ_cons, getN, if_neg c1, if_neg c2]
        have e2 : n / 128 * 128 ^ (i + 1) + n % 128 * 128 ^ i = n * 128 ^ i := by
          rw [Nat.pow_succ, ← Nat.mul_assoc, Nat.mul_right_comm, ← Nat.add_mul, Nat.div_add_mod' n 128]
        exact ih _ (by omega) _ _ _ (by omega) (by simpa using hm)
/-- What reads was so written. -/
theorem get_is (l : List Int) : ∀ (i acc : Nat), AllB l → i ≤ 9 →
    (∃ n more, l = putN n ++ more ∧ n < 128 ^ (9 - i) * 2 ∧ (i = 0 ∨ 0 < n) ∧ getN i acc l = (((acc + n * 128 ^ i : Nat) : Int), ((i + (putN n).length : Nat) : Int), 0)) ∨ getN i acc l = (0, 0, 20) ∨ getN i acc l = (0, 0, 21) := by
  induction l with
  | nil => intro i acc _ _; exact .inr (.inl rfl)
  | cons c t ih =>
    intro i acc hB hi
    have hc := hB c (by simp)
    by_cases h1 : i = 9 ∧ c > 1
    · exact .inr (.inr (by simp only [getN, if_pos h1]))
    · by_cases h2 : c < 128
      · by_cases h3 : c = 0 ∧ 0 < i
        · exact .inr (.inr (by simp only [getN, if_neg h1, if_pos h2, if_pos h3]))
        · refine .inl ⟨c.toNat, t, ?_, ?_, by omega, ?_⟩
          · rw [putN_lt (by omega)]
            simp
            omega
          · rcases Nat.lt_or_ge i 9 with h4 | h4
            · have h5 : 128 ^ 1 ≤ 128 ^ (9 - i) := Nat.pow_le_pow_right (by decide) (by omega)
              omega
            · obtain rfl : i = 9 := by omega
              simp
              omega
          · simp only [getN, if_neg h1, if_pos h2, if_neg h3]
            rw [putN_lt (by omega)]
            rfl
      · have h4 : i < 9 := by omega
        have e : getN i acc (c :: t) = getN (i + 1) (acc + (c.toNat - 128) * 128 ^ i) t := by simp only [getN, if_neg h1, if_neg h2]
        rw [e]
        rcases ih (i + 1) (acc + (c.toNat - 128) * 128 ^ i) (fun x hx => hB x (by simp [hx])) (by omega) with ⟨n, more, h5, h6, h7, h8⟩ | h5 | h5
        · refine .inl ⟨(c.toNat - 128) + 128 * n, more, ?_, ?_, by omega, ?_⟩
          · rw [putN_ge (by omega), h5]
            rw [show (c.toNat - 128 + 128 * n) / 128 = n from by omega, show (c.toNat - 128 + 128 * n) % 128 + 128 = c.toNat from by omega]
            simp
            omega
          · have h9 : 128 ^ (9 - i) = 128 ^ (9 - (i + 1)) * 128 := by rw [← Nat.pow_succ]; congr 1; omega
            rw [h9]
            omega
          · rw [h8, putN_ge (n := c.toNat - 128 + 128 * n) (by omega), show (c.toNat - 128 + 128 * n) / 128 = n from by omega]
            have e2 : (c.toNat - 128 + 128 * n) * 128 ^ i = (c.toNat - 128) * 128 ^ i + n * 128 ^ (i + 1) := by rw [Nat.add_mul, Nat.pow_succ]; congr 1; rw [Nat.mul_comm 128 n, Nat.mul_assoc, Nat.mul_comm 128]
            rw [e2, List.length_cons]
            have e3 : acc + (c.toNat - 128) * 128 ^ i + n * 128 ^ (i + 1) = acc + ((c.toNat - 128) * 128 ^ i + n * 128 ^ (i + 1)) := by omega
            have e4 : i + 1 + (putN n).length = i + ((putN n).length + 1) := by omega
            rw [e3, e4]
        · exact .inr (.inl h5)
        · exact .inr (.inr h5)
/-- What reads was so written: from the start. -/
theorem get_is0 {l : List Int} (hB : AllB l) : (∃ n more, l = putN n ++ more ∧ n < 18446744073709551616 ∧ getN 0 0 l = ((n : Int), ((putN n).length : Int), 0)) ∨ getN 0 0 l = (0, 0, 20) ∨ getN 0 0 l = (0, 0, 21) := by
  rcases get_is l 0 0 hB (by omega) with ⟨n, more, h1, h2, _, h3⟩ | h | h
  · refine .inl ⟨n, more, h1, Nat.lt_of_lt_of_le h2 (by decide), ?_⟩
    rw [h3]
    simp
  · exact .inr (.inl h)
  · exact .inr (.inr h)
theorem get_put0 {n : Nat} (h : n < 18446744073709551616) (more : List Int) : getN 0 0 (putN n ++ more) = ((n : Int), ((putN n).length : Int), 0) := by
  rw [get_put n 0 0 more (by simpa using h) (.inl rfl)]
  simp
theorem get_cut0 {n m : Nat} (h : n < 18446744073709551616) (hm : m < (putN n).length) : getN 0 0 ((putN n).take m) = (0, 0, 20) := get_cut n 0 0 m (by simpa using h) hm


/-! ### bytes of terms -/
/-- The first bytes of a term: its sort, and the number behind it, and an atom's own bytes. -/
def hd (n f : Int) (s : ByteArray) (len : Nat) : List Int :=
  (n % 256) :: (if n = 1 ∨ n = 3 ∨ n = 4 then putN f.toNat else if n = 2 then putN s.size ++ bytesOf s else if n = 5 then putN len else [])
mutual
def encT : S114 → List Int
  | ⟨n, f, s, l⟩ => hd n f s l.length ++ encL l
def encL : List S114 → List Int
  | [] => []
  | x :: t => encT x ++ encL t
end
theorem encT_eq (x : S114) : encT x = hd x.f0 x.f1 x.f2 x.f3.length ++ encL x.f3 := by cases x; rw [encT]; rfl
theorem encT_mk (n f : Int) (s : ByteArray) (l : List S114) : encT (S114.mk n f s l) = hd n f s l.length ++ encL l := by rw [encT]
theorem hd_B (n f : Int) (s : ByteArray) (len : Nat) : AllB (hd n f s len) := by
  unfold hd
  refine AllB.cons (by omega) ?_
  split
  · exact putN_B _
  · split
    · exact (putN_B _).app (AllB.of_bytes s)
    · split
      · exact putN_B _
      · exact AllB.nil
theorem encL_B (l : List S114) (ih : ∀ y ∈ l, AllB (encT y)) : AllB (encL l) := by
  induction l with
  | nil => rw [encL]; exact AllB.nil
  | cons x t iht =>
    rw [encL]
    exact (ih x (by simp)).app (iht (fun y hy => ih y (by simp [hy])))
theorem encT_B {x : S114} (h : okT x) : AllB (encT x) := by
  induction h with
  | @mk x h0 h1 h2 h3 h4 h5 ih =>
    rw [encT_eq]
    exact (hd_B _ _ _ _).app (encL_B _ ih)
theorem hd_len {n f : Int} {s : ByteArray} {len : Nat} (h0 : 0 ≤ f ∧ f < 18446744073709551616) (h1 : len ≤ 2513169434843) (h : one n f s len = true) : (hd n f s len).length ≤ 4011 := by
  unfold hd
  unfold one at h
  rw [List.length_cons]
  have e1 : (putN f.toNat).length ≤ 10 := putN_len10 (by omega)
  have e2 : (putN len).length ≤ 10 := putN_len10 (by omega)
  split
  · omega
  · rename_i c
    split
    · rename_i c2
      rw [if_neg (by omega), if_pos c2, decide_eq_true_eq] at h
      have e3 : (putN s.size).length ≤ 10 := putN_len10 (by omega)
      rw [List.length_append, bytesOf_length]
      omega
    · split
      · omega
      · simp
theorem encL_len (l : List S114) (ih : ∀ y ∈ l, shp y = true → (encT y).length ≤ parts y * 4011) (h : shpL l = true) : (encL l).length ≤ partsL l * 4011 := by
  induction l with
  | nil => rw [encL]; simp
  | cons x t iht =>
    rw [shpL, Bool.and_eq_true] at h
    rw [encL, partsL, List.length_append]
    have a := ih x (by simp) h.1
    have b := iht (fun y hy => ih y (by simp [hy])) h.2
    omega
theorem encT_len {x : S114} (h : okT x) (hs : shp x = true) : (encT x).length ≤ parts x * 4011 := by
  revert hs
  induction h with
  | @mk x h0 h1 h2 h3 h4 h5 ih =>
    intro hs
    rw [shp_eq, Bool.and_eq_true] at hs
    rw [encT_eq, parts_eq, List.length_append]
    have a := hd_len (wf_u64 h1) (by omega) hs.1
    have b := encL_len _ ih hs.2
    omega
theorem right_len {x : S114} (h : okT x) (hr : rightT x = 0) : (encT x).length ≤ 16044000 := by
  unfold rightT at hr
  split at hr
  · simp at hr
  · split at hr
    · simp at hr
    · split at hr
      · rename_i c1 c2 c3
        have := encT_len h c3
        omega
      · simp at hr
/-- The bytes of a term, and why there are none. -/
def encode (x : S114) : ByteArray × Int := if rightT x = 0 then (strB (encT x), 0) else (ByteArray.empty, rightT x)


theorem put_l (n : Nat) : ∀ (xs : List Int), n < 18446744073709551616 → xs.length + 100 < 140737488355328 → n < 128 ^ (100 - xs.length) → xs.length ≤ 99 → F105_term_PutNum_l1000002 (n : Int) xs = some (strB (xs ++ putN n), ()) := by
  induction n using Nat.strongRecOn with
  | _ n ih =>
    intro xs h64 hx hn hx2
    rw [F105_term_PutNum_l1000002_eq]
    by_cases h : n < 128
    · rw [if_neg (by omega), if_pos (by rw [List.length_singleton]; omega), putN_lt h, u8_small (by omega)]
    · rw [if_pos (by omega)]
      simp only []
      rw [if_pos (by rw [List.length_singleton]; omega), putN_ge h, or128, shr7 (by omega) _ (by decide)]
      have e1 : (n : Int) / 128 = ((n / 128 : Nat) : Int) := by omega
      rw [e1]
      have hx3 : 2 ≤ 100 - xs.length := by
        rcases Nat.lt_or_ge (100 - xs.length) 2 with h2 | h2
        · have h3 : 100 - xs.length = 1 := by omega
          rw [h3] at hn
          omega
        · exact h2
      have := ih (n / 128) (by omega) (xs ++ [((n % 128 + 128 : Nat) : Int)]) (by omega) (by simp; omega) (by
        rw [List.length_append, List.length_singleton]
        have h4 : 128 ^ (100 - xs.length) = 128 ^ (100 - (xs.length + 1)) * 128 := by rw [← Nat.pow_succ]; congr 1; omega
        rw [h4] at hn
        exact Nat.div_lt_of_lt_mul (by rw [Nat.mul_comm]; exact hn)) (by simp; omega)
      rw [List.append_assoc] at this
      exact this
theorem put_eq {n : Nat} (h : n < 18446744073709551616) : F105_term_PutNum (n : Int) = some (strB (putN n), ()) := by rw [F105_term_PutNum_eq]; exact put_l n [] h (by simp) (big64 h) (by simp)
def t3 (r : Int × Int × Int) : Int × Int × Int × Unit := (r.1, r.2.1, r.2.2, ())
theorem get_l (s : ByteArray) (hs : s.size ≤ 9223372036854775807) (d : Nat) : ∀ (i acc : Nat), i ≤ s.size → 9 - i + 1 = d → i ≤ 9 → acc < 128 ^ i → F106_term_GetNum_l1000003 s (acc : Int) (i : Int) = some (t3 (getN i acc ((bytesOf s).drop i))) := by
  induction d with
  | zero => intro i acc _ h; omega
  | succ d ih =>
    intro i acc hi hd h9 hacc
    rw [F106_term_GetNum_l1000003_eq]
    rcases Nat.lt_or_ge i s.size with hlt | hge
    · rw [if_pos (ilt hlt), if_pos (inb hlt), bytes_drop hlt]
      simp only [F106_term_GetNum_l12_eq]
      have hb := bt_byte s (i : Int)
      generalize hc : bt s (i : Int) = c at hb
      obtain ⟨h0, h1⟩ := hb
      have key : ¬ (i = 9 ∧ c > 1) → (if 0 ≤ IntKind.u64.wrap (IntKind.i64.wrap ((7 : Int) * (i : Int))) then
            if (shrR .u8 c (7 : Int)) = (0 : Int) then
              if c = (0 : Int) then
                if (0 : Int) < (i : Int) then some (0, 0, 21, ())
                else some (bitsR .or .u64 (acc : Int) (shlR .u64 (IntKind.u64.wrap (bitsR .and .u8 c (127 : Int))) (IntKind.u64.wrap (IntKind.i64.wrap ((7 : Int) * (i : Int))))), IntKind.i64.wrap ((i : Int) + (1 : Int)), 0, ())
              else some (bitsR .or .u64 (acc : Int) (shlR .u64 (IntKind.u64.wrap (bitsR .and .u8 c (127 : Int))) (IntKind.u64.wrap (IntKind.i64.wrap ((7 : Int) * (i : Int))))), IntKind.i64.wrap ((i : Int) + (1 : Int)), 0, ())
            else F106_term_GetNum_l1000003 s (bitsR .or .u64 (acc : Int) (shlR .u64 (IntKind.u64.wrap (bitsR .and .u8 c (127 : Int))) (IntKind.u64.wrap (IntKind.i64.wrap ((7 : Int) * (i : Int)))))) (IntKind.i64.wrap ((i : Int) + (1 : Int)))
          else none) = some (t3 (getN i acc (c :: (bytesOf s).drop (i + 1)))) := by
        intro hx
        have c1 : 0 ≤ IntKind.u64.wrap (IntKind.i64.wrap (7 * (i : Int))) := by rw [w64 (by omega) (by omega), wraps_u64 _ (by omega) (by omega)]; omega
        have h9' : i = 9 → c ≤ 1 := fun h => by omega
        rw [if_pos c1, or7 acc i c h0 h1 h9 hacc h9', shr7 h0 _ (by decide), getN, if_neg hx, w64s (n := 10) (by omega) (by omega)]
        by_cases h2 : c < 128
        · have c2 : c / 128 = 0 := by omega
          rw [if_pos c2, if_pos h2, Nat.mod_eq_of_lt (show c.toNat < 128 by omega)]
          by_cases h3 : c = 0
          · by_cases h4 : 0 < i
            · rw [if_pos h3, if_pos (by omega), if_pos (And.intro h3 h4)]; rfl
            · rw [if_pos h3, if_neg (by omega), if_neg (by omega)]; rfl
          · rw [if_neg h3, if_neg (by omega)]; rfl
        · have c2 : ¬ c / 128 = 0 := by omega
          rw [if_neg c2, if_neg h2, show c.toNat % 128 = c.toNat - 128 from by omega]
          have hi9 : i < 9 := by omega
          refine ih (i + 1) _ (by omega) (by omega) (by omega) ?_
          have h5 : (c.toNat - 128) * 128 ^ i ≤ 127 * 128 ^ i := Nat.mul_le_mul (by omega) (Nat.le_refl _)
          rw [Nat.pow_succ]
          omega
      by_cases h : i = 9
      · rw [if_pos (by omega)]
        by_cases hx : c > 1
        · rw [if_pos (by omega), getN, if_pos ⟨h, hx⟩]; rfl
        · rw [if_neg (by omega)]; exact key (fun hh => hx hh.2)
      · rw [if_neg (by omega)]; exact key (fun hh => h hh.1)
    · rw [if_neg (by omega), List.drop_eq_nil_of_le (by rw [bytesOf_length]; exact hge)]; rfl
theorem get_eq (s : ByteArray) (hs : s.size ≤ 9223372036854775807) : F106_term_GetNum s = some (t3 (getN 0 0 (bytesOf s))) := by rw [F106_term_GetNum_eq]; exact get_l s hs 10 0 0 (by omega) rfl (by omega) (by decide)
abbrev bigL : Nat := 2513169434843
theorem parts_l (l : List S114) (hl : l.length ≤ bigL) (ih : ∀ x ∈ l, ∀ m : Nat, 1 ≤ m → m ≤ 1000000 → F102_term_parts (S114.f0 x) (S114.f1 x) (S114.f2 x) (S114.f3 x) (m : Int) = some (((min (parts x) m : Nat) : Int), ())) (m : Nat) (hm : m ≤ 1000000) : ∀ k i n, l.length - i = k → i ≤ l.length → n ≤ m → 1 ≤ n →
    F102_term_parts_l1000003 (m : Int) (n : Int) l (l.length : Int) (i : Int) = some (((min (n + partsL (l.drop i)) m : Nat) : Int), ()) := by
  intro k
  induction k with
  | zero =>
    intro i n hk hi hn h1
    rw [F102_term_parts_l1000003_eq, if_neg (by omega), List.drop_of_length_le (by omega)]
    exact oi_eq (by simp only [partsL]; omega)
  | succ k ihk =>
    intro i n hk hi hn h1
    simp only [bigL] at hl
    rw [F102_term_parts_l1000003_eq, if_pos (ilt (by omega)), if_pos (inb (by omega)), drop_rd (z := S114.z) (by omega : i < l.length)]
    by_cases c1 : m ≤ n
    · rw [if_pos (by omega)]
      exact oi_eq (by simp only [partsL]; omega)
    · rw [if_neg (by omega), w64 (by omega) (by omega), show (m : Int) - (n : Int) = ((m - n : Nat) : Int) by omega, rd_lt (by omega : i < l.length), ih _ (List.getElem_mem _) _ (by omega) (by omega), Option.bind_some, w64s (n := l.length) (by omega) (by omega)]
      generalize hp : parts l[i] = p
      have hp1 : 1 ≤ p := by rw [← hp]; exact parts_pos _
      rw [w64 (by omega) (by omega), show (n : Int) + ((min p (m - n) : Nat) : Int) = ((n + min p (m - n) : Nat) : Int) by omega, ihk (i + 1) _ (by omega) (by omega) (by omega) (by omega)]
      exact oi_eq (by simp only [partsL, hp]; omega)
theorem parts_f {x : S114} (h : okT x) : ∀ m : Nat, 1 ≤ m → m ≤ 1000000 → F102_term_parts (S114.f0 x) (S114.f1 x) (S114.f2 x) (S114.f3 x) (m : Int) = some (((min (parts x) m : Nat) : Int), ()) := by
  induction h with
  | @mk x h0 h1 h2 h3 h4 h5 ih =>
    intro m hm hm2
    rw [F102_term_parts_eq, parts_eq]
    exact parts_l (S114.f3 x) (by simp only [bigL]; omega) ih m hm2 _ 0 1 rfl (by omega) hm (by omega)
theorem deep_l (l : List S114) (hl : l.length ≤ bigL) (m : Nat) (hm : m ≤ 1000000) (hm2 : 2 ≤ m) (ih : ∀ x ∈ l, F103_term_deep (S114.f0 x) (S114.f1 x) (S114.f2 x) (S114.f3 x) ((m - 1 : Nat) : Int) = some (((min (depth x) (m - 1) : Nat) : Int), ())) : ∀ k i n, l.length - i = k → i ≤ l.length → n ≤ m - 1 →
    F103_term_deep_l1000004 (m : Int) (n : Int) l (l.length : Int) (i : Int) = some (((min (1 + max n (depthL (l.drop i))) m : Nat) : Int), ()) := by
  intro k
  induction k with
  | zero =>
    intro i n hk hi hn
    rw [F103_term_deep_l1000004_eq, if_neg (by omega), List.drop_of_length_le (by omega), w64 (by omega) (by omega)]
    exact oi_eq (by simp only [depthL]; omega)
  | succ k ihk =>
    intro i n hk hi hn
    simp only [bigL] at hl
    rw [F103_term_deep_l1000004_eq, if_pos (ilt (by omega)), if_pos (inb (by omega)), drop_rd (z := S114.z) (by omega : i < l.length), w64p (by omega) (by omega), rd_lt (by omega : i < l.length), ih _ (List.getElem_mem _), Option.bind_some, w64s (n := l.length) (by omega) (by omega)]
    generalize hp : depth l[i] = p
    rw [show mx (n : Int) ((min p (m - 1) : Nat) : Int) = ((max n (min p (m - 1)) : Nat) : Int) by unfold mx; split <;> omega, ihk (i + 1) _ (by omega) (by omega) (by omega)]
    exact oi_eq (by simp only [depthL, hp]; omega)
theorem deep_f {x : S114} (h : okT x) : ∀ m : Nat, 1 ≤ m → m ≤ 1000000 → F103_term_deep (S114.f0 x) (S114.f1 x) (S114.f2 x) (S114.f3 x) (m : Int) = some (((min (depth x) m : Nat) : Int), ()) := by
  induction h with
  | @mk x h0 h1 h2 h3 h4 h5 ih =>
    intro m hm hm2
    rw [F103_term_deep_eq, depth_eq]
    by_cases c1 : m = 1
    · rw [if_neg (by omega), w64 (by omega) (by omega)]
      exact oi_eq (by omega)
    · rw [if_pos (by omega)]
      have := deep_l (S114.f3 x) (by simp only [bigL]; omega) m hm2 (by omega) (fun y hy => ih y hy (m - 1) (by omega) (by omega)) _ 0 0 rfl (by omega) (by omega)
      rw [show F103_term_deep_l1000004 (m : Int) 0 (S114.f3 x) ((S114.f3 x).length : Int) 0 = _ from this]
      exact oi_eq (by simp only [List.drop_zero]; omega)
/-! shapes -/
theorem index_l (l : List S114) (hl : l.length ≤ bigL) (ih : ∀ x ∈ l, F104_term_shaped (S114.f0 x) (S114.f1 x) (S114.f2 x) (S114.f3 x) = some (shp x, ())) : ∀ k i, l.length - i = k → i ≤ l.length →
    ∃ n : Int, F124_slices_IndexFunc_121_l1000002 l (l.length : Int) (i : Int) = some (n, ()) ∧ (0 ≤ n ↔ shpL (l.drop i) = false) := by
  intro k
  induction k with
  | zero =>
    intro i hk hi
    rw [F124_slices_IndexFunc_121_l1000002_eq, if_neg (by omega), List.drop_of_length_le (by omega)]
    exact ⟨-1, rfl, by simp [shpL]⟩
  | succ k ihk =>
    intro i hk hi
    simp only [bigL] at hl
    rw [F124_slices_IndexFunc_121_l1000002_eq, if_pos (ilt (by omega)), if_pos (inb (by omega)), drop_rd (z := S114.z) (by omega : i < l.length), rd_lt (by omega : i < l.length), F121_term_shaped_1_eq, ih _ (List.getElem_mem _), Option.bind_some, Option.bind_some, w64s (n := l.length) (by omega) (by omega)]
    obtain ⟨n, q1, q2⟩ := ihk (i + 1) (by omega) (by omega)
    rw [q1]
    cases hs : shp l[i] with
    | true => exact ⟨n, by simp, by rw [q2]; simp [shpL, hs]⟩
    | false => exact ⟨i, by simp, by simp [shpL, hs]⟩
theorem shaped_f {x : S114} (h : okT x) : F104_term_shaped (S114.f0 x) (S114.f1 x) (S114.f2 x) (S114.f3 x) = some (shp x, ()) := by
  induction h with
  | @mk x h0 h1 h2 h3 h4 h5 ih =>
    have hb : ∀ b : Bool, F104_term_shaped_l12 b (S114.f0 x) (S114.f1 x) (S114.f2 x) (S114.f3 x) = some (b && shpL (S114.f3 x), ()) := by
      intro b
      obtain ⟨n, q1, q2⟩ := index_l (S114.f3 x) (by simp only [bigL]; omega) ih _ 0 rfl (by omega)
      rw [List.drop_zero] at q2
      rw [F104_term_shaped_l12_eq, F120_slices_ContainsFunc_121_eq, F124_slices_IndexFunc_121_eq, show F124_slices_IndexFunc_121_l1000002 (S114.f3 x) ((S114.f3 x).length : Int) 0 = _ from q1]
      cases b with
      | false => simp
      | true =>
        simp only [Option.bind_some, if_true, Bool.true_and]
        apply ob_eq
        · intro hh; cases hs : shpL (S114.f3 x) with
          | true => rfl
          | false => have := q2.2 hs; simp at hh; omega
        · intro hh; simp; by_cases c1 : 0 ≤ n
          · rw [q2.1 c1] at hh; cases hh
          · omega
    rw [F104_term_shaped_eq, shp_eq]
    simp only [hb]
    repeat' (refine ite_to (fun _ => ?_) (fun _ => ?_))
    all_goals (refine congrArg (fun b => some (b && shpL (S114.f3 x), ())) (Bool.eq_iff_iff.2 ?_) ; constructor <;> intro hh <;> simp only [one, str_nil_iff] at hh ⊢ <;> simp_all <;> omega)
theorem right_f {x : S114} (h : okT x) : F77_term_Right (S114.f0 x) (S114.f1 x) (S114.f2 x) (S114.f3 x) = some (rightT x, ()) := by
  have h1 := parts_f h 4001 (by omega) (by omega)
  have h2 := deep_f h 13 (by omega) (by omega)
  rw [F77_term_Right_eq, show F102_term_parts (S114.f0 x) (S114.f1 x) (S114.f2 x) (S114.f3 x) 4001 = _ from h1, show F103_term_deep (S114.f0 x) (S114.f1 x) (S114.f2 x) (S114.f3 x) 13 = _ from h2, shaped_f h]
  simp only [Option.bind_some]
  unfold rightT
  by_cases c1 : 4000 < parts x
  · rw [if_pos (by omega), if_pos c1]
  · rw [if_neg (by omega), if_neg c1]
    by_cases c2 : 12 < depth x
    · rw [if_pos (by omega), if_pos c2]
    · rw [if_neg (by omega), if_neg c2]
      cases shp x <;> simp
theorem u8_mod (n : Int) : IntKind.u8.wrap n = n % 256 := by rw [IntKind.wrap_u8]
theorem write_l (l : List S114) (hl : l.length ≤ bigL) (ih : ∀ y ∈ l, ∀ b : List Int, b.length + (encT y).length ≤ 140737488355328 → F78_term_write (S114.f0 y) (S114.f1 y) (S114.f2 y) (S114.f3 y) b = some (b ++ encT y, ())) : ∀ (d i : Nat) (b : List Int), l.length - i = d → i ≤ l.length → b.length + (encL (l.drop i)).length ≤ 140737488355328 →
    F78_term_write_l1000012 l (l.length : Int) (i : Int) b = some (b ++ encL (l.drop i), ()) := by
  simp only [bigL] at hl
  intro d
  induction d with
  | zero =>
    intro i b hd hi hb
    rw [F78_term_write_l1000012_eq, if_neg (by omega), List.drop_eq_nil_of_le (by omega), encL, List.append_nil]
  | succ d ihd =>
    intro i b hd hi hb
    rw [List.drop_eq_getElem_cons (by omega : i < l.length), encL] at hb ⊢
    rw [List.length_append] at hb
    rw [F78_term_write_l1000012_eq, if_pos (ilt (by omega)), if_pos (inb (by omega)), rd_lt (by omega : i < l.length), ih _ (List.getElem_mem _) b (by omega), Option.bind_some, w64s (n := l.length) (by omega) (by omega), ihd (i + 1) _ (by omega) (by omega) (by rw [List.length_append]; omega), List.append_assoc]
theorem write_eq {x : S114} (h : okT x) : ∀ b : List Int, b.length + (encT x).length ≤ 140737488355328 → F78_term_write (S114.f0 x) (S114.f1 x) (S114.f2 x) (S114.f3 x) b = some (b ++ encT x, ()) := by
  induction h with
  | @mk x h0 h1 h2 h3 h4 h5 ih =>
    intro b hb
    have hu := wf_u64 h1
    obtain ⟨f, hf⟩ : ∃ f : Nat, S114.f1 x = (f : Int) := ⟨(S114.f1 x).toNat, by omega⟩
    rw [encT_eq] at hb ⊢
    generalize hn : S114.f0 x = n at *
    generalize hs : S114.f2 x = s at *
    generalize hL : S114.f3 x = l at *
    rw [hf] at hb ⊢
    rw [List.length_append] at hb
    have W : ∀ (c : List Int), c.length + (encL l).length ≤ 140737488355328 → F78_term_write_l11 c n (f : Int) s l = some (c ++ encL l, ()) := by
      intro c hc
      rw [F78_term_write_l11_eq]
      have := write_l l (by simp only [bigL]; omega) ih _ 0 c rfl (by omega) (by simpa using hc)
      simpa using this
    unfold hd at hb ⊢
    rw [List.length_cons] at hb
    have hz : (f : Int).toNat = f := Int.toNat_natCast f
    rw [hz] at hb ⊢
    have hp1 : ∀ (p : List Int), ((b ++ [n % 256]).length + p.length) * 1 = b.length + 1 + p.length := by intro p; rw [List.length_append, List.length_singleton]; omega
    rw [F78_term_write_eq, u8_mod, if_pos (by rw [List.length_singleton]; omega), put_eq (by omega), wraps_u64 (s.size : Int) (by omega) (by omega), wraps_u64 (l.length : Int) (by omega) (by omega), put_eq (by omega), put_eq (by omega)]
    simp only [Option.bind_some, bytesOf_str (putN_B _)]
    by_cases c1 : n = 1
    · rw [if_pos (Or.inl c1)] at hb ⊢
      rw [if_pos c1, if_pos c1, if_pos (by rw [hp1]; omega), W _ (by simp only [List.length_append, List.length_singleton]; omega)]; simp
    · rw [if_neg c1]
      by_cases c3 : n = 3
      · rw [if_pos (Or.inr (Or.inl c3))] at hb ⊢
        rw [if_pos c3, if_pos c3, if_pos (by rw [hp1]; omega), W _ (by simp only [List.length_append, List.length_singleton]; omega)]; simp
      · rw [if_neg c3]
        by_cases c4 : n = 4
        · rw [if_pos (Or.inr (Or.inr c4))] at hb ⊢
          rw [if_pos c4, if_pos (by rw [hp1]; omega), W _ (by simp only [List.length_append, List.length_singleton]; omega)]; simp
        · have cn : ¬ (n = 1 ∨ n = 3 ∨ n = 4) := by omega
          rw [if_neg cn] at hb ⊢
          rw [if_neg c4]
          by_cases c2 : n = 2
          · rw [if_pos c2] at hb ⊢
            rw [List.length_append, bytesOf_length] at hb
            rw [if_pos c2, if_pos (by rw [hp1]; omega), if_pos (by rw [List.length_append, List.length_append, List.length_singleton, bytesOf_length]; omega), W _ (by simp only [List.length_append, List.length_singleton, bytesOf_length]; omega)]; simp
          · rw [if_neg c2] at hb ⊢
            rw [if_neg c2]
            by_cases c5 : n = 5
            · rw [if_pos c5] at hb ⊢
              rw [if_pos c5, if_pos (by rw [hp1]; omega), W _ (by simp only [List.length_append, List.length_singleton]; omega)]; simp
            · rw [if_neg c5] at hb ⊢
              rw [if_neg c5, W _ (by simp only [List.length_append, List.length_singleton]; simp only [List.length_nil] at hb; omega)]; simp
theorem encode_eq {x : S114} (h : okT x) : F64_term_Encode (S114.f0 x) (S114.f1 x) (S114.f2 x) (S114.f3 x) = some ((encode x).1, (encode x).2, ()) := by
  rw [F64_term_Encode_eq, right_f h, Option.bind_some]
  unfold encode
  by_cases c : rightT x = 0
  · have := right_len h c
    rw [if_neg (fun hh => hh c), if_pos c, write_eq h [] (by simp; omega)]; rfl
  · rw [if_pos c, if_neg c]
/-! ### terms out of bytes -/
abbrev Rd (α : Type) := Except Int (α × List Int × Nat)
def rdL (f : List Int → Nat → Rd S114) : Nat → List Int → Nat → Rd (List S114)
  | 0, b, seen => .ok ([], b, seen)
  | m + 1, b, seen => match f b seen with
    | .error e => .error e
    | .ok (x, b', s') => match rdL f m b' s' with
      | .error e => .error e
      | .ok (l, b2, s2) => .ok (x :: l, b2, s2)
def bodyT (f : List Int → Nat → Rd S114) (c : Int) (n : Nat) (t : List Int) (seen : Nat) : Rd S114 :=
  if c = 1 ∨ c = 3 then .ok (⟨c, n, ByteArray.empty, []⟩, t, seen)
  else if c = 2 then (if 4000 < n then .error 25 else if t.length < n then .error 20 else .ok (⟨2, 0, strB (t.take n), []⟩, t.drop n, seen))
  else match rdL f (if c = 4 then 1 else n) t seen with
    | .error e => .error e
    | .ok (l, b2, s2) => .ok (⟨c, if c = 4 then n else 0, ByteArray.empty, l⟩, b2, s2)
def headT (f : List Int → Nat → Rd S114) (b : List Int) (seen : Nat) : Rd S114 :=
  match b with
  | [] => .error 20
  | c :: t => if c < 1 ∨ 5 < c then .error 21 else if (getN 0 0 t).2.2 = 0 then bodyT f c (getN 0 0 t).1.toNat (t.drop (getN 0 0 t).2.1.toNat) (seen + 1) else .error (getN 0 0 t).2.2
def rdF : Nat → List Int → Nat → Rd S114
  | 0, b, seen => if 4000 ≤ seen then .error 23 else .error 22
  | D + 1, b, seen => if 4000 ≤ seen then .error 23 else headT (rdF D) b seen

theorem len_parts (l : List S114) : l.length ≤ partsL l := by
  induction l with
  | nil => simp
  | cons x t ih =>
    rw [partsL, List.length_cons]
    have := parts_pos x
    omega
/-- What is read, told of a term and of a row of terms. -/
structure Was (D : Nat) (b : List Int) (seen : Nat) (x : S114) (b' : List Int) (n : Nat) : Prop where
  enc : b = encT x ++ b'
  cnt : seen + parts x = n
  most : n ≤ 4000
  deep : depth x ≤ D
  shape : shp x = true
  ok : okT x
structure WasL (D : Nat) (b : List Int) (seen m : Nat) (l : List S114) (b' : List Int) (n : Nat) : Prop where
  enc : b = encL l ++ b'
  cnt : seen + partsL l = n
  most : n ≤ 4000
  deep : depthL l ≤ D
  shape : shpL l = true
  ok : ∀ y ∈ l, okT y
  len : l.length = m
theorem rdL_was {D : Nat} {f : List Int → Nat → Rd S114} (hf : ∀ b seen x b' n, AllB b → f b seen = .ok (x, b', n) → Was D b seen x b' n) (m : Nat) :
    ∀ b seen l b' n, AllB b → seen ≤ 4000 → rdL f m b seen = .ok (l, b', n) → WasL D b seen m l b' n := by
  induction m with
  | zero =>
    intro b seen l b' n hB hs h
    simp only [rdL, Except.ok.injEq, Prod.mk.injEq] at h
    obtain ⟨rfl, rfl, rfl⟩ := h
    exact ⟨by simp [encL], by simp [partsL], hs, by simp [depthL], by simp [shpL], by simp, rfl⟩
  | succ m ih =>
    intro b seen l b' n hB hs h
    rw [rdL] at h
    cases e1 : f b seen with
    | error e => rw [e1] at h; simp at h
    | ok r =>
      obtain ⟨x, b1, n1⟩ := r
      rw [e1] at h
      simp only at h
      have w1 := hf _ _ _ _ _ hB e1
      cases e2 : rdL f m b1 n1 with
      | error e => rw [e2] at h; simp at h
      | ok r =>
        obtain ⟨l1, b2, n2⟩ := r
        rw [e2] at h
        simp only [Except.ok.injEq, Prod.mk.injEq] at h
        obtain ⟨rfl, rfl, rfl⟩ := h
        have hB1 : AllB b1 := fun y hy => hB y (by rw [w1.enc]; simp [hy])
        have w2 := ih _ _ _ _ _ hB1 w1.most e2
        refine ⟨?_, ?_, w2.most, ?_, ?_, ?_, ?_⟩
        · rw [encL, List.append_assoc, ← w2.enc]; exact w1.enc
        · rw [partsL]; have := w1.cnt; have := w2.cnt; omega
        · rw [depthL]; have := w1.deep; have := w2.deep; omega
        · rw [shpL, w1.shape, w2.shape]; rfl
        · intro y hy
          rcases List.mem_cons.1 hy with rfl | hy
          · exact w1.ok
          · exact w2.ok y hy
        · rw [List.length_cons, w2.len]
theorem wf_nat {n : Nat} (h : n < 18446744073709551616) : (Lit.int .u64 (n : Int)).wf = true := by
  simp [Lit.wf, IntKind.min, IntKind.max, IntKind.bits, IntKind.signed]
  omega
theorem wf_kind {c : Int} (h : 1 ≤ c ∧ c ≤ 5) : (Lit.int .i64 c).wf = true := by
  simp [Lit.wf, IntKind.min, IntKind.max, IntKind.bits, IntKind.signed]
  omega
theorem rdF_was (D : Nat) : ∀ b seen x b' n, AllB b → rdF D b seen = .ok (x, b', n) → Was D b seen x b' n := by
  induction D with
  | zero =>
    intro b seen x b' n hB h
    rw [rdF] at h
    split at h <;> simp at h
  | succ D ih =>
    intro b seen x b' n hB h
    rw [rdF] at h
    split at h
    · simp at h
    · rename_i hs
      cases b with
      | nil => simp [headT] at h
      | cons c t =>
        rw [headT] at h
        split at h
        · simp at h
        · rename_i hc
          have hBt : AllB t := fun y hy => hB y (by simp [hy])
          rcases get_is0 hBt with ⟨k, more, h1, hk, h2⟩ | h2 | h2
          · rw [h2] at h
            simp only [if_true, Int.toNat_natCast] at h
            rw [show t.drop (putN k).length = more from by rw [h1]; simp] at h
            have hBm : AllB more := fun y hy => hBt y (by rw [h1]; simp [hy])
            have hcm : c % 256 = c := by omega
            unfold bodyT at h
            split at h
            · rename_i c13
              simp only [Except.ok.injEq, Prod.mk.injEq] at h
              obtain ⟨rfl, rfl, rfl⟩ := h
              refine ⟨?_, by rw [parts_eq]; simp [partsL], by omega, by rw [depth_eq]; simp [depthL], ?_, okT.leaf (wf_kind (by omega)) (wf_nat hk) (by simp [ByteArray.size])⟩
              · rw [encT_mk, hd, if_pos (show c = 1 ∨ c = 3 ∨ c = 4 by omega), hcm, h1]
                simp [encL]
              · rw [shp_mk, one, if_pos c13]
                simp [shpL, bytesOf_empty]
            · rename_i c13
              split at h
              · rename_i c2
                subst c2
                split at h
                · simp at h
                · rename_i hk2
                  split at h
                  · simp at h
                  · rename_i hk3
                    simp only [Except.ok.injEq, Prod.mk.injEq] at h
                    obtain ⟨rfl, rfl, rfl⟩ := h
                    have hsz : (strB (more.take k)).size = k := by rw [size_str, List.length_take]; omega
                    refine ⟨?_, by rw [parts_eq]; simp [partsL], by omega, by rw [depth_eq]; simp [depthL], ?_, okT.leaf (wf_kind (by omega)) (by decide) (by rw [hsz]; omega)⟩
                    · rw [encT_mk, hd, if_neg (by simp), if_pos rfl]
                      simp only [hsz, bytesOf_str (hBm.take k), encL, List.append_nil]
                      rw [h1]
                      simp
                    · rw [shp_mk, one, if_neg (by simp), if_pos rfl]
                      simp only [hsz, shpL, Bool.and_true, decide_eq_true_eq]
                      exact ⟨trivial, by omega, rfl⟩
              · rename_i c2
                cases e1 : rdL (rdF D) (if c = 4 then 1 else k) more (seen + 1) with
                | error e => rw [e1] at h; simp at h
                | ok r =>
                  obtain ⟨l, b1, n1⟩ := r
                  rw [e1] at h
                  simp only [Except.ok.injEq, Prod.mk.injEq] at h
                  obtain ⟨rfl, rfl, rfl⟩ := h
                  have w := rdL_was ih _ _ _ _ _ _ hBm (by omega) e1
                  have hlen : l.length ≤ 4000 := by have := len_parts l; have := w.cnt; have := w.most; omega
                  refine ⟨?_, ?_, w.most, ?_, ?_, okT.mk (show (Lit.int .i64 c).wf = true from wf_kind (by omega)) (by show (Lit.int .u64 (if c = 4 then (k : Int) else 0)).wf = true; split; exact wf_nat hk; decide) (by simp [ByteArray.size]) (by show l.length * 56 ≤ _; omega) (by show l.length ≤ _; exact Nat.le_trans hlen (by decide)) w.ok⟩
                  · rw [encT_mk, hd, hcm]
                    by_cases c4 : c = 4
                    · rw [if_pos (by omega), if_pos c4, Int.toNat_natCast, h1, w.enc]
                      simp
                    · have hl := w.len
                      rw [if_neg c4] at hl
                      rw [if_neg (by omega), if_neg c2, if_pos (show c = 5 by omega), hl, h1, w.enc]
                      simp
                  · rw [parts_eq]; have := w.cnt; simp only [T_f0, T_f1, T_f2, T_f3]; omega
                  · rw [depth_eq]; have := w.deep; simp only [T_f0, T_f1, T_f2, T_f3]; omega
                  · rw [shp_mk, one]
                    simp only [if_neg c13, if_neg c2, w.shape, Bool.and_true]
                    have hl := w.len
                    by_cases c4 : c = 4
                    · rw [if_pos c4] at hl
                      simp [c4, hl, bytesOf_empty]
                    · simp only [if_neg c4, if_pos (show c = 5 by omega)]
                      simp [bytesOf_empty]
          · rw [h2] at h; simp at h
          · rw [h2] at h; simp at h
theorem rdL_reads {D : Nat} (l : List S114) (ih : ∀ y ∈ l, ∀ more seen, shp y = true → depth y ≤ D → seen + parts y ≤ 4000 → rdF D (encT y ++ more) seen = .ok (y, more, seen + parts y)) (hs : shpL l = true) (hd : depthL l ≤ D) :
    ∀ more seen, seen + partsL l ≤ 4000 → rdL (rdF D) l.length (encL l ++ more) seen = .ok (l, more, seen + partsL l) := by
  induction l with
  | nil => intro more seen _; simp [rdL, encL, partsL]
  | cons x t iht =>
    intro more seen hn
    rw [shpL, Bool.and_eq_true] at hs
    rw [depthL] at hd
    rw [partsL] at hn ⊢
    rw [encL, List.append_assoc, List.length_cons, rdL, ih x (by simp) _ _ hs.1 (by omega) (by omega)]
    simp only
    rw [iht (fun y hy => ih y (by simp [hy])) hs.2 (by omega) more (seen + parts x) (by omega)]
    simp only
    rw [Nat.add_assoc]
theorem one_kind {n f : Int} {s : ByteArray} {len : Nat} (h : one n f s len = true) : ((n = 1 ∨ n = 3) ∧ s = ByteArray.empty ∧ len = 0) ∨ (n = 2 ∧ f = 0 ∧ s.size ≤ 4000 ∧ len = 0) ∨ (n = 4 ∧ s = ByteArray.empty ∧ len = 1) ∨ (n = 5 ∧ f = 0 ∧ s = ByteArray.empty) := by
  unfold one at h
  simp only [str_nil_iff] at h
  split at h
  · rename_i c; exact .inl ⟨c, by simpa using h⟩
  · split at h
    · rename_i c; exact .inr (.inl ⟨c, by simpa using h⟩)
    · split at h
      · rename_i c; exact .inr (.inr (.inl ⟨c, by simpa using h⟩))
      · split at h
        · rename_i c; exact .inr (.inr (.inr ⟨c, by simpa using h⟩))
        · simp at h
theorem rdF_reads {x : S114} (h : okT x) : ∀ D more seen, shp x = true → depth x ≤ D → seen + parts x ≤ 4000 → rdF D (encT x ++ more) seen = .ok (x, more, seen + parts x) := by
  induction h with
  | @mk x h0 h1 h2 h3 h4 h5 ih =>
    intro D more seen hs hdp hn
    have hu := wf_u64 h1
    obtain ⟨f, hf⟩ : ∃ f : Nat, x.f1 = (f : Int) := ⟨x.f1.toNat, by omega⟩
    cases D with
    | zero => have := depth_pos x; omega
    | succ D =>
      rw [shp_eq, Bool.and_eq_true] at hs
      rw [depth_eq] at hdp
      rw [parts_eq] at hn ⊢
      have hl := rdL_reads (D := D) x.f3 (fun y hy more seen a b c => ih y hy D more seen a b c) hs.2 (by omega)
      rw [rdF, if_neg (by omega), encT_eq, hd]
      rcases one_kind hs.1 with ⟨c, e1, e2⟩ | ⟨c, e1, e2, e3⟩ | ⟨c, e1, e2⟩ | ⟨c, e1, e2⟩
      · have e3 : x.f3 = [] := List.length_eq_zero_iff.1 e2
        rw [if_pos (by omega), show x.f0 % 256 = x.f0 from by omega, hf, Int.toNat_natCast, List.append_assoc, List.cons_append, headT, if_neg (by omega), get_put0 (by omega)]
        simp only [if_true, Int.toNat_natCast]
        rw [bodyT, if_pos c, e3]
        simp only [encL, partsL, List.nil_append, List.drop_left']
        exact congrArg (fun y => Except.ok (y, more, seen + 1)) (show S114.mk (S114.f0 x) (f : Int) ByteArray.empty [] = x by rw [← hf, ← e1, ← e3, etaT])
      · have e4 : x.f3 = [] := List.length_eq_zero_iff.1 e3
        rw [if_neg (by omega), if_pos c, show x.f0 % 256 = 2 from by omega, List.append_assoc, List.cons_append, List.append_assoc, headT, if_neg (by omega), get_put0 (by omega)]
        simp only [if_true, Int.toNat_natCast]
        rw [bodyT, if_neg (by decide), if_pos rfl, if_neg (by omega), e4]
        have e5 : List.drop (putN x.f2.size).length (putN x.f2.size ++ (bytesOf x.f2 ++ (encL [] ++ more))) = bytesOf x.f2 ++ more := by simp [encL]
        rw [e5, if_neg (by rw [List.length_append, bytesOf_length]; omega), List.take_left' (bytesOf_length _), List.drop_left' (bytesOf_length _), str_bytesOf]
        simp only [partsL]
        exact congrArg (fun y => Except.ok (y, more, seen + 1)) (show S114.mk 2 0 (S114.f2 x) [] = x by rw [← c, ← e1, ← e4, etaT])
      · rw [if_pos (by omega), show x.f0 % 256 = x.f0 from by omega, hf, Int.toNat_natCast, List.append_assoc, List.cons_append, headT, if_neg (by omega), get_put0 (by omega)]
        simp only [if_true, Int.toNat_natCast]
        rw [bodyT, if_neg (by omega), if_neg (by omega), if_pos c, List.drop_left' rfl]
        have := hl more (seen + 1) (by omega)
        rw [e2] at this
        rw [this]
        simp only [if_pos c]
        rw [← hf, ← e1, etaT, Nat.add_assoc]
      · rw [if_neg (by omega), if_neg (by omega), if_pos c, show x.f0 % 256 = x.f0 from by omega, List.append_assoc, List.cons_append, headT, if_neg (by omega), get_put0 (by omega)]
        simp only [if_true, Int.toNat_natCast]
        rw [bodyT, if_neg (by omega), if_neg (by omega), if_neg (show ¬ x.f0 = 4 by omega), List.drop_left' rfl]
        rw [hl more (seen + 1) (by omega)]
        simp only [if_neg (show ¬ x.f0 = 4 by omega)]
        rw [← e1, ← e2, etaT, Nat.add_assoc]
theorem rdL_cut {D : Nat} (l : List S114) (ih : ∀ y ∈ l, ∀ m seen, shp y = true → depth y ≤ D → seen + parts y ≤ 4000 → m < (encT y).length → rdF D ((encT y).take m) seen = .error 20) (ho : ∀ y ∈ l, okT y) (hs : shpL l = true) (hd : depthL l ≤ D) :
    ∀ m seen, seen + partsL l ≤ 4000 → m < (encL l).length → rdL (rdF D) l.length ((encL l).take m) seen = .error 20 := by
  induction l with
  | nil => intro m seen _ hm; simp [encL] at hm
  | cons x t iht =>
    intro m seen hn hm
    rw [shpL, Bool.and_eq_true] at hs
    rw [depthL] at hd
    rw [partsL] at hn
    rw [encL, List.length_append] at hm
    rw [encL, List.length_cons, rdL, List.take_append]
    rcases Nat.lt_or_ge m (encT x).length with h | h
    · rw [show m - (encT x).length = 0 from by omega, List.take_zero, List.append_nil, ih x (by simp) m seen hs.1 (by omega) (by omega) h]
    · rw [List.take_of_length_le h, rdF_reads (ho x (by simp)) D _ _ hs.1 (by omega) (by omega)]
      simp only
      rw [iht (fun y hy => ih y (by simp [hy])) (fun y hy => ho y (by simp [hy])) hs.2 (by omega) (m - (encT x).length) (seen + parts x) (by omega) (by omega)]
theorem rdF_cut {x : S114} (h : okT x) : ∀ D m seen, shp x = true → depth x ≤ D → seen + parts x ≤ 4000 → m < (encT x).length → rdF D ((encT x).take m) seen = .error 20 := by
  induction h with
  | @mk x h0 h1 h2 h3 h4 h5 ih =>
    intro D m seen hs hdp hn hm
    have hu := wf_u64 h1
    obtain ⟨f, hf⟩ : ∃ f : Nat, x.f1 = (f : Int) := ⟨x.f1.toNat, by omega⟩
    cases D with
    | zero => have := depth_pos x; omega
    | succ D =>
      rw [shp_eq, Bool.and_eq_true] at hs
      rw [depth_eq] at hdp
      rw [parts_eq] at hn
      have hl := rdL_cut (D := D) x.f3 (fun y hy m seen a b c d => ih y hy D m seen a b c d) h5 hs.2 (by omega)
      rw [rdF, if_neg (by omega)]
      rw [encT_eq, hd] at hm ⊢
      cases m with
      | zero => rfl
      | succ m =>
        rw [List.cons_append, List.length_cons] at hm
        rw [List.cons_append, List.take_succ_cons]
        have num : ∀ (c : Int) (n : Nat) (rest : List Int), (1 ≤ c ∧ c ≤ 5) → n < 18446744073709551616 → m < (putN n ++ rest).length → (∀ j, j < rest.length → bodyT (rdF D) c n (rest.take j) (seen + 1) = .error 20) → headT (rdF D) (c :: (putN n ++ rest).take m) seen = .error 20 := by
          intro c n rest hc hn' hm' hb
          rw [headT, if_neg (by omega), List.take_append]
          rw [List.length_append] at hm'
          rcases Nat.lt_or_ge m (putN n).length with h | h
          · rw [show m - (putN n).length = 0 from by omega, List.take_zero, List.append_nil, get_cut0 hn' h]
            rfl
          · rw [List.take_of_length_le h, get_put0 hn']
            simp only [if_true, Int.toNat_natCast]
            rw [List.drop_left' rfl]
            exact hb _ (by omega)
        rcases one_kind hs.1 with ⟨c, e1, e2⟩ | ⟨c, e1, e2, e3⟩ | ⟨c, e1, e2⟩ | ⟨c, e1, e2⟩
        · have e3 : x.f3 = [] := List.length_eq_zero_iff.1 e2
          rw [if_pos (by omega), hf, Int.toNat_natCast, e3] at hm ⊢
          rw [show x.f0 % 256 = x.f0 from by omega]
          exact num _ _ _ (by omega) (by omega) (by omega) (fun j hj => by simp [encL] at hj)
        · have e4 : x.f3 = [] := List.length_eq_zero_iff.1 e3
          rw [if_neg (by omega), if_pos c, e4, List.append_assoc] at hm ⊢
          rw [show x.f0 % 256 = 2 from by omega]
          refine num _ _ _ (by omega) (by omega) (by omega) (fun j hj => ?_)
          rw [List.length_append, bytesOf_length] at hj
          simp only [encL, List.length_nil] at hj
          rw [bodyT, if_neg (by decide), if_pos rfl, if_neg (by omega), if_pos (by rw [List.length_take]; omega)]
        · rw [if_pos (by omega), hf, Int.toNat_natCast] at hm ⊢
          rw [show x.f0 % 256 = x.f0 from by omega]
          refine num _ _ _ (by omega) (by omega) (by omega) (fun j hj => ?_)
          rw [bodyT, if_neg (by omega), if_neg (by omega), if_pos c]
          have := hl j (seen + 1) (by omega) hj
          rw [e2] at this
          rw [this]
        · rw [if_neg (by omega), if_neg (by omega), if_pos c] at hm ⊢
          rw [show x.f0 % 256 = x.f0 from by omega]
          refine num _ _ _ (by omega) (by omega) (by omega) (fun j hj => ?_)
          rw [bodyT, if_neg (by omega), if_neg (by omega), if_neg (show ¬ x.f0 = 4 by omega), hl j (seen + 1) (by omega) hj]


theorem str_drop (l : List Int) (j : Nat) : (strB l).extract j (strB l).size = strB (l.drop j) := by
  apply ByteArray.ext
  simp [strB, List.map_drop, ByteArray.size]
  rw [List.take_of_length_le (by simp)]
theorem subS_drop (l : List Int) {i : Int} (j : Nat) (h : i = (j : Int)) : subS (strB l) i ((strB l).size : Int) = strB (l.drop j) := by
  subst h; unfold subS; rw [Int.toNat_natCast, Int.toNat_natCast]; exact str_drop l j
theorem subS_take (l : List Int) {i : Int} (j : Nat) (h : i = (j : Int)) : subS (strB l) 0 i = strB (l.take j) := by
  subst h; unfold subS; rw [Int.toNat_natCast]; exact str_take l j
theorem bt_str {l : List Int} (h : AllB l) {j : Nat} (hj : j < l.length) : bt (strB l) (j : Int) = l[j] := by
  rw [bt_eq (by rw [size_str]; exact hj)]
  have : bytesOf (strB l) = l := bytesOf_str h
  simp only [this]
theorem str_empty_iff {l : List Int} (h : AllB l) : strB l = ByteArray.empty ↔ l = [] := by
  rw [← str_nil_iff, bytesOf_str h]
/-- What both programs answer for a string. -/
def decode (b : List Int) : Int × Int × ByteArray × List S114 × Int × Unit :=
  match rdF 12 b 0 with
  | .ok (x, b', _) => if b' = [] then (S114.f0 x, S114.f1 x, S114.f2 x, S114.f3 x, 0, ()) else (0, 0, ByteArray.empty, [], 24, ())
  | .error e => (0, 0, ByteArray.empty, [], e, ())

/-! ### reading: the code -/
abbrev T7 := Int × Int × ByteArray × List S114 × Int × ByteArray × Int × Unit
def MeetsP (r : Rd S114) (a : Option T7) : Prop :=
  match r with
  | .ok (x, b', n) => a = some (S114.f0 x, S114.f1 x, S114.f2 x, S114.f3 x, 0, strB b', (n : Int), ())
  | .error e => e ≠ 0 ∧ ∃ s' n', a = some (0, 0, ByteArray.empty, [], e, s', n', ())
def MeetsL (c0 c1 : Int) (c2 : ByteArray) (acc : List S114) (r : Rd (List S114)) (a : Option T7) : Prop :=
  match r with
  | .ok (l, b', n) => a = some (c0, c1, c2, acc ++ l, 0, strB b', (n : Int), ())
  | .error e => e ≠ 0 ∧ ∃ s' n', a = some (0, 0, ByteArray.empty, [], e, s', n', ())
theorem u64_pred {m : Nat} (h : m + 1 < 18446744073709551616) : IntKind.u64.wrap (((m + 1 : Nat) : Int) - 1) = (m : Int) := by rw [wraps_u64 _ (by omega) (by omega)]; omega
theorem reader_l {D : Nat} {f : List Int → Nat → Rd S114} (around : Nat) (ha : around ≤ 12)
    (hf : ∀ b seen, AllB b → b.length ≤ 281474976710656 → seen ≤ 4000 → MeetsP (f b seen) (F67_term_reader_term ((around + 1 : Nat) : Int) (strB b) (seen : Int)))
    (hw : ∀ b seen x b' n, AllB b → f b seen = .ok (x, b', n) → Was D b seen x b' n) (c0 c1 o0 o1 : Int) (c2 o2 : ByteArray) (o3 : List S114) (m : Nat) :
    ∀ b seen (acc : List S114), AllB b → b.length ≤ 281474976710656 → seen ≤ 4000 → m < 18446744073709551616 → acc.length ≤ seen →
      MeetsL c0 c1 c2 acc (rdL f m b seen) (F67_term_reader_term_l1000022 (around : Int) (m : Int) (strB b) (seen : Int) o0 o1 o2 c0 c1 c2 o3 acc) := by
  induction m with
  | zero =>
    intro b seen acc hB hb hs hm ha
    rw [rdL]
    show _ = _
    rw [F67_term_reader_term_l1000022_eq, if_neg (by omega), List.append_nil]
  | succ m ih =>
    intro b seen acc hB hb hs hm hacc
    have h1 := hf b seen hB hb hs
    rw [rdL, F67_term_reader_term_l1000022_eq, if_pos (by omega), w64s (n := 13) (by omega) (by omega), u64_pred hm]
    cases e1 : f b seen with
    | error e =>
      rw [e1] at h1
      obtain ⟨he, s', n', hev⟩ := h1
      refine ⟨he, s', n', ?_⟩
      rw [hev, Option.bind_some, if_pos he]
    | ok r =>
      obtain ⟨x, b1, n1⟩ := r
      rw [e1] at h1
      have w := hw _ _ _ _ _ hB e1
      have hpp := parts_pos x
      have hcnt := w.cnt
      have hmost := w.most
      have hB1 : AllB b1 := fun y hy => hB y (by rw [w.enc]; simp [hy])
      have hlen : b1.length ≤ 281474976710656 := by have := congrArg List.length w.enc; rw [List.length_append] at this; omega
      have h2 : F67_term_reader_term ((around + 1 : Nat) : Int) (strB b) (seen : Int) = some (S114.f0 x, S114.f1 x, S114.f2 x, S114.f3 x, 0, strB b1, (n1 : Int), ()) := h1
      rw [h2, Option.bind_some, if_neg (by simp), if_pos (by rw [List.length_singleton]; omega)]
      simp only [etaT]
      have := ih b1 n1 (acc ++ [x]) hB1 hlen hmost (by omega) (by rw [List.length_append, List.length_singleton]; omega)
      cases e2 : rdL f m b1 n1 with
      | error e =>
        rw [e2] at this
        exact this
      | ok r2 =>
        obtain ⟨l, b2, n2⟩ := r2
        rw [e2] at this
        simp only [MeetsL] at this ⊢
        rw [this, List.append_assoc]; rfl
theorem MeetsP.err {s : ByteArray} {seen around e : Int} {s' : ByteArray} {n' : Int} (he : e ≠ 0) (h : F80_term_reader_head around s seen = some (0, 0, e, s', n', ())) : MeetsP (.error e) (F67_term_reader_term around s seen) := by
  refine ⟨he, s', n', ?_⟩
  rw [F67_term_reader_term_eq, h, Option.bind_some, if_pos he]
theorem reader_eq (D : Nat) : D ≤ 12 → ∀ b seen, AllB b → b.length ≤ 281474976710656 → seen ≤ 4000 → MeetsP (rdF D b seen) (F67_term_reader_term ((12 - D : Nat) : Int) (strB b) (seen : Int)) := by
  induction D with
  | zero =>
    intro hD b seen hB hb hs
    rw [rdF]
    by_cases h1 : 4000 ≤ seen
    · rw [if_pos h1]
      exact MeetsP.err (by decide) (by rw [F80_term_reader_head_eq, if_pos (by omega)])
    · rw [if_neg h1]
      exact MeetsP.err (by decide) (by rw [F80_term_reader_head_eq, if_neg (by omega), if_pos (by omega)])
  | succ D ih =>
    intro hD b seen hB hb hs
    rw [rdF]
    by_cases h1 : 4000 ≤ seen
    · rw [if_pos h1]
      exact MeetsP.err (by decide) (by rw [F80_term_reader_head_eq, if_pos (by omega)])
    · rw [if_neg h1]
      cases b with
      | nil => rw [headT]; exact MeetsP.err (by decide) (by rw [F80_term_reader_head_eq, if_neg (by omega), if_neg (by omega), if_pos ((str_empty_iff hB).2 rfl)])
      | cons c t =>
        have hcB := hB c (by simp)
        have hBt : AllB t := fun y hy => hB y (by simp [hy])
        rw [List.length_cons] at hb
        have hsz : ((strB (c :: t)).size : Int) = (t.length : Int) + 1 := by rw [size_str, List.length_cons]; omega
        have hbt : bt (strB (c :: t)) 0 = c := bt_str hB (j := 0) (by simp)
        have hw : IntKind.i64.wrap c = c := w64 (by omega) (by omega)
        have h7 : IntKind.i64.wrap ((seen : Int) + 1) = ((seen + 1 : Nat) : Int) := w64s (n := 4001) (by omega) (by omega)
        have hne : ¬ strB (c :: t) = ByteArray.empty := fun h => by have := (str_empty_iff hB).1 h; simp at this
        have hsub : subS (strB (c :: t)) 1 ((strB (c :: t)).size : Int) = strB t := subS_drop (c :: t) 1 rfl
        have hd : F80_term_reader_head ((12 - (D + 1) : Nat) : Int) (strB (c :: t)) (seen : Int) = if c < 1 then some (0, 0, 21, strB (c :: t), ((seen + 1 : Nat) : Int), ()) else if 5 < c then some (0, 0, 21, strB (c :: t), ((seen + 1 : Nat) : Int), ()) else
            (F106_term_GetNum (strB t)).bind fun y1 => if ¬ y1.2.2.1 = (0 : Int) then some (0, 0, y1.2.2.1, strB (c :: t), ((seen + 1 : Nat) : Int), ()) else
              if (0 : Int) ≤ (IntKind.i64.wrap ((1 : Int) + y1.2.1)) ∧ (IntKind.i64.wrap ((1 : Int) + y1.2.1)) ≤ ((strB (c :: t)).size : Int) ∧ ((strB (c :: t)).size : Int) ≤ ((strB (c :: t)).size : Int) then some (c, y1.1, 0, subS (strB (c :: t)) (IntKind.i64.wrap ((1 : Int) + y1.2.1)) ((strB (c :: t)).size : Int), ((seen + 1 : Nat) : Int), ()) else none := by
          rw [F80_term_reader_head_eq, if_neg (by omega), if_neg (by omega), if_neg hne, if_pos (by omega), hbt, hw, h7, hsub, if_pos (show (0 : Int) ≤ 1 ∧ 1 ≤ ((strB (c :: t)).size : Int) ∧ ((strB (c :: t)).size : Int) ≤ ((strB (c :: t)).size : Int) by omega)]
        have g := get_eq (strB t) (by rw [size_str]; omega)
        rw [bytesOf_str hBt] at g
        rw [headT]
        by_cases h2 : c < 1 ∨ 5 < c
        · rw [if_pos h2]
          refine MeetsP.err (s' := strB (c :: t)) (n' := ((seen + 1 : Nat) : Int)) (by decide) ?_
          rw [hd]
          by_cases h3 : c < 1
          · rw [if_pos h3]
          · rw [if_neg h3, if_pos (h2.resolve_left h3)]
        · rw [if_neg h2]
          rw [if_neg (by omega), if_neg (by omega), g, Option.bind_some] at hd
          have bad : ∀ e, getN 0 0 t = (0, 0, e) → e ≠ 0 → MeetsP (.error e) (F67_term_reader_term ((12 - (D + 1) : Nat) : Int) (strB (c :: t)) (seen : Int)) := by
            intro e he he0
            refine MeetsP.err (s' := strB (c :: t)) (n' := ((seen + 1 : Nat) : Int)) he0 ?_
            rw [hd, he]
            exact if_pos he0
          rcases get_is0 hBt with ⟨n, more, e1, hn, e2⟩ | e2 | e2
          · have hBm : AllB more := fun y hy => hBt y (by rw [e1]; simp [hy])
            have hlen : t.length = (putN n).length + more.length := by rw [e1, List.length_append]
            have hq := putN_len10 hn
            have w1 : IntKind.i64.wrap (1 + ((putN n).length : Int)) = ((1 + (putN n).length : Nat) : Int) := by rw [w64 (by omega) (by omega)]; omega
            have hml : more.length ≤ 281474976710656 := by omega
            have hs1 : seen + 1 ≤ 4000 := Nat.lt_of_not_le h1
            have b5 : subS (strB (c :: t)) ((1 + (putN n).length : Nat) : Int) ((strB (c :: t)).size : Int) = strB more := by
              rw [subS_drop _ _ rfl, Nat.add_comm, List.drop_succ_cons, e1, List.drop_left' rfl]
            have hh : F80_term_reader_head ((12 - (D + 1) : Nat) : Int) (strB (c :: t)) (seen : Int) = some (c, (n : Int), 0, strB more, ((seen + 1 : Nat) : Int), ()) := by
              rw [hd, e2]
              show (if ¬ (0 : Int) = 0 then _ else _) = _
              rw [if_neg (by simp)]
              show (if (0 : Int) ≤ (IntKind.i64.wrap ((1 : Int) + ((putN n).length : Int))) ∧ (IntKind.i64.wrap ((1 : Int) + ((putN n).length : Int))) ≤ ((strB (c :: t)).size : Int) ∧ ((strB (c :: t)).size : Int) ≤ ((strB (c :: t)).size : Int) then some (c, (n : Int), 0, subS (strB (c :: t)) (IntKind.i64.wrap ((1 : Int) + ((putN n).length : Int))) ((strB (c :: t)).size : Int), ((seen + 1 : Nat) : Int), ()) else none) = _
              rw [w1, if_pos (by omega), b5]
            rw [e2]
            simp only [if_true, Int.toNat_natCast]
            rw [show t.drop (putN n).length = more from by rw [e1, List.drop_left' rfl], F67_term_reader_term_eq, hh, Option.bind_some, if_neg (by simp)]
            dsimp only
            have hL := fun (m : Nat) (hm : m < 18446744073709551616) (c1 : Int) => reader_l (D := D) (f := rdF D) (12 - (D + 1)) (by omega) (fun b s a1 a2 a3 => by have := ih (by omega) b s a1 a2 a3; rw [show 12 - (D + 1) + 1 = 12 - D from by omega]; exact this) (rdF_was D) c c1 0 0 ByteArray.empty ByteArray.empty [] m more (seen + 1) [] hBm hml hs1 hm (by simp)
            have h0 : ∀ (c1 : Int) (c2 : ByteArray) (b2 : List Int), F67_term_reader_term_l1000022 ((12 - (D + 1) : Nat) : Int) 0 (strB b2) ((seen + 1 : Nat) : Int) 0 0 ByteArray.empty c c1 c2 [] [] = some (c, c1, c2, [], 0, strB b2, ((seen + 1 : Nat) : Int), ()) := by
              intro c1 c2 b2; rw [F67_term_reader_term_l1000022_eq, if_neg (by simp)]
            rw [bodyT]
            by_cases k1 : c = 1
            · rw [if_pos k1, if_pos k1, if_pos (Or.inl k1), h0]; exact rfl
            · rw [if_neg k1]
              by_cases k3 : c = 3
              · rw [if_pos k3, if_pos (Or.inr k3), h0]; exact rfl
              · rw [if_neg k3, if_neg (by omega)]
                by_cases k2 : c = 2
                · rw [if_pos k2, if_pos k2]
                  by_cases k4 : 4000 < n
                  · rw [if_pos k4, if_pos (show (4000 : Int) < (n : Int) by omega)]
                    exact ⟨by decide, _, _, rfl⟩
                  · have hu : IntKind.u64.wrap ((strB more).size : Int) = (more.length : Int) := by rw [size_str]; exact wraps_u64 _ (by omega) (by omega)
                    have hz : ((strB more).size : Int) = (more.length : Int) := by rw [size_str]
                    rw [if_neg k4, if_neg (show ¬ (4000 : Int) < (n : Int) by omega)]
                    simp only [hu]
                    by_cases k5 : more.length < n
                    · rw [if_pos k5, if_pos (show (more.length : Int) < (n : Int) by omega)]
                      exact ⟨by decide, _, _, rfl⟩
                    · rw [if_neg k5, if_neg (show ¬ (more.length : Int) < (n : Int) by omega), if_pos (by omega), if_pos (by omega), subS_drop _ n rfl, subS_take _ n rfl, h0]
                      subst k2; exact rfl
                · rw [if_neg k2, if_neg k2]
                  by_cases k4 : c = 4
                  · have := hL 1 (by omega) (n : Int)
                    simp only [if_pos k4]
                    cases q : rdL (rdF D) 1 more (seen + 1) with
                    | error e => rw [q] at this; obtain ⟨g1, g2, g3, g4⟩ := this; exact ⟨g1, g2, g3, g4⟩
                    | ok r =>
                      obtain ⟨l, b2, s2⟩ := r
                      rw [q] at this
                      simp only [MeetsL, MeetsP, T_f0, T_f1, T_f2, T_f3, List.nil_append] at this ⊢
                      exact this
                  · have k5 : c = 5 := by omega
                    have := hL n hn 0
                    simp only [if_neg k4, if_pos k5]
                    cases q : rdL (rdF D) n more (seen + 1) with
                    | error e => rw [q] at this; obtain ⟨g1, g2, g3, g4⟩ := this; exact ⟨g1, g2, g3, g4⟩
                    | ok r =>
                      obtain ⟨l, b2, s2⟩ := r
                      rw [q] at this
                      simp only [MeetsL, MeetsP, T_f0, T_f1, T_f2, T_f3, List.nil_append] at this ⊢
                      exact this
          · rw [e2]; exact bad 20 e2 (by decide)
          · rw [e2]; exact bad 21 e2 (by decide)
theorem decode_eq (s : ByteArray) (hs : s.size ≤ 281474976710656) : F45_term_Decode s = some (decode (bytesOf s)) := by
  have h := reader_eq 12 (by omega) (bytesOf s) 0 (AllB.of_bytes s) (by rw [bytesOf_length]; exact hs) (by omega)
  rw [str_bytesOf] at h
  rw [F45_term_Decode_eq]
  unfold decode
  cases q : rdF 12 (bytesOf s) 0 with
  | error e =>
    rw [q] at h
    obtain ⟨he, s', n', hev⟩ := h
    rw [show F67_term_reader_term 0 s 0 = _ from hev, Option.bind_some, if_pos he]
  | ok r =>
    obtain ⟨x, b', n⟩ := r
    rw [q] at h
    have w := rdF_was 12 _ _ _ _ _ (AllB.of_bytes s) q
    have hB : AllB b' := fun y hy => AllB.of_bytes s y (by rw [w.enc]; simp [hy])
    have h' : F67_term_reader_term ((12 - 12 : Nat) : Int) s ((0 : Nat) : Int) = some (S114.f0 x, S114.f1 x, S114.f2 x, S114.f3 x, 0, strB b', (n : Int), ()) := h
    rw [show F67_term_reader_term 0 s 0 = _ from h', Option.bind_some, if_neg (by simp)]
    by_cases c1 : b' = []
    · rw [if_neg (fun hh => hh ((str_empty_iff hB).2 c1))]; simp only [if_pos c1]
    · rw [if_pos (fun hh => c1 ((str_empty_iff hB).1 hh))]; simp only [if_neg c1]

/-! ### reading: the document's -/
abbrev T8 := Int × Int × ByteArray × List S114 × Int × Int × Int × Unit
def MeetsR (tot : Nat) (r : Rd S114) (a : Option T8) : Prop :=
  match r with
  | .ok (x, b', n) => a = some (S114.f0 x, S114.f1 x, S114.f2 x, S114.f3 x, ((tot - b'.length : Nat) : Int), (n : Int), 0, ())
  | .error e => e ≠ 0 ∧ a = some (0, 0, ByteArray.empty, [], 0, 0, e, ())
def MeetsRL (tot : Nat) (c0 c1 : Int) (c2 : ByteArray) (acc : List S114) (r : Rd (List S114)) (a : Option T8) : Prop :=
  match r with
  | .ok (l, b', n) => a = some (c0, c1, c2, acc ++ l, ((tot - b'.length : Nat) : Int), (n : Int), 0, ())
  | .error e => e ≠ 0 ∧ a = some (0, 0, ByteArray.empty, [], 0, 0, e, ())
theorem u64_pred' {m : Nat} (h : m + 1 < 18446744073709551616) : IntKind.u64.wrap (((m + 1 : Nat) : Int) - 1) = (m : Int) := by rw [wraps_u64 _ (by omega) (by omega)]; omega
theorem suffix_at {B b' : List Int} {p : Nat} {e : List Int} (h : B.drop p = e ++ b') (hp : p ≤ B.length) : b' = B.drop (B.length - b'.length) ∧ b'.length ≤ B.length - p ∧ e.length + b'.length = B.length - p := by
  have h1 : b' = (B.drop p).drop e.length := by rw [h, List.drop_left' rfl]
  have h2 := congrArg List.length h
  rw [List.length_drop, List.length_append] at h2
  refine ⟨?_, by omega, by omega⟩
  rw [List.drop_drop] at h1
  rw [show B.length - b'.length = p + e.length by omega]
  exact h1
theorem ext_part (B : List Int) (i n : Nat) : (strB B).extract i (i + n) = strB ((B.drop i).take n) := by
  apply ByteArray.ext
  simp [strB, List.map_take, List.map_drop, List.drop_take]
theorem errNeL {f : List Int → Nat → Rd S114} {D : Nat} (hf : ∀ b seen e, AllB b → f b seen = .error e → e ≠ 0) (hw : ∀ b seen x b' n, AllB b → f b seen = .ok (x, b', n) → Was D b seen x b' n) (m : Nat) : ∀ b seen e, AllB b → rdL f m b seen = .error e → e ≠ 0 := by
  induction m with
  | zero => intro b seen e _ h; simp [rdL] at h
  | succ m ih =>
    intro b seen e hB h
    rw [rdL] at h
    cases e1 : f b seen with
    | error e' =>
      rw [e1] at h
      simp only [Except.error.injEq] at h
      subst h
      exact hf _ _ _ hB e1
    | ok r =>
      obtain ⟨x, b1, n1⟩ := r
      rw [e1] at h
      have w := hw _ _ _ _ _ hB e1
      have hB1 : AllB b1 := fun y hy => hB y (by rw [w.enc]; simp [hy])
      simp only at h
      cases e2 : rdL f m b1 n1 with
      | error e' =>
        rw [e2] at h
        simp only [Except.error.injEq] at h
        subst h
        exact ih _ _ _ hB1 e2
      | ok r => rw [e2] at h; simp at h
theorem errNe (D : Nat) : ∀ b seen e, AllB b → rdF D b seen = .error e → e ≠ 0 := by
  induction D with
  | zero =>
    intro b seen e _ h
    rw [rdF] at h
    split at h <;> (simp only [Except.error.injEq] at h; omega)
  | succ D ih =>
    intro b seen e hB h
    rw [rdF] at h
    split at h
    · simp only [Except.error.injEq] at h; omega
    · cases b with
      | nil => simp only [headT, Except.error.injEq] at h; omega
      | cons c t =>
        have hBt : AllB t := fun y hy => hB y (by simp [hy])
        rw [headT] at h
        split at h
        · simp only [Except.error.injEq] at h; omega
        · split at h
          · unfold bodyT at h
            split at h
            · simp at h
            · split at h
              · split at h
                · simp only [Except.error.injEq] at h; omega
                · split at h
                  · simp only [Except.error.injEq] at h; omega
                  · simp at h
              · cases q : rdL (rdF D) (if c = 4 then 1 else (getN 0 0 t).1.toNat) (t.drop (getN 0 0 t).2.1.toNat) (seen + 1) with
                | error e' =>
                  rw [q] at h
                  simp only [Except.error.injEq] at h
                  subst h
                  exact errNeL ih (rdF_was D) _ _ _ _ (hBt.drop _) q
                | ok r => rw [q] at h; simp at h
          · rename_i hne
            simp only [Except.error.injEq] at h
            subst h
            exact hne
/-- A decoded term: as it was, and all there is. -/
def okD (x : S114) : Int × Int × ByteArray × List S114 × Int × Unit := (S114.f0 x, S114.f1 x, S114.f2 x, S114.f3 x, 0, ())
def erD (e : Int) : Int × Int × ByteArray × List S114 × Int × Unit := (0, 0, ByteArray.empty, [], e, ())
theorem decode_is (s : ByteArray) : (∃ x, decode (bytesOf s) = okD x ∧ bytesOf s = encT x ∧ okT x ∧ rightT x = 0) ∨ ∃ e, e ≠ 0 ∧ decode (bytesOf s) = erD e := by
  unfold decode
  cases e : rdF 12 (bytesOf s) 0 with
  | error e' =>
    refine .inr ⟨e', ?_, rfl⟩
    intro he
    subst he
    exact absurd rfl (errNe 12 _ _ _ (AllB.of_bytes s) e)
  | ok r =>
    obtain ⟨x, b', n⟩ := r
    have w := rdF_was 12 _ _ _ _ _ (AllB.of_bytes s) e
    by_cases c : b' = []
    · refine .inl ⟨x, by simp only [if_pos c]; rfl, by rw [w.enc, c, List.append_nil], w.ok, ?_⟩
      have hc := w.cnt
      have hm := w.most
      have hdp := w.deep
      unfold rightT
      rw [if_neg (by omega), if_neg (by omega), if_pos w.shape]
    · exact .inr ⟨24, by decide, by simp only [if_neg c]; rfl⟩
theorem decode_enc {x : S114} (hx : okT x) (hr : rightT x = 0) : decode (bytesOf (strB (encT x))) = okD x := by
  obtain ⟨p1, p2, p3⟩ := right_is hr
  unfold decode
  have := rdF_reads hx 12 [] 0 p3 p2 (by omega)
  rw [List.append_nil] at this
  rw [bytesOf_str (encT_B hx), this]
  simp only [if_true]; rfl

theorem enc_pre {x y : S114} (hx : okT x) (hy : okT y) (hx0 : rightT x = 0) (hy0 : rightT y = 0) {more : List Int} (h : encT x = encT y ++ more) : x = y ∧ more = [] := by
  obtain ⟨p1, p2, p3⟩ := right_is hx0
  obtain ⟨q1, q2, q3⟩ := right_is hy0
  have e1 := rdF_reads hx 12 [] 0 p3 p2 (by omega)
  have e2 := rdF_reads hy 12 more 0 q3 q2 (by omega)
  rw [List.append_nil, h, e2] at e1
  simp only [Except.ok.injEq, Prod.mk.injEq] at e1
  exact ⟨e1.1.symm, e1.2.1⟩
theorem enc_inj {x y : S114} (hx : okT x) (hy : okT y) (hx0 : rightT x = 0) (hy0 : rightT y = 0) (h : encT x = encT y) : x = y := (enc_pre hx hy hx0 hy0 (more := []) (by rw [List.append_nil]; exact h)).1

/-! ### records of the cell -/
def recOk (n a b c o u : Int) : Bool := decide (0 ≤ n ∧ n ≤ 2147483647) && refOk a b c && decide (0 ≤ o ∧ o ≤ 1048576 ∧ 0 ≤ u ∧ u ≤ 134217728)
def recT (n k a b c o u : Int) : S114 := rowT [numT n, keyT k, numT a, numT b, numT c, numT o, numT u]
def recE (n k a b c o u : Int) : List Int := encT (recT n k a b c o u)
theorem recOk_is {n a b c o u : Int} (h : recOk n a b c o u = true) : (0 ≤ n ∧ n ≤ 2147483647) ∧ (0 ≤ a ∧ a ≤ 1048576 ∧ 0 ≤ b ∧ b ≤ 134217728 ∧ 1 ≤ c ∧ c ≤ 1048576) ∧ 0 ≤ o ∧ o ≤ 1048576 ∧ 0 ≤ u ∧ u ≤ 134217728 := by
  simp only [recOk, refOk, Bool.and_eq_true, decide_eq_true_eq] at h
  exact ⟨h.1.1, h.1.2, h.2⟩
theorem rec_ok (n : Int) {k : Int} (hk : (Lit.int .u64 k).wf = true) (a b c o u : Int) : okT (recT n k a b c o u) := okT.row (by simp) (fun x hx => by
  simp only [List.mem_cons, List.not_mem_nil, or_false] at hx
  rcases hx with e | e | e | e | e | e | e <;> subst e
  · exact okT.num _
  · exact okT.key hk
  all_goals exact okT.num _)
theorem rec_right (n k a b c o u : Int) : rightT (recT n k a b c o u) = 0 := by
  simp [rightT, recT, rowT, numT, keyT, parts, partsL, depth, depthL, shp, shpL, one, str_nil_iff]
def recV (n k a b c o u : Int) : Option (ByteArray × Int × Unit) := if recOk n a b c o u = true then some (strB (recE n k a b c o u), 0, ()) else some (ByteArray.empty, 170, ())
theorem Num_t {n : Int} : F62_term_Num (IntKind.u64.wrap n) = ofT (numT n) := by rw [F62_term_Num_eq]; rfl
theorem tkey' (n : Int) : F63_term_Key n = ofT (keyT n) := by rw [F63_term_Key_eq]; rfl
theorem bytes_l (v : Int) (ns : List Int) (hn : ns.length ≤ 10) : ∀ (d i : Nat) (g : List S114), ns.length - i = d → i ≤ ns.length → g.length ≤ 2 + i → (∀ x ∈ g, Tn x) → F42_commit_Bytes_l1000005 (ns.length : Int) (i : Int) g ns = (F64_term_Encode 5 0 ByteArray.empty (g ++ (ns.drop i).map numT)).bind fun y => some (y.1, y.2.1, ()) := by
  intro d
  induction d with
  | zero =>
    intro i g hd hi hg ht
    rw [F42_commit_Bytes_l1000005_eq, if_neg (by omega), tof (by omega) ht, List.drop_eq_nil_of_le (by omega)]
    simp only [ofT, rowT, S114.f0, S114.f1, S114.f2, S114.f3, Option.bind_some, List.map_nil, List.append_nil]
  | succ d ih =>
    intro i g hd hi hg ht
    rw [F42_commit_Bytes_l1000005_eq, if_pos (ilt (by omega)), if_pos (inb (by omega)), Num_t]
    simp only [ofT, Option.bind_some, term_eta]
    rw [if_pos (by rw [List.length_singleton]; omega), w64s (n := ns.length) (by omega) (by omega), ih (i + 1) _ (by omega) (by omega) (by simp; omega) (snoc_tn ht (Tn.num _)), drop_rd (z := 0) (by omega : i < ns.length), List.append_assoc]
    rfl
theorem cbytes_eq (n : Int) {k : Int} (hk : (Lit.int .u64 k).wf = true) (a b c o u : Int) : F42_commit_Bytes n k a b c o u = recV n k a b c o u := by
  have hl := bytes_l 0 [a, b, c, o, u] (by simp) 5 0 [numT n, keyT k] (by simp) (by simp) (by simp) (by
    intro x hx
    simp only [List.mem_cons, List.not_mem_nil, or_false] at hx
    rcases hx with e | e <;> subst e
    · exact Tn.num _
    · exact Tn.key _)
  have he := encode_eq (rec_ok n hk a b c o u)
  have hr : encode (recT n k a b c o u) = (strB (recE n k a b c o u), 0) := by unfold encode; rw [if_pos (rec_right _ _ _ _ _ _ _)]; rfl
  rw [hr] at he
  rw [show ([numT n, keyT k] ++ ([a, b, c, o, u].drop 0).map numT) = S114.f3 (recT n k a b c o u) from rfl] at hl
  have he2 : F64_term_Encode 5 0 ByteArray.empty (S114.f3 (recT n k a b c o u)) = some (strB (recE n k a b c o u), 0, ()) := he
  rw [he2] at hl
  simp only [Option.bind_some] at hl
  rw [F42_commit_Bytes_eq, (ref_eq k a b c).1, F42_commit_Bytes_l2_eq]
  unfold recV
  by_cases C : recOk n a b c o u = true
  · obtain ⟨r1, _, r3⟩ := recOk_is C
    have c2 : refOk a b c = true := by simp only [recOk, Bool.and_eq_true] at C; exact C.1.2
    rw [if_pos C, if_neg (show ¬ n < 0 by omega), if_neg (show ¬ 2147483647 < n by omega), Option.bind_some, c2]
    dsimp only
    rw [if_neg (by simp), if_neg (show ¬ o < 0 by omega), if_neg (show ¬ 1048576 < o by omega), if_neg (show ¬ u < 0 by omega), if_neg (show ¬ 134217728 < u by omega), Num_t, tkey']
    simp only [ofT, Option.bind_some, term_eta]
    exact hl
  · rw [if_neg C]
    refine ite_to (fun _ => rfl) (fun h1 => ?_)
    refine ite_to (fun _ => rfl) (fun h2 => ?_)
    rw [Option.bind_some]
    refine ite_to (fun _ => rfl) (fun h3 => ?_)
    refine ite_to (fun _ => rfl) (fun h4 => ?_)
    refine ite_to (fun _ => rfl) (fun h5 => ?_)
    refine ite_to (fun _ => rfl) (fun h6 => ?_)
    refine ite_to (fun _ => rfl) (fun h7 => ?_)
    exfalso; apply C; simp only [recOk, Bool.and_eq_true, decide_eq_true_eq]; exact ⟨⟨by omega, by simpa using h3⟩, by omega⟩
theorem rright_rec (n k a b c o u : Int) : F7_letheref17_Right n k a b c o u = some (recOk n a b c o u, ()) := by
  rw [F7_letheref17_Right_eq, (ref_eq k a b c).2]
  unfold recOk
  refine ite_to (fun h0 => ?_) (fun h0 => ?_)
  · refine ite_to (fun h1 => ?_) (fun h1 => ?_)
    · rw [Option.bind_some]
      cases refOk a b c
      · simp
      · dsimp only
        rw [if_pos rfl]
        repeat' (refine ite_to (fun _ => ?_) (fun _ => ?_))
        all_goals (apply ob_eq <;> intro hh <;> simp only [Bool.and_eq_true, decide_eq_true_eq, Bool.false_eq_true, and_true, true_and, Bool.and_true] at hh ⊢ <;> omega)
    · apply ob_eq <;> intro hh <;> simp only [Bool.and_eq_true, decide_eq_true_eq, Bool.false_eq_true] at hh ⊢ <;> omega
  · apply ob_eq <;> intro hh <;> simp only [Bool.and_eq_true, decide_eq_true_eq, Bool.false_eq_true] at hh ⊢ <;> omega
abbrev P8 := Int × Int × Int × Int × Int × Int × Int × Int × Unit
def badP : Option P8 := some (0, 0, 0, 0, 0, 0, 0, 170, ())
def okP (n k a b c o u : Int) : Option P8 := some (n, k, a, b, c, o, u, 0, ())
def small (x : S114) : Bool := decide (S114.f0 x = 1 ∧ S114.f1 x ≤ 2147483647)
def cut (x : S114) : Int := mn (S114.f1 x) 2147483648
theorem cut_w {x : S114} (h : okT x) : IntKind.i64.wrap (cut x) = cut x ∧ 0 ≤ cut x ∧ cut x ≤ 2147483648 ∧ (S114.f1 x ≤ 2147483647 → cut x = S114.f1 x) := by
  have h0 : 0 ≤ S114.f1 x := by cases h with | mk _ h1 _ _ _ _ => exact (wf_u64 h1).1
  have h2 : 0 ≤ cut x ∧ cut x ≤ 2147483648 ∧ (S114.f1 x ≤ 2147483647 → cut x = S114.f1 x) := by unfold cut mn; split <;> omega
  exact ⟨w64 (by omega) (by omega), h2⟩
theorem cparse_row {x0 x1 x2 x3 x4 x5 x6 : S114} (s : ByteArray) (h0 : okT x0) (h1 : okT x1) (h2 : okT x2) (h3 : okT x3) (h4 : okT x4) (h5 : okT x5) (h6 : okT x6) (p q : Int) (t : ByteArray) :
    F28_commit_Parse_l1000006 s [x0, x1, x2, x3, x4, x5, x6] 7 0 0 0 0 0 0 0 0 p q t [x0, x1, x2, x3, x4, x5, x6] 0 0 0 0 0 0 0 = if recOk (cut x0) (cut x2) (cut x3) (cut x4) (cut x5) (cut x6) = true ∧ strB (recE (cut x0) (S114.f1 x1) (cut x2) (cut x3) (cut x4) (cut x5) (cut x6)) = s then okP (cut x0) (S114.f1 x1) (cut x2) (cut x3) (cut x4) (cut x5) (cut x6) else badP := by
  have k1 : (Lit.int .u64 (S114.f1 x1)).wf = true := by cases h1 with | mk _ h1 _ _ _ _ => exact h1
  have w0 := (cut_w h0).1
  have w2 := (cut_w h2).1
  have w3 := (cut_w h3).1
  have w4 := (cut_w h4).1
  have w5 := (cut_w h5).1
  have w6 := (cut_w h6).1
  unfold cut at w0 w2 w3 w4 w5 w6
  rw [F28_commit_Parse_l1000006_eq, if_pos (by decide), if_pos (by simp)]; dsimp only
  rw [if_pos rfl, F28_commit_Parse_l9_eq, show IntKind.i64.wrap (0 + 1) = 1 by decide]
  rw [F28_commit_Parse_l1000006_eq, if_pos (by decide), if_pos (by simp)]; dsimp only
  rw [if_neg (by decide), if_pos rfl, F28_commit_Parse_l9_eq, show IntKind.i64.wrap (1 + 1) = 2 by decide]
  rw [F28_commit_Parse_l1000006_eq, if_pos (by decide), if_pos (by simp)]; dsimp only
  rw [if_neg (by decide), if_neg (by decide), if_pos rfl, F28_commit_Parse_l9_eq, show IntKind.i64.wrap (2 + 1) = 3 by decide]
  rw [F28_commit_Parse_l1000006_eq, if_pos (by decide), if_pos (by simp)]; dsimp only
  rw [if_neg (by decide), if_neg (by decide), if_neg (by decide), if_pos rfl, F28_commit_Parse_l9_eq, show IntKind.i64.wrap (3 + 1) = 4 by decide]
  rw [F28_commit_Parse_l1000006_eq, if_pos (by decide), if_pos (by simp)]; dsimp only
  rw [if_neg (by decide), if_neg (by decide), if_neg (by decide), if_neg (by decide), if_pos rfl, F28_commit_Parse_l9_eq, show IntKind.i64.wrap (4 + 1) = 5 by decide]
  rw [F28_commit_Parse_l1000006_eq, if_pos (by decide), if_pos (by simp)]; dsimp only
  rw [if_neg (by decide), if_neg (by decide), if_neg (by decide), if_neg (by decide), if_neg (by decide), if_pos rfl, F28_commit_Parse_l9_eq, show IntKind.i64.wrap (5 + 1) = 6 by decide]
  rw [F28_commit_Parse_l1000006_eq, if_pos (by decide), if_pos (by simp)]; dsimp only
  rw [if_neg (by decide), if_neg (by decide), if_neg (by decide), if_neg (by decide), if_neg (by decide), if_neg (by decide), if_pos rfl, F28_commit_Parse_l9_eq, show IntKind.i64.wrap (6 + 1) = 7 by decide]
  rw [F28_commit_Parse_l1000006_eq, if_neg (by decide), if_pos (by simp)]
  rw [show rd S114.z [x0, x1, x2, x3, x4, x5, x6] 0 = x0 from rfl, show rd S114.z [x0, x1, x2, x3, x4, x5, x6] 1 = x1 from rfl, show rd S114.z [x0, x1, x2, x3, x4, x5, x6] 2 = x2 from rfl, show rd S114.z [x0, x1, x2, x3, x4, x5, x6] 3 = x3 from rfl, show rd S114.z [x0, x1, x2, x3, x4, x5, x6] 4 = x4 from rfl, show rd S114.z [x0, x1, x2, x3, x4, x5, x6] 5 = x5 from rfl, show rd S114.z [x0, x1, x2, x3, x4, x5, x6] 6 = x6 from rfl]
  rw [w0, w2, w3, w4, w5, w6, cbytes_eq _ k1]
  unfold recV
  by_cases c : recOk (mn (S114.f1 x0) 2147483648) (mn (S114.f1 x2) 2147483648) (mn (S114.f1 x3) 2147483648) (mn (S114.f1 x4) 2147483648) (mn (S114.f1 x5) 2147483648) (mn (S114.f1 x6) 2147483648) = true
  · rw [if_pos c, Option.bind_some]
    dsimp only
    rw [if_neg (by simp)]
    by_cases c2 : strB (recE (mn (S114.f1 x0) 2147483648) (S114.f1 x1) (mn (S114.f1 x2) 2147483648) (mn (S114.f1 x3) 2147483648) (mn (S114.f1 x4) 2147483648) (mn (S114.f1 x5) 2147483648) (mn (S114.f1 x6) 2147483648)) = s
    · rw [if_neg (by simp [c2]), if_pos ⟨c, c2⟩]; rfl
    · rw [if_pos c2, if_neg (fun h => c2 h.2)]; rfl
  · rw [if_neg c, Option.bind_some]
    dsimp only
    rw [if_pos (show ¬ (170 : Int) = 0 by decide)]
    exact (if_neg (fun h => c h.1)).symm
theorem list7 {α : Type} {l : List α} (h : l.length = 7) : ∃ a b c d e f g, l = [a, b, c, d, e, f, g] := by
  match l, h with
  | [a, b, c, d, e, f, g], _ => exact ⟨a, b, c, d, e, f, g, rfl⟩
theorem numT_inj {n : Int} {x : S114} (h : numT n = x) (hn : 0 ≤ n ∧ n ≤ 2147483647) : small x = true ∧ cut x = n := by
  subst h
  have e : S114.f1 (numT n) = n := wrap_u64 hn.1 (by omega)
  refine ⟨?_, ?_⟩
  · simp only [small, decide_eq_true_eq, e]; exact ⟨rfl, hn.2⟩
  · unfold cut mn; rw [e]; split <;> omega
theorem small_is {x : S114} (ho : okT x) (hs : shp x = true) (h : small x = true) : numT (cut x) = x := by
  simp only [small, decide_eq_true_eq] at h
  have h0 : 0 ≤ S114.f1 x := by cases ho with | mk _ h1 _ _ _ _ => exact (wf_u64 h1).1
  unfold numT
  rw [(cut_w ho).2.2.2 h.2, wrap_u64 h0 (by omega)]
  exact (shp_num hs h.1).symm
theorem parse_c (s : ByteArray) (hs : s.size ≤ 281474976710656) :
    (∃ n k a b c o u, recOk n a b c o u = true ∧ (Lit.int .u64 k).wf = true ∧ s = strB (recE n k a b c o u) ∧ F28_commit_Parse s = okP n k a b c o u) ∨
    (F28_commit_Parse s = badP ∧ ∀ n k a b c o u, recOk n a b c o u = true → (Lit.int .u64 k).wf = true → s ≠ strB (recE n k a b c o u)) := by
  generalize hA : F28_commit_Parse s = A
  rw [F28_commit_Parse_eq, decode_eq _ hs] at hA
  rcases decode_is s with ⟨x, hd, he, ho, hr⟩ | ⟨e, he, hd⟩
  · rw [hd, okD] at hA
    simp only [Option.bind_some, not_true_eq_false, if_false] at hA
    have hso : s = strB (encT x) := by rw [← he, str_bytesOf]
    have hsh := (right_is hr).2.2
    have no : (∀ n k a b c o u, recOk n a b c o u = true → recT n k a b c o u = x → False) → ∀ n k a b c o u, recOk n a b c o u = true → (Lit.int .u64 k).wf = true → s ≠ strB (recE n k a b c o u) := by
      intro h n k a b c o u h1 h2 h3
      refine h n k a b c o u h1 (enc_inj (rec_ok n h2 a b c o u) ho (rec_right n k a b c o u) hr ?_)
      rw [← he, h3, recE, bytesOf_str (encT_B (rec_ok n h2 a b c o u))]
    by_cases c1 : S114.f0 x = 5
    · rw [if_neg (by simp [c1])] at hA
      by_cases c2 : (S114.f3 x).length = 7
      · have c2' : ¬ ¬ ((S114.f3 x).length : Int) = 7 := by omega
        rw [if_neg c2', show ((S114.f3 x).length : Int) = 7 by omega] at hA
        have hrow := shp_row hsh c1
        have hin : ∀ y ∈ S114.f3 x, shp y = true := fun y hy => shp_in hsh hy
        have hel := ho.el
        obtain ⟨x0, x1, x2, x3, x4, x5, x6, hl⟩ := list7 c2
        rw [hl] at hrow hin hel hA
        have o0 := hel x0 (by simp)
        have o1 := hel x1 (by simp)
        have o2 := hel x2 (by simp)
        have o3 := hel x3 (by simp)
        have o4 := hel x4 (by simp)
        have o5 := hel x5 (by simp)
        have o6 := hel x6 (by simp)
        have k1 : (Lit.int .u64 (S114.f1 x1)).wf = true := by cases o1 with | mk _ h1 _ _ _ _ => exact h1
        rw [cparse_row s o0 o1 o2 o3 o4 o5 o6] at hA
        have back : ∀ n k a b c o u, recOk n a b c o u = true → recT n k a b c o u = x → S114.f0 x1 = 3 ∧ (small x0 = true ∧ small x2 = true ∧ small x3 = true ∧ small x4 = true ∧ small x5 = true ∧ small x6 = true) ∧ recOk (cut x0) (cut x2) (cut x3) (cut x4) (cut x5) (cut x6) = true := by
          intro n k a b c o u h1 h2
          rw [hrow] at h2
          simp only [recT, rowT, S114.mk.injEq, List.cons.injEq, true_and, and_true] at h2
          obtain ⟨e0, e1, e2, e3, e4, e5, e6⟩ := h2
          obtain ⟨r1, r2, r3⟩ := recOk_is h1
          obtain ⟨s0, t0⟩ := numT_inj e0 (by omega)
          obtain ⟨s2, t2⟩ := numT_inj e2 (by omega)
          obtain ⟨s3, t3⟩ := numT_inj e3 (by omega)
          obtain ⟨s4, t4⟩ := numT_inj e4 (by omega)
          obtain ⟨s5, t5⟩ := numT_inj e5 (by omega)
          obtain ⟨s6, t6⟩ := numT_inj e6 (by omega)
          refine ⟨by rw [← e1]; rfl, ⟨s0, s2, s3, s4, s5, s6⟩, ?_⟩
          rw [t0, t2, t3, t4, t5, t6]; exact h1
        by_cases c3 : S114.f0 x1 = 3
        · by_cases c4 : (small x0 = true ∧ small x2 = true ∧ small x3 = true ∧ small x4 = true ∧ small x5 = true ∧ small x6 = true) ∧ recOk (cut x0) (cut x2) (cut x3) (cut x4) (cut x5) (cut x6) = true
          · have hx : recT (cut x0) (S114.f1 x1) (cut x2) (cut x3) (cut x4) (cut x5) (cut x6) = x := by
              obtain ⟨⟨s0, s2, s3, s4, s5, s6⟩, _⟩ := c4
              have a0 := small_is o0 (hin x0 (by simp)) s0
              have a2 := small_is o2 (hin x2 (by simp)) s2
              have a3 := small_is o3 (hin x3 (by simp)) s3
              have a4 := small_is o4 (hin x4 (by simp)) s4
              have a5 := small_is o5 (hin x5 (by simp)) s5
              have a6 := small_is o6 (hin x6 (by simp)) s6
              have a1 := shp_key (hin x1 (by simp)) c3
              rw [hrow]
              unfold recT
              rw [a0, a2, a3, a4, a5, a6, ← a1]
            have hse : s = strB (recE (cut x0) (S114.f1 x1) (cut x2) (cut x3) (cut x4) (cut x5) (cut x6)) := by unfold recE; rw [hx]; exact hso
            exact .inl ⟨cut x0, S114.f1 x1, cut x2, cut x3, cut x4, cut x5, cut x6, c4.2, k1, hse, by rw [← hA]; exact if_pos ⟨c4.2, hse.symm⟩⟩
          · refine .inr ⟨hA.symm.trans (if_neg (fun h => ?_)), no (fun n k a b c o u h1 h2 => c4 (back n k a b c o u h1 h2).2)⟩
            exact absurd (no (fun n k a b c o u h1 h2 => c4 (back n k a b c o u h1 h2).2) _ _ _ _ _ _ _ h.1 k1 h.2.symm) (fun h => h)
        · refine .inr ⟨hA.symm.trans (if_neg (fun h => ?_)), no (fun n k a b c o u h1 h2 => c3 (back n k a b c o u h1 h2).1)⟩
          exact absurd (no (fun n k a b c o u h1 h2 => c3 (back n k a b c o u h1 h2).1) _ _ _ _ _ _ _ h.1 k1 h.2.symm) (fun h => h)
      · rw [if_pos (by omega)] at hA
        refine .inr ⟨hA.symm, no (fun n k a b c o u _ h2 => ?_)⟩
        rw [← h2] at c2; exact c2 rfl
    · rw [if_pos c1] at hA
      refine .inr ⟨hA.symm, no (fun n k a b c o u _ h2 => ?_)⟩
      rw [← h2] at c1; exact c1 rfl
  · rw [hd, erD] at hA
    simp only [Option.bind_some] at hA
    rw [if_pos he] at hA
    refine .inr ⟨hA.symm, ?_⟩
    intro n k a b c o u h1 h2 h3
    have := decode_enc (rec_ok n h2 a b c o u) (rec_right n k a b c o u)
    rw [show strB (encT (recT n k a b c o u)) = s from h3.symm, hd] at this
    simp only [erD, okD, Prod.mk.injEq] at this
    exact he this.2.2.2.2.1
theorem rec_inj {n k a b c o u n' k' a' b' c' o' u' : Int} (h1 : recOk n a b c o u = true) (h2 : (Lit.int .u64 k).wf = true) (g1 : recOk n' a' b' c' o' u' = true) (g2 : (Lit.int .u64 k').wf = true) (g3 : strB (recE n k a b c o u) = strB (recE n' k' a' b' c' o' u')) : n = n' ∧ k = k' ∧ a = a' ∧ b = b' ∧ c = c' ∧ o = o' ∧ u = u' := by
  have g6 : recT n k a b c o u = recT n' k' a' b' c' o' u' := by
    refine enc_inj (rec_ok n h2 a b c o u) (rec_ok n' g2 a' b' c' o' u') (rec_right n k a b c o u) (rec_right n' k' a' b' c' o' u') ?_
    have := congrArg bytesOf g3
    unfold recE at this
    rw [bytesOf_str (encT_B (rec_ok n h2 a b c o u)), bytesOf_str (encT_B (rec_ok n' g2 a' b' c' o' u'))] at this
    exact this
  obtain ⟨r1, r2, r3⟩ := recOk_is h1
  obtain ⟨q1, q2, q3⟩ := recOk_is g1
  have I : ∀ {x y : Int}, numT x = numT y → (0 ≤ x ∧ x ≤ 2147483647) → (0 ≤ y ∧ y ≤ 2147483647) → x = y := by
    intro x y h hx hy
    have e := congrArg S114.f1 h
    rw [show S114.f1 (numT x) = x from wrap_u64 hx.1 (by omega), show S114.f1 (numT y) = y from wrap_u64 hy.1 (by omega)] at e
    exact e
  simp only [recT, rowT, keyT, S114.mk.injEq, List.cons.injEq, true_and, and_true] at g6
  obtain ⟨e0, e1, e2, e3, e4, e5, e6⟩ := g6
  exact ⟨I e0 (by omega) (by omega), e1, I e2 (by omega) (by omega), I e3 (by omega) (by omega), I e4 (by omega) (by omega), I e5 (by omega) (by omega), I e6 (by omega) (by omega)⟩
theorem rec_small (n : Int) {k : Int} (hk : (Lit.int .u64 k).wf = true) (a b c o u : Int) : (strB (recE n k a b c o u)).size ≤ 281474976710656 := by rw [size_str]; have := right_len (rec_ok n hk a b c o u) (rec_right n k a b c o u); unfold recE; omega
theorem parse_rec {n k a b c o u : Int} (h1 : recOk n a b c o u = true) (h2 : (Lit.int .u64 k).wf = true) : F28_commit_Parse (strB (recE n k a b c o u)) = okP n k a b c o u := by
  rcases parse_c _ (rec_small n h2 a b c o u) with ⟨n', k', a', b', c', o', u', g1, g2, g3, g4⟩ | ⟨_, h⟩
  · obtain ⟨rfl, rfl, rfl, rfl, rfl, rfl, rfl⟩ := rec_inj h1 h2 g1 g2 g3
    exact g4
  · exact absurd rfl (h n k a b c o u h1 h2)
/-! ### the cell and its commits, plainly -/
structure Cl where
  (a b : ByteArray) (n : Int) (o : Bool) (h w : Int)
structure Rc where
  (n k a b c o u : Int)
def Rc.zero : Rc := ⟨0, 0, 0, 0, 0, 0, 0⟩
def spendV (c : Cl) : Int × Cl := if c.o = true then (110, c) else if 0 < c.h then (0, ⟨c.a, c.b, c.n, decide (IntKind.i64.wrap (c.h - 1) = 0), IntKind.i64.wrap (c.h - 1), IntKind.i64.wrap (c.w + 1)⟩) else (0, ⟨c.a, c.b, c.n, c.o, c.h, IntKind.i64.wrap (c.w + 1)⟩)
def layV (i : Int) (s : ByteArray) (c : Cl) : Int × Cl :=
  if (spendV c).1 = 0 then (0, ⟨if i = 0 then s else c.a, if i = 0 then c.b else s, IntKind.i64.wrap (c.n + 1), (spendV c).2.o, (spendV c).2.h, (spendV c).2.w⟩) else spendV c
def slot (i : Int) (c : Cl) : ByteArray := if i = 0 then c.a else c.b
def setV (i : Int) (s : ByteArray) (c : Cl) : Int × Cl := if i = 0 ∨ i = 1 then (if slot i c = ByteArray.empty then (if s = ByteArray.empty ∨ 200 < (s.size : Int) then (2, c) else layV i s c) else (131, c)) else (130, c)
def eraV (i : Int) (c : Cl) : Int × Cl := if i = 0 ∨ i = 1 then (if slot i c = ByteArray.empty then (132, c) else layV i ByteArray.empty c) else (130, c)
abbrev O8 := Int × ByteArray × ByteArray × Int × Bool × Int × Int × Unit
def cOut (r : Int × Cl) : Option O8 := some (r.1, r.2.a, r.2.b, r.2.n, r.2.o, r.2.h, r.2.w, ())
def rOut (r : Int × Cl) : Option O8 := some (r.1, r.2.a, r.2.b, r.2.n, !r.2.o, r.2.h, r.2.w, ())
abbrev O15 := Int × Int × Int × Int × Int × Int × Int × Int × ByteArray × ByteArray × Int × Bool × Int × Int × Unit
def cOutR (r : Rc) (e : Int) (c : Cl) : Option O15 := some (r.n, r.k, r.a, r.b, r.c, r.o, r.u, e, c.a, c.b, c.n, c.o, c.h, c.w, ())
def rOutR (r : Rc) (e : Int) (c : Cl) : Option O15 := some (r.n, r.k, r.a, r.b, r.c, r.o, r.u, e, c.a, c.b, c.n, !c.o, c.h, c.w, ())
abbrev O16 := Int × Int × Int × Int × Int × Int × Int × Int × Int × ByteArray × ByteArray × Int × Bool × Int × Int × Unit
def cOutN (r : Rc) (i e : Int) (c : Cl) : Option O16 := some (r.n, r.k, r.a, r.b, r.c, r.o, r.u, i, e, c.a, c.b, c.n, c.o, c.h, c.w, ())
def rOutN (r : Rc) (i e : Int) (c : Cl) : Option O16 := some (r.n, r.k, r.a, r.b, r.c, r.o, r.u, i, e, c.a, c.b, c.n, !c.o, c.h, c.w, ())
/-- What the bytes of a slot are read as. -/
noncomputable def pv (s : ByteArray) : Rc × Int := match F28_commit_Parse s with | some (n, k, a, b, c, o, u, e, _) => (⟨n, k, a, b, c, o, u⟩, e) | none => (Rc.zero, 170)
def outP (r : Rc × Int) : Option P8 := some (r.1.n, r.1.k, r.1.a, r.1.b, r.1.c, r.1.o, r.1.u, r.2, ())
theorem pv_eq {s : ByteArray} (hs : s.size ≤ 281474976710656) : F28_commit_Parse s = outP (pv s) ∧ ((pv s).2 = 0 ∨ pv s = (Rc.zero, 170)) := by
  rcases parse_c s hs with ⟨n, k, a, b, c, o, u, _, _, _, g4⟩ | ⟨g4, _⟩
  · have : pv s = (⟨n, k, a, b, c, o, u⟩, 0) := by unfold pv; rw [g4]; rfl
    rw [this]; exact ⟨g4, .inl rfl⟩
  · have : pv s = (Rc.zero, 170) := by unfold pv; rw [g4]; rfl
    rw [this]; exact ⟨g4, .inr rfl⟩
theorem pv_empty : pv ByteArray.empty = (Rc.zero, 170) := by
  rcases parse_c ByteArray.empty (by decide) with ⟨n, k, a, b, c, o, u, _, h2, h3, _⟩ | ⟨g4, _⟩
  · have h := congrArg bytesOf h3
    rw [recE, bytesOf_str (encT_B (rec_ok n h2 a b c o u)), encT_eq] at h
    simp [hd, bytesOf_empty] at h
  · unfold pv; rw [g4]; rfl
theorem pv_rec {n k a b c o u : Int} (h1 : recOk n a b c o u = true) (h2 : (Lit.int .u64 k).wf = true) : pv (strB (recE n k a b c o u)) = (⟨n, k, a, b, c, o, u⟩, 0) := by
  unfold pv; rw [parse_rec h1 h2]; rfl
theorem pv_wf {s : ByteArray} (hs : s.size ≤ 281474976710656) : (Lit.int .u64 (pv s).1.k).wf = true := by
  rcases parse_c s hs with ⟨n, k, a, b, c, o, u, _, h2, _, g4⟩ | ⟨g4, _⟩
  · have : pv s = (⟨n, k, a, b, c, o, u⟩, 0) := by unfold pv; rw [g4]; rfl
    rw [this]; exact h2
  · have : pv s = (Rc.zero, 170) := by unfold pv; rw [g4]; rfl
    rw [this]; decide
noncomputable def nowV (c : Cl) : Rc × Int × Int :=
  if c.a = ByteArray.empty ∧ c.b = ByteArray.empty then (Rc.zero, 0, 171)
  else if ¬ (pv c.a).2 = 0 ∧ ¬ (pv c.b).2 = 0 then (Rc.zero, 0, 170)
  else if ¬ (pv c.a).2 = 0 ∨ (pv c.b).2 = 0 ∧ (pv c.a).1.n < (pv c.b).1.n then ((pv c.b).1, 1, 0) else ((pv c.a).1, 0, 0)
def setR (i : Int) (r : Rc) (c : Cl) : Rc × Int × Cl :=
  if recOk r.n r.a r.b r.c r.o r.u = true then (if (setV i (strB (recE r.n r.k r.a r.b r.c r.o r.u)) c).1 = 0 then (r, setV i (strB (recE r.n r.k r.a r.b r.c r.o r.u)) c) else (Rc.zero, setV i (strB (recE r.n r.k r.a r.b r.c r.o r.u)) c)) else (Rc.zero, 170, c)
noncomputable def firstV (k a b c o u : Int) (z : Cl) : Rc × Int × Cl := if z.a = ByteArray.empty ∧ z.b = ByteArray.empty then setR 0 ⟨0, k, a, b, c, o, u⟩ z else (Rc.zero, 131, z)
noncomputable def nextV (k a b c o u : Int) (z : Cl) : Rc × Int × Cl :=
  if ¬ z.a = ByteArray.empty ∧ ¬ z.b = ByteArray.empty then (Rc.zero, 172, z)
  else if (nowV z).2.2 = 0 then
    (if (setR (IntKind.i64.wrap (1 - (nowV z).2.1)) ⟨IntKind.i64.wrap ((nowV z).1.n + 1), k, a, b, c, o, u⟩ z).2.1 = 0 then
      (if (eraV (nowV z).2.1 (setR (IntKind.i64.wrap (1 - (nowV z).2.1)) ⟨IntKind.i64.wrap ((nowV z).1.n + 1), k, a, b, c, o, u⟩ z).2.2).1 = 0 then
        ((setR (IntKind.i64.wrap (1 - (nowV z).2.1)) ⟨IntKind.i64.wrap ((nowV z).1.n + 1), k, a, b, c, o, u⟩ z).1, eraV (nowV z).2.1 (setR (IntKind.i64.wrap (1 - (nowV z).2.1)) ⟨IntKind.i64.wrap ((nowV z).1.n + 1), k, a, b, c, o, u⟩ z).2.2)
      else (Rc.zero, eraV (nowV z).2.1 (setR (IntKind.i64.wrap (1 - (nowV z).2.1)) ⟨IntKind.i64.wrap ((nowV z).1.n + 1), k, a, b, c, o, u⟩ z).2.2))
    else (Rc.zero, (setR (IntKind.i64.wrap (1 - (nowV z).2.1)) ⟨IntKind.i64.wrap ((nowV z).1.n + 1), k, a, b, c, o, u⟩ z).2))
  else (Rc.zero, (nowV z).2.2, z)
/-- What the slots hold is short. -/
def Short (c : Cl) : Prop := c.a.size ≤ 200 ∧ c.b.size ≤ 200
theorem spend_short {c : Cl} (h : Short c) : Short (spendV c).2 := by
  unfold spendV; split
  · exact h
  · split <;> exact h
theorem lay_short {c : Cl} (h : Short c) {i : Int} {s : ByteArray} (hs : s.size ≤ 200) : Short (layV i s c).2 := by
  unfold layV; split
  · constructor
    · dsimp only; split; exact hs; exact h.1
    · dsimp only; split; exact h.2; exact hs
  · exact spend_short h
theorem set_short {c : Cl} (h : Short c) (i : Int) (s : ByteArray) : Short (setV i s c).2 := by
  unfold setV; split
  · split
    · split
      · exact h
      · exact lay_short h (by omega)
    · exact h
  · exact h
theorem era_short {c : Cl} (h : Short c) (i : Int) : Short (eraV i c).2 := by
  unfold eraV; split
  · split
    · exact h
    · exact lay_short h (by decide)
  · exact h
theorem setR_short {c : Cl} (h : Short c) (i : Int) (r : Rc) : Short (setR i r c).2.2 := by
  unfold setR; split
  · split <;> exact set_short h _ _
  · exact h
theorem first_short {z : Cl} (h : Short z) (k a b c o u : Int) : Short (firstV k a b c o u z).2.2 := by
  unfold firstV; split
  · exact setR_short h _ _
  · exact h
theorem next_short {z : Cl} (h : Short z) (k a b c o u : Int) : Short (nextV k a b c o u z).2.2 := by
  unfold nextV; split
  · exact h
  · split
    · split
      · split <;> exact era_short (setR_short h _ _) _
      · exact setR_short h _ _
    · exact h

theorem cspend_eq (c : Cl) : F66_power_Power_Spend c.o c.h c.w = some ((spendV c).1, (spendV c).2.o, (spendV c).2.h, (spendV c).2.w, ()) := by
  rw [F66_power_Power_Spend_eq]
  unfold spendV
  by_cases h1 : c.o = true
  · rw [if_pos h1, if_pos h1]
  · rw [if_neg h1, if_neg h1]
    by_cases h2 : 0 < c.h
    · rw [if_pos h2, if_pos h2]
    · rw [if_neg h2, if_neg h2]
theorem clay_eq (i : Int) (hi : i = 0 ∨ i = 1) (s : ByteArray) (c : Cl) : F44_cell_Cell_lay i s c.a c.b c.n c.o c.h c.w = cOut (layV i s c) := by
  rw [F44_cell_Cell_lay_eq, cspend_eq, Option.bind_some]
  dsimp only
  unfold layV cOut
  by_cases h : (spendV c).1 = 0
  · rw [if_neg (by simp [h]), if_pos h]
    rcases hi with hi | hi <;> subst hi
    · rfl
    · rfl
  · rw [if_pos h, if_neg h]
    have : (spendV c).2.a = c.a ∧ (spendV c).2.b = c.b ∧ (spendV c).2.n = c.n := by
      unfold spendV; split
      · exact ⟨rfl, rfl, rfl⟩
      · split <;> exact ⟨rfl, rfl, rfl⟩
    rw [this.1, this.2.1, this.2.2]
theorem cis_eq (i : Int) (c : Cl) : F29_cell_Cell_is i c.a c.b c.n c.o c.h c.w = some (decide (i = 0 ∨ i = 1), c.a, c.b, c.n, c.o, c.h, c.w, ()) := by
  rw [F29_cell_Cell_is_eq]
  by_cases h : 0 ≤ i
  · rw [if_pos h, show decide (i < 2) = decide (i = 0 ∨ i = 1) from by rw [Bool.eq_iff_iff, decide_eq_true_eq, decide_eq_true_eq]; omega]
  · rw [if_neg h, show decide (i = 0 ∨ i = 1) = false from by rw [decide_eq_false_iff_not]; omega]
theorem cset_eq (i : Int) (s : ByteArray) (c : Cl) : F43_cell_Cell_Set i s c.a c.b c.n c.o c.h c.w = cOut (setV i s c) := by
  rw [F43_cell_Cell_Set_eq, cis_eq, Option.bind_some]
  simp only [F43_cell_Cell_Set_l6_eq]
  unfold setV
  by_cases hi : i = 0 ∨ i = 1
  · rw [if_neg (by simp [hi]), if_pos hi]
    have E : (if s = ByteArray.empty then some (2, c.a, c.b, c.n, c.o, c.h, c.w, ()) else if (200 : Int) < (s.size : Int) then some (2, c.a, c.b, c.n, c.o, c.h, c.w, ()) else (F44_cell_Cell_lay i s c.a c.b c.n c.o c.h c.w).bind fun y => some (y.1, y.2.1, y.2.2.1, y.2.2.2.1, y.2.2.2.2.1, y.2.2.2.2.2.1, y.2.2.2.2.2.2.1, ())) = cOut (if s = ByteArray.empty ∨ 200 < (s.size : Int) then (2, c) else layV i s c) := by
      by_cases h1 : s = ByteArray.empty
      · rw [if_pos h1, if_pos (.inl h1)]; rfl
      · rw [if_neg h1]
        by_cases h2 : 200 < (s.size : Int)
        · rw [if_pos h2, if_pos (.inr h2)]; rfl
        · rw [if_neg h2, if_neg (by rintro (h | h); exact h1 h; exact h2 h), clay_eq i hi]; rfl
    rcases hi with hi | hi <;> subst hi
    · rw [if_pos rfl]
      by_cases h0 : c.a = ByteArray.empty
      · rw [if_neg (by simp [h0]), if_pos (show slot 0 c = ByteArray.empty from h0)]; exact E
      · rw [if_pos h0, if_neg (show ¬ slot 0 c = ByteArray.empty from h0)]; rfl
    · rw [if_neg (by decide), if_pos rfl]
      by_cases h0 : c.b = ByteArray.empty
      · rw [if_neg (by simp [h0]), if_pos (show slot 1 c = ByteArray.empty from h0)]; exact E
      · rw [if_pos h0, if_neg (show ¬ slot 1 c = ByteArray.empty from h0)]; rfl
  · rw [if_pos (by simp only [not_or] at hi; simp [hi]), if_neg hi]; rfl
theorem cera_eq (i : Int) (c : Cl) : F27_cell_Cell_Erase i c.a c.b c.n c.o c.h c.w = cOut (eraV i c) := by
  rw [F27_cell_Cell_Erase_eq, cis_eq, Option.bind_some]
  dsimp only
  unfold eraV
  by_cases hi : i = 0 ∨ i = 1
  · rw [if_neg (by simp [hi]), if_pos hi, clay_eq i hi]
    rcases hi with hi | hi <;> subst hi
    · rw [if_pos rfl]
      by_cases h0 : c.a = ByteArray.empty
      · rw [if_pos h0, if_pos (show slot 0 c = ByteArray.empty from h0)]; rfl
      · rw [if_neg h0, if_neg (show ¬ slot 0 c = ByteArray.empty from h0)]; rfl
    · rw [if_neg (by decide), if_pos rfl]
      by_cases h0 : c.b = ByteArray.empty
      · rw [if_pos h0, if_pos (show slot 1 c = ByteArray.empty from h0)]; rfl
      · rw [if_neg h0, if_neg (show ¬ slot 1 c = ByteArray.empty from h0)]; rfl
  · rw [if_pos (by simp only [not_or] at hi; simp [hi]), if_neg hi]; rfl
theorem cget_eq (i : Int) (hi : i = 0 ∨ i = 1) (c : Cl) : F16_cell_Cell_Get i c.a c.b c.n c.o c.h c.w = some (slot i c, decide (¬ slot i c = ByteArray.empty), c.a, c.b, c.n, c.o, c.h, c.w, ()) := by
  rw [F16_cell_Cell_Get_eq, cis_eq, Option.bind_some]
  dsimp only
  rw [if_neg (by simp [hi])]
  rcases hi with hi | hi <;> subst hi
  · rw [if_pos rfl, if_pos rfl]; rfl
  · rw [if_neg (by decide), if_pos rfl, if_neg (by decide), if_pos rfl]; rfl
def slotsV (c : Cl) : List Int := (if c.a = ByteArray.empty then [] else [0]) ++ (if c.b = ByteArray.empty then [] else [1])
theorem cslots_eq (c : Cl) : F15_cell_Cell_Slots c.a c.b c.n c.o c.h c.w = some (c.a, c.b, c.n, c.o, c.h, c.w, slotsV c, ()) := by
  have two : ∀ g, F15_cell_Cell_Slots_l1000003 c.a c.b 2 c.a c.b c.n c.o c.h c.w g = some (c.a, c.b, c.n, c.o, c.h, c.w, g, ()) := by
    intro g
    rw [F15_cell_Cell_Slots_l1000003_eq, if_neg (by decide)]
  have one : ∀ g : List Int, g.length ≤ 1 → F15_cell_Cell_Slots_l1000003 c.a c.b 1 c.a c.b c.n c.o c.h c.w g = some (c.a, c.b, c.n, c.o, c.h, c.w, g ++ (if c.b = ByteArray.empty then [] else [1]), ()) := by
    intro g hg
    rw [F15_cell_Cell_Slots_l1000003_eq, if_pos (by decide), if_neg (by decide), if_pos rfl]
    by_cases h0 : c.b = ByteArray.empty
    · rw [if_neg (by simp [h0]), if_pos h0, F15_cell_Cell_Slots_l7_eq, show IntKind.i64.wrap (1 + 1) = 2 by decide, two, List.append_nil]
    · rw [if_pos h0, if_pos (by simp; omega), if_neg h0, F15_cell_Cell_Slots_l7_eq, show IntKind.i64.wrap (1 + 1) = 2 by decide, two]
  rw [F15_cell_Cell_Slots_eq, F15_cell_Cell_Slots_l1000003_eq, if_pos (by decide), if_pos rfl]
  unfold slotsV
  by_cases h0 : c.a = ByteArray.empty
  · rw [if_neg (by simp [h0]), if_pos h0, F15_cell_Cell_Slots_l7_eq, show IntKind.i64.wrap (0 + 1) = 1 by decide, one _ (by simp)]
  · rw [if_pos h0, if_pos (by simp), if_neg h0, F15_cell_Cell_Slots_l7_eq, show IntKind.i64.wrap (0 + 1) = 1 by decide, one _ (by simp)]; rfl
theorem cnow_eq (c : Cl) (hc : Short c) : F12_commit_Now c.a c.b c.n c.o c.h c.w = cOutN (nowV c).1 (nowV c).2.1 (nowV c).2.2 c := by
  obtain ⟨pa, qa⟩ := pv_eq (s := c.a) (by have := hc.1; omega)
  obtain ⟨pb, qb⟩ := pv_eq (s := c.b) (by have := hc.2; omega)
  have G0 := cget_eq 0 (.inl rfl) c
  have G1 := cget_eq 1 (.inr rfl) c
  rw [show slot 0 c = c.a from rfl] at G0
  rw [show slot 1 c = c.b from rfl] at G1
  -- behind the last slot
  have fin : ∀ (v i : Int) (r : Rc) (j : Int) (z2 : Rc) (g : List Int), ¬ i < v → (j = -1 → r = Rc.zero) → F12_commit_Now_l1000007 v i c.a c.b c.n c.o c.h c.w z2.n z2.k z2.a z2.b z2.c z2.o z2.u 0 0 0 0 0 0 0 (-1) r.n r.k r.a r.b r.c r.o r.u j g = if j = -1 then cOutN Rc.zero 0 170 c else cOutN r j 0 c := by
    intro v i r j z2 g hv hj
    rw [F12_commit_Now_l1000007_eq, if_neg hv]
    by_cases h : j = -1
    · obtain rfl := hj h
      rw [if_pos h, if_pos ⟨⟨rfl, ⟨rfl, rfl, rfl, rfl, trivial⟩, rfl, rfl, trivial⟩, h, trivial⟩]; rfl
    · rw [if_neg h, if_neg (fun hh => h hh.2.1)]; rfl
  have step : ∀ (v i : Int) (q : Int) (r : Rc) (j : Int) (z2 : Rc) (g : List Int), i < v → (0 ≤ i ∧ i < (List.length g : Int)) → rd 0 g i = q → (q = 0 ∨ q = 1) → (j = -1 → r = Rc.zero) → F12_commit_Now_l1000007 v i c.a c.b c.n c.o c.h c.w z2.n z2.k z2.a z2.b z2.c z2.o z2.u 0 0 0 0 0 0 0 (-1) r.n r.k r.a r.b r.c r.o r.u j g
      = if (pv (slot q c)).2 = 0 ∧ (j = -1 ∨ r.n < (pv (slot q c)).1.n) then F12_commit_Now_l1000007 v (IntKind.i64.wrap (i + 1)) c.a c.b c.n c.o c.h c.w z2.n z2.k z2.a z2.b z2.c z2.o z2.u 0 0 0 0 0 0 0 (-1) (pv (slot q c)).1.n (pv (slot q c)).1.k (pv (slot q c)).1.a (pv (slot q c)).1.b (pv (slot q c)).1.c (pv (slot q c)).1.o (pv (slot q c)).1.u q g else F12_commit_Now_l1000007 v (IntKind.i64.wrap (i + 1)) c.a c.b c.n c.o c.h c.w z2.n z2.k z2.a z2.b z2.c z2.o z2.u 0 0 0 0 0 0 0 (-1) r.n r.k r.a r.b r.c r.o r.u j g := by
    intro v i q r j z2 g hv hb hq hq1 hj
    have P : F28_commit_Parse (slot q c) = outP (pv (slot q c)) := by rcases hq1 with h | h <;> subst h; exact pa; exact pb
    rw [F12_commit_Now_l1000007_eq, if_pos hv, if_pos hb, hq, cget_eq q hq1, Option.bind_some]
    dsimp only
    rw [P]
    simp only [outP, Option.bind_some, F12_commit_Now_l13_eq]
    by_cases h0 : (pv (slot q c)).2 = 0
    · rw [if_pos h0]
      by_cases h1 : j = -1
      · obtain rfl := hj h1
        rw [if_pos ⟨⟨rfl, ⟨rfl, rfl, rfl, rfl, trivial⟩, rfl, rfl, trivial⟩, h1, trivial⟩, if_pos ⟨h0, .inl h1⟩]
      · rw [if_neg (fun hh => h1 hh.2.1)]
        by_cases h2 : r.n < (pv (slot q c)).1.n
        · rw [if_pos h2, if_pos ⟨h0, .inr h2⟩]
        · rw [if_neg h2, if_neg (by rintro ⟨_, h | h⟩; exact h1 h; exact h2 h)]
    · rw [if_neg h0, if_neg (fun hh => h0 hh.1)]
  rw [F12_commit_Now_eq, cslots_eq, Option.bind_some]
  dsimp only
  by_cases ha : c.a = ByteArray.empty
  · by_cases hb : c.b = ByteArray.empty
    · have e1 : slotsV c = [] := by unfold slotsV; rw [if_pos ha, if_pos hb]; rfl
      have e2 : nowV c = (Rc.zero, 0, 171) := by unfold nowV; exact if_pos ⟨ha, hb⟩
      rw [e1, e2, if_pos (by simp)]; rfl
    · have ea : ¬ (pv c.a).2 = 0 := by rw [ha, pv_empty]; decide
      have e1 : slotsV c = [1] := by unfold slotsV; rw [if_pos ha, if_neg hb]; rfl
      have n1 : ¬ (c.a = ByteArray.empty ∧ c.b = ByteArray.empty) := fun h => hb h.2
      rw [e1, if_neg (by simp)]
      have s1 := step 1 0 1 Rc.zero (-1) Rc.zero [1] (by decide) (by decide) rfl (.inr rfl) (fun _ => rfl)
      rw [show slot 1 c = c.b from rfl, show IntKind.i64.wrap (0 + 1) = 1 by decide] at s1
      refine Eq.trans s1 ?_
      by_cases h0 : (pv c.b).2 = 0
      · have e2 : nowV c = ((pv c.b).1, 1, 0) := by unfold nowV; rw [if_neg n1, if_neg (fun h => h.2 h0), if_pos (.inl ea)]
        rw [if_pos ⟨h0, .inl rfl⟩, fin 1 1 _ 1 Rc.zero [1] (by decide) (fun h => absurd h (by decide)), if_neg (by decide), e2]
      · have e2 : nowV c = (Rc.zero, 0, 170) := by unfold nowV; rw [if_neg n1, if_pos ⟨ea, h0⟩]
        rw [if_neg (fun h => h0 h.1), fin 1 1 Rc.zero (-1) Rc.zero [1] (by decide) (fun _ => rfl), if_pos rfl, e2]
  · have n1 : ¬ (c.a = ByteArray.empty ∧ c.b = ByteArray.empty) := fun h => ha h.1
    by_cases hb : c.b = ByteArray.empty
    · have eb : ¬ (pv c.b).2 = 0 := by rw [hb, pv_empty]; decide
      have e1 : slotsV c = [0] := by unfold slotsV; rw [if_neg ha, if_pos hb]; rfl
      rw [e1, if_neg (by simp)]
      have s1 := step 1 0 0 Rc.zero (-1) Rc.zero [0] (by decide) (by decide) rfl (.inl rfl) (fun _ => rfl)
      rw [show slot 0 c = c.a from rfl, show IntKind.i64.wrap (0 + 1) = 1 by decide] at s1
      refine Eq.trans s1 ?_
      by_cases h0 : (pv c.a).2 = 0
      · have e2 : nowV c = ((pv c.a).1, 0, 0) := by unfold nowV; rw [if_neg n1, if_neg (fun h => h.1 h0), if_neg (by rintro (h | h); exact h h0; exact eb h.1)]
        rw [if_pos ⟨h0, .inl rfl⟩, fin 1 1 _ 0 Rc.zero [0] (by decide) (fun h => absurd h (by decide)), if_neg (by decide), e2]
      · have e2 : nowV c = (Rc.zero, 0, 170) := by unfold nowV; rw [if_neg n1, if_pos ⟨h0, eb⟩]
        rw [if_neg (fun h => h0 h.1), fin 1 1 Rc.zero (-1) Rc.zero [0] (by decide) (fun _ => rfl), if_pos rfl, e2]
    · have e1 : slotsV c = [0, 1] := by unfold slotsV; rw [if_neg ha, if_neg hb]; rfl
      rw [e1, if_neg (by simp)]
      have s1 := step 2 0 0 Rc.zero (-1) Rc.zero [0, 1] (by decide) (by decide) rfl (.inl rfl) (fun _ => rfl)
      rw [show slot 0 c = c.a from rfl, show IntKind.i64.wrap (0 + 1) = 1 by decide] at s1
      refine Eq.trans s1 ?_
      by_cases h0 : (pv c.a).2 = 0
      · rw [if_pos ⟨h0, .inl rfl⟩, step 2 1 1 _ 0 Rc.zero [0, 1] (by decide) (by decide) rfl (.inr rfl) (fun h => absurd h (by decide)), show slot 1 c = c.b from rfl, show IntKind.i64.wrap (1 + 1) = 2 by decide]
        by_cases h1 : (pv c.b).2 = 0 ∧ (pv c.a).1.n < (pv c.b).1.n
        · have e2 : nowV c = ((pv c.b).1, 1, 0) := by unfold nowV; rw [if_neg n1, if_neg (fun h => h.1 h0), if_pos (.inr h1)]
          rw [if_pos ⟨h1.1, .inr h1.2⟩, fin 2 2 _ 1 Rc.zero [0, 1] (by decide) (fun h => absurd h (by decide)), if_neg (by decide), e2]
        · have e2 : nowV c = ((pv c.a).1, 0, 0) := by unfold nowV; rw [if_neg n1, if_neg (fun h => h.1 h0), if_neg (by rintro (h | h); exact h h0; exact h1 h)]
          rw [if_neg (fun h => h1 ⟨h.1, by rcases h.2 with hh | hh; exact absurd hh (by decide); exact hh⟩), fin 2 2 _ 0 Rc.zero [0, 1] (by decide) (fun h => absurd h (by decide)), if_neg (by decide), e2]
      · rw [if_neg (fun h => h0 h.1), step 2 1 1 Rc.zero (-1) Rc.zero [0, 1] (by decide) (by decide) rfl (.inr rfl) (fun _ => rfl), show slot 1 c = c.b from rfl, show IntKind.i64.wrap (1 + 1) = 2 by decide]
        by_cases h1 : (pv c.b).2 = 0
        · have e2 : nowV c = ((pv c.b).1, 1, 0) := by unfold nowV; rw [if_neg n1, if_neg (fun h => h.2 h1), if_pos (.inl h0)]
          rw [if_pos ⟨h1, .inl rfl⟩, fin 2 2 _ 1 Rc.zero [0, 1] (by decide) (fun h => absurd h (by decide)), if_neg (by decide), e2]
        · have e2 : nowV c = (Rc.zero, 0, 170) := by unfold nowV; rw [if_neg n1, if_pos ⟨h0, h1⟩]
          rw [if_neg (fun h => h1 h.1), fin 2 2 Rc.zero (-1) Rc.zero [0, 1] (by decide) (fun _ => rfl), if_pos rfl, e2]
theorem csetR_eq (i : Int) {r : Rc} (hk : (Lit.int .u64 r.k).wf = true) (c : Cl) : F26_commit_set i r.n r.k r.a r.b r.c r.o r.u c.a c.b c.n c.o c.h c.w = cOutR (setR i r c).1 (setR i r c).2.1 (setR i r c).2.2 := by
  rw [F26_commit_set_eq, cbytes_eq _ hk]
  unfold recV setR
  by_cases h : recOk r.n r.a r.b r.c r.o r.u = true
  · rw [if_pos h, if_pos h, Option.bind_some]
    dsimp only
    rw [if_pos rfl, cset_eq]
    simp only [cOut, Option.bind_some]
    by_cases h1 : (setV i (strB (recE r.n r.k r.a r.b r.c r.o r.u)) c).1 = 0
    · rw [if_neg (by simp [h1]), if_pos h1]; simp only [cOutR, h1]
    · rw [if_pos h1, if_neg h1]; rfl
  · rw [if_neg h, if_neg h, Option.bind_some]
    dsimp only
    rw [if_neg (by decide), if_pos (by decide)]; rfl
theorem slots_len (c : Cl) : ((slotsV c).length : Int) = (if c.a = ByteArray.empty then 0 else 1) + (if c.b = ByteArray.empty then 0 else 1) := by
  unfold slotsV
  by_cases ha : c.a = ByteArray.empty <;> by_cases hb : c.b = ByteArray.empty <;> simp [ha, hb]
theorem cfirst_eq {k : Int} (hk : (Lit.int .u64 k).wf = true) (a b c o u : Int) (z : Cl) : F8_commit_First k a b c o u z.a z.b z.n z.o z.h z.w = cOutR (firstV k a b c o u z).1 (firstV k a b c o u z).2.1 (firstV k a b c o u z).2.2 := by
  rw [F8_commit_First_eq, cslots_eq, Option.bind_some]
  dsimp only
  unfold firstV
  have hl := slots_len z
  by_cases h : z.a = ByteArray.empty ∧ z.b = ByteArray.empty
  · rw [if_pos h.1, if_pos h.2] at hl
    rw [if_neg (by omega), if_pos h]
    rw [csetR_eq 0 (r := ⟨0, k, a, b, c, o, u⟩) hk z]; rfl
  · have : 0 < ((slotsV z).length : Int) := by
      by_cases ha : z.a = ByteArray.empty
      · have hb : ¬ z.b = ByteArray.empty := fun hb => h ⟨ha, hb⟩
        rw [if_pos ha, if_neg hb] at hl; omega
      · rw [if_neg ha] at hl; split at hl <;> omega
    rw [if_pos this, if_neg h]; rfl
theorem cnext_eq {k : Int} (hk : (Lit.int .u64 k).wf = true) (a b c o u : Int) (z : Cl) (hz : Short z) : F11_commit_Next k a b c o u z.a z.b z.n z.o z.h z.w = cOutR (nextV k a b c o u z).1 (nextV k a b c o u z).2.1 (nextV k a b c o u z).2.2 := by
  rw [F11_commit_Next_eq, cslots_eq, Option.bind_some]
  dsimp only
  unfold nextV
  have hl := slots_len z
  by_cases h : ¬ z.a = ByteArray.empty ∧ ¬ z.b = ByteArray.empty
  · rw [if_neg h.1, if_neg h.2] at hl
    rw [if_pos (by omega), if_pos h]; rfl
  · have : ¬ ((slotsV z).length : Int) = 2 := by
      by_cases ha : z.a = ByteArray.empty
      · rw [if_pos ha] at hl; split at hl <;> omega
      · have hb : z.b = ByteArray.empty := by apply Classical.byContradiction; intro hb; exact h ⟨ha, hb⟩
        rw [if_neg ha, if_pos hb] at hl; omega
    rw [if_neg this, if_neg h, cnow_eq z hz]
    simp only [cOutN, Option.bind_some]
    by_cases h1 : (nowV z).2.2 = 0
    · rw [if_neg (by simp [h1]), if_pos h1]
      have hs := csetR_eq (IntKind.i64.wrap (1 - (nowV z).2.1)) (r := ⟨IntKind.i64.wrap ((nowV z).1.n + 1), k, a, b, c, o, u⟩) hk z
      dsimp only at hs
      rw [hs]
      generalize setR (IntKind.i64.wrap (1 - (nowV z).2.1)) ⟨IntKind.i64.wrap ((nowV z).1.n + 1), k, a, b, c, o, u⟩ z = x
      simp only [cOutR, Option.bind_some]
      by_cases h2 : x.2.1 = 0
      · rw [if_pos h2, if_pos h2, cera_eq]
        generalize eraV (nowV z).2.1 x.2.2 = y
        simp only [cOut, Option.bind_some]
        by_cases h3 : y.1 = 0
        · rw [if_neg (by simp [h3]), if_pos h3]; simp only [h3]
        · rw [if_pos h3, if_neg h3]; rfl
      · rw [if_neg h2, if_neg h2, if_pos h2]; rfl
    · rw [if_pos h1, if_neg h1]; rfl

/-! ### a cell with one record -/
theorem rec_len {n k a b c o u : Int} (h : recOk n a b c o u = true) (hk : (Lit.int .u64 k).wf = true) : 1 ≤ (strB (recE n k a b c o u)).size ∧ (strB (recE n k a b c o u)).size ≤ 200 := by
  obtain ⟨r1, r2, r3⟩ := recOk_is h
  have p5 : ∀ {x : Int}, 0 ≤ x → x ≤ 2147483647 → (encT (numT x)).length ≤ 6 := by
    intro x h0 h1
    have := putN_len 5 x.toNat (by omega) (by omega)
    simp only [numT, encT_mk, hd, encL, wrap_u64 h0 (by omega : x < 18446744073709551616), List.length_append, List.length_cons, List.length_nil]
    simp only [true_or, if_true]; omega
  have p10 : (encT (keyT k)).length ≤ 11 := by
    have := putN_len10 (n := k.toNat) (by have := wf_u64 hk; omega)
    simp only [keyT, encT_mk, hd, encL, List.length_append, List.length_cons, List.length_nil]
    simp only [true_or, or_true, if_true]; omega
  have e : (recE n k a b c o u).length = (hd 5 0 ByteArray.empty 7).length + ((encT (numT n)).length + ((encT (keyT k)).length + ((encT (numT a)).length + ((encT (numT b)).length + ((encT (numT c)).length + ((encT (numT o)).length + ((encT (numT u)).length + 0))))))) := by
    simp only [recE, recT, rowT, encT_mk 5, encL, List.length_append, List.length_nil, List.length_cons]
  have e5 : (hd 5 0 ByteArray.empty 7).length = 2 := by
    have := putN_lt (n := 7) (by omega)
    simp [hd, this]
  have q0 := p5 r1.1 (by omega)
  have q1 := p5 r2.1 (by omega)
  have q2 := p5 r2.2.2.1 (by omega)
  have q3 := p5 (by omega : 0 ≤ c) (by omega)
  have q4 := p5 r3.1 (by omega)
  have q5 := p5 r3.2.2.1 (by omega)
  rw [size_str, e, e5]
  omega
theorem size_ne {s : ByteArray} (h : 1 ≤ s.size) : ¬ s = ByteArray.empty := by intro e; subst e; exact absurd h (by decide)
/-- The record stands in the slot of its number. -/
structure One (n k a b c o u : Int) (z : Cl) : Prop where
  ok : recOk n a b c o u = true
  wf : (Lit.int .u64 k).wf = true
  sl : (n % 2 = 0 ∧ z.a = strB (recE n k a b c o u) ∧ z.b = ByteArray.empty) ∨ (n % 2 = 1 ∧ z.b = strB (recE n k a b c o u) ∧ z.a = ByteArray.empty)
theorem One.short {n k a b c o u : Int} {z : Cl} (h : One n k a b c o u z) : Short z := by
  have := rec_len h.ok h.wf
  rcases h.sl with ⟨_, h1, h2⟩ | ⟨_, h1, h2⟩
  · exact ⟨by rw [h1]; omega, by rw [h2]; decide⟩
  · exact ⟨by rw [h2]; decide, by rw [h1]; omega⟩
theorem One.now {n k a b c o u : Int} {z : Cl} (h : One n k a b c o u z) : nowV z = (⟨n, k, a, b, c, o, u⟩, n % 2, 0) := by
  have hp := pv_rec h.ok h.wf
  have hn := size_ne (rec_len h.ok h.wf).1
  unfold nowV
  rcases h.sl with ⟨h0, h1, h2⟩ | ⟨h0, h1, h2⟩
  · rw [h1, h2, hp, pv_empty, if_neg (fun h => hn h.1), if_neg (fun h => h.1 rfl), if_neg (by rintro (h | h); exact h rfl; exact absurd h.1 (by decide)), h0]
  · rw [h1, h2, hp, pv_empty, if_neg (fun h => hn h.2), if_neg (fun h => h.2 rfl), if_pos (.inl (by decide)), h0]
theorem spend_on {z : Cl} (ho : z.o = false) (hh : z.h = 0) : spendV z = (0, ⟨z.a, z.b, z.n, false, 0, IntKind.i64.wrap (z.w + 1)⟩) := by
  unfold spendV; rw [if_neg (by simp [ho]), if_neg (by omega), ho, hh]
theorem set_on {z : Cl} (ho : z.o = false) (hh : z.h = 0) {i : Int} (hi : i = 0 ∨ i = 1) {s : ByteArray} (h1 : 1 ≤ s.size) (h2 : s.size ≤ 200) (he : slot i z = ByteArray.empty) : setV i s z = (0, ⟨if i = 0 then s else z.a, if i = 0 then z.b else s, IntKind.i64.wrap (z.n + 1), false, 0, IntKind.i64.wrap (z.w + 1)⟩) := by
  unfold setV
  rw [if_pos hi, if_pos he, if_neg (by rintro (h | h); exact size_ne h1 h; omega)]
  unfold layV
  rw [spend_on ho hh, if_pos rfl]
theorem era_on {z : Cl} (ho : z.o = false) (hh : z.h = 0) {i : Int} (hi : i = 0 ∨ i = 1) (he : ¬ slot i z = ByteArray.empty) : eraV i z = (0, ⟨if i = 0 then ByteArray.empty else z.a, if i = 0 then z.b else ByteArray.empty, IntKind.i64.wrap (z.n + 1), false, 0, IntKind.i64.wrap (z.w + 1)⟩) := by
  unfold eraV
  rw [if_pos hi, if_neg he]
  unfold layV
  rw [spend_on ho hh, if_pos rfl]
theorem first_on {z : Cl} (ho : z.o = false) (hh : z.h = 0) (ha : z.a = ByteArray.empty) (hb : z.b = ByteArray.empty) {k : Int} (hk : (Lit.int .u64 k).wf = true) (a b c o u : Int) :
    if recOk 0 a b c o u = true then ∃ z', firstV k a b c o u z = (⟨0, k, a, b, c, o, u⟩, 0, z') ∧ One 0 k a b c o u z' ∧ z'.n = IntKind.i64.wrap (z.n + 1) ∧ z'.o = false ∧ z'.h = 0 else firstV k a b c o u z = (Rc.zero, 170, z) := by
  by_cases h : recOk 0 a b c o u = true
  · have hl := rec_len h hk
    have E : firstV k a b c o u z = (⟨0, k, a, b, c, o, u⟩, 0, ⟨strB (recE 0 k a b c o u), z.b, IntKind.i64.wrap (z.n + 1), false, 0, IntKind.i64.wrap (z.w + 1)⟩) := by
      unfold firstV
      rw [if_pos ⟨ha, hb⟩]
      unfold setR
      dsimp only
      rw [if_pos h, set_on ho hh (.inl rfl) hl.1 hl.2 ha, if_pos rfl]; rfl
    rw [if_pos h]
    exact ⟨_, E, ⟨h, hk, .inl ⟨by decide, rfl, hb⟩⟩, rfl, rfl, rfl⟩
  · rw [if_neg h]
    unfold firstV
    rw [if_pos ⟨ha, hb⟩]
    unfold setR
    exact if_neg h
theorem next_on {n k a b c o u : Int} {z : Cl} (H : One n k a b c o u z) (ho : z.o = false) (hh : z.h = 0) {k' : Int} (hk : (Lit.int .u64 k').wf = true) (a' b' c' o' u' : Int) :
    if recOk (n + 1) a' b' c' o' u' = true then ∃ z', nextV k' a' b' c' o' u' z = (⟨n + 1, k', a', b', c', o', u'⟩, 0, z') ∧ One (n + 1) k' a' b' c' o' u' z' ∧ z'.n = IntKind.i64.wrap (IntKind.i64.wrap (z.n + 1) + 1) ∧ z'.o = false ∧ z'.h = 0 else nextV k' a' b' c' o' u' z = (Rc.zero, 170, z) := by
  have hr := (recOk_is H.ok).1
  have hne : ¬ (¬ z.a = ByteArray.empty ∧ ¬ z.b = ByteArray.empty) := by
    rcases H.sl with ⟨_, _, h⟩ | ⟨_, _, h⟩
    · exact fun hh => hh.2 h
    · exact fun hh => hh.1 h
  have hi : IntKind.i64.wrap (1 - n % 2) = 1 - n % 2 := w64 (by omega) (by omega)
  have N : nextV k' a' b' c' o' u' z = if (setR (1 - n % 2) ⟨n + 1, k', a', b', c', o', u'⟩ z).2.1 = 0 then
      (if (eraV (n % 2) (setR (1 - n % 2) ⟨n + 1, k', a', b', c', o', u'⟩ z).2.2).1 = 0 then
        ((setR (1 - n % 2) ⟨n + 1, k', a', b', c', o', u'⟩ z).1, eraV (n % 2) (setR (1 - n % 2) ⟨n + 1, k', a', b', c', o', u'⟩ z).2.2)
      else (Rc.zero, eraV (n % 2) (setR (1 - n % 2) ⟨n + 1, k', a', b', c', o', u'⟩ z).2.2))
    else (Rc.zero, (setR (1 - n % 2) ⟨n + 1, k', a', b', c', o', u'⟩ z).2) := by
    unfold nextV
    rw [if_neg hne, H.now, if_pos rfl]
    dsimp only
    rw [w64 (n := n + 1) (by omega) (by omega), hi]
  by_cases h : recOk (n + 1) a' b' c' o' u' = true
  · have hl := rec_len h hk
    have hold := size_ne (rec_len H.ok H.wf).1
    have S : ∀ i : Int, i = 0 ∨ i = 1 → slot i z = ByteArray.empty → setR i ⟨n + 1, k', a', b', c', o', u'⟩ z = (⟨n + 1, k', a', b', c', o', u'⟩, 0, ⟨if i = 0 then strB (recE (n + 1) k' a' b' c' o' u') else z.a, if i = 0 then z.b else strB (recE (n + 1) k' a' b' c' o' u'), IntKind.i64.wrap (z.n + 1), false, 0, IntKind.i64.wrap (z.w + 1)⟩) := by
      intro i hi he
      unfold setR
      dsimp only
      rw [if_pos h, set_on ho hh hi hl.1 hl.2 he, if_pos rfl]
    rw [if_pos h, N]
    rcases H.sl with ⟨h0, h1, h2⟩ | ⟨h0, h1, h2⟩
    · rw [h0, show (1 : Int) - 0 = 1 from rfl, S 1 (.inr rfl) h2, if_pos rfl, era_on rfl rfl (i := 0) (.inl rfl) (by simp [slot, h1, hold]), if_pos rfl]
      exact ⟨_, rfl, ⟨h, hk, .inr ⟨by omega, rfl, rfl⟩⟩, rfl, rfl, rfl⟩
    · rw [h0, show (1 : Int) - 1 = 0 from rfl, S 0 (.inl rfl) h2, if_pos rfl, era_on rfl rfl (i := 1) (.inr rfl) (by simp [slot, h1, hold]), if_pos rfl]
      exact ⟨_, rfl, ⟨h, hk, .inl ⟨by omega, rfl, rfl⟩⟩, rfl, rfl, rfl⟩
  · have S : setR (1 - n % 2) ⟨n + 1, k', a', b', c', o', u'⟩ z = (Rc.zero, 170, z) := by
      unfold setR; exact if_neg h
    rw [if_neg h, N, S]; rfl

/-! ### what is stale, and cuts -/
noncomputable def staleV (z : Cl) : Bool × Int × Cl :=
  if z.a = ByteArray.empty ∨ z.b = ByteArray.empty then (false, 0, z)
  else if (nowV z).2.2 = 0 then (decide ((eraV (IntKind.i64.wrap (1 - (nowV z).2.1)) z).1 = 0), eraV (IntKind.i64.wrap (1 - (nowV z).2.1)) z) else (false, (nowV z).2.2, z)
theorem stale_short {z : Cl} (h : Short z) : Short (staleV z).2.2 := by
  unfold staleV; split
  · exact h
  · split
    · exact era_short h _
    · exact h
theorem cstale_eq (z : Cl) (hz : Short z) : F14_commit_Stale z.a z.b z.n z.o z.h z.w = some ((staleV z).1, (staleV z).2.1, (staleV z).2.2.a, (staleV z).2.2.b, (staleV z).2.2.n, (staleV z).2.2.o, (staleV z).2.2.h, (staleV z).2.2.w, ()) := by
  rw [F14_commit_Stale_eq, cslots_eq, Option.bind_some]
  dsimp only
  unfold staleV
  have hl := slots_len z
  by_cases h : z.a = ByteArray.empty ∨ z.b = ByteArray.empty
  · have : ((slotsV z).length : Int) < 2 := by
      rcases h with h | h
      · rw [if_pos h] at hl; split at hl <;> omega
      · rw [if_pos h] at hl; split at hl <;> omega
    rw [if_pos this, if_pos h]
  · simp only [not_or] at h
    rw [if_neg h.1, if_neg h.2] at hl
    rw [if_neg (by omega), if_neg (by simp [h]), cnow_eq z hz]
    simp only [cOutN, Option.bind_some, cera_eq, cOut]
    by_cases h1 : (nowV z).2.2 = 0
    · rw [if_pos h1, if_pos h1]
    · rw [if_neg h1, if_neg h1]; simp [h1]
def cutV (n : Int) (c : Cl) : Cl := if c.o = true then c else ⟨c.a, c.b, c.n, decide (n = 0), mn (mx n 0) 1073741824, c.w⟩
theorem ccut_eq (n : Int) (c : Cl) : F10_power_Power_Cut n c.o c.h c.w = some ((cutV n c).o, (cutV n c).h, (cutV n c).w, ()) := by
  rw [F10_power_Power_Cut_eq]
  unfold cutV
  by_cases h : c.o = true
  · rw [if_pos h, if_pos h]
  · rw [if_neg h, if_neg h]

/-! ### texts, sorted, each once -/
theorem toB_inj {x y : ByteArray} (h : toB x = toB y) : x = y := by rw [← ofB_to x, ← ofB_to y, h]
theorem sLt_eq (x y : ByteArray) : sLt x y = decide (toB x < toB y) := by
  unfold sLt toB
  rw [ByteArray.toList_eq, ByteArray.toList_eq, bytesLess_eq]
theorem mem_compact {zs : List (List UInt8)} {x : List UInt8} : x ∈ Lib.compact zs ↔ x ∈ zs := by
  unfold Lib.compact Lib.compactUpTo
  constructor
  · intro h
    obtain ⟨j, hj, rfl⟩ := List.mem_map.1 h
    have := List.mem_range.1 (List.mem_filter.1 hj).1
    rw [getElem!_pos zs.toArray j (by simpa using this)]
    exact List.getElem_mem _
  · intro h
    obtain ⟨i, hi, rfl⟩ := List.getElem_of_mem h
    -- the first place of that value's run
    have key : ∀ n i, i = n → ∀ hi : i < zs.length, ∃ j, j < zs.length ∧ Lib.keeps zs.toArray j = true ∧ zs.toArray[j]! = zs[i] := by
      intro n
      induction n with
      | zero =>
        intro i e hi
        subst e
        exact ⟨0, hi, by simp [Lib.keeps], by rw [getElem!_pos zs.toArray 0 (by simpa using hi)]; simp⟩
      | succ n ih =>
        intro i e hi
        subst e
        by_cases c : zs[n + 1] = zs[n]
        · obtain ⟨j, h1, h2, h3⟩ := ih n rfl (by omega)
          exact ⟨j, h1, h2, by rw [h3, c]⟩
        · refine ⟨n + 1, hi, ?_, by rw [getElem!_pos zs.toArray (n + 1) (by simpa using hi)]; simp⟩
          simp only [Lib.keeps, decide_eq_true_eq]
          refine .inr ?_
          rw [getElem!_pos zs.toArray (n + 1) (by simpa using hi), getElem!_pos zs.toArray (n + 1 - 1) (by simp; omega)]
          simpa using c
    obtain ⟨j, h1, h2, h3⟩ := key i i rfl hi
    exact List.mem_map.2 ⟨j, List.mem_filter.2 ⟨List.mem_range.2 h1, h2⟩, h3⟩
theorem compact_strict {zs : List (List UInt8)} (h : zs.Pairwise (· ≤ ·)) : (Lib.compact zs).Pairwise (· < ·) := by
  unfold Lib.compact Lib.compactUpTo
  rw [List.pairwise_map]
  refine List.Pairwise.imp_of_mem (R := fun a b => a < b) ?_ (List.Pairwise.filter _ List.pairwise_lt_range)
  intro i j hi hj hlt
  have hi' := List.mem_range.1 (List.mem_filter.1 hi).1
  have hj' := List.mem_range.1 (List.mem_filter.1 hj).1
  have hk := (List.mem_filter.1 hj).2
  simp only [Lib.keeps, decide_eq_true_eq] at hk
  rw [getElem!_pos zs.toArray j (by simpa using hj'), getElem!_pos zs.toArray (j - 1) (by simp; omega)] at hk
  rw [getElem!_pos zs.toArray i (by simpa using hi'), getElem!_pos zs.toArray j (by simpa using hj')]
  have hk' : zs[j] ≠ zs[j - 1]'(by omega) := by rcases hk with h | h; omega; simpa using h
  have P := List.pairwise_iff_getElem.1 h
  have q1 : zs[j - 1]'(by omega) ≤ zs[j] := P (j - 1) j (by omega) hj' (by omega)
  have q2 : zs[i] ≤ zs[j - 1]'(by omega) := by
    rcases Nat.lt_or_ge i (j - 1) with c | c
    · exact P i (j - 1) hi' (by omega) c
    · have : i = j - 1 := by omega
      subst this
      exact List.le_refl _
  have q3 : zs[i] ≤ zs[j] := List.le_trans q2 q1
  show zs[i] < zs[j]
  apply Classical.byContradiction
  intro hn
  have q4 : zs[j] ≤ zs[i] := List.not_lt.1 hn
  have q5 : zs[j] ≤ zs[j - 1]'(by omega) := List.le_trans q4 q2
  exact hk' (List.le_antisymm q5 q1)
theorem compact_self {zs : List (List UInt8)} (h : zs.Pairwise (· < ·)) : Lib.compact zs = zs := by
  refine Lib.compact_all zs (fun j hj => ?_)
  simp only [Lib.keeps, decide_eq_true_eq]
  rcases Nat.eq_zero_or_pos j with c | c
  · exact .inl c
  · refine .inr ?_
    rw [getElem!_pos zs.toArray j (by simpa using hj), getElem!_pos zs.toArray (j - 1) (by simp; omega)]
    have := List.pairwise_iff_getElem.1 h (j - 1) j (by omega) hj (by omega)
    intro e
    have e' : zs[j] = zs[j - 1]'(by omega) := by simpa using e
    rw [e'] at this
    exact List.lt_irrefl _ this
def txt (l : List ByteArray) : List ByteArray := compS (sortS l)
def leB (x y : List UInt8) : Bool := decide (x ≤ y)
theorem sort_pair (zs : List (List UInt8)) : (zs.mergeSort fun x y => decide (x ≤ y)).Pairwise (· ≤ ·) := by
  have := List.pairwise_mergeSort (le := fun x y : List UInt8 => decide (x ≤ y)) (fun a b c h1 h2 => by
    simp only [decide_eq_true_eq] at h1 h2 ⊢; exact List.le_trans h1 h2) (fun a b => by
    simp only [Bool.or_eq_true, decide_eq_true_eq]; exact List.le_total a b) zs
  exact this.imp (fun h => by simpa using h)
theorem txt_toB (l : List ByteArray) : (txt l).map toB = Lib.compact ((l.map toB).mergeSort fun x y => decide (x ≤ y)) := by
  unfold txt compS sortS
  simp only [List.map_map]
  have e : (toB ∘ ofB) = id := rfl
  rw [e, List.map_id, List.map_id]
theorem mem_txt {l : List ByteArray} {s : ByteArray} : s ∈ txt l ↔ s ∈ l := by
  have h : toB s ∈ (txt l).map toB ↔ toB s ∈ l.map toB := by rw [txt_toB, mem_compact, List.mem_mergeSort]
  have inj : ∀ m : List ByteArray, toB s ∈ m.map toB ↔ s ∈ m := by
    intro m
    constructor
    · intro h
      obtain ⟨x, hx, e⟩ := List.mem_map.1 h
      rw [← toB_inj e]; exact hx
    · exact fun h => List.mem_map.2 ⟨s, h, rfl⟩
  rw [inj, inj] at h
  exact h
theorem txt_strict (l : List ByteArray) : ((txt l).map toB).Pairwise (· < ·) := by rw [txt_toB]; exact compact_strict (sort_pair _)
theorem txt_self {l : List ByteArray} (h : (l.map toB).Pairwise (· < ·)) : txt l = l := by
  have h1 : (l.map toB).mergeSort (fun x y => decide (x ≤ y)) = l.map toB := List.mergeSort_of_pairwise (h.imp (fun {a b} hab => by
    simp only [decide_eq_true_eq]
    exact List.le_of_lt hab))
  have h2 := txt_toB l
  rw [h1, compact_self h] at h2
  have := congrArg (List.map ofB) h2
  simpa [List.map_map, show (ofB ∘ toB) = id from rfl] using this
theorem txt_next {l : List ByteArray} {i : Nat} (h : i + 1 < (txt l).length) : sLt (txt l)[i] (txt l)[i + 1] = true := by
  rw [sLt_eq, decide_eq_true_eq]
  have := List.pairwise_iff_getElem.1 (txt_strict l) i (i + 1) (by simp; omega) (by simpa using h) (by omega)
  simpa using this
theorem txt_len (l : List ByteArray) : (txt l).length ≤ l.length := by
  have h := congrArg List.length (txt_toB l)
  rw [List.length_map] at h
  rw [h]
  have := Lib.compact_length_le ((l.map toB).mergeSort fun x y => decide (x ≤ y))
  rw [List.length_mergeSort, List.length_map] at this
  exact this
def inS (s : ByteArray) (xs : List ByteArray) : Bool := xs.any fun x => decide (x = s)
theorem inS_iff {s : ByteArray} {xs : List ByteArray} : inS s xs = true ↔ s ∈ xs := by
  unfold inS
  rw [List.any_eq_true]
  constructor
  · rintro ⟨x, hx, h⟩
    rw [decide_eq_true_eq] at h
    rw [← h]; exact hx
  · exact fun h => ⟨s, h, by simp⟩
/-! ### a text put into a rising list -/
def insS : List ByteArray → ByteArray → List ByteArray
  | [], s => [s]
  | x :: t, s => if sLt x s = false then (if sLt s x = true then s :: x :: t else x :: t) else x :: insS t s
theorem insS_len : ∀ (l : List ByteArray) (s : ByteArray), (insS l s).length ≤ l.length + 1
  | [], s => by simp [insS]
  | x :: t, s => by
    have := insS_len t s
    unfold insS
    split
    · split <;> simp
    · simp; omega
theorem sle_trans {x y z : List UInt8} (h1 : x < y) (h2 : y < z) : x < z := List.lt_trans h1 h2
theorem mem_insS {x : ByteArray} : ∀ {l : List ByteArray} {s : ByteArray}, x ∈ insS l s ↔ x = s ∨ x ∈ l
  | [], s => by simp [insS]
  | y :: t, s => by
    unfold insS
    split
    · rename_i h1
      split
      · simp
      · rename_i h2
        have e : s = y := by
          rw [sLt_eq, decide_eq_false_iff_not] at h1
          rw [sLt_eq, decide_eq_true_eq] at h2
          exact toB_inj (List.le_antisymm (List.not_lt.1 h1) (List.not_lt.1 h2))
        subst e
        simp
    · rw [List.mem_cons, mem_insS, List.mem_cons]
      constructor
      · rintro (h | h | h)
        · exact .inr (.inl h)
        · exact .inl h
        · exact .inr (.inr h)
      · rintro (h | h | h)
        · exact .inr (.inl h)
        · exact .inl h
        · exact .inr (.inr h)
theorem insS_strict : ∀ {l : List ByteArray} {s : ByteArray}, (l.map toB).Pairwise (· < ·) → ((insS l s).map toB).Pairwise (· < ·)
  | [], s, _ => by simp [insS]
  | y :: t, s, h => by
    rw [List.map_cons, List.pairwise_cons] at h
    unfold insS
    split
    · split
      · rename_i h1 h2
        rw [sLt_eq, decide_eq_true_eq] at h2
        rw [List.map_cons, List.pairwise_cons]
        refine ⟨fun z hz => ?_, by rw [List.map_cons, List.pairwise_cons]; exact h⟩
        rw [List.map_cons, List.mem_cons] at hz
        rcases hz with rfl | hz
        · exact h2
        · exact List.lt_trans h2 (h.1 z hz)
      · rw [List.map_cons, List.pairwise_cons]; exact h
    · rename_i h1
      have h1' : toB y < toB s := by
        have : sLt y s = true := by simpa using h1
        rw [sLt_eq, decide_eq_true_eq] at this; exact this
      rw [List.map_cons, List.pairwise_cons]
      refine ⟨fun z hz => ?_, insS_strict h.2⟩
      obtain ⟨x, hx, rfl⟩ := List.mem_map.1 hz
      rcases mem_insS.1 hx with rfl | hx
      · exact h1'
      · exact h.1 _ (List.mem_map.2 ⟨x, hx, rfl⟩)
theorem strict_ext : ∀ {l r : List (List UInt8)}, l.Pairwise (· < ·) → r.Pairwise (· < ·) → (∀ x, x ∈ l ↔ x ∈ r) → l = r
  | [], [], _, _, _ => rfl
  | [], y :: r, _, _, h => by have := (h y).2 (by simp); simp at this
  | x :: l, [], _, _, h => by have := (h x).1 (by simp); simp at this
  | x :: l, y :: r, hl, hr, h => by
    rw [List.pairwise_cons] at hl hr
    have e : x = y := by
      have h1 := (h x).1 (by simp)
      have h2 := (h y).2 (by simp)
      rw [List.mem_cons] at h1 h2
      rcases h1 with h1 | h1
      · exact h1
      · rcases h2 with h2 | h2
        · exact h2.symm
        · exact absurd (List.lt_trans (hl.1 y h2) (hr.1 x h1)) (List.lt_irrefl _)
    subst e
    rw [strict_ext hl.2 hr.2 fun z => ?_]
    have := h z
    rw [List.mem_cons, List.mem_cons] at this
    constructor
    · intro hz
      rcases this.1 (.inr hz) with rfl | h'
      · exact absurd (hl.1 _ hz) (List.lt_irrefl _)
      · exact h'
    · intro hz
      rcases this.2 (.inr hz) with rfl | h'
      · exact absurd (hr.1 _ hz) (List.lt_irrefl _)
      · exact h'
theorem txt_ext {l a : List ByteArray} (h : (l.map toB).Pairwise (· < ·)) (hm : ∀ x, x ∈ l ↔ x ∈ a) : l = txt a := by
  have e : l.map toB = (txt a).map toB := strict_ext h (txt_strict a) fun x => by
    constructor
    · intro hx
      obtain ⟨y, hy, rfl⟩ := List.mem_map.1 hx
      exact List.mem_map.2 ⟨y, mem_txt.2 ((hm y).1 hy), rfl⟩
    · intro hx
      obtain ⟨y, hy, rfl⟩ := List.mem_map.1 hx
      exact List.mem_map.2 ⟨y, (hm y).2 (mem_txt.1 hy), rfl⟩
  have := congrArg (List.map ofB) e
  simpa [List.map_map, show (ofB ∘ toB) = id from rfl] using this
theorem ins_txt (a : List ByteArray) (s : ByteArray) : insS (txt a) s = txt (a ++ [s]) :=
  txt_ext (insS_strict (txt_strict a)) fun x => by rw [mem_insS, mem_txt, List.mem_append, List.mem_singleton]; exact or_comm
theorem txt_nil : txt [] = [] := by have := txt_len []; exact List.eq_nil_of_length_eq_zero (by simpa using this)

/-! ### maps -/
section
variable {V : Type}
theorem keyS_iff {a b : ByteArray} : keyS a b = true ↔ a = b := by unfold keyS; exact decide_eq_true_iff
theorem keyS_ne {a b : ByteArray} (h : a ≠ b) : keyS a b = false := by
  cases hb : keyS a b with
  | false => rfl
  | true => exact absurd (keyS_iff.1 hb) h
theorem keyS_self (a : ByteArray) : keyS a a = true := keyS_iff.2 rfl
def atM (x : MapD ByteArray V) (k : ByteArray) : Option V := getE keyS k x.es
theorem mhas_at (x : MapD ByteArray V) (k : ByteArray) : mhas keyS x k = (atM x k).isSome := rfl
theorem mget_at (z : V) (x : MapD ByteArray V) (k : ByteArray) : mget keyS z x k = (atM x k).getD z := rfl
theorem get_set (k k' : ByteArray) (v : V) (c : Nat) : ∀ l : List (Nat × ByteArray × V), getE keyS k' (setE keyS k v c l) = if k' = k then some v else getE keyS k' l
  | [] => by
    simp only [setE, getE]
    by_cases h : k' = k
    · subst h; rw [keyS_self, if_pos rfl]; rfl
    · rw [keyS_ne h, if_neg h]; rfl
  | e :: r => by
    simp only [setE]
    by_cases h1 : k = e.2.1
    · rw [keyS_iff.2 h1]
      simp only [cond_true, getE]
      by_cases h : k' = k
      · rw [keyS_iff.2 h, if_pos h]; rfl
      · rw [keyS_ne h, if_neg h, keyS_ne (fun e' => h (e'.trans h1.symm))]; rfl
    · rw [keyS_ne h1]
      simp only [cond_false, getE]
      rw [get_set k k' v c r]
      by_cases h : k' = k
      · rw [if_pos h, if_pos h, h, keyS_ne h1]; rfl
      · rw [if_neg h, if_neg h]
theorem get_none {k : ByteArray} : ∀ {l : List (Nat × ByteArray × V)}, k ∉ l.map (fun e => e.2.1) → getE keyS k l = none
  | [], _ => rfl
  | e :: r, h => by
    simp only [List.map_cons, List.mem_cons, not_or] at h
    simp only [getE]
    rw [keyS_ne h.1]
    exact get_none h.2
theorem get_del (k k' : ByteArray) : ∀ l : List (Nat × ByteArray × V), (l.map fun e => e.2.1).Nodup → getE keyS k' (delE keyS k l) = if k' = k then none else getE keyS k' l
  | [], _ => by simp [delE, getE]
  | e :: r, hn => by
    simp only [List.map_cons, List.nodup_cons] at hn
    simp only [delE]
    by_cases h1 : k = e.2.1
    · rw [keyS_iff.2 h1]
      simp only [cond_true, getE]
      by_cases h : k' = k
      · rw [if_pos h, get_none (by rw [h, h1]; exact hn.1)]
      · rw [if_neg h, keyS_ne (fun e' => h (e'.trans h1.symm))]; rfl
    · rw [keyS_ne h1]
      simp only [cond_false, getE]
      rw [get_del k k' r hn.2]
      by_cases h : k' = k
      · rw [if_pos h, if_pos h, h, keyS_ne h1]; rfl
      · rw [if_neg h, if_neg h]
theorem get_mem {k : ByteArray} : ∀ {l : List (Nat × ByteArray × V)}, (getE keyS k l).isSome = true ↔ k ∈ l.map (fun e => e.2.1)
  | [] => by simp [getE]
  | e :: r => by
    simp only [getE, List.map_cons, List.mem_cons]
    by_cases h : k = e.2.1
    · rw [keyS_iff.2 h]; simp [h]
    · rw [keyS_ne h]
      simp only [cond_false, h, false_or]
      exact get_mem
theorem get_some {k : ByteArray} {v : V} : ∀ {l : List (Nat × ByteArray × V)}, getE keyS k l = some v → ∃ c, (c, k, v) ∈ l
  | [], h => by cases h
  | e :: r, h => by
    simp only [getE] at h
    by_cases h1 : k = e.2.1
    · rw [keyS_iff.2 h1] at h
      simp only [cond_true, Option.some.injEq] at h
      exact ⟨e.1, by rw [h1, ← h]; exact List.mem_cons_self⟩
    · rw [keyS_ne h1] at h
      obtain ⟨c, hc⟩ := get_some h
      exact ⟨c, List.mem_cons_of_mem _ hc⟩
/-- A map that may be. -/
structure WM (x : MapD ByteArray V) : Prop where
  lt : ∀ e ∈ x.es, e.1 < x.ck
  sn : (x.es.map fun e => e.1).Nodup
  kn : (mkeys x).Nodup
theorem mem_keys {x : MapD ByteArray V} {k : ByteArray} : k ∈ mkeys x ↔ (atM x k).isSome = true := get_mem.symm
theorem WM.nil : WM (MapD.nil : MapD ByteArray V) := ⟨(fun e h => nomatch h), List.nodup_nil, List.nodup_nil⟩
theorem at_nil (k : ByteArray) : atM (MapD.nil : MapD ByteArray V) k = none := rfl
theorem at_set (x : MapD ByteArray V) (k k' : ByteArray) (v : V) : atM (mset keyS x k v) k' = if k' = k then some v else atM x k' := get_set k k' v x.ck x.es
theorem at_del {x : MapD ByteArray V} (h : WM x) (k k' : ByteArray) : atM (mdel keyS x k) k' = if k' = k then none else atM x k' := get_del k k' x.es h.kn
theorem set_keys (k : ByteArray) (v : V) (c : Nat) : ∀ l : List (Nat × ByteArray × V), (setE keyS k v c l).map (fun e => e.2.1) = bif (getE keyS k l).isSome then l.map (fun e => e.2.1) else l.map (fun e => e.2.1) ++ [k]
  | [] => rfl
  | e :: r => by
    have ih := set_keys k v c r
    simp only [setE, getE]
    by_cases h : k = e.2.1
    · rw [keyS_iff.2 h]; simp [h]
    · rw [keyS_ne h]
      simp only [cond_false, List.map_cons, ih]
      cases (getE keyS k r).isSome <;> rfl
theorem set_stamps (k : ByteArray) (v : V) (c : Nat) : ∀ l : List (Nat × ByteArray × V), (setE keyS k v c l).map (fun e => e.1) = bif (getE keyS k l).isSome then l.map (fun e => e.1) else l.map (fun e => e.1) ++ [c]
  | [] => rfl
  | e :: r => by
    have ih := set_stamps k v c r
    simp only [setE, getE]
    by_cases h : k = e.2.1
    · rw [keyS_iff.2 h]; rfl
    · rw [keyS_ne h]
      simp only [cond_false, List.map_cons, ih]
      cases (getE keyS k r).isSome <;> rfl
theorem keys_set (x : MapD ByteArray V) (k : ByteArray) (v : V) : mkeys (mset keyS x k v) = bif (atM x k).isSome then mkeys x else mkeys x ++ [k] := set_keys k v x.ck x.es
theorem del_sub (k : ByteArray) : ∀ l : List (Nat × ByteArray × V), (delE keyS k l).Sublist l
  | [] => List.Sublist.slnil
  | e :: r => by
    simp only [delE]
    cases keyS k e.2.1 with
    | true => exact List.sublist_cons_self ..
    | false => exact (del_sub k r).cons_cons e
theorem WM.set {x : MapD ByteArray V} (h : WM x) (k : ByteArray) (v : V) : WM (mset keyS x k v) := by
  have hck : (mset keyS x k v).ck = bif (atM x k).isSome then x.ck else x.ck + 1 := rfl
  have hst : ((mset keyS x k v).es.map fun e => e.1) = bif (atM x k).isSome then x.es.map (fun e => e.1) else x.es.map (fun e => e.1) ++ [x.ck] := set_stamps k v x.ck x.es
  have hks := keys_set x k v
  have hlt : ∀ s ∈ x.es.map (fun e => e.1), s < x.ck := fun s hs => by
    obtain ⟨e, he, rfl⟩ := List.mem_map.1 hs
    exact h.lt e he
  cases c : (atM x k).isSome with
  | true =>
    rw [c] at hck hst hks
    refine ⟨fun e he => ?_, by rw [hst]; exact h.sn, by rw [hks]; exact h.kn⟩
    have hin : e.1 ∈ (mset keyS x k v).es.map (fun e => e.1) := List.mem_map.2 ⟨e, he, rfl⟩
    rw [hst] at hin
    rw [hck]
    exact hlt _ hin
  | false =>
    rw [c] at hck hst hks
    simp only [cond_false] at hck hst hks
    refine ⟨fun e he => ?_, ?_, ?_⟩
    · have hin : e.1 ∈ (mset keyS x k v).es.map (fun e => e.1) := List.mem_map.2 ⟨e, he, rfl⟩
      rw [hst] at hin
      rw [hck]
      rcases List.mem_append.1 hin with q | q
      · have := hlt _ q; omega
      · rw [List.mem_singleton.1 q]; omega
    · rw [hst]
      refine List.nodup_append.2 ⟨h.sn, by simp, fun a ha b hb => ?_⟩
      rw [List.mem_singleton.1 hb]
      have := hlt a ha
      omega
    · rw [hks]
      refine List.nodup_append.2 ⟨h.kn, by simp, fun a ha b hb => ?_⟩
      rw [List.mem_singleton.1 hb]
      intro e
      rw [e] at ha
      have := mem_keys.1 ha
      rw [c] at this
      cases this
theorem WM.del {x : MapD ByteArray V} (h : WM x) (k : ByteArray) : WM (mdel keyS x k) := by
  have hs : (mdel keyS x k).es.Sublist x.es := del_sub k x.es
  exact ⟨fun e he => h.lt e (hs.subset he), (hs.map _).nodup h.sn, (hs.map _).nodup h.kn⟩
theorem len_keys (x : MapD ByteArray V) : (mkeys x).length = mlen x := List.length_map ..
theorem len_set (x : MapD ByteArray V) (k : ByteArray) (v : V) : mlen (mset keyS x k v) = bif (atM x k).isSome then mlen x else mlen x + 1 := by
  rw [← len_keys, keys_set, ← len_keys]
  cases (atM x k).isSome <;> simp
theorem len_del (x : MapD ByteArray V) (k : ByteArray) : mlen (mdel keyS x k) ≤ mlen x := (del_sub k x.es).length_le
/-- The keys, sorted. -/
def nm (x : MapD ByteArray V) : List ByteArray := sortS (mkeys x)
theorem sortS_perm {l l' : List ByteArray} (h : l.Perm l') : sortS l = sortS l' := by
  unfold sortS
  rw [Go.mergeSort_of_perm (h.map toB)]
theorem perm_sortS (l : List ByteArray) : (sortS l).Perm l := by
  unfold sortS
  have := (List.mergeSort_perm (l.map toB) fun x y => decide (x ≤ y)).map ofB
  rw [List.map_map, show (ofB ∘ toB) = id from rfl, List.map_id] at this
  exact this
theorem sortS_toB (l : List ByteArray) : (sortS l).map toB = (l.map toB).mergeSort fun x y => decide (x ≤ y) := by
  unfold sortS
  rw [List.map_map, show (toB ∘ ofB) = id from rfl, List.map_id]
/-- Rising, each once. -/
def rise (l : List ByteArray) : Prop := (l.map toB).Pairwise (· < ·)
theorem rise_sort {l : List ByteArray} (h : l.Nodup) : rise (sortS l) := by
  unfold rise
  have h1 : ((sortS l).map toB).Pairwise (· ≤ ·) := by rw [sortS_toB]; exact sort_pair _
  have h2 : ((sortS l).map toB).Nodup := List.pairwise_map.2 (((perm_sortS l).nodup_iff.2 h).imp fun {a b} hab e => hab (toB_inj e))
  refine (List.Pairwise.and h1 h2).imp fun {a b} hab => ?_
  apply Classical.byContradiction
  intro hn
  exact hab.2 (List.le_antisymm hab.1 (List.not_lt.1 hn))
theorem rise_nodup {l : List ByteArray} (h : rise l) : l.Nodup := by
  unfold rise at h
  rw [List.pairwise_map] at h
  exact h.imp fun {a b} hab e => by subst e; exact List.lt_irrefl _ hab
theorem rise_ext {l r : List ByteArray} (hl : rise l) (hr : rise r) (h : ∀ s, s ∈ l ↔ s ∈ r) : l = r := by
  rw [← txt_self hr]
  exact txt_ext hl h
theorem rise_filter {l : List ByteArray} (h : rise l) (p : ByteArray → Bool) : rise (l.filter p) := by
  unfold rise at h ⊢
  exact h.sublist ((List.filter_sublist).map _)
theorem nm_rise {x : MapD ByteArray V} (h : WM x) : rise (nm x) := rise_sort h.kn
theorem mem_nm {x : MapD ByteArray V} {k : ByteArray} : k ∈ nm x ↔ (atM x k).isSome = true := (perm_sortS _).mem_iff.trans mem_keys
theorem nm_len (x : MapD ByteArray V) : (nm x).length = mlen x := (perm_sortS _).length_eq.trans (len_keys x)
theorem sort_filter {l : List ByteArray} (h : l.Nodup) (p : ByteArray → Bool) : sortS (l.filter p) = (sortS l).filter p :=
  rise_ext (rise_sort (h.sublist List.filter_sublist)) (rise_filter (rise_sort h) p) fun s => by
    rw [(perm_sortS _).mem_iff, List.mem_filter, List.mem_filter, (perm_sortS _).mem_iff]
/-! ### a map is gone over -/
theorem mcalm_of {x : MapD ByteArray V} (h : WM x) {y : ItD} (hy : y.since = x.ck) : mcalm x y := ⟨hy.symm, by rw [hy]; exact h.lt⟩
theorem find_stamp {e : Nat × ByteArray × V} : ∀ {l : List (Nat × ByteArray × V)}, (l.map fun e => e.1).Nodup → e ∈ l → l.find? (fun z => z.1 == e.1) = some e
  | [], _, h => by cases h
  | z :: l, hn, h => by
    simp only [List.map_cons, List.nodup_cons] at hn
    rw [List.find?_cons]
    rcases List.mem_cons.1 h with rfl | h
    · simp
    · have hne : z.1 ≠ e.1 := fun q => hn.1 (q ▸ List.mem_map.2 ⟨e, h, rfl⟩)
      simp only [beq_eq_false_iff_ne.2 hne]
      exact find_stamp hn.2 h
theorem filter_stamp {e : Nat × ByteArray × V} : ∀ {l : List (Nat × ByteArray × V)}, (l.map fun e => e.1).Nodup → e ∈ l → l.Perm (e :: l.filter fun z => !(z.1 == e.1))
  | [], _, h => by cases h
  | z :: l, hn, h => by
    simp only [List.map_cons, List.nodup_cons] at hn
    rcases List.mem_cons.1 h with rfl | h
    · have : l.filter (fun z => !(z.1 == e.1)) = l := List.filter_eq_self.2 fun a ha => by
        have : a.1 ≠ e.1 := fun q => hn.1 (q ▸ List.mem_map.2 ⟨a, ha, rfl⟩)
        simp [this]
      rw [List.filter_cons]
      simp only [beq_self_eq_true, Bool.not_true, Bool.false_eq_true, if_false, this]
      exact List.Perm.refl _
    · have hne : z.1 ≠ e.1 := fun q => hn.1 (q ▸ List.mem_map.2 ⟨e, h, rfl⟩)
      rw [List.filter_cons]
      simp only [beq_eq_false_iff_ne.2 hne, Bool.not_false, if_true]
      exact ((filter_stamp hn.2 h).cons z).trans (.swap ..)
theorem left_in {x : MapD ByteArray V} {y : ItD} {i : Nat} (hi : i < (mleft x y).length) : (mleft x y)[i] ∈ x.es := (List.mem_filter.1 (List.getElem_mem hi)).1
theorem see_cur {x : MapD ByteArray V} (h : WM x) {y : ItD} {i : Nat} (hi : i < (mleft x y).length) : curE x (msee y (mleft x y) i) = some (mleft x y)[i] := by
  simp only [curE, msee, List.getElem?_eq_getElem hi, List.getLast?_append, List.getLast?_singleton, Option.some_or]
  exact find_stamp h.sn (left_in hi)
theorem see_mat {x : MapD ByteArray V} (h : WM x) {y : ItD} (hy : y.since = x.ck) {i : Nat} (hi : i < (mleft x y).length) : mat x (msee y (mleft x y) i) := ⟨hy.symm, by rw [see_cur h hi]; rfl⟩
theorem see_key {x : MapD ByteArray V} (h : WM x) {y : ItD} {i : Nat} (hi : i < (mleft x y).length) (z : ByteArray) : ckey z x (msee y (mleft x y) i) = (mleft x y)[i].2.1 := by unfold ckey; rw [see_cur h hi]
theorem see_val {x : MapD ByteArray V} (h : WM x) {y : ItD} {i : Nat} (hi : i < (mleft x y).length) (z : V) : cval z x (msee y (mleft x y) i) = (mleft x y)[i].2.2 := by unfold cval; rw [see_cur h hi]
theorem see_left {x : MapD ByteArray V} (h : WM x) {y : ItD} {i : Nat} (hi : i < (mleft x y).length) : (mleft x y).Perm ((mleft x y)[i] :: mleft x (msee y (mleft x y) i)) := by
  have h1 : mleft x (msee y (mleft x y) i) = (mleft x y).filter fun z => !(z.1 == (mleft x y)[i].1) := by
    have hsee : (msee y (mleft x y) i).seen = y.seen ++ [(mleft x y)[i].1] := by simp only [msee, List.getElem?_eq_getElem hi]
    generalize (mleft x y)[i].1 = s at hsee
    generalize msee y (mleft x y) i = y' at hsee
    unfold mleft
    rw [hsee, List.filter_filter]
    refine List.filter_congr fun e he => ?_
    by_cases c1 : e.1 ∈ y.seen <;> by_cases c2 : e.1 = s <;> simp [c1, c2]
  rw [h1]
  have hs : ((mleft x y).map fun e => e.1).Nodup := h.sn.sublist ((List.filter_sublist).map _)
  exact filter_stamp hs (List.getElem_mem hi)
theorem left_beg (x : MapD ByteArray V) : mleft x (mbeg x) = x.es := List.filter_eq_self.2 fun e he => by simp [mbeg]
end

/-! ### maps from numbers -/
section
variable {V : Type}
theorem keyI_iff {a b : Int} : keyI a b = true ↔ a = b := by unfold keyI; exact decide_eq_true_iff
theorem keyI_ne {a b : Int} (h : a ≠ b) : keyI a b = false := by
  cases hb : keyI a b with
  | false => rfl
  | true => exact absurd (keyI_iff.1 hb) h
theorem keyI_self (a : Int) : keyI a a = true := keyI_iff.2 rfl
def atI (x : MapD Int V) (k : Int) : Option V := getE keyI k x.es
theorem mhas_at_i (x : MapD Int V) (k : Int) : mhas keyI x k = (atI x k).isSome := rfl
theorem mget_at_i (z : V) (x : MapD Int V) (k : Int) : mget keyI z x k = (atI x k).getD z := rfl
theorem get_set_i (k k' : Int) (v : V) (c : Nat) : ∀ l : List (Nat × Int × V), getE keyI k' (setE keyI k v c l) = if k' = k then some v else getE keyI k' l
  | [] => by
    simp only [setE, getE]
    by_cases h : k' = k
    · subst h; rw [keyI_self, if_pos rfl]; rfl
    · rw [keyI_ne h, if_neg h]; rfl
  | e :: r => by
    simp only [setE]
    by_cases h1 : k = e.2.1
    · rw [keyI_iff.2 h1]
      simp only [cond_true, getE]
      by_cases h : k' = k
      · rw [keyI_iff.2 h, if_pos h]; rfl
      · rw [keyI_ne h, if_neg h, keyI_ne (fun e' => h (e'.trans h1.symm))]; rfl
    · rw [keyI_ne h1]
      simp only [cond_false, getE]
      rw [get_set_i k k' v c r]
      by_cases h : k' = k
      · rw [if_pos h, if_pos h, h, keyI_ne h1]; rfl
      · rw [if_neg h, if_neg h]
theorem get_none_i {k : Int} : ∀ {l : List (Nat × Int × V)}, k ∉ l.map (fun e => e.2.1) → getE keyI k l = none
  | [], _ => rfl
  | e :: r, h => by
    simp only [List.map_cons, List.mem_cons, not_or] at h
    simp only [getE]
    rw [keyI_ne h.1]
    exact get_none_i h.2
theorem get_del_i (k k' : Int) : ∀ l : List (Nat × Int × V), (l.map fun e => e.2.1).Nodup → getE keyI k' (delE keyI k l) = if k' = k then none else getE keyI k' l
  | [], _ => by simp [delE, getE]
  | e :: r, hn => by
    simp only [List.map_cons, List.nodup_cons] at hn
    simp only [delE]
    by_cases h1 : k = e.2.1
    · rw [keyI_iff.2 h1]
      simp only [cond_true, getE]
      by_cases h : k' = k
      · rw [if_pos h, get_none_i (by rw [h, h1]; exact hn.1)]
      · rw [if_neg h, keyI_ne (fun e' => h (e'.trans h1.symm))]; rfl
    · rw [keyI_ne h1]
      simp only [cond_false, getE]
      rw [get_del_i k k' r hn.2]
      by_cases h : k' = k
      · rw [if_pos h, if_pos h, h, keyI_ne h1]; rfl
      · rw [if_neg h, if_neg h]
theorem get_mem_i {k : Int} : ∀ {l : List (Nat × Int × V)}, (getE keyI k l).isSome = true ↔ k ∈ l.map (fun e => e.2.1)
  | [] => by simp [getE]
  | e :: r => by
    simp only [getE, List.map_cons, List.mem_cons]
    by_cases h : k = e.2.1
    · rw [keyI_iff.2 h]; simp [h]
    · rw [keyI_ne h]
      simp only [cond_false, h, false_or]
      exact get_mem_i
theorem get_some_i {k : Int} {v : V} : ∀ {l : List (Nat × Int × V)}, getE keyI k l = some v → ∃ c, (c, k, v) ∈ l
  | [], h => by cases h
  | e :: r, h => by
    simp only [getE] at h
    by_cases h1 : k = e.2.1
    · rw [keyI_iff.2 h1] at h
      simp only [cond_true, Option.some.injEq] at h
      exact ⟨e.1, by rw [h1, ← h]; exact List.mem_cons_self⟩
    · rw [keyI_ne h1] at h
      obtain ⟨c, hc⟩ := get_some_i h
      exact ⟨c, List.mem_cons_of_mem _ hc⟩
structure WI (x : MapD Int V) : Prop where
  lt : ∀ e ∈ x.es, e.1 < x.ck
  sn : (x.es.map fun e => e.1).Nodup
  kn : (mkeysU x).Nodup
theorem mem_keys_i {x : MapD Int V} {k : Int} : k ∈ mkeysU x ↔ (atI x k).isSome = true := get_mem_i.symm
theorem WI.nil : WI (MapD.nil : MapD Int V) := ⟨(fun e h => nomatch h), List.nodup_nil, List.nodup_nil⟩
theorem at_nil_i (k : Int) : atI (MapD.nil : MapD Int V) k = none := rfl
theorem at_set_i (x : MapD Int V) (k k' : Int) (v : V) : atI (mset keyI x k v) k' = if k' = k then some v else atI x k' := get_set_i k k' v x.ck x.es
theorem at_del_i {x : MapD Int V} (h : WI x) (k k' : Int) : atI (mdel keyI x k) k' = if k' = k then none else atI x k' := get_del_i k k' x.es h.kn
theorem set_keys_i (k : Int) (v : V) (c : Nat) : ∀ l : List (Nat × Int × V), (setE keyI k v c l).map (fun e => e.2.1) = bif (getE keyI k l).isSome then l.map (fun e => e.2.1) else l.map (fun e => e.2.1) ++ [k]
  | [] => rfl
  | e :: r => by
    have ih := set_keys_i k v c r
    simp only [setE, getE]
    by_cases h : k = e.2.1
    · rw [keyI_iff.2 h]; simp [h]
    · rw [keyI_ne h]
      simp only [cond_false, List.map_cons, ih]
      cases (getE keyI k r).isSome <;> rfl
theorem set_stamps_i (k : Int) (v : V) (c : Nat) : ∀ l : List (Nat × Int × V), (setE keyI k v c l).map (fun e => e.1) = bif (getE keyI k l).isSome then l.map (fun e => e.1) else l.map (fun e => e.1) ++ [c]
  | [] => rfl
  | e :: r => by
    have ih := set_stamps_i k v c r
    simp only [setE, getE]
    by_cases h : k = e.2.1
    · rw [keyI_iff.2 h]; rfl
    · rw [keyI_ne h]
      simp only [cond_false, List.map_cons, ih]
      cases (getE keyI k r).isSome <;> rfl
theorem keys_set_i (x : MapD Int V) (k : Int) (v : V) : mkeysU (mset keyI x k v) = bif (atI x k).isSome then mkeysU x else mkeysU x ++ [k] := set_keys_i k v x.ck x.es
theorem del_sub_i (k : Int) : ∀ l : List (Nat × Int × V), (delE keyI k l).Sublist l
  | [] => List.Sublist.slnil
  | e :: r => by
    simp only [delE]
    cases keyI k e.2.1 with
    | true => exact List.sublist_cons_self ..
    | false => exact (del_sub_i k r).cons_cons e
theorem WI.set {x : MapD Int V} (h : WI x) (k : Int) (v : V) : WI (mset keyI x k v) := by
  have hck : (mset keyI x k v).ck = bif (atI x k).isSome then x.ck else x.ck + 1 := rfl
  have hst : ((mset keyI x k v).es.map fun e => e.1) = bif (atI x k).isSome then x.es.map (fun e => e.1) else x.es.map (fun e => e.1) ++ [x.ck] := set_stamps_i k v x.ck x.es
  have hks := keys_set_i x k v
  have hlt : ∀ s ∈ x.es.map (fun e => e.1), s < x.ck := fun s hs => by
    obtain ⟨e, he, rfl⟩ := List.mem_map.1 hs
    exact h.lt e he
  cases c : (atI x k).isSome with
  | true =>
    rw [c] at hck hst hks
    refine ⟨fun e he => ?_, by rw [hst]; exact h.sn, by rw [hks]; exact h.kn⟩
    have hin : e.1 ∈ (mset keyI x k v).es.map (fun e => e.1) := List.mem_map.2 ⟨e, he, rfl⟩
    rw [hst] at hin
    rw [hck]
    exact hlt _ hin
  | false =>
    rw [c] at hck hst hks
    simp only [cond_false] at hck hst hks
    refine ⟨fun e he => ?_, ?_, ?_⟩
    · have hin : e.1 ∈ (mset keyI x k v).es.map (fun e => e.1) := List.mem_map.2 ⟨e, he, rfl⟩
      rw [hst] at hin
      rw [hck]
      rcases List.mem_append.1 hin with q | q
      · have := hlt _ q; omega
      · rw [List.mem_singleton.1 q]; omega
    · rw [hst]
      refine List.nodup_append.2 ⟨h.sn, by simp, fun a ha b hb => ?_⟩
      rw [List.mem_singleton.1 hb]
      have := hlt a ha
      omega
    · rw [hks]
      refine List.nodup_append.2 ⟨h.kn, by simp, fun a ha b hb => ?_⟩
      rw [List.mem_singleton.1 hb]
      intro e
      rw [e] at ha
      have := mem_keys_i.1 ha
      rw [c] at this
      cases this
theorem WI.del {x : MapD Int V} (h : WI x) (k : Int) : WI (mdel keyI x k) := by
  have hs : (mdel keyI x k).es.Sublist x.es := del_sub_i k x.es
  exact ⟨fun e he => h.lt e (hs.subset he), (hs.map _).nodup h.sn, (hs.map _).nodup h.kn⟩
theorem len_keys_i (x : MapD Int V) : (mkeysU x).length = mlen x := List.length_map ..
theorem len_set_i (x : MapD Int V) (k : Int) (v : V) : mlen (mset keyI x k v) = bif (atI x k).isSome then mlen x else mlen x + 1 := by
  rw [← len_keys_i, keys_set_i, ← len_keys_i]
  cases (atI x k).isSome <;> simp
theorem len_del_i (x : MapD Int V) (k : Int) : mlen (mdel keyI x k) ≤ mlen x := (del_sub_i k x.es).length_le
/-- The keys, sorted. -/
theorem mcalm_of_i {x : MapD Int V} (h : WI x) {y : ItD} (hy : y.since = x.ck) : mcalm x y := ⟨hy.symm, by rw [hy]; exact h.lt⟩
theorem find_stamp_i {e : Nat × Int × V} : ∀ {l : List (Nat × Int × V)}, (l.map fun e => e.1).Nodup → e ∈ l → l.find? (fun z => z.1 == e.1) = some e
  | [], _, h => by cases h
  | z :: l, hn, h => by
    simp only [List.map_cons, List.nodup_cons] at hn
    rw [List.find?_cons]
    rcases List.mem_cons.1 h with rfl | h
    · simp
    · have hne : z.1 ≠ e.1 := fun q => hn.1 (q ▸ List.mem_map.2 ⟨e, h, rfl⟩)
      simp only [beq_eq_false_iff_ne.2 hne]
      exact find_stamp_i hn.2 h
theorem filter_stamp_i {e : Nat × Int × V} : ∀ {l : List (Nat × Int × V)}, (l.map fun e => e.1).Nodup → e ∈ l → l.Perm (e :: l.filter fun z => !(z.1 == e.1))
  | [], _, h => by cases h
  | z :: l, hn, h => by
    simp only [List.map_cons, List.nodup_cons] at hn
    rcases List.mem_cons.1 h with rfl | h
    · have : l.filter (fun z => !(z.1 == e.1)) = l := List.filter_eq_self.2 fun a ha => by
        have : a.1 ≠ e.1 := fun q => hn.1 (q ▸ List.mem_map.2 ⟨a, ha, rfl⟩)
        simp [this]
      rw [List.filter_cons]
      simp only [beq_self_eq_true, Bool.not_true, Bool.false_eq_true, if_false, this]
      exact List.Perm.refl _
    · have hne : z.1 ≠ e.1 := fun q => hn.1 (q ▸ List.mem_map.2 ⟨e, h, rfl⟩)
      rw [List.filter_cons]
      simp only [beq_eq_false_iff_ne.2 hne, Bool.not_false, if_true]
      exact ((filter_stamp_i hn.2 h).cons z).trans (.swap ..)
theorem left_in_i {x : MapD Int V} {y : ItD} {i : Nat} (hi : i < (mleft x y).length) : (mleft x y)[i] ∈ x.es := (List.mem_filter.1 (List.getElem_mem hi)).1
theorem see_cur_i {x : MapD Int V} (h : WI x) {y : ItD} {i : Nat} (hi : i < (mleft x y).length) : curE x (msee y (mleft x y) i) = some (mleft x y)[i] := by
  simp only [curE, msee, List.getElem?_eq_getElem hi, List.getLast?_append, List.getLast?_singleton, Option.some_or]
  exact find_stamp_i h.sn (left_in_i hi)
theorem see_mat_i {x : MapD Int V} (h : WI x) {y : ItD} (hy : y.since = x.ck) {i : Nat} (hi : i < (mleft x y).length) : mat x (msee y (mleft x y) i) := ⟨hy.symm, by rw [see_cur_i h hi]; rfl⟩
theorem see_key_i {x : MapD Int V} (h : WI x) {y : ItD} {i : Nat} (hi : i < (mleft x y).length) (z : Int) : ckey z x (msee y (mleft x y) i) = (mleft x y)[i].2.1 := by unfold ckey; rw [see_cur_i h hi]
theorem see_val_i {x : MapD Int V} (h : WI x) {y : ItD} {i : Nat} (hi : i < (mleft x y).length) (z : V) : cval z x (msee y (mleft x y) i) = (mleft x y)[i].2.2 := by unfold cval; rw [see_cur_i h hi]
theorem see_left_i {x : MapD Int V} (h : WI x) {y : ItD} {i : Nat} (hi : i < (mleft x y).length) : (mleft x y).Perm ((mleft x y)[i] :: mleft x (msee y (mleft x y) i)) := by
  have h1 : mleft x (msee y (mleft x y) i) = (mleft x y).filter fun z => !(z.1 == (mleft x y)[i].1) := by
    have hsee : (msee y (mleft x y) i).seen = y.seen ++ [(mleft x y)[i].1] := by simp only [msee, List.getElem?_eq_getElem hi]
    generalize (mleft x y)[i].1 = s at hsee
    generalize msee y (mleft x y) i = y' at hsee
    unfold mleft
    rw [hsee, List.filter_filter]
    refine List.filter_congr fun e he => ?_
    by_cases c1 : e.1 ∈ y.seen <;> by_cases c2 : e.1 = s <;> simp [c1, c2]
  rw [h1]
  have hs : ((mleft x y).map fun e => e.1).Nodup := h.sn.sublist ((List.filter_sublist).map _)
  exact filter_stamp_i hs (List.getElem_mem hi)
theorem left_beg_i (x : MapD Int V) : mleft x (mbeg x) = x.es := List.filter_eq_self.2 fun e he => by simp [mbeg]
end

/-! ### what can be got at: keys, atoms, boxes that stay shut, if these keys are there -/
mutual
def kyT (K : Int → Bool) : S114 → List Int
  | ⟨k, n, _, l⟩ => if k = 3 then [n] else if k = 5 then kyL K l else if k = 4 then (if K n = true then kyL K l else []) else []
def kyL (K : Int → Bool) : List S114 → List Int
  | [] => []
  | x :: t => kyT K x ++ kyL K t
end
mutual
def atT (K : Int → Bool) : S114 → List ByteArray
  | ⟨k, n, s, l⟩ => if k = 2 then [s] else if k = 5 then atL K l else if k = 4 then (if K n = true then atL K l else []) else []
def atL (K : Int → Bool) : List S114 → List ByteArray
  | [] => []
  | x :: t => atT K x ++ atL K t
end
mutual
def shT (K : Int → Bool) : S114 → Nat
  | ⟨k, n, _, l⟩ => if k = 5 then shL K l else if k = 4 then (if K n = true then shL K l else 1) else 0
def shL (K : Int → Bool) : List S114 → Nat
  | [] => 0
  | x :: t => shT K x + shL K t
end
theorem kyT_eq (K : Int → Bool) (x : S114) : kyT K x = if x.f0 = 3 then [x.f1] else if x.f0 = 5 then kyL K x.f3 else if x.f0 = 4 then (if K x.f1 = true then kyL K x.f3 else []) else [] := by cases x; rw [kyT]; rfl
theorem atT_eq (K : Int → Bool) (x : S114) : atT K x = if x.f0 = 2 then [x.f2] else if x.f0 = 5 then atL K x.f3 else if x.f0 = 4 then (if K x.f1 = true then atL K x.f3 else []) else [] := by cases x; rw [atT]; rfl
theorem shT_eq (K : Int → Bool) (x : S114) : shT K x = if x.f0 = 5 then shL K x.f3 else if x.f0 = 4 then (if K x.f1 = true then shL K x.f3 else 1) else 0 := by cases x; rw [shT]; rfl
theorem kyL_app (K : Int → Bool) : ∀ l r : List S114, kyL K (l ++ r) = kyL K l ++ kyL K r
  | [], r => by rw [kyL]; rfl
  | x :: l, r => by rw [List.cons_append, kyL, kyL, kyL_app K l r, List.append_assoc]
theorem atL_app (K : Int → Bool) : ∀ l r : List S114, atL K (l ++ r) = atL K l ++ atL K r
  | [], r => by rw [atL]; rfl
  | x :: l, r => by rw [List.cons_append, atL, atL, atL_app K l r, List.append_assoc]
theorem shL_app (K : Int → Bool) : ∀ l r : List S114, shL K (l ++ r) = shL K l + shL K r
  | [], r => by rw [shL, List.nil_append, Nat.zero_add]
  | x :: l, r => by rw [List.cons_append, shL, shL, shL_app K l r, Nat.add_assoc]
theorem partsL_app : ∀ l r : List S114, partsL (l ++ r) = partsL l + partsL r
  | [], r => by rw [partsL, List.nil_append, Nat.zero_add]
  | x :: l, r => by rw [List.cons_append, partsL, partsL, partsL_app l r, Nat.add_assoc]
theorem kyL_one (K : Int → Bool) (x : S114) : kyL K [x] = kyT K x := by rw [kyL, kyL, List.append_nil]
theorem atL_one (K : Int → Bool) (x : S114) : atL K [x] = atT K x := by rw [atL, atL, List.append_nil]
theorem shL_one (K : Int → Bool) (x : S114) : shL K [x] = shT K x := by rw [shL, shL, Nat.add_zero]
theorem partsL_one (x : S114) : partsL [x] = parts x := by rw [partsL, partsL, Nat.add_zero]
theorem len_partsL : ∀ l : List S114, l.length ≤ partsL l
  | [] => Nat.zero_le _
  | x :: l => by rw [partsL, List.length_cons]; have := len_partsL l; have := parts_pos x; omega
theorem mem_kyL {K : Int → Bool} {k : Int} : ∀ {l : List S114}, k ∈ kyL K l ↔ ∃ x ∈ l, k ∈ kyT K x
  | [] => by rw [kyL]; simp
  | x :: l => by rw [kyL, List.mem_append, mem_kyL (l := l)]; simp
theorem mem_atL {K : Int → Bool} {k : ByteArray} : ∀ {l : List S114}, k ∈ atL K l ↔ ∃ x ∈ l, k ∈ atT K x
  | [] => by rw [atL]; simp
  | x :: l => by rw [atL, List.mem_append, mem_atL (l := l)]; simp
/-- A term that may be taken: a box holds one; numbers are in their range. -/
inductive Tk : S114 → Prop
  | mk {x : S114} (hn : 0 ≤ x.f1 ∧ x.f1 < 18446744073709551616) (hs : x.f2.size ≤ 140737488355328) (hb : x.f0 = 4 → x.f3.length = 1) (h : ∀ y ∈ x.f3, Tk y) : Tk x

/-! ### sums over the boxes that are shut -/
def sumE (φ : Int → List S114 → Nat) (l : List (Nat × Int × List S114)) : Nat := (l.map fun e => φ e.2.1 e.2.2).sum
theorem sumE_cons (φ : Int → List S114 → Nat) (e : Nat × Int × List S114) (l : List (Nat × Int × List S114)) : sumE φ (e :: l) = φ e.2.1 e.2.2 + sumE φ l := by simp [sumE]
theorem sumE_nil (φ : Int → List S114 → Nat) : sumE φ [] = 0 := rfl
theorem sum_set (φ : Int → List S114 → Nat) (k : Int) (v : List S114) (c : Nat) (h0 : φ k [] = 0) : ∀ l, sumE φ (setE keyI k v c l) + φ k ((getE keyI k l).getD []) = sumE φ l + φ k v
  | [] => by simp only [setE, getE, sumE_cons, sumE_nil, Option.getD_none, h0]; omega
  | e :: l => by
    simp only [setE, getE]
    by_cases h : k = e.2.1
    · rw [keyI_iff.2 h]
      simp only [cond_true, Option.getD_some, sumE_cons, h]
      omega
    · rw [keyI_ne h]
      simp only [cond_false, sumE_cons]
      have := sum_set φ k v c h0 l
      omega
theorem sum_del (φ : Int → List S114 → Nat) (k : Int) (h0 : φ k [] = 0) : ∀ l, sumE φ (delE keyI k l) + φ k ((getE keyI k l).getD []) = sumE φ l
  | [] => by simp only [delE, getE, sumE_nil, Option.getD_none, h0]
  | e :: l => by
    simp only [delE, getE]
    by_cases h : k = e.2.1
    · rw [keyI_iff.2 h]
      simp only [cond_true, Option.getD_some, sumE_cons, h]
      omega
    · rw [keyI_ne h]
      simp only [cond_false, sumE_cons]
      have := sum_del φ k h0 l
      omega
abbrev MB3 := MapD Int (List S114)
abbrev MK3 := MapD Int S89
abbrev MA3 := MapD ByteArray S89
def sumM (φ : Int → List S114 → Nat) (s : MB3) : Nat := sumE φ s.es
theorem sumM_set (φ : Int → List S114 → Nat) (s : MB3) (k : Int) (v : List S114) (h0 : φ k [] = 0) : sumM φ (mset keyI s k v) + φ k (mget keyI [] s k) = sumM φ s + φ k v := sum_set φ k v s.ck h0 s.es
theorem sumM_del (φ : Int → List S114 → Nat) (s : MB3) (k : Int) (h0 : φ k [] = 0) : sumM φ (mdel keyI s k) + φ k (mget keyI [] s k) = sumM φ s := sum_del φ k h0 s.es
/-- The sums that are meant. -/
def kF (K : Int → Bool) (x : Int) (k : Int) (l : List S114) : Nat := if K k = true then (kyL K l).count x else 0
def cA (x : ByteArray) (l : List ByteArray) : Nat := l.countP fun y => decide (y = x)
theorem cA_app (x : ByteArray) (l r : List ByteArray) : cA x (l ++ r) = cA x l + cA x r := List.countP_append
theorem cA_pos {x : ByteArray} {l : List ByteArray} : 0 < cA x l ↔ x ∈ l := by
  unfold cA
  rw [List.countP_pos_iff]
  constructor
  · rintro ⟨y, hy, h⟩
    rw [← of_decide_eq_true h]; exact hy
  · intro h; exact ⟨x, h, decide_eq_true rfl⟩
def aF (K : Int → Bool) (x : ByteArray) (k : Int) (l : List S114) : Nat := if K k = true then cA x (atL K l) else 0
def sF (K : Int → Bool) (k : Int) (l : List S114) : Nat := if K k = true then shL K l else l.length
def zF (_ : Int) (l : List S114) : Nat := partsL l
theorem kF_nil (K : Int → Bool) (x k : Int) : kF K x k [] = 0 := by unfold kF; rw [kyL]; split <;> rfl
theorem aF_nil (K : Int → Bool) (x : ByteArray) (k : Int) : aF K x k [] = 0 := by unfold aF; rw [atL]; split <;> rfl
theorem sF_nil (K : Int → Bool) (k : Int) : sF K k [] = 0 := by unfold sF; rw [shL]; split <;> rfl
theorem zF_nil (k : Int) : zF k [] = 0 := by unfold zF; rw [partsL]

/-! ### what is there -/
structure Lt where
  k : MK3
  a : MA3
  s : MB3
def Lt.tot (s : Lt) : Nat := mlen s.k + mlen s.a + sumM zF s.s
/-- What may be there. -/
structure Wf (s : Lt) : Prop where
  wk : WI s.k
  wa : WM s.a
  ws : WI s.s
  rk : ∀ k ∈ mkeysU s.k, 0 ≤ k ∧ k < 18446744073709551616
  ra : ∀ k ∈ mkeys s.a, k.size ≤ 140737488355328
  tk : ∀ k, ∀ x ∈ mget keyI [] s.s k, Tk x
  cl : ∀ k, mhas keyI s.k k = true → mget keyI [] s.s k = []
/-- From one to the other these terms were taken. -/
structure Took (l : List S114) (s s' : Lt) : Prop where
  wf : Wf s'
  sz : sumM zF s'.s ≤ sumM zF s.s + partsL l
  tot : s'.tot ≤ s.tot + partsL l
  sub : ∀ k, mhas keyI s.k k = true → mhas keyI s'.k k = true
  ky : ∀ K : Int → Bool, (∀ k, mhas keyI s'.k k = true → K k = true) → ∀ x, (mhas keyI s'.k x = true ∨ 0 < sumM (kF K x) s'.s) ↔ (mhas keyI s.k x = true ∨ 0 < sumM (kF K x) s.s + (kyL K l).count x)
  at_ : ∀ K : Int → Bool, (∀ k, mhas keyI s'.k k = true → K k = true) → ∀ x, (mhas keyS s'.a x = true ∨ 0 < sumM (aF K x) s'.s) ↔ (mhas keyS s.a x = true ∨ 0 < sumM (aF K x) s.s + cA x (atL K l))
  sh : ∀ K : Int → Bool, (∀ k, mhas keyI s'.k k = true → K k = true) → sumM (sF K) s'.s = sumM (sF K) s.s + shL K l
  lst : ∀ K : Int → Bool, (∀ k, mhas keyI s.k k = true → K k = true) → (∀ x, 0 < sumM (kF K x) s.s → K x = true) → (∀ x, 0 < (kyL K l).count x → K x = true) → ∀ k, mhas keyI s'.k k = true → K k = true
theorem Took.refl {s : Lt} (h : Wf s) : Took [] s s where
  wf := h
  sz := Nat.le_add_right _ _
  tot := Nat.le_add_right _ _
  sub := fun _ h => h
  ky := fun K _ x => by rw [kyL]; simp
  at_ := fun K _ x => by rw [atL]; exact Iff.rfl
  sh := fun K _ => by rw [shL]; rfl
  lst := fun K h _ _ => h
theorem Took.trans {l r : List S114} {s s1 s2 : Lt} (h : Took l s s1) (k : Took r s1 s2) : Took (l ++ r) s s2 where
  wf := k.wf
  sz := by rw [partsL_app]; have := h.sz; have := k.sz; omega
  tot := by rw [partsL_app]; have := h.tot; have := k.tot; omega
  sub := fun x hx => k.sub x (h.sub x hx)
  ky := fun K hK x => by
    have h1 := k.ky K hK x
    have h2 := h.ky K (fun y hy => hK y (k.sub y hy)) x
    rw [kyL_app, List.count_append, h1]
    constructor
    · rintro (q | q)
      · rcases h2.1 (.inl q) with q | q
        · exact .inl q
        · exact .inr (by omega)
      · by_cases c : 0 < sumM (kF K x) s1.s
        · rcases h2.1 (.inr c) with q | q
          · exact .inl q
          · exact .inr (by omega)
        · exact .inr (by omega)
    · rintro (q | q)
      · rcases h2.2 (.inl q) with q | q
        · exact .inl q
        · exact .inr (by omega)
      · by_cases c : 0 < sumM (kF K x) s.s + (kyL K l).count x
        · rcases h2.2 (.inr c) with q | q
          · exact .inl q
          · exact .inr (by omega)
        · exact .inr (by omega)
  at_ := fun K hK x => by
    have h1 := k.at_ K hK x
    have h2 := h.at_ K (fun y hy => hK y (k.sub y hy)) x
    rw [atL_app, cA_app, h1]
    constructor
    · rintro (q | q)
      · rcases h2.1 (.inl q) with q | q
        · exact .inl q
        · exact .inr (by omega)
      · by_cases c : 0 < sumM (aF K x) s1.s
        · rcases h2.1 (.inr c) with q | q
          · exact .inl q
          · exact .inr (by omega)
        · exact .inr (by omega)
    · rintro (q | q)
      · rcases h2.2 (.inl q) with q | q
        · exact .inl q
        · exact .inr (by omega)
      · by_cases c : 0 < sumM (aF K x) s.s + cA x (atL K l)
        · rcases h2.2 (.inr c) with q | q
          · exact .inl q
          · exact .inr (by omega)
        · exact .inr (by omega)
  sh := fun K hK => by rw [shL_app, k.sh K hK, h.sh K (fun y hy => hK y (k.sub y hy))]; omega
  lst := fun K h1 h2 h3 => by
    have h4 := h.lst K h1 h2 (fun x hx => h3 x (by rw [kyL_app, List.count_append]; omega))
    refine k.lst K h4 (fun x hx => ?_) (fun x hx => h3 x (by rw [kyL_app, List.count_append]; omega))
    rcases (h.ky K h4 x).1 (.inr hx) with q | q
    · exact h1 x q
    · by_cases c : 0 < sumM (kF K x) s.s
      · exact h2 x c
      · exact h3 x (by rw [kyL_app, List.count_append]; omega)
/-- A term that leads to these alone. -/
theorem Took.row {t : S114} {l : List S114} {s s' : Lt} (h : Took l s s') (hp : partsL l ≤ parts t) (hk : ∀ K : Int → Bool, (∀ k, mhas keyI s.k k = true → K k = true) → kyT K t = kyL K l ∧ atT K t = atL K l ∧ shT K t = shL K l) : Took [t] s s' where
  wf := h.wf
  sz := by rw [partsL_one]; have := h.sz; omega
  tot := by rw [partsL_one]; have := h.tot; omega
  sub := h.sub
  ky := fun K hK x => by rw [kyL_one, (hk K fun y hy => hK y (h.sub y hy)).1]; exact h.ky K hK x
  at_ := fun K hK x => by rw [atL_one, (hk K fun y hy => hK y (h.sub y hy)).2.1]; exact h.at_ K hK x
  sh := fun K hK => by rw [shL_one, (hk K fun y hy => hK y (h.sub y hy)).2.2]; exact h.sh K hK
  lst := fun K h1 h2 h3 => h.lst K h1 h2 (fun x hx => h3 x (by rw [kyL_one, (hk K h1).1]; exact hx))
theorem mhas_set_i {V : Type} (x : MapD Int V) (k k' : Int) (v : V) : mhas keyI (mset keyI x k v) k' = (decide (k' = k) || mhas keyI x k') := by
  rw [mhas_at_i, mhas_at_i, at_set_i]
  by_cases h : k' = k
  · rw [if_pos h, decide_eq_true h]; rfl
  · rw [if_neg h, decide_eq_false h]; rfl
theorem mhas_set {V : Type} (x : MapD ByteArray V) (k k' : ByteArray) (v : V) : mhas keyS (mset keyS x k v) k' = (decide (k' = k) || mhas keyS x k') := by
  rw [mhas_at, mhas_at, at_set]
  by_cases h : k' = k
  · rw [if_pos h, decide_eq_true h]; rfl
  · rw [if_neg h, decide_eq_false h]; rfl
theorem Took.atom {t : S114} {s : Lt} (h : Wf s) (ht : Tk t) (h2 : t.f0 = 2) : Took [t] s ⟨s.k, mset keyS s.a t.f2 S89.mk, s.s⟩ := by
  have k0 : ∀ K : Int → Bool, kyT K t = [] := fun K => by rw [kyT_eq, if_neg (by omega), if_neg (by omega), if_neg (by omega)]
  have a0 : ∀ K : Int → Bool, atT K t = [t.f2] := fun K => by rw [atT_eq, if_pos h2]
  have s0 : ∀ K : Int → Bool, shT K t = 0 := fun K => by rw [shT_eq, if_neg (by omega), if_neg (by omega)]
  refine ⟨⟨h.wk, h.wa.set _ _, h.ws, h.rk, fun k hk => ?_, h.tk, h.cl⟩, Nat.le_add_right _ _, ?_, fun _ h => h, fun K _ x => by rw [kyL_one, k0]; simp, fun K _ x => ?_, fun K _ => by rw [shL_one, s0]; rfl, fun K h1 _ _ => h1⟩
  · have hk' := mem_keys.1 hk
    rw [at_set] at hk'
    split at hk'
    · rename_i e
      rw [e]
      cases ht with
      | mk _ hs _ _ => exact hs
    · exact h.ra k (mem_keys.2 hk')
  · have := len_set s.a t.f2 S89.mk
    have hp := parts_pos t
    rw [partsL_one]
    show mlen s.k + mlen (mset keyS s.a t.f2 S89.mk) + sumM zF s.s ≤ mlen s.k + mlen s.a + sumM zF s.s + parts t
    cases c : (atM s.a t.f2).isSome <;> rw [c] at this <;> simp only [cond_true, cond_false] at this <;> omega
  · rw [atL_one, a0]
    show (mhas keyS (mset keyS s.a t.f2 S89.mk) x = true ∨ _) ↔ _
    rw [mhas_set]
    by_cases e : x = t.f2
    · subst e; simp [cA]
    · have h1 : cA x [t.f2] = 0 := by simp [cA, Ne.symm e]
      rw [h1, decide_eq_false e]
      simp
theorem Took.none {t : S114} {s : Lt} (h : Wf s) (h2 : t.f0 ≠ 2) (h3 : t.f0 ≠ 3) (h4 : t.f0 ≠ 4) (h5 : t.f0 ≠ 5) : Took [t] s s := by
  refine (Took.refl h).row (by rw [partsL]; omega) (fun K _ => ⟨?_, ?_, ?_⟩)
  · rw [kyT_eq, if_neg h3, if_neg h5, if_neg h4, kyL]
  · rw [atT_eq, if_neg h2, if_neg h5, if_neg h4, atL]
  · rw [shT_eq, if_neg h5, if_neg h4, shL]
theorem Took.open {t y : S114} {s s' : Lt} (h : Took [y] s s') (h4 : t.f0 = 4) (hy : t.f3 = [y]) (hk : mhas keyI s.k t.f1 = true) : Took [t] s s' := by
  refine h.row (by rw [parts_eq, hy]; omega) (fun K hK => ⟨?_, ?_, ?_⟩)
  · rw [kyT_eq, if_neg (by omega), if_neg (by omega), if_pos h4, if_pos (hK _ hk), hy]
  · rw [atT_eq, if_neg (by omega), if_neg (by omega), if_pos h4, if_pos (hK _ hk), hy]
  · rw [shT_eq, if_neg (by omega), if_pos h4, if_pos (hK _ hk), hy]
theorem mget_set_i {V : Type} (z : V) (x : MapD Int V) (k k' : Int) (v : V) : mget keyI z (mset keyI x k v) k' = if k' = k then v else mget keyI z x k' := by
  rw [mget_at_i, mget_at_i, at_set_i]
  split <;> rfl
theorem mget_del_i {V : Type} (z : V) {x : MapD Int V} (h : WI x) (k k' : Int) : mget keyI z (mdel keyI x k) k' = if k' = k then z else mget keyI z x k' := by
  rw [mget_at_i, mget_at_i, at_del_i h]
  split <;> rfl
theorem Took.shut {t y : S114} {s : Lt} (h : Wf s) (ht : Tk t) (h4 : t.f0 = 4) (hy : t.f3 = [y]) (hk : ¬ mhas keyI s.k t.f1 = true) : Took [t] s ⟨s.k, s.a, mset keyI s.s t.f1 (mget keyI [] s.s t.f1 ++ [y])⟩ := by
  have hty : Tk y := by cases ht with | mk _ _ _ hc => exact hc y (by rw [hy]; simp)
  have z1 := sumM_set zF s.s t.f1 (mget keyI [] s.s t.f1 ++ [y]) (zF_nil _)
  have hpy : parts t = 1 + parts y := by rw [parts_eq, hy, partsL_one]
  have kT : ∀ K : Int → Bool, kyT K t = if K t.f1 = true then kyT K y else [] := fun K => by rw [kyT_eq K t, if_neg (by omega), if_neg (by omega), if_pos h4, hy, kyL_one]
  have aT : ∀ K : Int → Bool, atT K t = if K t.f1 = true then atT K y else [] := fun K => by rw [atT_eq K t, if_neg (by omega), if_neg (by omega), if_pos h4, hy, atL_one]
  have sT : ∀ K : Int → Bool, shT K t = if K t.f1 = true then shT K y else 1 := fun K => by rw [shT_eq K t, if_neg (by omega), if_pos h4, hy, shL_one]
  simp only [zF, partsL_app, partsL_one] at z1
  refine ⟨⟨h.wk, h.wa, h.ws.set _ _, h.rk, h.ra, fun k x hx => ?_, fun k hk2 => ?_⟩, ?_, ?_, fun _ h => h, fun K _ x => ?_, fun K _ x => ?_, fun K _ => ?_, fun K h1 _ _ => h1⟩
  · rw [mget_set_i] at hx
    split at hx
    · rcases List.mem_append.1 hx with hx | hx
      · exact h.tk _ x hx
      · rw [List.mem_singleton.1 hx]; exact hty
    · exact h.tk _ x hx
  · show mget keyI [] (mset keyI s.s t.f1 _) k = []
    have hne : k ≠ t.f1 := fun e => hk (by rw [← e]; exact hk2)
    rw [mget_set_i, if_neg hne]
    exact h.cl k hk2
  · rw [partsL_one, hpy]
    show sumM zF (mset keyI s.s t.f1 _) ≤ sumM zF s.s + _
    omega
  · rw [partsL_one, hpy]
    show mlen s.k + mlen s.a + sumM zF (mset keyI s.s t.f1 _) ≤ mlen s.k + mlen s.a + sumM zF s.s + _
    omega
  · have k1 := sumM_set (kF K x) s.s t.f1 (mget keyI [] s.s t.f1 ++ [y]) (kF_nil _ _ _)
    have e1 : kF K x t.f1 (mget keyI [] s.s t.f1 ++ [y]) = kF K x t.f1 (mget keyI [] s.s t.f1) + (kyT K t).count x := by
      unfold kF
      rw [kyL_app, List.count_append, kyL_one, kT]
      by_cases c : K t.f1 = true
      · rw [if_pos c, if_pos c, if_pos c]
      · rw [if_neg c, if_neg c, if_neg c]; rfl
    have e2 : sumM (kF K x) (mset keyI s.s t.f1 (mget keyI [] s.s t.f1 ++ [y])) = sumM (kF K x) s.s + (kyT K t).count x := by omega
    rw [kyL_one]
    show (_ ∨ 0 < sumM (kF K x) (mset keyI s.s t.f1 _)) ↔ _
    rw [e2]
  · have k1 := sumM_set (aF K x) s.s t.f1 (mget keyI [] s.s t.f1 ++ [y]) (aF_nil _ _ _)
    have e1 : aF K x t.f1 (mget keyI [] s.s t.f1 ++ [y]) = aF K x t.f1 (mget keyI [] s.s t.f1) + cA x (atT K t) := by
      unfold aF
      rw [atL_app, cA_app, atL_one, aT]
      by_cases c : K t.f1 = true
      · rw [if_pos c, if_pos c, if_pos c]
      · rw [if_neg c, if_neg c, if_neg c]; rfl
    have e2 : sumM (aF K x) (mset keyI s.s t.f1 (mget keyI [] s.s t.f1 ++ [y])) = sumM (aF K x) s.s + cA x (atT K t) := by omega
    rw [atL_one]
    show (_ ∨ 0 < sumM (aF K x) (mset keyI s.s t.f1 _)) ↔ _
    rw [e2]
  · have k1 := sumM_set (sF K) s.s t.f1 (mget keyI [] s.s t.f1 ++ [y]) (sF_nil _ _)
    have e1 : sF K t.f1 (mget keyI [] s.s t.f1 ++ [y]) = sF K t.f1 (mget keyI [] s.s t.f1) + shT K t := by
      unfold sF
      rw [shL_app, shL_one, sT, List.length_append]
      by_cases c : K t.f1 = true
      · rw [if_pos c, if_pos c, if_pos c]
      · rw [if_neg c, if_neg c, if_neg c]; rfl
    rw [shL_one]
    show sumM (sF K) (mset keyI s.s t.f1 _) = _
    omega
theorem Wf.key {t : S114} {s : Lt} (h : Wf s) (ht : Tk t) (h3 : t.f0 = 3) : Wf ⟨mset keyI s.k t.f1 S89.mk, s.a, mdel keyI s.s t.f1⟩ := by
  refine ⟨h.wk.set _ _, h.wa, h.ws.del _, fun k hk => ?_, h.ra, fun k x hx => ?_, fun k hk => ?_⟩
  · have hk' := mem_keys_i.1 hk
    rw [at_set_i] at hk'
    split at hk'
    · rename_i e
      rw [e]
      cases ht with
      | mk hn _ _ _ => exact hn
    · exact h.rk k (mem_keys_i.2 hk')
  · rw [mget_del_i [] h.ws] at hx
    split at hx
    · cases hx
    · exact h.tk k x hx
  · show mget keyI [] (mdel keyI s.s t.f1) k = []
    rw [mget_del_i [] h.ws]
    split
    · rfl
    · rename_i e
      have hk' : mhas keyI (mset keyI s.k t.f1 S89.mk) k = true := hk
      rw [mhas_set_i, decide_eq_false e] at hk'
      exact h.cl k (by simpa using hk')
/-- A key: the boxes that want it are opened. -/
theorem Took.key {t : S114} {s s' : Lt} (h : Wf s) (ht : Tk t) (h3 : t.f0 = 3) (hs : Wf ⟨mset keyI s.k t.f1 S89.mk, s.a, mdel keyI s.s t.f1⟩ → Took (mget keyI [] s.s t.f1) ⟨mset keyI s.k t.f1 S89.mk, s.a, mdel keyI s.s t.f1⟩ s') : Took [t] s s' := by
  have hw := Wf.key h ht h3
  have T := hs hw
  have k0 : ∀ K : Int → Bool, kyT K t = [t.f1] := fun K => by rw [kyT_eq, if_pos h3]
  have a0 : ∀ K : Int → Bool, atT K t = [] := fun K => by rw [atT_eq, if_neg (by omega), if_neg (by omega), if_neg (by omega)]
  have s0 : ∀ K : Int → Bool, shT K t = 0 := fun K => by rw [shT_eq, if_neg (by omega), if_neg (by omega)]
  have hz := sumM_del zF s.s t.f1 (zF_nil _)
  have hp := parts_pos t
  have hin : ∀ K : Int → Bool, (∀ k, mhas keyI s'.k k = true → K k = true) → K t.f1 = true := fun K hK => hK _ (T.sub _ (by show mhas keyI (mset keyI s.k t.f1 S89.mk) _ = true; rw [mhas_set_i]; simp))
  have T1 := T.sz
  have T2 := T.tot
  simp only [Lt.tot, zF] at T2 hz
  refine ⟨T.wf, ?_, ?_, fun k hk => T.sub k (by show mhas keyI (mset keyI s.k t.f1 S89.mk) k = true; rw [mhas_set_i, hk]; simp), fun K hK x => ?_, fun K hK x => ?_, fun K hK => ?_, fun K h1 h2 h5 => ?_⟩
  · rw [partsL_one]
    have T1' : sumM zF s'.s ≤ sumM zF (mdel keyI s.s t.f1) + _ := T1
    omega
  · rw [partsL_one]
    simp only [Lt.tot]
    have := len_set_i s.k t.f1 S89.mk
    cases c : (atI s.k t.f1).isSome <;> rw [c] at this <;> simp only [cond_true, cond_false] at this <;> omega
  · have hd := sumM_del (kF K x) s.s t.f1 (kF_nil _ _ _)
    have e1 : kF K x t.f1 (mget keyI [] s.s t.f1) = (kyL K (mget keyI [] s.s t.f1)).count x := by unfold kF; rw [if_pos (hin K hK)]
    rw [T.ky K hK x, kyL_one, k0]
    have e2 : sumM (kF K x) (mdel keyI s.s t.f1) + (kyL K (mget keyI [] s.s t.f1)).count x = sumM (kF K x) s.s := by omega
    show (mhas keyI (mset keyI s.k t.f1 S89.mk) x = true ∨ 0 < sumM (kF K x) (mdel keyI s.s t.f1) + _) ↔ _
    rw [e2, mhas_set_i]
    by_cases e : x = t.f1
    · subst e; simp
    · have h1 : List.count x [t.f1] = 0 := List.count_eq_zero.2 (by simpa using e)
      rw [h1, decide_eq_false e]
      simp
  · have hd := sumM_del (aF K x) s.s t.f1 (aF_nil _ _ _)
    have e1 : aF K x t.f1 (mget keyI [] s.s t.f1) = cA x (atL K (mget keyI [] s.s t.f1)) := by unfold aF; rw [if_pos (hin K hK)]
    rw [T.at_ K hK x, atL_one, a0]
    have e2 : sumM (aF K x) (mdel keyI s.s t.f1) + cA x (atL K (mget keyI [] s.s t.f1)) = sumM (aF K x) s.s := by omega
    show (mhas keyS s.a x = true ∨ 0 < sumM (aF K x) (mdel keyI s.s t.f1) + _) ↔ _
    rw [e2]
    exact Iff.rfl
  · have hd := sumM_del (sF K) s.s t.f1 (sF_nil _ _)
    have e1 : sF K t.f1 (mget keyI [] s.s t.f1) = shL K (mget keyI [] s.s t.f1) := by unfold sF; rw [if_pos (hin K hK)]
    rw [T.sh K hK, shL_one, s0]
    show sumM (sF K) (mdel keyI s.s t.f1) + _ = _
    omega
  · have hKn : K t.f1 = true := h5 _ (by rw [kyL_one, k0]; simp)
    have hd := fun x => sumM_del (kF K x) s.s t.f1 (kF_nil _ _ _)
    have e1 : ∀ x, kF K x t.f1 (mget keyI [] s.s t.f1) = (kyL K (mget keyI [] s.s t.f1)).count x := fun x => by unfold kF; rw [if_pos hKn]
    refine T.lst K (fun k hk => ?_) (fun x hx => h2 x ?_) (fun x hx => h2 x ?_)
    · have hk' : mhas keyI (mset keyI s.k t.f1 S89.mk) k = true := hk
      rw [mhas_set_i] at hk'
      by_cases e : k = t.f1
      · rw [e]; exact hKn
      · rw [decide_eq_false e] at hk'
        exact h1 k (by simpa using hk')
    · have := hd x
      have hx' : 0 < sumM (kF K x) (mdel keyI s.s t.f1) := hx
      omega
    · have := hd x
      have := e1 x
      omega

/-! ### the thief takes -/
abbrev Out3 := MK3 × MA3 × MB3 × Unit
def Lt.out (s : Lt) : Option Out3 := some (s.k, s.a, s.s, ())
def TakeOk (N : Nat) : Prop := ∀ (t : S114) (s : Lt), parts t + sumM zF s.s < N → parts t + sumM zF s.s ≤ 1000000000 → Tk t → Wf s → ∃ s', F50_thief_loot_take t.f0 t.f1 t.f2 t.f3 s.k s.a s.s = s'.out ∧ Took [t] s s'
theorem take_l6 {N : Nat} (hN : TakeOk N) (l : List S114) (hl : l.length ≤ 1000000000) (ht : ∀ x ∈ l, Tk x) : ∀ (d i : Nat) (s : Lt), l.length - i = d → i ≤ l.length → partsL (l.drop i) + sumM zF s.s < N → partsL (l.drop i) + sumM zF s.s ≤ 1000000000 → Wf s →
    ∃ s', F50_thief_loot_take_l1000006 l (l.length : Int) (i : Int) s.k s.a s.s = s'.out ∧ Took (l.drop i) s s' := by
  intro d
  induction d with
  | zero =>
    intro i s hd hi _ _ hw
    rw [F50_thief_loot_take_l1000006_eq, if_neg (by omega), List.drop_eq_nil_of_le (by omega)]
    exact ⟨s, rfl, Took.refl hw⟩
  | succ d ih =>
    intro i s hd hi hb hb2 hw
    have e := List.drop_eq_getElem_cons (by omega : i < l.length)
    rw [e, partsL] at hb hb2
    obtain ⟨s1, h1, h2⟩ := hN l[i] s (by omega) (by omega) (ht _ (List.getElem_mem _)) hw
    have hz := h2.sz
    rw [partsL_one] at hz
    obtain ⟨s2, h3, h4⟩ := ih (i + 1) s1 (by omega) (by omega) (by omega) (by omega) h2.wf
    rw [F50_thief_loot_take_l1000006_eq, if_pos (ilt (by omega)), if_pos (inb (by omega)), rd_lt (by omega : i < l.length), h1]
    unfold Lt.out
    rw [Option.bind_some, w64s (n := l.length) (by omega) (by omega)]
    exact ⟨s2, h3, by rw [e]; exact h2.trans h4⟩
theorem take_l15 {N : Nat} (hN : TakeOk N) (l : List S114) (hl : l.length ≤ 1000000000) (ht : ∀ x ∈ l, Tk x) : ∀ (d i : Nat) (s : Lt), l.length - i = d → i ≤ l.length → partsL (l.drop i) + sumM zF s.s < N → partsL (l.drop i) + sumM zF s.s ≤ 1000000000 → Wf s →
    ∃ s', F50_thief_loot_take_l1000015 (l.length : Int) (i : Int) s.k s.a s.s l = s'.out ∧ Took (l.drop i) s s' := by
  intro d
  induction d with
  | zero =>
    intro i s hd hi _ _ hw
    rw [F50_thief_loot_take_l1000015_eq, if_neg (by omega), List.drop_eq_nil_of_le (by omega)]
    exact ⟨s, rfl, Took.refl hw⟩
  | succ d ih =>
    intro i s hd hi hb hb2 hw
    have e := List.drop_eq_getElem_cons (by omega : i < l.length)
    rw [e, partsL] at hb hb2
    obtain ⟨s1, h1, h2⟩ := hN l[i] s (by omega) (by omega) (ht _ (List.getElem_mem _)) hw
    have hz := h2.sz
    rw [partsL_one] at hz
    obtain ⟨s2, h3, h4⟩ := ih (i + 1) s1 (by omega) (by omega) (by omega) (by omega) h2.wf
    rw [F50_thief_loot_take_l1000015_eq, if_pos (ilt (by omega)), if_pos (inb (by omega)), rd_lt (by omega : i < l.length), h1]
    unfold Lt.out
    rw [Option.bind_some, w64s (n := l.length) (by omega) (by omega)]
    exact ⟨s2, h3, by rw [e]; exact h2.trans h4⟩
theorem take_ok : ∀ N, TakeOk N := by
  intro N
  induction N with
  | zero => intro t s h; omega
  | succ N ih =>
    intro t s hb hb2 ht hw
    have hf3 : ∀ y ∈ t.f3, Tk y := by cases ht with | mk _ _ _ h => exact h
    have hpt := parts_eq t
    have hlen := len_partsL t.f3
    rw [F50_thief_loot_take_eq]
    by_cases h2 : t.f0 = 2
    · rw [if_pos h2]
      exact ⟨_, rfl, Took.atom hw ht h2⟩
    rw [if_neg h2]
    by_cases h5 : t.f0 = 5
    · rw [if_pos h5]
      obtain ⟨s', h6, h7⟩ := take_l6 ih t.f3 (by omega) hf3 _ 0 s rfl (by omega) (by rw [List.drop_zero]; omega) (by rw [List.drop_zero]; omega) hw
      rw [List.drop_zero] at h7
      refine ⟨s', h6, h7.row (by omega) (fun K _ => ⟨?_, ?_, ?_⟩)⟩
      · rw [kyT_eq, if_neg (by omega), if_pos h5]
      · rw [atT_eq, if_neg (by omega), if_pos h5]
      · rw [shT_eq, if_pos h5]
    rw [if_neg h5]
    by_cases h3 : t.f0 = 3
    · rw [if_pos h3, if_pos (keyI_self _)]
      have hz := sumM_del zF s.s t.f1 (zF_nil _)
      have hz2 : sumM zF (mdel keyI s.s t.f1) + partsL (mget keyI [] s.s t.f1) = sumM zF s.s := hz
      have hp := parts_pos t
      have hol := len_partsL (mget keyI [] s.s t.f1)
      have hwf : Wf ⟨mset keyI s.k t.f1 S89.mk, s.a, mdel keyI s.s t.f1⟩ → ∃ s', F50_thief_loot_take_l1000015 ((mget keyI [] s.s t.f1).length : Int) 0 (mset keyI s.k t.f1 S89.mk) s.a (mdel keyI s.s t.f1) (mget keyI [] s.s t.f1) = s'.out ∧ Took (mget keyI [] s.s t.f1) ⟨mset keyI s.k t.f1 S89.mk, s.a, mdel keyI s.s t.f1⟩ s' := by
        intro hw2
        obtain ⟨s', h6, h7⟩ := take_l15 ih (mget keyI [] s.s t.f1) (by omega) (hw.tk _) _ 0 ⟨mset keyI s.k t.f1 S89.mk, s.a, mdel keyI s.s t.f1⟩ rfl (by omega) (by rw [List.drop_zero]; show _ + sumM zF (mdel keyI s.s t.f1) < _; omega) (by rw [List.drop_zero]; show _ + sumM zF (mdel keyI s.s t.f1) ≤ _; omega) hw2
        rw [List.drop_zero] at h7
        exact ⟨s', h6, h7⟩
      by_cases hww : Wf ⟨mset keyI s.k t.f1 S89.mk, s.a, mdel keyI s.s t.f1⟩
      · obtain ⟨s', h6, h7⟩ := hwf hww
        exact ⟨s', h6, Took.key hw ht h3 (fun _ => h7)⟩
      · exact absurd (Wf.key hw ht h3) hww
    rw [if_neg h3]
    by_cases h4 : t.f0 = 4
    · have h1 : t.f3.length = 1 := by cases ht with | mk _ _ hb _ => exact hb h4
      obtain ⟨y, hy⟩ : ∃ y, t.f3 = [y] := by
        match hq : t.f3, h1 with
        | [y], _ => exact ⟨y, rfl⟩
      have hy0 : rd S114.z t.f3 0 = y := by rw [hy]; rfl
      have hpy : partsL t.f3 = parts y := by rw [hy, partsL_one]
      rw [if_pos h4, if_pos (show (0 : Int) ≤ 0 ∧ 0 < (t.f3.length : Int) by omega), if_pos (show (0 : Int) ≤ 0 ∧ 0 < (t.f3.length : Int) by omega), hy0]
      by_cases hk : mhas keyI s.k t.f1 = true
      · rw [if_pos hk]
        obtain ⟨s', h6, h7⟩ := ih y s (by omega) (by omega) (hf3 y (by rw [hy]; simp)) hw
        rw [h6]
        exact ⟨s', rfl, Took.open h7 h4 hy hk⟩
      · rw [if_neg hk]
        have hz := sumM_del zF s.s t.f1 (zF_nil _)
        have hz2 : sumM zF (mdel keyI s.s t.f1) + partsL (mget keyI [] s.s t.f1) = sumM zF s.s := hz
        have hol := len_partsL (mget keyI [] s.s t.f1)
        simp only [term_eta]
        rw [if_pos (by simp only [List.length_singleton]; omega), if_pos (keyI_self _)]
        exact ⟨_, rfl, Took.shut hw ht h4 hy hk⟩
    · rw [if_neg h4]
      exact ⟨s, rfl, Took.none hw h2 h3 h4 h5⟩
theorem take_eq {t : S114} {s : Lt} (hb : parts t + sumM zF s.s ≤ 1000000000) (ht : Tk t) (hw : Wf s) : ∃ s', F50_thief_loot_take t.f0 t.f1 t.f2 t.f3 s.k s.a s.s = s'.out ∧ Took [t] s s' := take_ok _ t s (Nat.lt_succ_self _) hb ht hw

/-! ### pieces -/
/-- The term that a piece is. -/
def pcT (b : ByteArray) : S114 := if (decode (bytesOf b)).2.2.2.2.1 = 0 then S114.mk (decode (bytesOf b)).1 (decode (bytesOf b)).2.1 (decode (bytesOf b)).2.2.1 (decode (bytesOf b)).2.2.2.1 else S114.mk 2 0 b []
theorem tk_right {x : S114} (h : okT x) : shp x = true → Tk x := by
  induction h with
  | @mk x h0 h1 h2 h3 h4 h5 ih =>
    intro hs
    rw [shp_eq, Bool.and_eq_true] at hs
    have hL : ∀ l : List S114, shpL l = true → ∀ y ∈ l, shp y = true := by
      intro l
      induction l with
      | nil => intro _ y hy; cases hy
      | cons z t iht =>
        intro hl y hy
        rw [shpL, Bool.and_eq_true] at hl
        rcases List.mem_cons.1 hy with rfl | hy
        · exact hl.1
        · exact iht hl.2 y hy
    refine Tk.mk ?_ (by omega) (fun h => ?_) (fun y hy => ih y hy (hL _ hs.2 y hy))
    · have e1 : IntKind.min .u64 = 0 := by decide
      have e2 : IntKind.max .u64 = 18446744073709551615 := by decide
      simp only [Lit.wf, e1, e2, Bool.and_eq_true, decide_eq_true_eq] at h1
      omega
    · rcases one_kind hs.1 with h6 | h6 | h6 | h6 <;> omega
theorem pc_ok {b : ByteArray} (hb : b.size ≤ 140737488355328) : (Tk (pcT b) ∧ parts (pcT b) ≤ 4000) := by
  unfold pcT
  rcases decode_is b with ⟨x, h1, _, h2, h3⟩ | ⟨e, h1, h2⟩
  · have hr := right_is h3
    rw [h1, if_pos (show (okD x).2.2.2.2.1 = 0 from rfl)]
    have : S114.mk (okD x).1 (okD x).2.1 (okD x).2.2.1 (okD x).2.2.2.1 = x := term_eta x
    rw [this]
    exact ⟨tk_right h2 hr.2.2, hr.1⟩
  · rw [h2, if_neg (show ¬ (erD e).2.2.2.2.1 = 0 from h1)]
    refine ⟨Tk.mk ⟨by show (0 : Int) ≤ 0; omega, by show (0 : Int) < _; omega⟩ hb (fun h => ?_) (fun y hy => by cases hy), ?_⟩
    · have : (2 : Int) = 4 := h
      omega
    · rw [parts_eq]; show 1 + partsL [] ≤ _; rw [partsL]; omega
theorem taken_l (ps : List ByteArray) (hl : ps.length ≤ 1000) (hs : ∀ p ∈ ps, p.size ≤ 140737488355328) : ∀ (d i : Nat) (s : Lt), ps.length - i = d → i ≤ ps.length → 4000 * d + sumM zF s.s ≤ 1000000000 → Wf s →
    ∃ s', F33_thief_taken_l1000003 ps (ps.length : Int) (i : Int) s.k s.a s.s = s'.out ∧ Took ((ps.drop i).map pcT) s s' := by
  intro d
  induction d with
  | zero =>
    intro i s hd hi _ hw
    rw [F33_thief_taken_l1000003_eq, if_neg (by omega), List.drop_eq_nil_of_le (by omega)]
    exact ⟨s, rfl, Took.refl hw⟩
  | succ d ih =>
    intro i s hd hi hb hw
    have e := List.drop_eq_getElem_cons (by omega : i < ps.length)
    have hsz := hs _ (List.getElem_mem (by omega : i < ps.length))
    obtain ⟨q1, q2⟩ := pc_ok hsz
    obtain ⟨s1, h1, h2⟩ := take_eq (t := pcT ps[i]) (s := s) (by omega) q1 hw
    have hz := h2.sz
    rw [partsL_one] at hz
    obtain ⟨s2, h3, h4⟩ := ih (i + 1) s1 (by omega) (by omega) (by omega) h2.wf
    refine ⟨s2, ?_, by rw [e, List.map_cons]; exact h2.trans h4⟩
    rw [F33_thief_taken_l1000003_eq, if_pos (ilt (by omega)), if_pos (inb (by omega)), rd_lt (by omega : i < ps.length), decode_eq _ (by omega), Option.bind_some, F49_term_Atom_eq]
    unfold pcT at h1
    by_cases c : (decode (bytesOf ps[i])).2.2.2.2.1 = 0
    · rw [if_pos c] at h1
      rw [if_neg (by simpa using c)]
      simp only [T_f0, T_f1, T_f2, T_f3] at h1
      rw [h1]
      unfold Lt.out
      rw [Option.bind_some, w64s (n := ps.length) (by omega) (by omega)]
      exact h3
    · rw [if_neg c] at h1
      rw [if_pos c, Option.bind_some]
      simp only [T_f0, T_f1, T_f2, T_f3] at h1
      dsimp only
      rw [h1]
      unfold Lt.out
      rw [Option.bind_some, w64s (n := ps.length) (by omega) (by omega)]
      exact h3
def nilL : Lt := ⟨MapD.nil, MapD.nil, MapD.nil⟩
theorem nilL_wf : Wf nilL := ⟨WI.nil, WM.nil, WI.nil, fun k hk => (by cases hk), fun k hk => (by cases hk), fun k x hx => (by cases hx), fun k hk => (by cases hk)⟩
theorem taken_eq (ps : List ByteArray) (hl : ps.length ≤ 1000) (hs : ∀ p ∈ ps, p.size ≤ 140737488355328) : ∃ s', F33_thief_taken ps = s'.out ∧ Took (ps.map pcT) nilL s' := by
  obtain ⟨s', h1, h2⟩ := taken_l ps hl hs _ 0 nilL rfl (by omega) (by show 4000 * _ + 0 ≤ _; omega) nilL_wf
  exact ⟨s', (F33_thief_taken_eq ps).trans h1, by simpa using h2⟩

/-! ### what comes of it -/
/-- These are the keys that can be got at. -/
structure Loots (l : List S114) (K : Int → Bool) : Prop where
  fix : ∀ x, K x = true ↔ x ∈ kyL K l
  least : ∀ K' : Int → Bool, (∀ x ∈ kyL K' l, K' x = true) → ∀ x, K x = true → K' x = true
theorem Loots.uniq {l : List S114} {K K' : Int → Bool} (h : Loots l K) (h' : Loots l K') : K = K' := by
  funext x
  rw [Bool.eq_iff_iff]
  exact ⟨h.least K' (fun y hy => (h'.fix y).2 hy) x, h'.least K (fun y hy => (h.fix y).2 hy) x⟩
theorem get_of_mem_i {V : Type} {k : Int} {v : V} : ∀ {l : List (Nat × Int × V)}, (l.map fun e => e.2.1).Nodup → ∀ c, (c, k, v) ∈ l → getE keyI k l = some v
  | [], _, c, h => by cases h
  | e :: l, hn, c, h => by
    simp only [List.map_cons, List.nodup_cons] at hn
    simp only [getE]
    rcases List.mem_cons.1 h with rfl | h
    · rw [keyI_self]; rfl
    · have hne : k ≠ e.2.1 := fun q => hn.1 (q ▸ List.mem_map.2 ⟨_, h, rfl⟩)
      rw [keyI_ne hne]
      exact get_of_mem_i hn.2 c h
theorem sumM_congr {φ ψ : Int → List S114 → Nat} {s : MB3} (h : ∀ e ∈ s.es, φ e.2.1 e.2.2 = ψ e.2.1 e.2.2) : sumM φ s = sumM ψ s := by
  unfold sumM sumE
  congr 1
  exact List.map_congr_left h
theorem sumM_zero {φ : Int → List S114 → Nat} {s : MB3} (h : ∀ e ∈ s.es, φ e.2.1 e.2.2 = 0) : sumM φ s = 0 := by
  rw [sumM_congr (ψ := fun _ _ => 0) h]
  unfold sumM sumE
  have : ∀ l : List (Nat × Int × List S114), (l.map fun _ => 0).sum = 0 := by
    intro l
    induction l with
    | nil => rfl
    | cons e l ih => simpa using ih
  exact this _
theorem Wf.none {s : Lt} (h : Wf s) : ∀ e ∈ s.s.es, mhas keyI s.k e.2.1 = true → e.2.2 = [] := by
  intro e he hk
  have h1 := h.cl _ hk
  rw [mget_at_i, show atI s.s e.2.1 = some e.2.2 from get_of_mem_i h.ws.kn e.1 he] at h1
  exact h1
theorem Took.fin {l : List S114} {s : Lt} (h : Took l nilL s) : Loots l (fun k => mhas keyI s.k k) ∧ (∀ x, mhas keyS s.a x = true ↔ x ∈ atL (fun k => mhas keyI s.k k) l) ∧ sumM (fun _ l => l.length) s.s = shL (fun k => mhas keyI s.k k) l := by
  have hn := h.wf.none
  have k0 : ∀ x, sumM (kF (fun k => mhas keyI s.k k) x) s.s = 0 := fun x => sumM_zero fun e he => by
    unfold kF
    split
    · rename_i c; rw [hn e he c, kyL]; rfl
    · rfl
  have a0 : ∀ x, sumM (aF (fun k => mhas keyI s.k k) x) s.s = 0 := fun x => sumM_zero fun e he => by
    unfold aF
    split
    · rename_i c; rw [hn e he c, atL]; rfl
    · rfl
  have s0 : sumM (sF fun k => mhas keyI s.k k) s.s = sumM (fun _ l => l.length) s.s := sumM_congr fun e he => by
    unfold sF
    split
    · rename_i c; rw [hn e he c, shL]; rfl
    · rfl
  refine ⟨⟨fun x => ?_, fun K' hK' x hx => ?_⟩, fun x => ?_, ?_⟩
  · have := h.ky _ (fun _ h => h) x
    rw [k0] at this
    constructor
    · intro hx
      rcases this.1 (.inl hx) with q | q
      · cases q
      · have q' : 0 < 0 + List.count x (kyL (fun k => mhas keyI s.k k) l) := q
        exact List.count_pos_iff.1 (by omega)
    · intro hx
      rcases this.2 (.inr (by have h9 := List.count_pos_iff.2 hx; show 0 < 0 + List.count x (kyL (fun k => mhas keyI s.k k) l); omega)) with q | q
      · exact q
      · omega
  · exact h.lst K' (fun k hk => by cases hk) (fun y hy => absurd hy (by show ¬ 0 < 0; omega)) (fun y hy => hK' y (List.count_pos_iff.1 hy)) x hx
  · have := h.at_ _ (fun _ h => h) x
    rw [a0] at this
    constructor
    · intro hx
      rcases this.1 (.inl hx) with q | q
      · cases q
      · have q' : 0 < 0 + cA x (atL (fun k => mhas keyI s.k k) l) := q
        exact cA_pos.1 (by omega)
    · intro hx
      rcases this.2 (.inr (by have h9 := cA_pos.2 hx; show 0 < 0 + cA x (atL (fun k => mhas keyI s.k k) l); omega)) with q | q
      · exact q
      · omega
  · rw [← s0, h.sh _ (fun _ h => h)]
    exact Nat.zero_add _

/-! ### what the thief answers -/
def riseI (l : List Int) : Prop := l.Pairwise (· < ·)
theorem mem_sortU {x : Int} {l : List Int} : x ∈ sortU l ↔ x ∈ l := (List.mergeSort_perm l leU).mem_iff
theorem riseI_sort {l : List Int} (h : l.Nodup) : riseI (sortU l) := by
  have tr : ∀ a b c : Int, leU a b = true → leU b c = true → leU a c = true := fun a b c h1 h2 => by simp only [leU, decide_eq_true_eq] at *; omega
  have to : ∀ a b : Int, (leU a b || leU b a) = true := fun a b => by simp only [leU, Bool.or_eq_true, decide_eq_true_eq]; omega
  have h1 : (sortU l).Pairwise fun a b => leU a b = true := List.pairwise_mergeSort tr to l
  have h2 : (sortU l).Nodup := (List.mergeSort_perm l leU).nodup_iff.2 h
  refine (h1.and h2).imp fun {a b} hab => ?_
  have h3 := hab.1
  have h4 := hab.2
  simp only [leU, decide_eq_true_eq] at h3
  omega
theorem riseI_nodup {l : List Int} (h : riseI l) : l.Nodup := h.imp fun h => by omega
theorem riseI_ext {l r : List Int} (hl : riseI l) (hr : riseI r) (h : ∀ s, s ∈ l ↔ s ∈ r) : l = r := by
  refine List.Perm.eq_of_pairwise (le := (· < ·)) (fun a b _ _ h1 h2 => by omega) hl hr ((List.perm_ext_iff_of_nodup (riseI_nodup hl) (riseI_nodup hr)).2 h)
theorem loots_ex {ps : List ByteArray} (hl : ps.length ≤ 1000) (hs : ∀ p ∈ ps, p.size ≤ 140737488355328) : ∃ K, Loots (ps.map pcT) K := by
  obtain ⟨s, _, h2⟩ := taken_eq ps hl hs
  exact ⟨_, h2.fin.1⟩
theorem parts_pcs {ps : List ByteArray} (hs : ∀ p ∈ ps, p.size ≤ 140737488355328) : partsL (ps.map pcT) ≤ 4000 * ps.length := by
  induction ps with
  | nil => rw [List.map_nil, partsL]; omega
  | cons p ps ih =>
    rw [List.map_cons, partsL, List.length_cons]
    have := (pc_ok (hs p (by simp))).2
    have := ih fun q hq => hs q (by simp [hq])
    omega
theorem Took.len {l : List S114} {s : Lt} (h : Took l nilL s) : mlen s.k ≤ partsL l ∧ mlen s.a ≤ partsL l ∧ sumM zF s.s ≤ partsL l := by
  have := h.tot
  simp only [Lt.tot] at this
  have e : mlen nilL.k + mlen nilL.a + sumM zF nilL.s = 0 := rfl
  omega
theorem keys_ok {ps : List ByteArray} (hl : ps.length ≤ 1000) (hs : ∀ p ∈ ps, p.size ≤ 140737488355328) {K : Int → Bool} (hK : Loots (ps.map pcT) K) : ∃ ks, F17_thief_Keys ps = some (ks, ()) ∧ riseI ks ∧ (∀ x, x ∈ ks ↔ K x = true) ∧ ks.length ≤ 4000000 := by
  obtain ⟨s, h1, h2⟩ := taken_eq ps hl hs
  have hp := parts_pcs hs
  have hn := h2.len.1
  have hk := h2.fin.1.uniq hK
  have hln : (mkeysU s.k).length = mlen s.k := List.length_map ..
  have hm : mwfU s.k = true := mwfU_of.2 ⟨by show mlen s.k * 16 ≤ _; omega, h2.wf.rk, h2.wf.wk.lt, h2.wf.wk.sn, h2.wf.wk.kn⟩
  refine ⟨sortU (mkeysU s.k), ?_, riseI_sort h2.wf.wk.kn, fun x => ?_, by rw [sortU_len, hln]; omega⟩
  · rw [F17_thief_Keys_eq, h1]
    unfold Lt.out
    rw [Option.bind_some]
    dsimp only
    rw [F32_maps_Keys_eq, Option.bind_some]
    dsimp only
    rw [F31_slices_Sorted_eq, if_pos hm, Option.bind_some]
    dsimp only
    have h9 : (sortU (mkeysU s.k)).length = mlen s.k := by rw [sortU_len, hln]
    rw [F30_slices_Clip_eq, if_pos (by omega), Option.bind_some, subL_take _ rfl, List.take_length]
  · rw [mem_sortU, mem_keys_i, ← hk]
    rfl
def lensE (l : List (Nat × Int × List S114)) : Nat := (l.map fun e => e.2.2.length).sum
theorem lensE_perm {l r : List (Nat × Int × List S114)} (h : l.Perm r) : lensE l = lensE r := by
  unfold lensE
  exact (h.map _).sum_nat
/-! ### helpers of the laws on the thief -/
theorem str_sizes {e : TypeId} {xs : List ByteArray} (h : Ok tab Pr (.sl e .str) xs) : ∀ p ∈ xs, p.size ≤ 140737488355328 := by
  intro p hp
  obtain ⟨i, hi, rfl⟩ := List.getElem_of_mem hp
  have h1 := (Ok.inv h).2.2 i xs[i] 0 ⟨.str, xs[i]⟩ (List.getElem?_eq_getElem hi) rfl
  have h2 : xs[i].size ≤ 140737488351232 := Ok.inv h1
  omega
theorem pc_raw {b : ByteArray} (h : ¬ (decode (bytesOf b)).2.2.2.2.1 = 0) : pcT b = S114.mk 2 0 b [] := by unfold pcT; rw [if_neg h]
/-- What begins with no term's number is no term. -/
theorem raw_of {b : ByteArray} {c : Int} {r : List Int} (h : bytesOf b = c :: r) (hc : 5 < c) : ¬ (decode (bytesOf b)).2.2.2.2.1 = 0 := by
  rcases decode_is b with ⟨x, _, h2, _, h4⟩ | ⟨e, h1, h2⟩
  · rw [h2, encT_eq] at h
    unfold hd at h
    rw [List.cons_append] at h
    injection h with h5 _
    have hs := (right_is h4).2.2
    rw [shp_eq, Bool.and_eq_true] at hs
    rcases one_kind hs.1 with h6 | h6 | h6 | h6 <;> omega
  · rw [h2]; exact h1
theorem at_raw (K : Int → Bool) (b : ByteArray) : atT K (S114.mk 2 0 b []) = [b] := by rw [atT_eq]; rfl
/-! ### more leads to more -/
theorem kyT_mono {K K' : Int → Bool} (h : ∀ x, K x = true → K' x = true) : ∀ (n : Nat) (x : S114), parts x ≤ n → ∀ k ∈ kyT K x, k ∈ kyT K' x := by
  intro n
  induction n with
  | zero => intro x hx; have := parts_pos x; omega
  | succ n ih =>
    intro x hx k hk
    have hL : ∀ l : List S114, partsL l ≤ n → ∀ k ∈ kyL K l, k ∈ kyL K' l := by
      intro l
      induction l with
      | nil => intro _ k hk; rw [kyL] at hk; cases hk
      | cons y t iht =>
        intro hl k hk
        rw [partsL] at hl
        rw [kyL, List.mem_append] at hk ⊢
        exact hk.imp (ih y (by omega) k) (iht (by omega) k)
    rw [parts_eq] at hx
    rw [kyT_eq] at hk ⊢
    split
    · rename_i c; rwa [if_pos c] at hk
    · rename_i c
      rw [if_neg c] at hk
      split
      · rename_i c; rw [if_pos c] at hk; exact hL _ (by omega) k hk
      · rename_i c
        rw [if_neg c] at hk
        split
        · rename_i c
          rw [if_pos c] at hk
          split at hk
          · rename_i c2; rw [if_pos (h _ c2)]; exact hL _ (by omega) k hk
          · cases hk
        · rename_i c; rw [if_neg c] at hk; cases hk
theorem atT_mono {K K' : Int → Bool} (h : ∀ x, K x = true → K' x = true) : ∀ (n : Nat) (x : S114), parts x ≤ n → ∀ k ∈ atT K x, k ∈ atT K' x := by
  intro n
  induction n with
  | zero => intro x hx; have := parts_pos x; omega
  | succ n ih =>
    intro x hx k hk
    have hL : ∀ l : List S114, partsL l ≤ n → ∀ k ∈ atL K l, k ∈ atL K' l := by
      intro l
      induction l with
      | nil => intro _ k hk; rw [atL] at hk; cases hk
      | cons y t iht =>
        intro hl k hk
        rw [partsL] at hl
        rw [atL, List.mem_append] at hk ⊢
        exact hk.imp (ih y (by omega) k) (iht (by omega) k)
    rw [parts_eq] at hx
    rw [atT_eq] at hk ⊢
    split
    · rename_i c; rwa [if_pos c] at hk
    · rename_i c
      rw [if_neg c] at hk
      split
      · rename_i c; rw [if_pos c] at hk; exact hL _ (by omega) k hk
      · rename_i c
        rw [if_neg c] at hk
        split
        · rename_i c
          rw [if_pos c] at hk
          split at hk
          · rename_i c2; rw [if_pos (h _ c2)]; exact hL _ (by omega) k hk
          · cases hk
        · rename_i c; rw [if_neg c] at hk; cases hk
theorem kyL_mono {K K' : Int → Bool} (h : ∀ x, K x = true → K' x = true) {l l' : List S114} (hl : ∀ x ∈ l, x ∈ l') {k : Int} (hk : k ∈ kyL K l) : k ∈ kyL K' l' := by
  obtain ⟨x, hx, hk⟩ := mem_kyL.1 hk
  exact mem_kyL.2 ⟨x, hl x hx, kyT_mono h _ x (Nat.le_refl _) k hk⟩
theorem atL_mono {K K' : Int → Bool} (h : ∀ x, K x = true → K' x = true) {l l' : List S114} (hl : ∀ x ∈ l, x ∈ l') {k : ByteArray} (hk : k ∈ atL K l) : k ∈ atL K' l' := by
  obtain ⟨x, hx, hk⟩ := mem_atL.1 hk
  exact mem_atL.2 ⟨x, hl x hx, atT_mono h _ x (Nat.le_refl _) k hk⟩
theorem Loots.mono {l l' : List S114} {K K' : Int → Bool} (h : Loots l K) (h' : Loots l' K') (hl : ∀ x ∈ l, x ∈ l') : ∀ x, K x = true → K' x = true :=
  h.least K' fun x hx => (h'.fix x).2 (kyL_mono (fun _ h => h) hl hx)
theorem Loots.same {l l' : List S114} {K K' : Int → Bool} (h : Loots l K) (h' : Loots l' K') (hl : ∀ x, x ∈ l ↔ x ∈ l') : K = K' := by
  funext x
  rw [Bool.eq_iff_iff]
  exact ⟨h.mono h' (fun x hx => (hl x).1 hx) x, h'.mono h (fun x hx => (hl x).2 hx) x⟩

/-! ### boxes: what is so -/
abbrev T5 := Int × Int × ByteArray × List S114 × Int × Unit
def okE (t : S114) : Option T5 := some (S114.f0 t, S114.f1 t, S114.f2 t, S114.f3 t, 0, ())
def erT (e : Int) : Option T5 := some (0, 0, ByteArray.empty, [], e, ())
def boxT (k : Int) (t : S114) : S114 := S114.mk 4 k ByteArray.empty [t]
def sealV (k : Int) (t : S114) : Option T5 := if rightT t = 0 then (if rightT (boxT k t) = 0 then okE (boxT k t) else erT (rightT (boxT k t))) else erT (rightT t)
def openV (k : Int) (t : S114) : Option T5 := if rightT t = 0 then (if S114.f0 t = 4 then (if S114.f1 t = k then okE (rd S114.z (S114.f3 t) 0) else erT 31) else erT 30) else erT (rightT t)
theorem okT.box {k : Int} {t : S114} (hk : (Lit.int .u64 k).wf = true) (h : okT t) : okT (boxT k t) :=
  okT.mk (show (Lit.int .i64 4).wf = true by decide) hk (show ByteArray.empty.size ≤ 140737488351232 by decide) (by show 1 * 56 ≤ _; omega) (by show 1 ≤ _; simp [maxLen]) (fun y hy => by rw [boxT] at hy; rw [List.mem_singleton.1 hy]; exact h)
theorem right_in {t x : S114} (h : rightT t = 0) (hx : x ∈ S114.f3 t) : rightT x = 0 := by
  obtain ⟨h1, h2, h3⟩ := right_is h
  rw [parts_eq] at h1
  rw [depth_eq] at h2
  rw [shp_eq, Bool.and_eq_true] at h3
  have key : ∀ l : List S114, x ∈ l → parts x ≤ partsL l ∧ depth x ≤ depthL l ∧ (shpL l = true → shp x = true) := by
    intro l
    induction l with
    | nil => intro hx; cases hx
    | cons y l ih =>
      intro hx
      simp only [partsL, depthL, shpL, Bool.and_eq_true]
      cases hx with
      | head => exact ⟨by omega, by omega, fun h => h.1⟩
      | tail _ hx => obtain ⟨q1, q2, q3⟩ := ih hx; exact ⟨by omega, by omega, fun h => q3 h.2⟩
  obtain ⟨q1, q2, q3⟩ := key _ hx
  unfold rightT
  rw [if_neg (by omega), if_neg (by omega), if_pos (q3 h3.2)]
theorem box_one {t : S114} (h : rightT t = 0) (h4 : S114.f0 t = 4) : (S114.f3 t).length = 1 ∧ S114.f2 t = ByteArray.empty := by
  obtain ⟨_, _, h3⟩ := right_is h
  rw [shp_eq, Bool.and_eq_true] at h3
  have := h3.1
  simp only [one, h4] at this
  simp [str_nil_iff] at this
  exact ⟨this.2, this.1⟩
theorem box_is {t : S114} (h : rightT t = 0) (h4 : S114.f0 t = 4) : ∃ x, t = boxT (S114.f1 t) x ∧ rd S114.z (S114.f3 t) 0 = x ∧ x ∈ S114.f3 t := by
  obtain ⟨h1, h2⟩ := box_one h h4
  cases t with
  | mk k n s l =>
    match l, h1 with
    | [x], _ =>
      have h4 : k = 4 := h4
      have h2 : s = ByteArray.empty := h2
      subst h4; subst h2
      exact ⟨x, rfl, rfl, List.mem_singleton.2 rfl⟩

/-! ### a piece that is a term's bytes -/
theorem pc_enc {x : S114} (h : okT x) (hr : rightT x = 0) : pcT (strB (encT x)) = x ∧ (strB (encT x)).size ≤ 140737488355328 := by
  have hrl := right_len h hr
  have hsz : (strB (encT x)).size = (encT x).length := size_str _
  refine ⟨?_, by omega⟩
  unfold pcT
  rw [decode_enc h hr, if_pos (show (okD x).2.2.2.2.1 = 0 from rfl)]
  exact term_eta x

theorem rec_keys {n k : Int} (hk : (Lit.int .u64 k).wf = true) (a b c o u : Int) : F17_thief_Keys [strB (recE n k a b c o u)] = some ([k], ()) := by
  obtain ⟨hp, hs⟩ := pc_enc (rec_ok n hk a b c o u) (rec_right n k a b c o u)
  have hs1 : ∀ p ∈ [strB (recE n k a b c o u)], p.size ≤ 140737488355328 := fun p hp => by rw [List.mem_singleton.1 hp]; exact hs
  obtain ⟨K, q⟩ := loots_ex (ps := [strB (recE n k a b c o u)]) (by simp) hs1
  obtain ⟨ks, w1, w2, w3, _⟩ := keys_ok (ps := [strB (recE n k a b c o u)]) (by simp) hs1 q
  have hN : ∀ m, kyT K (numT m) = [] := fun m => by rw [kyT_eq]; rfl
  have hK : kyT K (keyT k) = [k] := by rw [kyT_eq]; rfl
  have hky : kyL K ([strB (recE n k a b c o u)].map pcT) = [k] := by
    rw [List.map_cons, List.map_nil, show pcT (strB (recE n k a b c o u)) = recT n k a b c o u from hp, kyL_one, kyT_eq]
    show kyL K [numT n, keyT k, numT a, numT b, numT c, numT o, numT u] = [k]
    rw [kyL, kyL, kyL, kyL, kyL, kyL, kyL, kyL, hN, hN, hN, hN, hN, hN, hK]
    rfl
  have : ks = [k] := riseI_ext w2 (by simp [riseI]) fun x => by rw [w3, q.fix, hky]
  rw [w1, this]
theorem One.re {n k a b c o u : Int} {z : Cl} (H : One n k a b c o u z) (m : Int) (oo : Bool) (h w : Int) : One n k a b c o u ⟨z.a, z.b, m, oo, h, w⟩ := ⟨H.ok, H.wf, H.sl⟩
theorem One.slots {n k a b c o u : Int} {z : Cl} (H : One n k a b c o u z) : slotsV z = [n % 2] ∧ slot (n % 2) z = strB (recE n k a b c o u) ∧ (n % 2 = 0 ∨ n % 2 = 1) := by
  have hn := size_ne (rec_len H.ok H.wf).1
  unfold slotsV slot
  rcases H.sl with ⟨h0, h1, h2⟩ | ⟨h0, h1, h2⟩
  · rw [h0, h1, h2, if_neg hn, if_pos rfl, if_pos rfl]; exact ⟨rfl, rfl, .inl rfl⟩
  · rw [h0, h1, h2, if_neg hn, if_pos rfl, if_neg (by decide)]; exact ⟨rfl, rfl, .inr rfl⟩
theorem One.stale {n k a b c o u : Int} {z : Cl} (H : One n k a b c o u z) : staleV z = (false, 0, z) := by
  unfold staleV
  rw [if_pos (by rcases H.sl with ⟨_, _, h⟩ | ⟨_, _, h⟩; exact .inr h; exact .inl h)]
/-- Both records stand, each in the slot of its number. -/
structure Two (n k a b c o u k' a' b' c' o' u' : Int) (z : Cl) : Prop where
  ok : recOk n a b c o u = true
  wf : (Lit.int .u64 k).wf = true
  ok' : recOk (n + 1) a' b' c' o' u' = true
  wf' : (Lit.int .u64 k').wf = true
  sl : (n % 2 = 0 ∧ z.a = strB (recE n k a b c o u) ∧ z.b = strB (recE (n + 1) k' a' b' c' o' u')) ∨ (n % 2 = 1 ∧ z.b = strB (recE n k a b c o u) ∧ z.a = strB (recE (n + 1) k' a' b' c' o' u'))
section
variable {n k a b c o u k' a' b' c' o' u' : Int} {z : Cl}
theorem Two.short (H : Two n k a b c o u k' a' b' c' o' u' z) : Short z := by
  have h1 := rec_len H.ok H.wf
  have h2 := rec_len H.ok' H.wf'
  rcases H.sl with ⟨_, e1, e2⟩ | ⟨_, e1, e2⟩
  · exact ⟨by rw [e1]; omega, by rw [e2]; omega⟩
  · exact ⟨by rw [e2]; omega, by rw [e1]; omega⟩
theorem Two.now (H : Two n k a b c o u k' a' b' c' o' u' z) : nowV z = (⟨n + 1, k', a', b', c', o', u'⟩, (n + 1) % 2, 0) := by
  have p1 := pv_rec H.ok H.wf
  have p2 := pv_rec H.ok' H.wf'
  have n1 := size_ne (rec_len H.ok H.wf).1
  have n2 := size_ne (rec_len H.ok' H.wf').1
  unfold nowV
  rcases H.sl with ⟨h0, e1, e2⟩ | ⟨h0, e1, e2⟩
  · rw [e1, e2, p1, p2, if_neg (fun h => n1 h.1), if_neg (fun h => h.1 rfl), if_pos (.inr ⟨rfl, by show n < n + 1; omega⟩), show (n + 1) % 2 = 1 by omega]
  · rw [e1, e2, p1, p2, if_neg (fun h => n1 h.2), if_neg (fun h => h.1 rfl), if_neg (by rintro (h | h); exact h rfl; exact absurd h.2 (by show ¬ n + 1 < n; omega)), show (n + 1) % 2 = 0 by omega]
theorem Two.stale (H : Two n k a b c o u k' a' b' c' o' u' z) (ho : z.o = false) (hh : z.h = 0) : ∃ z', staleV z = (true, 0, z') ∧ One (n + 1) k' a' b' c' o' u' z' ∧ z'.n = IntKind.i64.wrap (z.n + 1) ∧ z'.o = false ∧ z'.h = 0 := by
  have n1 := size_ne (rec_len H.ok H.wf).1
  have n2 := size_ne (rec_len H.ok' H.wf').1
  have hm : IntKind.i64.wrap (1 - (n + 1) % 2) = n % 2 := by rw [w64 (by omega) (by omega)]; omega
  unfold staleV
  rw [H.now]
  dsimp only
  rw [hm]
  rcases H.sl with ⟨h0, e1, e2⟩ | ⟨h0, e1, e2⟩
  · rw [if_neg (by rw [e1, e2]; rintro (h | h); exact n1 h; exact n2 h), if_pos rfl, h0, era_on ho hh (.inl rfl) (by show ¬ z.a = _; rw [e1]; exact n1)]
    exact ⟨_, rfl, ⟨H.ok', H.wf', .inr ⟨by omega, e2, rfl⟩⟩, rfl, rfl, rfl⟩
  · rw [if_neg (by rw [e1, e2]; rintro (h | h); exact n2 h; exact n1 h), if_pos rfl, h0, era_on ho hh (.inr rfl) (by show ¬ z.b = _; rw [e1]; exact n1)]
    exact ⟨_, rfl, ⟨H.ok', H.wf', .inl ⟨by omega, e2, rfl⟩⟩, rfl, rfl, rfl⟩
theorem Two.re (H : Two n k a b c o u k' a' b' c' o' u' z) (m : Int) (oo : Bool) (h w : Int) : Two n k a b c o u k' a' b' c' o' u' ⟨z.a, z.b, m, oo, h, w⟩ := ⟨H.ok, H.wf, H.ok', H.wf', H.sl⟩
theorem next_is (H : One n k a b c o u z) (k' a' b' c' o' u' : Int) : nextV k' a' b' c' o' u' z = if (setR (1 - n % 2) ⟨n + 1, k', a', b', c', o', u'⟩ z).2.1 = 0 then
      (if (eraV (n % 2) (setR (1 - n % 2) ⟨n + 1, k', a', b', c', o', u'⟩ z).2.2).1 = 0 then
        ((setR (1 - n % 2) ⟨n + 1, k', a', b', c', o', u'⟩ z).1, eraV (n % 2) (setR (1 - n % 2) ⟨n + 1, k', a', b', c', o', u'⟩ z).2.2)
      else (Rc.zero, eraV (n % 2) (setR (1 - n % 2) ⟨n + 1, k', a', b', c', o', u'⟩ z).2.2))
    else (Rc.zero, (setR (1 - n % 2) ⟨n + 1, k', a', b', c', o', u'⟩ z).2) := by
  have hr := (recOk_is H.ok).1
  have hne : ¬ (¬ z.a = ByteArray.empty ∧ ¬ z.b = ByteArray.empty) := by
    rcases H.sl with ⟨_, _, h⟩ | ⟨_, _, h⟩
    · exact fun hh => hh.2 h
    · exact fun hh => hh.1 h
  have hi : IntKind.i64.wrap (1 - n % 2) = 1 - n % 2 := w64 (by omega) (by omega)
  unfold nextV
  rw [if_neg hne, H.now, if_pos rfl]
  dsimp only
  rw [w64 (n := n + 1) (by omega) (by omega), hi]
theorem One.free (H : One n k a b c o u z) : slot (1 - n % 2) z = ByteArray.empty ∧ (1 - n % 2 = 0 ∨ 1 - n % 2 = 1) := by
  unfold slot
  rcases H.sl with ⟨h0, h1, h2⟩ | ⟨h0, h1, h2⟩
  · rw [h0, if_neg (by decide)]; exact ⟨h2, .inr rfl⟩
  · rw [h0, if_pos (by decide)]; exact ⟨h2, .inl rfl⟩
theorem next_off (H : One n k a b c o u z) (ho : z.o = true) (hr : recOk (n + 1) a' b' c' o' u' = true) (hk : (Lit.int .u64 k').wf = true) : nextV k' a' b' c' o' u' z = (Rc.zero, 110, z) := by
  have hl := rec_len hr hk
  obtain ⟨f1, f2⟩ := H.free
  have hsp : spendV z = (110, z) := by unfold spendV; rw [if_pos ho]
  have hset : setV (1 - n % 2) (strB (recE (n + 1) k' a' b' c' o' u')) z = (110, z) := by
    unfold setV
    rw [if_pos f2, if_pos f1, if_neg (by rintro (h | h); exact size_ne hl.1 h; omega)]
    unfold layV
    rw [hsp, if_neg (show ¬ (110 : Int) = 0 by decide)]
  have S : setR (1 - n % 2) ⟨n + 1, k', a', b', c', o', u'⟩ z = (Rc.zero, 110, z) := by
    unfold setR
    dsimp only
    rw [if_pos hr, hset, if_neg (show ¬ (110 : Int) = 0 by decide)]
  rw [next_is H, S, if_neg (show ¬ (110 : Int) = 0 by decide)]
theorem next_one (H : One n k a b c o u z) (ho : z.o = false) (hh : z.h = 1) (hr : recOk (n + 1) a' b' c' o' u' = true) (hk : (Lit.int .u64 k').wf = true) : ∃ z', nextV k' a' b' c' o' u' z = (Rc.zero, 110, z') ∧ Two n k a b c o u k' a' b' c' o' u' z' ∧ z'.n = IntKind.i64.wrap (z.n + 1) := by
  have hl := rec_len hr hk
  have hold := size_ne (rec_len H.ok H.wf).1
  obtain ⟨f1, f2⟩ := H.free
  have hsp : spendV z = (0, ⟨z.a, z.b, z.n, true, 0, IntKind.i64.wrap (z.w + 1)⟩) := by
    unfold spendV
    rw [if_neg (by simp [ho]), hh, if_pos (by decide), show IntKind.i64.wrap (1 - 1) = 0 by decide]
    rfl
  have hset : setV (1 - n % 2) (strB (recE (n + 1) k' a' b' c' o' u')) z = (0, ⟨if 1 - n % 2 = 0 then strB (recE (n + 1) k' a' b' c' o' u') else z.a, if 1 - n % 2 = 0 then z.b else strB (recE (n + 1) k' a' b' c' o' u'), IntKind.i64.wrap (z.n + 1), true, 0, IntKind.i64.wrap (z.w + 1)⟩) := by
    unfold setV
    rw [if_pos f2, if_pos f1, if_neg (by rintro (h | h); exact size_ne hl.1 h; omega)]
    unfold layV
    rw [hsp, if_pos rfl]
  have S : setR (1 - n % 2) ⟨n + 1, k', a', b', c', o', u'⟩ z = (⟨n + 1, k', a', b', c', o', u'⟩, 0, ⟨if 1 - n % 2 = 0 then strB (recE (n + 1) k' a' b' c' o' u') else z.a, if 1 - n % 2 = 0 then z.b else strB (recE (n + 1) k' a' b' c' o' u'), IntKind.i64.wrap (z.n + 1), true, 0, IntKind.i64.wrap (z.w + 1)⟩) := by
    unfold setR
    dsimp only
    rw [if_pos hr, hset, if_pos rfl]
  have off : ∀ (i : Int) (y : Cl), (i = 0 ∨ i = 1) → y.o = true → ¬ slot i y = ByteArray.empty → eraV i y = (110, y) := by
    intro i y hi hy hs
    have hsp : spendV y = (110, y) := by unfold spendV; rw [if_pos hy]
    unfold eraV
    rw [if_pos hi, if_neg hs]
    unfold layV
    rw [hsp, if_neg (show ¬ (110 : Int) = 0 by decide)]
  rw [next_is H, S, if_pos rfl]
  dsimp only
  rcases H.sl with ⟨h0, h1, h2⟩ | ⟨h0, h1, h2⟩
  · rw [h0, if_neg (show ¬ (1 : Int) - 0 = 0 by decide), if_neg (show ¬ (1 : Int) - 0 = 0 by decide), off 0 _ (.inl rfl) rfl (by show ¬ z.a = _; rw [h1]; exact hold), if_neg (show ¬ (110 : Int) = 0 by decide)]
    exact ⟨_, rfl, ⟨H.ok, H.wf, hr, hk, .inl ⟨h0, h1, rfl⟩⟩, rfl⟩
  · rw [h0, if_pos (show (1 : Int) - 1 = 0 by decide), if_pos (show (1 : Int) - 1 = 0 by decide), off 1 _ (.inr rfl) rfl (by show ¬ z.b = _; rw [h1]; exact hold), if_neg (show ¬ (110 : Int) = 0 by decide)]
    exact ⟨_, rfl, ⟨H.ok, H.wf, hr, hk, .inr ⟨h0, h1, rfl⟩⟩, rfl⟩
theorem cut_on (ho : z.o = false) : cutV 0 z = ⟨z.a, z.b, z.n, true, 0, z.w⟩ ∧ cutV 1 z = ⟨z.a, z.b, z.n, false, 1, z.w⟩ := by
  unfold cutV
  rw [if_neg (by simp [ho]), if_neg (by simp [ho])]
  exact ⟨rfl, rfl⟩
end
theorem rd_one (x : Int) : rd (0 : Int) [x] 0 = x := rfl
/-- Behind a commit that went through or not. -/
theorem safe_30 (cs : List Int) (bg : Bool) (left : Int) (l : List S32) (v34 v35 v120 : Int) (v121 v122 v125 : Bool) (v128 : Int) (v129 v130 v134 : Bool) (v138 v139 v140 v141 : Int) (v142 : Bool) (z z3 : Cl) (r p : Rc) (s : Int) (hz : Short z) (h1 : nowV z = (r, s, 0)) (hst : staleV ⟨z.a, z.b, z.n, false, 0, z.w⟩ = (decide (left = 1), 0, z3)) (H : One r.n r.k r.a r.b r.c r.o r.u z3) (hp : r = p ∨ r.n = IntKind.i64.wrap (p.n + 1)) :
    F3_lethelaw17_CommitSafe_l30 cs bg left l v34 v35 v120 v121 v122 v125 v128 v129 v130 v134 v138 v139 v140 v141 v142 z.a z.b z.n r.n r.k r.a r.b r.c r.o r.u p.n p.k p.a p.b p.c p.o p.u z.o z.h z.w =
    F3_lethelaw17_CommitSafe_l40 cs bg l v34 v35 z3.a z3.b z3.n r.n r.k r.a r.b r.c r.o r.u z3.o z3.h z3.w := by
  have hs := cstale_eq ⟨z.a, z.b, z.n, false, 0, z.w⟩ hz
  rw [hst] at hs
  dsimp only at hs
  obtain ⟨g1, g2, g3⟩ := H.slots
  rw [F3_lethelaw17_CommitSafe_l30_eq, cnow_eq z hz, h1]
  simp only [cOutN, Option.bind_some]
  rw [F13_power_Power_Restore_eq, Option.bind_some]
  dsimp only
  rw [hs, Option.bind_some]
  dsimp only
  rw [cnow_eq z3 H.short, H.now]
  simp only [cOutN, Option.bind_some]
  rw [if_neg (by simp), if_neg (by simp), if_neg (by simp), if_neg (by simp), if_neg (by simp), if_neg (by simp), cslots_eq z3, Option.bind_some]
  dsimp only
  rw [g1, if_neg (by simp), cslots_eq z3, Option.bind_some]
  dsimp only
  rw [g1, if_pos (by simp), rd_one, if_neg (by simp), cget_eq _ g3 z3, Option.bind_some]
  dsimp only
  rw [g2, rec_keys H.wf, Option.bind_some]
  dsimp only
  rw [if_neg (by simp), if_pos (by simp), rd_one, if_neg (by simp)]
  rcases hp with rfl | hp
  · rw [if_neg (by simp)]
  · refine ite_to (fun _ => ?_) (fun _ => rfl)
    rw [if_neg (by simp [hp])]
/-- A commit, and the recovery behind it. -/
theorem safe_24 (cs : List Int) (l : List S32) (v34 v35 : Int) {n k a b c o u k' a' b' c' o' u' : Int} {z : Cl} (H : One n k a b c o u z) (ho : z.o = false) (hh : z.h = 0) (hn : 0 ≤ z.n ∧ z.n ≤ 1000) (hr : recOk (n + 1) a' b' c' o' u' = true) (hk : (Lit.int .u64 k').wf = true) (left : Int) (zc : Cl) (hc : left = 0 ∧ zc = cutV 0 z ∨ left = 1 ∧ zc = cutV 1 z ∨ left = 2 ∧ zc = z)
    (IH : ∀ (z' : Cl) (r : Rc), One r.n r.k r.a r.b r.c r.o r.u z' → z'.o = false → z'.h = 0 → 0 ≤ z'.n → z'.n ≤ z.n + 2 → F3_lethelaw17_CommitSafe_l40 cs true l v34 v35 z'.a z'.b z'.n r.n r.k r.a r.b r.c r.o r.u z'.o z'.h z'.w = some (true, ())) :
    F3_lethelaw17_CommitSafe_l24 cs true z.n left l v34 v35 z.a z.b z.n n k a b c o u (n + 1) k' a' b' c' o' u' zc.o zc.h zc.w = some (true, ()) := by
  have hnn := (recOk_is H.ok).1
  have wn : n + 1 = IntKind.i64.wrap (n + 1) := (w64 (by omega) (by omega)).symm
  rcases hc with ⟨rfl, rfl⟩ | ⟨rfl, rfl⟩ | ⟨rfl, rfl⟩
  · rw [(cut_on ho).1]
    have Hc := H.re z.n true 0 z.w
    have hN := next_off Hc rfl hr hk
    have hE := cnext_eq hk a' b' c' o' u' ⟨z.a, z.b, z.n, true, 0, z.w⟩ Hc.short
    rw [hN] at hE
    dsimp only at hE ⊢
    rw [F3_lethelaw17_CommitSafe_l24_eq, hE]
    unfold cOutR
    rw [Option.bind_some]
    dsimp only
    rw [if_neg (by simp), if_pos (by omega), if_neg (by simp), if_neg (by omega), F9_cell_Cell_Count_eq, Option.bind_some]
    dsimp only
    rw [w64 (n := z.n + 0) (by omega) (by omega), if_neg (by simp), F3_lethelaw17_CommitSafe_l27_eq, if_neg (by decide)]
    have := safe_30 cs true 0 l v34 v35 0 (decide ((0 : Int) < 2)) true (decide (¬ (110 : Int) = 110)) 110 (decide ((110 : Int) = 0)) false false z.n z.n 0 (z.n + 0) (decide (¬ z.n = z.n + 0)) ⟨z.a, z.b, z.n, true, 0, z.w⟩ ⟨z.a, z.b, z.n, false, 0, z.w⟩ ⟨n, k, a, b, c, o, u⟩ ⟨n, k, a, b, c, o, u⟩ _ Hc.short Hc.now (H.re z.n false 0 z.w).stale (H.re _ _ _ _) (.inl rfl)
    refine Eq.trans this ?_
    exact IH ⟨z.a, z.b, z.n, false, 0, z.w⟩ ⟨n, k, a, b, c, o, u⟩ (H.re _ _ _ _) rfl rfl hn.1 (by show z.n ≤ z.n + 2; omega)
  · rw [(cut_on ho).2]
    have Hc := H.re z.n false 1 z.w
    obtain ⟨z', hN, T, hz'⟩ := next_one Hc rfl rfl hr hk
    have hE := cnext_eq hk a' b' c' o' u' ⟨z.a, z.b, z.n, false, 1, z.w⟩ Hc.short
    rw [hN] at hE
    dsimp only at hE hz' ⊢
    rw [w64 (n := z.n + 1) (by omega) (by omega)] at hz'
    rw [F3_lethelaw17_CommitSafe_l24_eq, hE]
    unfold cOutR
    rw [Option.bind_some]
    dsimp only
    rw [if_neg (by simp), if_pos (by omega), if_neg (by simp), if_neg (by omega), F9_cell_Cell_Count_eq, Option.bind_some]
    dsimp only
    rw [w64 (n := z.n + 1) (by omega) (by omega), if_neg (by simp [hz']), F3_lethelaw17_CommitSafe_l27_eq, if_pos (by decide)]
    obtain ⟨z3, q1, q2, q3, q4, q5⟩ := (T.re z'.n false 0 z'.w).stale rfl rfl
    have := safe_30 cs true 1 l v34 v35 1 (decide ((1 : Int) < 2)) true (decide (¬ (110 : Int) = 110)) 110 (decide ((110 : Int) = 0)) false false z'.n z.n 1 (z.n + 1) (decide (¬ z'.n = z.n + 1)) z' z3 ⟨n + 1, k', a', b', c', o', u'⟩ ⟨n, k, a, b, c, o, u⟩ _ T.short T.now q1 q2 (.inr wn)
    refine Eq.trans this ?_
    have q3' : z3.n = z.n + 2 := by rw [q3, hz', w64 (by omega) (by omega)]; omega
    exact IH z3 ⟨n + 1, k', a', b', c', o', u'⟩ q2 q4 q5 (by omega) (by omega)
  · have F := next_on H ho hh hk a' b' c' o' u'
    rw [if_pos hr] at F
    obtain ⟨z', F1, F2, F3, F4, F5⟩ := F
    rw [w64 (n := zc.n + 1) (by omega) (by omega), w64 (by omega) (by omega)] at F3
    rw [F3_lethelaw17_CommitSafe_l24_eq, cnext_eq hk a' b' c' o' u' zc H.short, F1]
    unfold cOutR
    rw [Option.bind_some]
    dsimp only
    rw [if_neg (by simp), if_neg (by omega), if_pos rfl, if_neg (by simp), F9_cell_Cell_Count_eq, Option.bind_some]
    dsimp only
    rw [w64 (n := zc.n + 2) (by omega) (by omega), if_neg (by rw [F3]; omega), F3_lethelaw17_CommitSafe_l27_eq, if_pos (by decide)]
    refine Eq.trans (safe_30 cs true 2 l v34 v35 _ _ _ _ _ _ _ _ _ _ _ _ _ z' ⟨z'.a, z'.b, z'.n, false, 0, z'.w⟩ ⟨n + 1, k', a', b', c', o', u'⟩ ⟨n, k, a, b, c, o, u⟩ _ F2.short F2.now (F2.re z'.n false 0 z'.w).stale (F2.re _ _ _ _) (.inr wn)) ?_
    exact IH ⟨z'.a, z'.b, z'.n, false, 0, z'.w⟩ ⟨n + 1, k', a', b', c', o', u'⟩ (F2.re _ _ _ _) rfl rfl (by show 0 ≤ z'.n; omega) (by show z'.n ≤ zc.n + 2; omega)
/-- Where the walk stands. -/
def Sf (bg : Bool) (r : Rc) (z : Cl) (i : Nat) : Prop := z.o = false ∧ z.h = 0 ∧ 0 ≤ z.n ∧ z.n ≤ 2 * i ∧ ((bg = false ∧ z.a = ByteArray.empty ∧ z.b = ByteArray.empty ∧ z.n = 0) ∨ (bg = true ∧ One r.n r.k r.a r.b r.c r.o r.u z))
theorem law_l (l : List S32) (cs : List Int) (hl : l.length ≤ 9223372036854775807) (hk : ∀ x ∈ l, (Lit.int .u64 (S32.f1 x)).wf = true) : ∀ (d i : Nat) (bg : Bool) (r : Rc) (z : Cl), l.length - i = d → i ≤ l.length → Sf bg r z i →
    F3_lethelaw17_CommitSafe_l1000007 cs bg l (l.length : Int) (i : Int) z.a z.b z.n r.n r.k r.a r.b r.c r.o r.u z.o z.h z.w = some (true, ()) := by
  intro d
  induction d with
  | zero =>
    intro i bg r z hd hi hz
    rw [F3_lethelaw17_CommitSafe_l1000007_eq, if_neg (by omega)]
  | succ d ih =>
    intro i bg r z hd hi hz
    rw [F3_lethelaw17_CommitSafe_l1000007_eq, if_pos (ilt (by omega)), if_pos (inb (by omega))]
    refine ite_to (fun _ => rfl) (fun c1 => ?_)
    have hx := hk (rd S32.z l (i : Int)) (by rw [rd_lt (by omega : i < l.length)]; exact List.getElem_mem _)
    generalize rd S32.z l (i : Int) = x at hx ⊢
    obtain ⟨ho, hh, h0, h1, hz⟩ := hz
    have go : ∀ (bg' : Bool) (r' : Rc) (z' : Cl), Sf bg' r' z' (i + 1) → F3_lethelaw17_CommitSafe_l40 cs bg' l (l.length : Int) (i : Int) z'.a z'.b z'.n r'.n r'.k r'.a r'.b r'.c r'.o r'.u z'.o z'.h z'.w = some (true, ()) := by
      intro bg' r' z' hz'
      rw [F3_lethelaw17_CommitSafe_l40_eq, w64s (n := l.length) (by omega) (by omega)]
      exact ih (i + 1) bg' r' z' (by omega) (by omega) hz'
    rcases hz with ⟨rfl, ha, hb, hn⟩ | ⟨rfl, H⟩
    · rw [if_pos (by decide), rright_rec, Option.bind_some]
      dsimp only
      have F := first_on ho hh ha hb hx (S32.f2 x) (S32.f3 x) (S32.f4 x) (S32.f5 x) (S32.f6 x)
      by_cases c3 : recOk 0 (S32.f2 x) (S32.f3 x) (S32.f4 x) (S32.f5 x) (S32.f6 x) = true
      · rw [if_pos c3] at F
        obtain ⟨z', F1, F2, F3, F4, F5⟩ := F
        rw [hn] at F3
        have F3' : z'.n = 1 := by rw [F3]; decide
        rw [c3, if_neg (by decide), if_pos (by decide), cfirst_eq hx, F1]
        simp only [cOutR, Option.bind_some]
        rw [if_neg (by decide), if_neg (by simp)]
        exact go true ⟨0, _, _, _, _, _, _⟩ z' ⟨F4, F5, by omega, by omega, .inr ⟨rfl, F2⟩⟩
      · rw [if_pos (by simp [c3])]
        exact go false r z ⟨ho, hh, h0, by omega, .inl ⟨rfl, ha, hb, hn⟩⟩
    · have hnn := (recOk_is H.ok).1
      rw [if_neg (by decide), w64 (n := r.n + 1) (by omega) (by omega), rright_rec, Option.bind_some]
      dsimp only
      by_cases c3 : recOk (r.n + 1) (S32.f2 x) (S32.f3 x) (S32.f4 x) (S32.f5 x) (S32.f6 x) = true
      · have IH : ∀ (z' : Cl) (r : Rc), One r.n r.k r.a r.b r.c r.o r.u z' → z'.o = false → z'.h = 0 → 0 ≤ z'.n → z'.n ≤ z.n + 2 → F3_lethelaw17_CommitSafe_l40 cs true l (l.length : Int) (i : Int) z'.a z'.b z'.n r.n r.k r.a r.b r.c r.o r.u z'.o z'.h z'.w = some (true, ()) :=
          fun z' r' H' e1 e2 e3 e4 => go true r' z' ⟨e1, e2, e3, by omega, .inr ⟨rfl, H'⟩⟩
        have S := fun left zc hc => safe_24 cs l (l.length : Int) (i : Int) H ho hh ⟨h0, by omega⟩ c3 hx left zc hc IH
        have S2 := S 2 z (.inr (.inr ⟨rfl, rfl⟩))
        rw [c3, if_neg (by decide), if_neg (by decide), F9_cell_Cell_Count_eq, Option.bind_some]
        dsimp only
        refine ite_to (fun c4 => ?_) (fun _ => S2)
        have hb : (0 : Int) ≤ (i : Int) ∧ (i : Int) < (cs.length : Int) := ⟨by omega, c4⟩
        rw [if_pos hb]
        refine ite_to (fun c5 => ?_) (fun _ => S2)
        rw [if_pos hb]
        refine ite_to (fun c6 => ?_) (fun _ => S2)
        rw [if_pos hb, ccut_eq, Option.bind_some]
        dsimp only
        obtain e | e : rd (0 : Int) cs (i : Int) = 0 ∨ rd (0 : Int) cs (i : Int) = 1 := by omega
        · rw [e]; exact S 0 _ (.inl ⟨rfl, rfl⟩)
        · rw [e]; exact S 1 _ (.inr (.inl ⟨rfl, rfl⟩))
      · rw [if_pos (by simp [c3])]
        exact go true r z ⟨ho, hh, h0, by omega, .inr ⟨rfl, H⟩⟩
theorem law (l : List S32) (cs : List Int) (hl : Ok tab Pr (.sl 32 (.st 32)) l) {e : Nat} (_ : Ok tab Pr (.sl e (.int .i64)) cs) : F3_lethelaw17_CommitSafe l cs = some (true, ()) := by
  have hk : ∀ x ∈ l, (Lit.int .u64 (S32.f1 x)).wf = true := by
    intro x hx
    obtain ⟨i, hi, rfl⟩ := List.getElem_of_mem hx
    exact Ok.inv ((Ok.inv hl).2.2 i l[i] 1 ⟨.int .u64, l[i].f1⟩ (List.getElem?_eq_getElem hi) rfl)
  rw [F3_lethelaw17_CommitSafe_eq, F6_power_New_eq, Option.bind_some, F5_cell_New_eq, Option.bind_some]
  exact law_l l cs (sl_len hl) hk _ 0 false ⟨0, 0, 0, 0, 0, 0, 0⟩ ⟨ByteArray.empty, ByteArray.empty, 0, false, 0, 0⟩ rfl (by omega) ⟨rfl, rfl, by decide, by decide, .inl ⟨rfl, rfl, rfl, rfl⟩⟩

end
end Go.Proofs.Ytckafnfidjfhjaa.CommitSafep
