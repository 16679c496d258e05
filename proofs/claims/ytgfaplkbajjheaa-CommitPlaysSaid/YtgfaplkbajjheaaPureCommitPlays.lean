/- The law CommitPlays, for all arguments. Under no condition. -/
import Derived.Test.YtgfaplkbajjheaaECommitPlays
import Derived.Laws.BitsLemmas
import Derived.Laws.Bits64
set_option linter.unusedVariables false
set_option linter.unusedSimpArgs false
namespace Go.Proofs.Ytgfaplkbajjheaa.CommitPlaysp
open Go Go.RowKit Go.Proofs.Ytgfaplkbajjheaa.Rx Go.Proofs.Ytgfaplkbajjheaa.CommitPlaysx
noncomputable section
theorem w64 {n : Int} (h0 : -9223372036854775808 ≤ n) (h1 : n ≤ 9223372036854775807) : IntKind.i64.wrap n = n := by rw [IntKind.wrap_i64]; omega
theorem w64s {j n : Nat} (h : j < n) (hn : n ≤ 9223372036854775807) : IntKind.i64.wrap ((j : Int) + 1) = ((j + 1 : Nat) : Int) := by rw [w64 (by omega) (by omega)]; omega
theorem w64p {j : Nat} (h : 0 < j) (hn : j ≤ 9223372036854775807) : IntKind.i64.wrap ((j : Int) - 1) = ((j - 1 : Nat) : Int) := by rw [w64 (by omega) (by omega)]; omega
theorem sl_len {e : TypeId} {t : Ty} {xs : List (den tab.S t)} (h : Ok tab Pr (.sl e t) xs) : xs.length ≤ 9223372036854775807 := by
  have := (Ok.inv h).2.1
  simp only [maxLen] at this
  omega
theorem ite_to {α : Type} {p : Prop} [Decidable p] {a b c : α} (h1 : p → a = c) (h2 : ¬ p → b = c) : (if p then a else b) = c := by
  by_cases h : p
  · rw [if_pos h]; exact h1 h
  · rw [if_neg h]; exact h2 h
theorem ob_eq {a b : Bool} (h1 : a = true → b = true) (h2 : b = true → a = true) : (some (a, ()) : Option (Bool × Unit)) = some (b, ()) := by rw [Bool.eq_iff_iff.2 ⟨h1, h2⟩]
theorem oi_eq {a b : Int} (h : a = b) : (some (a, ()) : Option (Int × Unit)) = some (b, ()) := by rw [h]
theorem rd_lt {α : Type} {z : α} {xs : List α} {i : Nat} (h : i < xs.length) : rd z xs (i : Int) = xs[i] := by simp [rd, h]
theorem drop_rd {α : Type} {z : α} {xs : List α} {i : Nat} (h : i < xs.length) : xs.drop i = rd z xs (i : Int) :: xs.drop (i + 1) := by rw [rd_lt h]; exact List.drop_eq_getElem_cons h
theorem inb {i n : Nat} (h : i < n) : (0 : Int) ≤ (i : Int) ∧ (i : Int) < (n : Int) := by omega
theorem ilt {i n : Nat} (h : i < n) : (i : Int) < (n : Int) := by omega
theorem subL_drop {α : Type} (xs : List α) {l : Int} {k : Nat} (h : l = (k : Int)) : subL xs l (xs.length : Int) = xs.drop k := by simp [subL, h]
theorem subL_take {α : Type} (xs : List α) {l : Int} {k : Nat} (h : l = (k : Int)) : subL xs 0 l = xs.take k := by simp [subL, h]

/-! ### terms -/
theorem term_eta (t : S38) : S38.mk (S38.f0 t) (S38.f1 t) (S38.f2 t) (S38.f3 t) = t := by cases t; rfl
@[simp] theorem T_f0 (a b : Int) (s : ByteArray) (l : List S38) : S38.f0 (S38.mk a b s l) = a := rfl
@[simp] theorem T_f1 (a b : Int) (s : ByteArray) (l : List S38) : S38.f1 (S38.mk a b s l) = b := rfl
@[simp] theorem T_f2 (a b : Int) (s : ByteArray) (l : List S38) : S38.f2 (S38.mk a b s l) = s := rfl
@[simp] theorem T_f3 (a b : Int) (s : ByteArray) (l : List S38) : S38.f3 (S38.mk a b s l) = l := rfl
/-- A term with no list that is too long. -/
inductive Tn : S38 → Prop
  | mk (k n : Int) (b : ByteArray) (l : List S38) (h : l.length * 56 ≤ 140737488355328) (hl : ∀ x ∈ l, Tn x) : Tn (S38.mk k n b l)
abbrev T4 := Int × Int × ByteArray × List S38 × Unit
def ofT (t : S38) : Option T4 := some (S38.f0 t, S38.f1 t, S38.f2 t, S38.f3 t, ())

theorem clone_l (l : List S38) (hl : l.length * 56 ≤ 140737488355328) (hc : ∀ x ∈ l, F124_term_clone (S38.f0 x) (S38.f1 x) (S38.f2 x) (S38.f3 x) = ofT x) (k n : Int) (b : ByteArray) (l' : List S38) (o o' : Int) (s : ByteArray) (g : List S38) : ∀ (m i : Nat), l.length - i = m → i ≤ l.length →
    F124_term_clone_l1000003 l (l.length : Int) (i : Int) k n b l' o o' s (l.take i) g = some (k, n, b, l, ()) := by
  intro m
  induction m with
  | zero =>
    intro i hm hi
    rw [F124_term_clone_l1000003_eq, if_neg (by omega), List.take_of_length_le (by omega)]
  | succ m ih =>
    intro i hm hi
    rw [F124_term_clone_l1000003_eq, if_pos (ilt (by omega)), if_pos (inb (by omega)), rd_lt (by omega : i < l.length), hc _ (List.getElem_mem _)]
    show (if _ then _ else none) = _
    rw [if_pos (by simp only [List.length_take, List.length_singleton]; omega), w64s (n := l.length) (by omega) (by omega)]
    have := ih (i + 1) (by omega) (by omega)
    rw [List.take_add_one, List.getElem?_eq_getElem (by omega)] at this
    rw [term_eta]
    exact this
theorem clone_eq {t : S38} (h : Tn t) : F124_term_clone (S38.f0 t) (S38.f1 t) (S38.f2 t) (S38.f3 t) = ofT t := by
  induction h with
  | mk k n b l h hl ih =>
    show F124_term_clone k n b l = some (k, n, b, l, ())
    rw [F124_term_clone_eq]
    exact clone_l l h ih k n b l 0 0 ByteArray.empty [] l.length 0 (by omega) (by omega)

def numT (n : Int) : S38 := S38.mk 1 (IntKind.u64.wrap n) ByteArray.empty []
def atomT (s : ByteArray) : S38 := S38.mk 2 0 s []
def keyT (n : Int) : S38 := S38.mk 3 n ByteArray.empty []
def rowT (l : List S38) : S38 := S38.mk 5 0 ByteArray.empty l
theorem Tn.num (n : Int) : Tn (numT n) := .mk _ _ _ _ (by simp) (fun x hx => by cases hx)
theorem Tn.atom (s : ByteArray) : Tn (atomT s) := .mk _ _ _ _ (by simp) (fun x hx => by cases hx)
theorem Tn.key (n : Int) : Tn (keyT n) := .mk _ _ _ _ (by simp) (fun x hx => by cases hx)
theorem Tn.row {l : List S38} (h : l.length ≤ 1000000) (hl : ∀ x ∈ l, Tn x) : Tn (rowT l) := .mk _ _ _ _ (by omega) hl
theorem tkey (n : Int) : F80_term_Key n = ofT (keyT n) := by rw [F80_term_Key_eq]; rfl
theorem tof {l : List S38} (h : l.length ≤ 1000000) (hl : ∀ x ∈ l, Tn x) : F77_term_Of l = ofT (rowT l) := by
  rw [F77_term_Of_eq, show F124_term_clone 5 0 ByteArray.empty l = ofT (rowT l) from clone_eq (Tn.row h hl)]; rfl
theorem snoc_tn {g : List S38} (hg : ∀ x ∈ g, Tn x) {y : S38} (hy : Tn y) : ∀ x ∈ g ++ [y], Tn x := by
  intro x hx
  rw [List.mem_append, List.mem_singleton] at hx
  rcases hx with h | h
  · exact hg x h
  · rw [h]; exact hy

inductive okT : S38 → Prop
  | mk {x : S38} : (Lit.int .i64 (S38.f0 x)).wf = true → (Lit.int .u64 (S38.f1 x)).wf = true → (S38.f2 x).size ≤ 140737488351232 → (S38.f3 x).length * 56 ≤ 140737488351232 → (S38.f3 x).length ≤ maxLen → (∀ y ∈ S38.f3 x, okT y) → okT x
theorem etaT (x : S38) : (S38.mk (S38.f0 x) (S38.f1 x) (S38.f2 x) (S38.f3 x)) = x := by cases x; rfl
theorem okT.leaf {n f : Int} {s : ByteArray} (h0 : (Lit.int .i64 n).wf = true) (h1 : (Lit.int .u64 f).wf = true) (h2 : s.size ≤ 140737488351232) : okT (S38.mk n f s []) := okT.mk h0 h1 h2 (by show 0 * 56 ≤ _; omega) (by show 0 ≤ _; omega) (fun y hy => by cases hy)
theorem okT.len {x : S38} (h : okT x) : (S38.f3 x).length ≤ 2513169434843 := by
  cases h with
  | mk _ _ _ h3 _ _ => omega
theorem okT.el {x : S38} (h : okT x) : ∀ y ∈ S38.f3 x, okT y := by
  cases h with
  | mk _ _ _ _ _ h5 => exact h5
theorem okT.tn {x : S38} (h : okT x) : Tn x := by
  induction h with
  | @mk x h0 h1 h2 h3 h4 h5 ih => rw [← etaT x]; exact Tn.mk _ _ _ _ (by omega) ih
theorem okT_of (n : Nat) : ∀ x : S38, SizeOf.sizeOf x < n → Ok tab Pr (.int .i64) (S38.f0 x) → Ok tab Pr (.int .u64) (S38.f1 x) → Ok tab Pr .str (S38.f2 x) → Ok tab Pr (.sl 38 (.st 38)) (S38.f3 x) → okT x := by
  induction n with
  | zero => intro x hx; omega
  | succ n ih =>
    intro x hx h0 h1 h2 h3
    have hb := (Ok.inv h3).1
    rw [show Program.bytesOf Pr 38 = 56 by kernel_rfl] at hb
    refine okT.mk (Ok.inv h0) (Ok.inv h1) (Ok.inv h2) ?_ (Ok.inv h3).2.1 (fun y hy => ?_)
    · exact hb
    · obtain ⟨i, hi, rfl⟩ := List.getElem_of_mem hy
      have hs : SizeOf.sizeOf (S38.f3 x)[i] < n := by
        have h9 := List.sizeOf_lt_of_mem hy
        have h8 : SizeOf.sizeOf (S38.f3 x) < SizeOf.sizeOf x := by cases x; simp [S38.f3]; omega
        omega
      have hc := (Ok.inv h3).2.2 i (S38.f3 x)[i]
      exact ih _ hs (hc 0 ⟨.int .i64, _⟩ (List.getElem?_eq_getElem hi) rfl) (hc 1 ⟨.int .u64, _⟩ (List.getElem?_eq_getElem hi) rfl) (hc 2 ⟨.str, _⟩ (List.getElem?_eq_getElem hi) rfl) (hc 3 ⟨.sl 38 (.st 38), _⟩ (List.getElem?_eq_getElem hi) rfl)

theorem wf_u64 {x : Int} (h : (Lit.int .u64 x).wf = true) : 0 ≤ x ∧ x < 18446744073709551616 := by
  simp [Lit.wf, IntKind.min, IntKind.max, IntKind.bits, IntKind.signed] at h
  omega
theorem wf_i64 {x : Int} (h : (Lit.int .i64 x).wf = true) : -9223372036854775808 ≤ x ∧ x ≤ 9223372036854775807 := by
  simp [Lit.wf, IntKind.min, IntKind.max, IntKind.bits, IntKind.signed] at h
  omega
theorem wrap_u64 {n : Int} (h0 : 0 ≤ n) (h1 : n < 18446744073709551616) : IntKind.u64.wrap n = n := by
  have h : IntKind.u64.wrap n = n % 18446744073709551616 := by simp [IntKind.wrap, IntKind.bits, IntKind.signed]
  rw [h]; omega

theorem wf_wrap (n : Int) : (Lit.int .u64 (IntKind.u64.wrap n)).wf = true := by
  have h : IntKind.u64.wrap n = n % 18446744073709551616 := by simp [IntKind.wrap, IntKind.bits, IntKind.signed]
  rw [h]
  simp [Lit.wf, IntKind.min, IntKind.max, IntKind.bits, IntKind.signed]
  omega
theorem okT.num (n : Int) : okT (numT n) := okT.leaf (by decide) (wf_wrap n) (by decide)
theorem okT.atom {s : ByteArray} (h : s.size ≤ 140737488351232) : okT (atomT s) := okT.leaf (by decide) (by decide) h
theorem okT.key {k : Int} (h : (Lit.int .u64 k).wf = true) : okT (keyT k) := okT.leaf (by decide) h (by decide)
theorem okT.row {l : List S38} (h : l.length ≤ 1000) (hl : ∀ x ∈ l, okT x) : okT (rowT l) :=
  okT.mk (show (Lit.int .i64 5).wf = true by decide) (show (Lit.int .u64 0).wf = true by decide) (show ByteArray.empty.size ≤ 140737488351232 by decide) (show l.length * 56 ≤ 140737488351232 by omega) (show l.length ≤ maxLen by simp only [maxLen]; omega) hl

/-! ### strings as lists of numbers -/
/-- A list of bytes. -/
def AllB (l : List Int) : Prop := ∀ c ∈ l, 0 ≤ c ∧ c ≤ 255
theorem AllB.nil : AllB [] := fun _ h => by simp at h
theorem AllB.cons {c : Int} {l : List Int} (h : 0 ≤ c ∧ c ≤ 255) (hl : AllB l) : AllB (c :: l) := fun x hx => by
  rcases List.mem_cons.1 hx with rfl | hx
  · exact h
  · exact hl x hx
theorem AllB.app {a b : List Int} (ha : AllB a) (hb : AllB b) : AllB (a ++ b) := fun x hx => by
  rcases List.mem_append.1 hx with hx | hx
  · exact ha x hx
  · exact hb x hx
theorem AllB.take {a : List Int} (ha : AllB a) (n : Nat) : AllB (a.take n) := fun x hx => ha x (List.mem_of_mem_take hx)
theorem AllB.drop {a : List Int} (ha : AllB a) (n : Nat) : AllB (a.drop n) := fun x hx => ha x (List.mem_of_mem_drop hx)
theorem AllB.of_bytes (s : ByteArray) : AllB (bytesOf s) := fun x hx => by
  obtain ⟨b, _, rfl⟩ := List.mem_map.1 hx
  have := b.toNat_lt
  omega
theorem bytesOf_str {l : List Int} (h : AllB l) : bytesOf (strOf l) = l := by
  unfold bytesOf strOf
  simp only [List.map_map]
  rw [show (List.map ((fun b : UInt8 => (b.toNat : Int)) ∘ fun n : Int => UInt8.ofNat n.toNat) l) = List.map id l from List.map_congr_left (fun x hx => by
    have := h x hx
    simp only [Function.comp, id, UInt8.toNat_ofNat']
    omega)]
  simp
theorem str_bytesOf (s : ByteArray) : strOf (bytesOf s) = s := by
  unfold bytesOf strOf
  simp only [List.map_map]
  rw [show (List.map ((fun n : Int => UInt8.ofNat n.toNat) ∘ fun b : UInt8 => (b.toNat : Int)) s.data.toList) = List.map id s.data.toList from List.map_congr_left (fun x hx => by
    simp [Function.comp])]
  simp
theorem bytesOf_inj {a b : ByteArray} (h : bytesOf a = bytesOf b) : a = b := by rw [← str_bytesOf a, ← str_bytesOf b, h]
theorem bytesOf_append (a b : ByteArray) : bytesOf (a ++ b) = bytesOf a ++ bytesOf b := by simp [bytesOf]
theorem bytesOf_extract (a : ByteArray) (i j : Nat) : bytesOf (a.extract i j) = ((bytesOf a).take j).drop i := by
  simp [bytesOf, List.extract_eq_take_drop, List.map_take, List.map_drop, List.drop_take]
theorem bytesOf_empty : bytesOf ByteArray.empty = [] := rfl
theorem bytesOf_length (s : ByteArray) : (bytesOf s).length = s.size := by rw [bytesOf, List.length_map, Array.length_toList]; rfl
theorem size_bytesOf (s : ByteArray) : s.size = (bytesOf s).length := (bytesOf_length s).symm
theorem size_str (l : List Int) : (strOf l).size = l.length := by simp [strOf, ByteArray.size]
theorem str_append (a b : List Int) : strOf (a ++ b) = strOf a ++ strOf b := by
  apply ByteArray.ext
  simp [strOf]
theorem str_take (l : List Int) (j : Nat) : (strOf l).extract 0 j = strOf (l.take j) := by
  apply ByteArray.ext
  simp [strOf, List.map_take]


/-! ### whether a term may be -/
mutual
def parts : S38 → Nat
  | ⟨_, _, _, l⟩ => 1 + partsL l
def partsL : List S38 → Nat
  | [] => 0
  | x :: t => parts x + partsL t
end
mutual
def depth : S38 → Nat
  | ⟨_, _, _, l⟩ => 1 + depthL l
def depthL : List S38 → Nat
  | [] => 0
  | x :: t => max (depth x) (depthL t)
end
/-- The shape of a term by itself. -/
def one (n f : Int) (s : ByteArray) (len : Nat) : Bool :=
  if n = 1 ∨ n = 3 then decide (bytesOf s = [] ∧ len = 0) else if n = 2 then decide (f = 0 ∧ s.size ≤ 4000 ∧ len = 0) else if n = 4 then decide (bytesOf s = [] ∧ len = 1) else if n = 5 then decide (f = 0 ∧ bytesOf s = []) else false
mutual
def shp : S38 → Bool
  | ⟨n, f, s, l⟩ => one n f s l.length && shpL l
def shpL : List S38 → Bool
  | [] => true
  | x :: t => shp x && shpL t
end
theorem str_nil_iff {s : ByteArray} : bytesOf s = [] ↔ s = ByteArray.empty := ⟨fun h => bytesOf_inj (by rw [h]; rfl), fun h => by rw [h]; rfl⟩
theorem beqd (a b : Int) : (a == b) = decide (a = b) := by rw [Bool.eq_iff_iff, beq_iff_eq, decide_eq_true_eq]
theorem parts_eq (x : S38) : parts x = 1 + partsL x.f3 := by cases x; rw [parts]; rfl
theorem depth_eq (x : S38) : depth x = 1 + depthL x.f3 := by cases x; rw [depth]; rfl
theorem shp_eq (x : S38) : shp x = (one x.f0 x.f1 x.f2 x.f3.length && shpL x.f3) := by cases x; rw [shp]; rfl
theorem shp_mk (n f : Int) (s : ByteArray) (l : List S38) : shp (S38.mk n f s l) = (one n f s l.length && shpL l) := by rw [shp]
theorem parts_pos (x : S38) : 1 ≤ parts x := by rw [parts_eq]; omega
theorem depth_pos (x : S38) : 1 ≤ depth x := by rw [depth_eq]; omega
def rightT (x : S38) : Int := if 4000 < parts x then 23 else if 12 < depth x then 22 else if shp x = true then 0 else 25

theorem right_is {x : S38} (hr : rightT x = 0) : parts x ≤ 4000 ∧ depth x ≤ 12 ∧ shp x = true := by
  unfold rightT at hr
  split at hr
  · simp at hr
  · split at hr
    · simp at hr
    · split at hr
      · rename_i c1 c2 c3
        exact ⟨by omega, by omega, c3⟩
      · simp at hr


theorem shp_in {x : S38} (h : shp x = true) {y : S38} (hy : y ∈ S38.f3 x) : shp y = true := by
  rw [shp_eq, Bool.and_eq_true] at h
  have : ∀ l : List S38, shpL l = true → y ∈ l → shp y = true := by
    intro l
    induction l with
    | nil => intro _ hy; cases hy
    | cons z l ih =>
      intro h hy
      simp only [shpL, Bool.and_eq_true] at h
      cases hy with
      | head => exact h.1
      | tail _ hy => exact ih h.2 hy
  exact this _ h.2 hy
theorem shp_num {x : S38} (h : shp x = true) (h0 : S38.f0 x = 1) : x = S38.mk 1 (S38.f1 x) ByteArray.empty [] := by
  rw [shp_eq, Bool.and_eq_true, h0] at h
  have := h.1
  simp [one, str_nil_iff] at this
  rw [← etaT x, h0, this.1, this.2]; rfl
theorem shp_key {x : S38} (h : shp x = true) (h0 : S38.f0 x = 3) : x = keyT (S38.f1 x) := by
  rw [shp_eq, Bool.and_eq_true, h0] at h
  have := h.1
  simp [one, str_nil_iff] at this
  rw [← etaT x, h0, this.1, this.2]; rfl
theorem shp_atom {x : S38} (h : shp x = true) (h0 : S38.f0 x = 2) : x = atomT (S38.f2 x) := by
  rw [shp_eq, Bool.and_eq_true, h0] at h
  have := h.1
  simp [one] at this
  rw [← etaT x, h0, this.1, this.2.2]; rfl
theorem shp_row {x : S38} (h : shp x = true) (h0 : S38.f0 x = 5) : x = rowT (S38.f3 x) := by
  rw [shp_eq, Bool.and_eq_true, h0] at h
  have := h.1
  simp [one, str_nil_iff] at this
  rw [← etaT x, h0, this.1, this.2]; rfl

def refOk (b c d : Int) : Bool := decide (0 ≤ b ∧ b ≤ 1048576 ∧ 0 ≤ c ∧ c ≤ 134217728 ∧ 1 ≤ d ∧ d ≤ 1048576)
theorem ref_eq (a b c d : Int) : F17_node_RefRight a b c d = some (refOk b c d, ()) ∧ F18_letheref06_RefRight a b c d = some (refOk b c d, ()) := by
  rw [F17_node_RefRight_eq, F18_letheref06_RefRight_eq]
  constructor
  all_goals repeat' (refine ite_to (fun _ => ?_) (fun _ => ?_))
  all_goals (apply ob_eq <;> intro hh <;> simp only [refOk, decide_eq_true_eq, Bool.false_eq_true] at hh ⊢ <;> omega)

theorem rnum (n : Int) : F94_letheref06_Num n = ofT (numT n) := by rw [F94_letheref06_Num_eq]; rfl
theorem rkey (n : Int) : F95_letheref06_Key n = ofT (keyT n) := by rw [F95_letheref06_Key_eq]; rfl
theorem rrow (l : List S38) : F97_letheref06_Row l = ofT (rowT l) := by rw [F97_letheref06_Row_eq]; rfl

/-! ### numbers in sevens -/
/-- A number in sevens. -/
def putN (n : Nat) : List Int := if h : n < 128 then [(n : Int)] else ((n % 128 + 128 : Nat) : Int) :: putN (n / 128)
termination_by n
decreasing_by omega
theorem putN_lt {n : Nat} (h : n < 128) : putN n = [(n : Int)] := by rw [putN, dif_pos h]
theorem putN_ge {n : Nat} (h : ¬ n < 128) : putN n = ((n % 128 + 128 : Nat) : Int) :: putN (n / 128) := by rw [putN, dif_neg h]
/-- Reading: i bytes were read ahead, worth acc. -/
def getN : Nat → Nat → List Int → Int × Int × Int
  | _, _, [] => (0, 0, 20)
  | i, acc, c :: t => if i = 9 ∧ c > 1 then (0, 0, 21) else if c < 128 then (if c = 0 ∧ 0 < i then (0, 0, 21) else (((acc + c.toNat * 128 ^ i : Nat) : Int), ((i + 1 : Nat) : Int), 0)) else getN (i + 1) (acc + (c.toNat - 128) * 128 ^ i) t
def IsByte (c : Int) : Prop := 0 ≤ c ∧ c ≤ 255

theorem strOf_append (xs : List Int) (n : Nat) : ∀ (ys : List Int), (xs ++ [(n : Int)]) ++ ys = xs ++ (((n : Int)) :: ys) := by simp
theorem big64 {n : Nat} (h : n < 18446744073709551616) : n < 128 ^ (100 - ([] : List Int).length) := Nat.lt_of_lt_of_le h (by decide)
theorem wraps_u64 (n : Int) (h₀ : 0 ≤ n) (h₁ : n < 2 ^ 64) : IntKind.u64.wrap n = n := by rw [IntKind.wrap_u64]; omega
theorem or_low (a b i : Nat) (hi : i ≤ 63) (ha : a < 2 ^ i) (hb : b * 2 ^ i < 18446744073709551616) : bitsR .or .u64 (a : Int) ((b * 2 ^ i : Nat) : Int) = ((a + b * 2 ^ i : Nat) : Int) := by
  have ha' : a < 2 ^ 64 := Nat.lt_of_lt_of_le ha (Nat.pow_le_pow_right (by decide) (by omega))
  rw [show bitsR .or .u64 (a : Int) ((b * 2 ^ i : Nat) : Int) = _ from (bits_nat .u64 64 (by decide) wraps_u64 a (b * 2 ^ i) ha' hb).2]
  congr 1
  rw [Nat.or_comm, Nat.mul_comm b, ← Nat.two_pow_add_eq_or_of_lt ha b, Nat.add_comm]
theorem and127 (c : Int) (h0 : 0 ≤ c) (h1 : c ≤ 255) : bitsR .and .u8 c 127 = c % 128 := bits_mask .u8 8 (by decide) wraps_u8 7 (by decide) c h0 (by omega)
theorem or7 (acc i : Nat) (c : Int) (h0 : 0 ≤ c) (h1 : c ≤ 255) (hi : i ≤ 9) (hacc : acc < 128 ^ i) (h9 : i = 9 → c ≤ 1) :
    bitsR .or .u64 (acc : Int) (shlR .u64 (IntKind.u64.wrap (bitsR .and .u8 c 127)) (IntKind.u64.wrap (IntKind.i64.wrap (7 * (i : Int))))) = ((acc + (c.toNat % 128) * 128 ^ i : Nat) : Int) := by
  rw [and127 c h0 h1, w64 (by omega) (by omega), wraps_u64 (7 * (i : Int)) (by omega) (by omega), wraps_u64 (c % 128) (by omega) (by omega)]
  have hp : 128 ^ i = 2 ^ (7 * i) := by rw [Nat.pow_mul]
  have hb : (c.toNat % 128) * 2 ^ (7 * i) < 18446744073709551616 := by
    rw [← hp]
    rcases Nat.lt_or_ge i 9 with h | h
    · have h2 : 128 ^ i ≤ 128 ^ 8 := Nat.pow_le_pow_right (by decide) (by omega)
      have h3 : (c.toNat % 128) * 128 ^ i ≤ 127 * 128 ^ 8 := Nat.mul_le_mul (by omega) h2
      exact Nat.lt_of_le_of_lt h3 (by decide)
    · obtain rfl : i = 9 := by omega
      have h3 := h9 rfl
      have h4 : (c.toNat % 128) * 128 ^ 9 ≤ 1 * 128 ^ 9 := Nat.mul_le_mul (by omega) (Nat.le_refl _)
      exact Nat.lt_of_le_of_lt h4 (by decide)
  have hs : shlR .u64 (c % 128) (7 * (i : Int)) = (((c.toNat % 128) * 2 ^ (7 * i) : Nat) : Int) := by
    unfold shlR
    rw [show (7 * (i : Int)).toNat = 7 * i from by omega, Nat.min_eq_left (show 7 * i ≤ IntKind.u64.bits from by show 7 * i ≤ 64; omega)]
    rw [show (c % 128) = ((c.toNat % 128 : Nat) : Int) from by omega]
    have : (((c.toNat % 128 : Nat) : Int) * 2 ^ (7 * i)) = (((c.toNat % 128) * 2 ^ (7 * i) : Nat) : Int) := by simp
    rw [this]
    exact wraps_u64 _ (by omega) (by exact_mod_cast hb)
  rw [hs, or_low acc _ (7 * i) (by omega) (by rw [← hp]; exact hacc) hb, hp]
theorem bt_eq {s : ByteArray} {j : Nat} (h : j < s.size) : bt s (j : Int) = (bytesOf s)[j]'(by rw [bytesOf_length]; exact h) := by
  unfold bt bytesOf
  rw [dif_pos (by simpa using h)]
  simp only [List.getElem_map, Int.toNat_natCast]
  rfl
theorem bt_byte (s : ByteArray) (i : Int) : IsByte (bt s i) := by
  unfold bt IsByte
  split
  · rename_i h; have := (s[i.toNat]'h).toNat_lt; omega
  · omega
theorem bytes_drop {s : ByteArray} {j : Nat} (h : j < s.size) : (bytesOf s).drop j = bt s (j : Int) :: (bytesOf s).drop (j + 1) := by
  have hl : j < (bytesOf s).length := by rw [bytesOf_length]; exact h
  rw [List.drop_eq_getElem_cons hl, bt_eq h]
theorem shr7 {c : Int} (h0 : 0 ≤ c) (k : IntKind) (hk : 7 ≤ k.bits) : shrR k c 7 = c / 128 := by
  unfold shrR
  rw [show (7 : Int).toNat = 7 from rfl, Nat.min_eq_left hk, Int.fdiv_eq_ediv_of_nonneg _ (by decide)]
  rfl
theorem or128 (n : Nat) : bitsR .or .u8 (IntKind.u8.wrap (n : Int)) 128 = ((n % 128 + 128 : Nat) : Int) := by
  have e3 : IntKind.u8.wrap (n : Int) = ((n % 256 : Nat) : Int) := by rw [IntKind.wrap_u8]; omega
  have e4 : bitsR .or .u8 ((n % 256 : Nat) : Int) ((128 : Nat) : Int) = (((n % 256) ||| 128 : Nat) : Int) := (bits_nat .u8 8 (by decide) wraps_u8 (n % 256) 128 (by omega) (by decide)).2
  rw [e3, show (128 : Int) = ((128 : Nat) : Int) from rfl, e4]
  congr 1
  have key : ∀ m : Fin 256, (m.val ||| 128) = m.val % 128 + 128 := by decide +kernel
  have := key ⟨n % 256, by omega⟩
  simp only at this
  rw [this]
  omega
theorem u8_small {n : Nat} (h : n < 256) : IntKind.u8.wrap (n : Int) = (n : Int) := by rw [IntKind.wrap_u8]; omega
theorem ref7 (acc i : Nat) (c : Int) (h0 : 0 ≤ c) (h1 : c ≤ 255) (hi : i ≤ 9) (hacc : acc < 128 ^ i) (h9 : i = 9 → c ≤ 1) :
    IntKind.u64.wrap ((acc : Int) + (IntKind.u64.wrap ((IntKind.u64.wrap (Int.tmod c 128)) * ((128 ^ i : Nat) : Int)))) = ((acc + (c.toNat % 128) * 128 ^ i : Nat) : Int) := by
  have e0 : Int.tmod c 128 = ((c.toNat % 128 : Nat) : Int) := by rw [Int.tmod_eq_emod_of_nonneg h0]; omega
  rw [e0, wraps_u64 ((c.toNat % 128 : Nat) : Int) (by omega) (by omega)]
  have hb : acc + (c.toNat % 128) * 128 ^ i < 18446744073709551616 := by
    rcases Nat.lt_or_ge i 9 with h | h
    · have h2 : 128 ^ i ≤ 128 ^ 8 := Nat.pow_le_pow_right (by decide) (by omega)
      have h3 : (c.toNat % 128) * 128 ^ i ≤ 127 * 128 ^ 8 := Nat.mul_le_mul (by omega) h2
      have h4 : (127 * 128 ^ 8 + 128 ^ 8 : Nat) < 18446744073709551616 := by decide
      omega
    · obtain rfl : i = 9 := by omega
      have h3 := h9 rfl
      have h4 : (c.toNat % 128) * 128 ^ 9 ≤ 1 * 128 ^ 9 := Nat.mul_le_mul (by omega) (Nat.le_refl _)
      have h5 : (1 * 128 ^ 9 + 128 ^ 9 : Nat) ≤ 18446744073709551616 := by decide
      omega
  have e1 : (((c.toNat % 128 : Nat) : Int) * ((128 ^ i : Nat) : Int)) = (((c.toNat % 128) * 128 ^ i : Nat) : Int) := by rw [Int.natCast_mul]
  rw [e1, wraps_u64 (((c.toNat % 128) * 128 ^ i : Nat) : Int) (by omega) (by omega), wraps_u64 _ (by omega) (by omega)]
  omega
theorem putN_B (n : Nat) : AllB (putN n) := by
  induction n using Nat.strongRecOn with
  | _ n ih =>
    by_cases h : n < 128
    · rw [putN_lt h]
      exact AllB.cons (by omega) AllB.nil
    · rw [putN_ge h]
      exact AllB.cons (by omega) (ih _ (by omega))
theorem putN_pos (n : Nat) : 1 ≤ (putN n).length := by
  by_cases h : n < 128
  · rw [putN_lt h]; simp
  · rw [putN_ge h]; simp
theorem putN_len (k : Nat) : ∀ n, n < 128 ^ k → 1 ≤ k → (putN n).length ≤ k := by
  induction k with
  | zero => intro n _ h; omega
  | succ k ih =>
    intro n hn _
    by_cases h : n < 128
    · rw [putN_lt h]; simp
    · rw [putN_ge h]
      have h1 : n / 128 < 128 ^ k := by rw [Nat.pow_succ] at hn; omega
      have h2 : 1 ≤ k := by
        rcases Nat.eq_zero_or_pos k with rfl | h3
        · simp at h1; omega
        · exact h3
      simpa using ih _ h1 h2
theorem putN_len10 {n : Nat} (h : n < 18446744073709551616) : (putN n).length ≤ 10 := putN_len 10 n (Nat.lt_of_lt_of_le h (by decide)) (by omega)
/-- What is written reads back, whatever comes after. -/
theorem get_put (n : Nat) : ∀ (i acc : Nat) (more : List Int), n * 128 ^ i < 18446744073709551616 → (i = 0 ∨ 0 < n) → getN i acc (putN n ++ more) = (((acc + n * 128 ^ i : Nat) : Int), ((i + (putN n).length : Nat) : Int), 0) := by
  induction n using Nat.strongRecOn with
  | _ n ih =>
    intro i acc more hb hi
    have h9 : i = 9 → n ≤ 1 := by
      intro h
      subst h
      rcases Nat.lt_or_ge 1 n with h2 | h2
      · have h3 : 2 * 128 ^ 9 ≤ n * 128 ^ 9 := Nat.mul_le_mul (by omega) (Nat.le_refl _)
        have h4 : (2 * 128 ^ 9 : Nat) = 18446744073709551616 := by decide
        omega
      · exact h2
    by_cases h : n < 128
    · rw [putN_lt h]
      have c1 : ¬ (i = 9 ∧ ((n : Nat) : Int) > 1) := by omega
      have c2 : ((n : Nat) : Int) < 128 := by omega
      have c3 : ¬ (((n : Nat) : Int) = 0 ∧ 0 < i) := by omega
      simp only [List.cons_append, List.nil_append, getN, if_neg c1, if_pos c2, if_neg c3, Int.toNat_natCast, List.length_singleton]
    · rw [putN_ge h]
      have c1 : ¬ (i = 9 ∧ ((n % 128 + 128 : Nat) : Int) > 1) := by omega
      have c2 : ¬ ((n % 128 + 128 : Nat) : Int) < 128 := by omega
      simp only [List.cons_append, getN, if_neg c1, if_neg c2, Int.toNat_natCast, List.length_cons]
      have e1 : n % 128 + 128 - 128 = n % 128 := by omega
      have e2 : n / 128 * 128 ^ (i + 1) + n % 128 * 128 ^ i = n * 128 ^ i := by
        rw [Nat.pow_succ, ← Nat.mul_assoc, Nat.mul_right_comm, ← Nat.add_mul, Nat.div_add_mod' n 128]
      rw [e1, ih (n / 128) (by omega) (i + 1) _ more (by omega) (by omega)]
      have e3 : acc + n % 128 * 128 ^ i + n / 128 * 128 ^ (i + 1) = acc + n * 128 ^ i := by omega
      have e4 : i + 1 + (putN (n / 128)).length = i + ((putN (n / 128)).length + 1) := by omega
      rw [e3, e4]
/-- A part cut short is short. -/
theorem get_cut (n : Nat) : ∀ (i acc m : Nat), n * 128 ^ i < 18446744073709551616 → m < (putN n).length → getN i acc ((putN n).take m) = (0, 0, 20) := by
  induction n using Nat.strongRecOn with
  | _ n ih =>
    intro i acc m hb hm
    by_cases h : n < 128
    · rw [putN_lt h] at hm ⊢
      have : m = 0 := by simpa using hm
      subst this
      rfl
    · rw [putN_ge h] at hm ⊢
      cases m with
      | zero => rfl
      | succ m =>
        have h9 : ¬ i = 9 := by
          intro h9
          subst h9
          have h3 : 128 * 128 ^ 9 ≤ n * 128 ^ 9 := Nat.mul_le_mul (by omega) (Nat.le_refl _)
          have h4 : (18446744073709551616 : Nat) ≤ 128 * 128 ^ 9 := by decide
          omega
        have c1 : ¬ (i = 9 ∧ ((n % 128 + 128 : Nat) : Int) > 1) := fun h => h9 h.1
        have c2 : ¬ ((n % 128 + 128 : Nat) : Int) < 128 := by omega
        simp only [List.take_succ_cons, getN, if_neg c1, if_neg c2]
        have e2 : n / 128 * 128 ^ (i + 1) + n % 128 * 128 ^ i = n * 128 ^ i := by
          rw [Nat.pow_succ, ← Nat.mul_assoc, Nat.mul_right_comm, ← Nat.add_mul, Nat.div_add_mod' n 128]
        exact ih _ (by omega) _ _ _ (by omega) (by simpa using hm)
/-- What reads was so written. -/
theorem get_is (l : List Int) : ∀ (i acc : Nat), AllB l → i ≤ 9 →
    (∃ n more, l = putN n ++ more ∧ n < 128 ^ (9 - i) * 2 ∧ (i = 0 ∨ 0 < n) ∧ getN i acc l = (((acc + n * 128 ^ i : Nat) : Int), ((i + (putN n).length : Nat) : Int), 0)) ∨ getN i acc l = (0, 0, 20) ∨ getN i acc l = (0, 0, 21) := by
  induction l with
  | nil => intro i acc _ _; exact .inr (.inl rfl)
  | cons c t ih =>
    intro i acc hB hi
    have hc := hB c (by simp)
    by_cases h1 : i = 9 ∧ c > 1
    · exact .inr (.inr (by simp only [getN, if_pos h1]))
    · by_cases h2 : c < 128
      · by_cases h3 : c = 0 ∧ 0 < i
        · exact .inr (.inr (by simp only [getN, if_neg h1, if_pos h2, if_pos h3]))
        · refine .inl ⟨c.toNat, t, ?_, ?_, by omega, ?_⟩
          · rw [putN_lt (by omega)]
            simp
            omega
          · rcases Nat.lt_or_ge i 9 with h4 | h4
            · have h5 : 128 ^ 1 ≤ 128 ^ (9 - i) := Nat.pow_le_pow_right (by decide) (by omega)
              omega
            · obtain rfl : i = 9 := by omega
              simp
              omega
          · simp only [getN, if_neg h1, if_pos h2, if_neg h3]
            rw [putN_lt (by omega)]
            rfl
      · have h4 : i < 9 := by omega
        have e : getN i acc (c :: t) = getN (i + 1) (acc + (c.toNat - 128) * 128 ^ i) t := by simp only [getN, if_neg h1, if_neg h2]
        rw [e]
        rcases ih (i + 1) (acc + (c.toNat - 128) * 128 ^ i) (fun x hx => hB x (by simp [hx])) (by omega) with ⟨n, more, h5, h6, h7, h8⟩ | h5 | h5
        · refine .inl ⟨(c.toNat - 128) + 128 * n, more, ?_, ?_, by omega, ?_⟩
          · rw [putN_ge (by omega), h5]
            rw [show (c.toNat - 128 + 128 * n) / 128 = n from by omega, show (c.toNat - 128 + 128 * n) % 128 + 128 = c.toNat from by omega]
            simp
            omega
          · have h9 : 128 ^ (9 - i) = 128 ^ (9 - (i + 1)) * 128 := by rw [← Nat.pow_succ]; congr 1; omega
            rw [h9]
            omega
          · rw [h8, putN_ge (n := c.toNat - 128 + 128 * n) (by omega), show (c.toNat - 128 + 128 * n) / 128 = n from by omega]
            have e2 : (c.toNat - 128 + 128 * n) * 128 ^ i = (c.toNat - 128) * 128 ^ i + n * 128 ^ (i + 1) := by rw [Nat.add_mul, Nat.pow_succ]; congr 1; rw [Nat.mul_comm 128 n, Nat.mul_assoc, Nat.mul_comm 128]
            rw [e2, List.length_cons]
            have e3 : acc + (c.toNat - 128) * 128 ^ i + n * 128 ^ (i + 1) = acc + ((c.toNat - 128) * 128 ^ i + n * 128 ^ (i + 1)) := by omega
            have e4 : i + 1 + (putN n).length = i + ((putN n).length + 1) := by omega
            rw [e3, e4]
        · exact .inr (.inl h5)
        · exact .inr (.inr h5)
/-- What reads was so written: from the start. -/
theorem get_is0 {l : List Int} (hB : AllB l) : (∃ n more, l = putN n ++ more ∧ n < 18446744073709551616 ∧ getN 0 0 l = ((n : Int), ((putN n).length : Int), 0)) ∨ getN 0 0 l = (0, 0, 20) ∨ getN 0 0 l = (0, 0, 21) := by
  rcases get_is l 0 0 hB (by omega) with ⟨n, more, h1, h2, _, h3⟩ | h | h
  · refine .inl ⟨n, more, h1, Nat.lt_of_lt_of_le h2 (by decide), ?_⟩
    rw [h3]
    simp
  · exact .inr (.inl h)
  · exact .inr (.inr h)
theorem get_put0 {n : Nat} (h : n < 18446744073709551616) (more : List Int) : getN 0 0 (putN n ++ more) = ((n : Int), ((putN n).length : Int), 0) := by
  rw [get_put n 0 0 more (by simpa using h) (.inl rfl)]
  simp
theorem get_cut0 {n m : Nat} (h : n < 18446744073709551616) (hm : m < (putN n).length) : getN 0 0 ((putN n).take m) = (0, 0, 20) := get_cut n 0 0 m (by simpa using h) hm


/-! ### bytes of terms -/
/-- The first bytes of a term: its sort, and the number behind it, and an atom's own bytes. -/
def hd (n f : Int) (s : ByteArray) (len : Nat) : List Int :=
  (n % 256) :: (if n = 1 ∨ n = 3 ∨ n = 4 then putN f.toNat else if n = 2 then putN s.size ++ bytesOf s else if n = 5 then putN len else [])
mutual
def encT : S38 → List Int
  | ⟨n, f, s, l⟩ => hd n f s l.length ++ encL l
def encL : List S38 → List Int
  | [] => []
  | x :: t => encT x ++ encL t
end
theorem encT_eq (x : S38) : encT x = hd x.f0 x.f1 x.f2 x.f3.length ++ encL x.f3 := by cases x; rw [encT]; rfl
theorem encT_mk (n f : Int) (s : ByteArray) (l : List S38) : encT (S38.mk n f s l) = hd n f s l.length ++ encL l := by rw [encT]
theorem hd_B (n f : Int) (s : ByteArray) (len : Nat) : AllB (hd n f s len) := by
  unfold hd
  refine AllB.cons (by omega) ?_
  split
  · exact putN_B _
  · split
    · exact (putN_B _).app (AllB.of_bytes s)
    · split
      · exact putN_B _
      · exact AllB.nil
theorem encL_B (l : List S38) (ih : ∀ y ∈ l, AllB (encT y)) : AllB (encL l) := by
  induction l with
  | nil => rw [encL]; exact AllB.nil
  | cons x t iht =>
    rw [encL]
    exact (ih x (by simp)).app (iht (fun y hy => ih y (by simp [hy])))
theorem encT_B {x : S38} (h : okT x) : AllB (encT x) := by
  induction h with
  | @mk x h0 h1 h2 h3 h4 h5 ih =>
    rw [encT_eq]
    exact (hd_B _ _ _ _).app (encL_B _ ih)
theorem hd_len {n f : Int} {s : ByteArray} {len : Nat} (h0 : 0 ≤ f ∧ f < 18446744073709551616) (h1 : len ≤ 2513169434843) (h : one n f s len = true) : (hd n f s len).length ≤ 4011 := by
  unfold hd
  unfold one at h
  rw [List.length_cons]
  have e1 : (putN f.toNat).length ≤ 10 := putN_len10 (by omega)
  have e2 : (putN len).length ≤ 10 := putN_len10 (by omega)
  split
  · omega
  · rename_i c
    split
    · rename_i c2
      rw [if_neg (by omega), if_pos c2, decide_eq_true_eq] at h
      have e3 : (putN s.size).length ≤ 10 := putN_len10 (by omega)
      rw [List.length_append, bytesOf_length]
      omega
    · split
      · omega
      · simp
theorem encL_len (l : List S38) (ih : ∀ y ∈ l, shp y = true → (encT y).length ≤ parts y * 4011) (h : shpL l = true) : (encL l).length ≤ partsL l * 4011 := by
  induction l with
  | nil => rw [encL]; simp
  | cons x t iht =>
    rw [shpL, Bool.and_eq_true] at h
    rw [encL, partsL, List.length_append]
    have a := ih x (by simp) h.1
    have b := iht (fun y hy => ih y (by simp [hy])) h.2
    omega
theorem encT_len {x : S38} (h : okT x) (hs : shp x = true) : (encT x).length ≤ parts x * 4011 := by
  revert hs
  induction h with
  | @mk x h0 h1 h2 h3 h4 h5 ih =>
    intro hs
    rw [shp_eq, Bool.and_eq_true] at hs
    rw [encT_eq, parts_eq, List.length_append]
    have a := hd_len (wf_u64 h1) (by omega) hs.1
    have b := encL_len _ ih hs.2
    omega
theorem right_len {x : S38} (h : okT x) (hr : rightT x = 0) : (encT x).length ≤ 16044000 := by
  unfold rightT at hr
  split at hr
  · simp at hr
  · split at hr
    · simp at hr
    · split at hr
      · rename_i c1 c2 c3
        have := encT_len h c3
        omega
      · simp at hr
/-- The bytes of a term, and why there are none. -/
def encode (x : S38) : ByteArray × Int := if rightT x = 0 then (strOf (encT x), 0) else (ByteArray.empty, rightT x)


theorem put_l (n : Nat) : ∀ (xs : List Int), n < 18446744073709551616 → xs.length + 100 < 140737488355328 → n < 128 ^ (100 - xs.length) → xs.length ≤ 99 → F162_term_PutNum_l1000002 (n : Int) xs = some (strOf (xs ++ putN n), ()) := by
  induction n using Nat.strongRecOn with
  | _ n ih =>
    intro xs h64 hx hn hx2
    rw [F162_term_PutNum_l1000002_eq]
    by_cases h : n < 128
    · rw [if_neg (by omega), if_pos (by rw [List.length_singleton]; omega), putN_lt h, u8_small (by omega)]
    · rw [if_pos (by omega)]
      simp only []
      rw [if_pos (by rw [List.length_singleton]; omega), putN_ge h, or128, shr7 (by omega) _ (by decide)]
      have e1 : (n : Int) / 128 = ((n / 128 : Nat) : Int) := by omega
      rw [e1]
      have hx3 : 2 ≤ 100 - xs.length := by
        rcases Nat.lt_or_ge (100 - xs.length) 2 with h2 | h2
        · have h3 : 100 - xs.length = 1 := by omega
          rw [h3] at hn
          omega
        · exact h2
      have := ih (n / 128) (by omega) (xs ++ [((n % 128 + 128 : Nat) : Int)]) (by omega) (by simp; omega) (by
        rw [List.length_append, List.length_singleton]
        have h4 : 128 ^ (100 - xs.length) = 128 ^ (100 - (xs.length + 1)) * 128 := by rw [← Nat.pow_succ]; congr 1; omega
        rw [h4] at hn
        exact Nat.div_lt_of_lt_mul (by rw [Nat.mul_comm]; exact hn)) (by simp; omega)
      rw [List.append_assoc] at this
      exact this
theorem rput_l (n : Nat) : ∀ (xs : List Int), n < 18446744073709551616 → xs.length + 100 < 140737488355328 → n < 128 ^ (100 - xs.length) → xs.length ≤ 99 → F139_letheref02_PutNum_l1000002 (n : Int) xs = some (strOf (xs ++ putN n), ()) := by
  induction n using Nat.strongRecOn with
  | _ n ih =>
    intro xs h64 hx hn hx2
    rw [F139_letheref02_PutNum_l1000002_eq]
    by_cases h : n < 128
    · rw [if_neg (by omega), if_pos (by rw [List.length_singleton]; omega), putN_lt h, u8_small (by omega)]
    · rw [if_pos (by omega)]
      simp only []
      have e0 : Int.tmod (n : Int) 128 = ((n % 128 : Nat) : Int) := by rw [Int.tmod_eq_emod_of_nonneg (by omega)]; omega
      have e00 : Int.tdiv (n : Int) 128 = ((n / 128 : Nat) : Int) := by rw [Int.tdiv_eq_ediv_of_nonneg (by omega)]; omega
      have e1 : IntKind.u64.wrap (Int.tdiv (n : Int) 128) = ((n / 128 : Nat) : Int) := by rw [e00, IntKind.wrap_u64]; omega
      have e2 : IntKind.u8.wrap (IntKind.u64.wrap ((Int.tmod (n : Int) 128) + 128)) = ((n % 128 + 128 : Nat) : Int) := by rw [e0, IntKind.wrap_u64, IntKind.wrap_u8]; omega
      rw [if_pos (by rw [List.length_singleton]; omega), putN_ge h, e1, e2]
      have hx3 : 2 ≤ 100 - xs.length := by
        rcases Nat.lt_or_ge (100 - xs.length) 2 with h2 | h2
        · have h3 : 100 - xs.length = 1 := by omega
          rw [h3] at hn
          omega
        · exact h2
      have := ih (n / 128) (by omega) (xs ++ [((n % 128 + 128 : Nat) : Int)]) (by omega) (by simp; omega) (by
        rw [List.length_append, List.length_singleton]
        have h4 : 128 ^ (100 - xs.length) = 128 ^ (100 - (xs.length + 1)) * 128 := by rw [← Nat.pow_succ]; congr 1; omega
        rw [h4] at hn
        exact Nat.div_lt_of_lt_mul (by rw [Nat.mul_comm]; exact hn)) (by simp; omega)
      rw [List.append_assoc] at this
      exact this
theorem put_eq {n : Nat} (h : n < 18446744073709551616) : F162_term_PutNum (n : Int) = some (strOf (putN n), ()) := by rw [F162_term_PutNum_eq]; exact put_l n [] h (by simp) (big64 h) (by simp)
theorem rput_eq {n : Nat} (h : n < 18446744073709551616) : F139_letheref02_PutNum (n : Int) = some (strOf (putN n), ()) := by rw [F139_letheref02_PutNum_eq]; exact rput_l n [] h (by simp) (big64 h) (by simp)
def t3 (r : Int × Int × Int) : Int × Int × Int × Unit := (r.1, r.2.1, r.2.2, ())
theorem get_l (s : ByteArray) (hs : s.size ≤ 9223372036854775807) (d : Nat) : ∀ (i acc : Nat), i ≤ s.size → 9 - i + 1 = d → i ≤ 9 → acc < 128 ^ i → F186_term_GetNum_l1000003 s (acc : Int) (i : Int) = some (t3 (getN i acc ((bytesOf s).drop i))) := by
  induction d with
  | zero => intro i acc _ h; omega
  | succ d ih =>
    intro i acc hi hd h9 hacc
    rw [F186_term_GetNum_l1000003_eq]
    rcases Nat.lt_or_ge i s.size with hlt | hge
    · rw [if_pos (ilt hlt), if_pos (inb hlt), bytes_drop hlt]
      simp only [F186_term_GetNum_l12_eq]
      have hb := bt_byte s (i : Int)
      generalize hc : bt s (i : Int) = c at hb
      obtain ⟨h0, h1⟩ := hb
      have key : ¬ (i = 9 ∧ c > 1) → (if 0 ≤ IntKind.u64.wrap (IntKind.i64.wrap ((7 : Int) * (i : Int))) then
            if (shrR .u8 c (7 : Int)) = (0 : Int) then
              if c = (0 : Int) then
                if (0 : Int) < (i : Int) then some (0, 0, 21, ())
                else some (bitsR .or .u64 (acc : Int) (shlR .u64 (IntKind.u64.wrap (bitsR .and .u8 c (127 : Int))) (IntKind.u64.wrap (IntKind.i64.wrap ((7 : Int) * (i : Int))))), IntKind.i64.wrap ((i : Int) + (1 : Int)), 0, ())
              else some (bitsR .or .u64 (acc : Int) (shlR .u64 (IntKind.u64.wrap (bitsR .and .u8 c (127 : Int))) (IntKind.u64.wrap (IntKind.i64.wrap ((7 : Int) * (i : Int))))), IntKind.i64.wrap ((i : Int) + (1 : Int)), 0, ())
            else F186_term_GetNum_l1000003 s (bitsR .or .u64 (acc : Int) (shlR .u64 (IntKind.u64.wrap (bitsR .and .u8 c (127 : Int))) (IntKind.u64.wrap (IntKind.i64.wrap ((7 : Int) * (i : Int)))))) (IntKind.i64.wrap ((i : Int) + (1 : Int)))
          else none) = some (t3 (getN i acc (c :: (bytesOf s).drop (i + 1)))) := by
        intro hx
        have c1 : 0 ≤ IntKind.u64.wrap (IntKind.i64.wrap (7 * (i : Int))) := by rw [w64 (by omega) (by omega), wraps_u64 _ (by omega) (by omega)]; omega
        have h9' : i = 9 → c ≤ 1 := fun h => by omega
        rw [if_pos c1, or7 acc i c h0 h1 h9 hacc h9', shr7 h0 _ (by decide), getN, if_neg hx, w64s (n := 10) (by omega) (by omega)]
        by_cases h2 : c < 128
        · have c2 : c / 128 = 0 := by omega
          rw [if_pos c2, if_pos h2, Nat.mod_eq_of_lt (show c.toNat < 128 by omega)]
          by_cases h3 : c = 0
          · by_cases h4 : 0 < i
            · rw [if_pos h3, if_pos (by omega), if_pos (And.intro h3 h4)]; rfl
            · rw [if_pos h3, if_neg (by omega), if_neg (by omega)]; rfl
          · rw [if_neg h3, if_neg (by omega)]; rfl
        · have c2 : ¬ c / 128 = 0 := by omega
          rw [if_neg c2, if_neg h2, show c.toNat % 128 = c.toNat - 128 from by omega]
          have hi9 : i < 9 := by omega
          refine ih (i + 1) _ (by omega) (by omega) (by omega) ?_
          have h5 : (c.toNat - 128) * 128 ^ i ≤ 127 * 128 ^ i := Nat.mul_le_mul (by omega) (Nat.le_refl _)
          rw [Nat.pow_succ]
          omega
      by_cases h : i = 9
      · rw [if_pos (by omega)]
        by_cases hx : c > 1
        · rw [if_pos (by omega), getN, if_pos ⟨h, hx⟩]; rfl
        · rw [if_neg (by omega)]; exact key (fun hh => hx hh.2)
      · rw [if_neg (by omega)]; exact key (fun hh => h hh.1)
    · rw [if_neg (by omega), List.drop_eq_nil_of_le (by rw [bytesOf_length]; exact hge)]; rfl
theorem get_eq (s : ByteArray) (hs : s.size ≤ 9223372036854775807) : F186_term_GetNum s = some (t3 (getN 0 0 (bytesOf s))) := by rw [F186_term_GetNum_eq]; exact get_l s hs 10 0 0 (by omega) rfl (by omega) (by decide)
theorem rget_l (s : ByteArray) (hs : s.size ≤ 9223372036854775807) (d : Nat) : ∀ (i acc : Nat), i ≤ s.size → 9 - i + 1 = d → i ≤ 9 → acc < 128 ^ i → F165_letheref02_GetNum_l1000004 s (acc : Int) ((128 ^ i : Nat) : Int) (i : Int) = some (t3 (getN i acc ((bytesOf s).drop i))) := by
  induction d with
  | zero => intro i acc _ h; omega
  | succ d ih =>
    intro i acc hi hd h9 hacc
    rw [F165_letheref02_GetNum_l1000004_eq]
    rcases Nat.lt_or_ge i s.size with hlt | hge
    · rw [if_pos (ilt hlt), if_pos (by omega : (i : Int) < 10), bytes_drop hlt]
      simp only [F165_letheref02_GetNum_l13_eq, if_pos (inb hlt)]
      have hb := bt_byte s (i : Int)
      generalize hc : bt s (i : Int) = c at hb
      obtain ⟨h0, h1⟩ := hb
      have key : ¬ (i = 9 ∧ c > 1) → (if c < (128 : Int) then
              if c = (0 : Int) then
                if (0 : Int) < (i : Int) then some (0, 0, 21, ())
                else some (IntKind.u64.wrap ((acc : Int) + (IntKind.u64.wrap ((IntKind.u64.wrap (Int.tmod c 128)) * ((128 ^ i : Nat) : Int)))), IntKind.i64.wrap ((i : Int) + (1 : Int)), 0, ())
              else some (IntKind.u64.wrap ((acc : Int) + (IntKind.u64.wrap ((IntKind.u64.wrap (Int.tmod c 128)) * ((128 ^ i : Nat) : Int)))), IntKind.i64.wrap ((i : Int) + (1 : Int)), 0, ())
            else F165_letheref02_GetNum_l1000004 s (IntKind.u64.wrap ((acc : Int) + (IntKind.u64.wrap ((IntKind.u64.wrap (Int.tmod c 128)) * ((128 ^ i : Nat) : Int))))) (IntKind.u64.wrap (((128 ^ i : Nat) : Int) * (128 : Int))) (IntKind.i64.wrap ((i : Int) + (1 : Int)))) = some (t3 (getN i acc (c :: (bytesOf s).drop (i + 1)))) := by
        intro hx
        have h9' : i = 9 → c ≤ 1 := fun h => by omega
        rw [ref7 acc i c h0 h1 h9 hacc h9', getN, if_neg hx, w64s (n := 10) (by omega) (by omega)]
        by_cases h2 : c < 128
        · rw [if_pos h2, if_pos h2, Nat.mod_eq_of_lt (show c.toNat < 128 by omega)]
          by_cases h3 : c = 0
          · by_cases h4 : 0 < i
            · rw [if_pos h3, if_pos (by omega), if_pos (And.intro h3 h4)]; rfl
            · rw [if_pos h3, if_neg (by omega), if_neg (by omega)]; rfl
          · rw [if_neg h3, if_neg (by omega)]; rfl
        · rw [if_neg h2, if_neg h2, show c.toNat % 128 = c.toNat - 128 from by omega]
          have hi9 : i < 9 := by omega
          have hp : IntKind.u64.wrap (((128 ^ i : Nat) : Int) * (128 : Int)) = ((128 ^ (i + 1) : Nat) : Int) := by
            have h5 : 128 ^ (i + 1) ≤ 128 ^ 9 := Nat.pow_le_pow_right (by decide) (by omega)
            have h6 : (128 ^ 9 : Nat) < 18446744073709551616 := by decide
            have h7 : (((128 ^ i : Nat) : Int) * (128 : Int)) = ((128 ^ (i + 1) : Nat) : Int) := by rw [Nat.pow_succ, Int.natCast_mul]; rfl
            rw [h7]
            exact wraps_u64 _ (by omega) (by omega)
          rw [hp]
          refine ih (i + 1) _ (by omega) (by omega) (by omega) ?_
          have h5 : (c.toNat - 128) * 128 ^ i ≤ 127 * 128 ^ i := Nat.mul_le_mul (by omega) (Nat.le_refl _)
          rw [Nat.pow_succ]
          omega
      by_cases h : i = 9
      · rw [if_pos (by omega)]
        by_cases hx : c > 1
        · rw [if_pos (by omega), getN, if_pos ⟨h, hx⟩]; rfl
        · rw [if_neg (by omega)]; exact key (fun hh => hx hh.2)
      · rw [if_neg (by omega)]; exact key (fun hh => h hh.1)
    · rw [if_neg (by omega), List.drop_eq_nil_of_le (by rw [bytesOf_length]; exact hge)]; rfl
theorem rget_eq (s : ByteArray) (hs : s.size ≤ 9223372036854775807) : F165_letheref02_GetNum s = some (t3 (getN 0 0 (bytesOf s))) := by rw [F165_letheref02_GetNum_eq]; exact rget_l s hs 10 0 0 (by omega) rfl (by omega) (by decide)

abbrev bigL : Nat := 2513169434843
theorem parts_l (l : List S38) (hl : l.length ≤ bigL) (ih : ∀ x ∈ l, ∀ m : Nat, 1 ≤ m → m ≤ 1000000 → F127_term_parts (S38.f0 x) (S38.f1 x) (S38.f2 x) (S38.f3 x) (m : Int) = some (((min (parts x) m : Nat) : Int), ())) (m : Nat) (hm : m ≤ 1000000) : ∀ k i n, l.length - i = k → i ≤ l.length → n ≤ m → 1 ≤ n →
    F127_term_parts_l1000003 (m : Int) (n : Int) l (l.length : Int) (i : Int) = some (((min (n + partsL (l.drop i)) m : Nat) : Int), ()) := by
  intro k
  induction k with
  | zero =>
    intro i n hk hi hn h1
    rw [F127_term_parts_l1000003_eq, if_neg (by omega), List.drop_of_length_le (by omega)]
    exact oi_eq (by simp only [partsL]; omega)
  | succ k ihk =>
    intro i n hk hi hn h1
    simp only [bigL] at hl
    rw [F127_term_parts_l1000003_eq, if_pos (ilt (by omega)), if_pos (inb (by omega)), drop_rd (z := S38.z) (by omega : i < l.length)]
    by_cases c1 : m ≤ n
    · rw [if_pos (by omega)]
      exact oi_eq (by simp only [partsL]; omega)
    · rw [if_neg (by omega), w64 (by omega) (by omega), show (m : Int) - (n : Int) = ((m - n : Nat) : Int) by omega, rd_lt (by omega : i < l.length), ih _ (List.getElem_mem _) _ (by omega) (by omega), Option.bind_some, w64s (n := l.length) (by omega) (by omega)]
      generalize hp : parts l[i] = p
      have hp1 : 1 ≤ p := by rw [← hp]; exact parts_pos _
      rw [w64 (by omega) (by omega), show (n : Int) + ((min p (m - n) : Nat) : Int) = ((n + min p (m - n) : Nat) : Int) by omega, ihk (i + 1) _ (by omega) (by omega) (by omega) (by omega)]
      exact oi_eq (by simp only [partsL, hp]; omega)
theorem parts_f {x : S38} (h : okT x) : ∀ m : Nat, 1 ≤ m → m ≤ 1000000 → F127_term_parts (S38.f0 x) (S38.f1 x) (S38.f2 x) (S38.f3 x) (m : Int) = some (((min (parts x) m : Nat) : Int), ()) := by
  induction h with
  | @mk x h0 h1 h2 h3 h4 h5 ih =>
    intro m hm hm2
    rw [F127_term_parts_eq, parts_eq]
    exact parts_l (S38.f3 x) (by simp only [bigL]; omega) ih m hm2 _ 0 1 rfl (by omega) hm (by omega)
theorem deep_l (l : List S38) (hl : l.length ≤ bigL) (m : Nat) (hm : m ≤ 1000000) (hm2 : 2 ≤ m) (ih : ∀ x ∈ l, F128_term_deep (S38.f0 x) (S38.f1 x) (S38.f2 x) (S38.f3 x) ((m - 1 : Nat) : Int) = some (((min (depth x) (m - 1) : Nat) : Int), ())) : ∀ k i n, l.length - i = k → i ≤ l.length → n ≤ m - 1 →
    F128_term_deep_l1000004 (m : Int) (n : Int) l (l.length : Int) (i : Int) = some (((min (1 + max n (depthL (l.drop i))) m : Nat) : Int), ()) := by
  intro k
  induction k with
  | zero =>
    intro i n hk hi hn
    rw [F128_term_deep_l1000004_eq, if_neg (by omega), List.drop_of_length_le (by omega), w64 (by omega) (by omega)]
    exact oi_eq (by simp only [depthL]; omega)
  | succ k ihk =>
    intro i n hk hi hn
    simp only [bigL] at hl
    rw [F128_term_deep_l1000004_eq, if_pos (ilt (by omega)), if_pos (inb (by omega)), drop_rd (z := S38.z) (by omega : i < l.length), w64p (by omega) (by omega), rd_lt (by omega : i < l.length), ih _ (List.getElem_mem _), Option.bind_some, w64s (n := l.length) (by omega) (by omega)]
    generalize hp : depth l[i] = p
    rw [show mx (n : Int) ((min p (m - 1) : Nat) : Int) = ((max n (min p (m - 1)) : Nat) : Int) by unfold mx; split <;> omega, ihk (i + 1) _ (by omega) (by omega) (by omega)]
    exact oi_eq (by simp only [depthL, hp]; omega)
theorem deep_f {x : S38} (h : okT x) : ∀ m : Nat, 1 ≤ m → m ≤ 1000000 → F128_term_deep (S38.f0 x) (S38.f1 x) (S38.f2 x) (S38.f3 x) (m : Int) = some (((min (depth x) m : Nat) : Int), ()) := by
  induction h with
  | @mk x h0 h1 h2 h3 h4 h5 ih =>
    intro m hm hm2
    rw [F128_term_deep_eq, depth_eq]
    by_cases c1 : m = 1
    · rw [if_neg (by omega), w64 (by omega) (by omega)]
      exact oi_eq (by omega)
    · rw [if_pos (by omega)]
      have := deep_l (S38.f3 x) (by simp only [bigL]; omega) m hm2 (by omega) (fun y hy => ih y hy (m - 1) (by omega) (by omega)) _ 0 0 rfl (by omega) (by omega)
      rw [show F128_term_deep_l1000004 (m : Int) 0 (S38.f3 x) ((S38.f3 x).length : Int) 0 = _ from this]
      exact oi_eq (by simp only [List.drop_zero]; omega)
/-! shapes -/
theorem index_l (l : List S38) (hl : l.length ≤ bigL) (ih : ∀ x ∈ l, F129_term_shaped (S38.f0 x) (S38.f1 x) (S38.f2 x) (S38.f3 x) = some (shp x, ())) : ∀ k i, l.length - i = k → i ≤ l.length →
    ∃ n : Int, F185_slices_IndexFunc_157_l1000002 l (l.length : Int) (i : Int) = some (n, ()) ∧ (0 ≤ n ↔ shpL (l.drop i) = false) := by
  intro k
  induction k with
  | zero =>
    intro i hk hi
    rw [F185_slices_IndexFunc_157_l1000002_eq, if_neg (by omega), List.drop_of_length_le (by omega)]
    exact ⟨-1, rfl, by simp [shpL]⟩
  | succ k ihk =>
    intro i hk hi
    simp only [bigL] at hl
    rw [F185_slices_IndexFunc_157_l1000002_eq, if_pos (ilt (by omega)), if_pos (inb (by omega)), drop_rd (z := S38.z) (by omega : i < l.length), rd_lt (by omega : i < l.length), F157_term_shaped_1_eq, ih _ (List.getElem_mem _), Option.bind_some, Option.bind_some, w64s (n := l.length) (by omega) (by omega)]
    obtain ⟨n, q1, q2⟩ := ihk (i + 1) (by omega) (by omega)
    rw [q1]
    cases hs : shp l[i] with
    | true => exact ⟨n, by simp, by rw [q2]; simp [shpL, hs]⟩
    | false => exact ⟨i, by simp, by simp [shpL, hs]⟩
theorem shaped_f {x : S38} (h : okT x) : F129_term_shaped (S38.f0 x) (S38.f1 x) (S38.f2 x) (S38.f3 x) = some (shp x, ()) := by
  induction h with
  | @mk x h0 h1 h2 h3 h4 h5 ih =>
    have hb : ∀ b : Bool, F129_term_shaped_l12 b (S38.f0 x) (S38.f1 x) (S38.f2 x) (S38.f3 x) = some (b && shpL (S38.f3 x), ()) := by
      intro b
      obtain ⟨n, q1, q2⟩ := index_l (S38.f3 x) (by simp only [bigL]; omega) ih _ 0 rfl (by omega)
      rw [List.drop_zero] at q2
      rw [F129_term_shaped_l12_eq, F156_slices_ContainsFunc_157_eq, F185_slices_IndexFunc_157_eq, show F185_slices_IndexFunc_157_l1000002 (S38.f3 x) ((S38.f3 x).length : Int) 0 = _ from q1]
      cases b with
      | false => simp
      | true =>
        simp only [Option.bind_some, if_true, Bool.true_and]
        apply ob_eq
        · intro hh; cases hs : shpL (S38.f3 x) with
          | true => rfl
          | false => have := q2.2 hs; simp at hh; omega
        · intro hh; simp; by_cases c1 : 0 ≤ n
          · rw [q2.1 c1] at hh; cases hh
          · omega
    rw [F129_term_shaped_eq, shp_eq]
    simp only [hb]
    repeat' (refine ite_to (fun _ => ?_) (fun _ => ?_))
    all_goals (refine congrArg (fun b => some (b && shpL (S38.f3 x), ())) (Bool.eq_iff_iff.2 ?_) ; constructor <;> intro hh <;> simp only [one, str_nil_iff] at hh ⊢ <;> simp_all <;> omega)
theorem right_f {x : S38} (h : okT x) : F82_term_Right (S38.f0 x) (S38.f1 x) (S38.f2 x) (S38.f3 x) = some (rightT x, ()) := by
  have h1 := parts_f h 4001 (by omega) (by omega)
  have h2 := deep_f h 13 (by omega) (by omega)
  rw [F82_term_Right_eq, show F127_term_parts (S38.f0 x) (S38.f1 x) (S38.f2 x) (S38.f3 x) 4001 = _ from h1, show F128_term_deep (S38.f0 x) (S38.f1 x) (S38.f2 x) (S38.f3 x) 13 = _ from h2, shaped_f h]
  simp only [Option.bind_some]
  unfold rightT
  by_cases c1 : 4000 < parts x
  · rw [if_pos (by omega), if_pos c1]
  · rw [if_neg (by omega), if_neg c1]
    by_cases c2 : 12 < depth x
    · rw [if_pos (by omega), if_pos c2]
    · rw [if_neg (by omega), if_neg c2]
      cases shp x <;> simp
theorem u8_mod (n : Int) : IntKind.u8.wrap n = n % 256 := by rw [IntKind.wrap_u8]
theorem write_l (l : List S38) (hl : l.length ≤ bigL) (ih : ∀ y ∈ l, ∀ b : List Int, b.length + (encT y).length ≤ 140737488355328 → F138_term_write (S38.f0 y) (S38.f1 y) (S38.f2 y) (S38.f3 y) b = some (b ++ encT y, ())) : ∀ (d i : Nat) (b : List Int), l.length - i = d → i ≤ l.length → b.length + (encL (l.drop i)).length ≤ 140737488355328 →
    F138_term_write_l1000012 l (l.length : Int) (i : Int) b = some (b ++ encL (l.drop i), ()) := by
  simp only [bigL] at hl
  intro d
  induction d with
  | zero =>
    intro i b hd hi hb
    rw [F138_term_write_l1000012_eq, if_neg (by omega), List.drop_eq_nil_of_le (by omega), encL, List.append_nil]
  | succ d ihd =>
    intro i b hd hi hb
    rw [List.drop_eq_getElem_cons (by omega : i < l.length), encL] at hb ⊢
    rw [List.length_append] at hb
    rw [F138_term_write_l1000012_eq, if_pos (ilt (by omega)), if_pos (inb (by omega)), rd_lt (by omega : i < l.length), ih _ (List.getElem_mem _) b (by omega), Option.bind_some, w64s (n := l.length) (by omega) (by omega), ihd (i + 1) _ (by omega) (by omega) (by rw [List.length_append]; omega), List.append_assoc]
theorem write_eq {x : S38} (h : okT x) : ∀ b : List Int, b.length + (encT x).length ≤ 140737488355328 → F138_term_write (S38.f0 x) (S38.f1 x) (S38.f2 x) (S38.f3 x) b = some (b ++ encT x, ()) := by
  induction h with
  | @mk x h0 h1 h2 h3 h4 h5 ih =>
    intro b hb
    have hu := wf_u64 h1
    obtain ⟨f, hf⟩ : ∃ f : Nat, S38.f1 x = (f : Int) := ⟨(S38.f1 x).toNat, by omega⟩
    rw [encT_eq] at hb ⊢
    generalize hn : S38.f0 x = n at *
    generalize hs : S38.f2 x = s at *
    generalize hL : S38.f3 x = l at *
    rw [hf] at hb ⊢
    rw [List.length_append] at hb
    have W : ∀ (c : List Int), c.length + (encL l).length ≤ 140737488355328 → F138_term_write_l11 c n (f : Int) s l = some (c ++ encL l, ()) := by
      intro c hc
      rw [F138_term_write_l11_eq]
      have := write_l l (by simp only [bigL]; omega) ih _ 0 c rfl (by omega) (by simpa using hc)
      simpa using this
    unfold hd at hb ⊢
    rw [List.length_cons] at hb
    have hz : (f : Int).toNat = f := Int.toNat_natCast f
    rw [hz] at hb ⊢
    have hp1 : ∀ (p : List Int), ((b ++ [n % 256]).length + p.length) * 1 = b.length + 1 + p.length := by intro p; rw [List.length_append, List.length_singleton]; omega
    rw [F138_term_write_eq, u8_mod, if_pos (by rw [List.length_singleton]; omega), put_eq (by omega), wraps_u64 (s.size : Int) (by omega) (by omega), wraps_u64 (l.length : Int) (by omega) (by omega), put_eq (by omega), put_eq (by omega)]
    simp only [Option.bind_some, bytesOf_str (putN_B _)]
    by_cases c1 : n = 1
    · rw [if_pos (Or.inl c1)] at hb ⊢
      rw [if_pos c1, if_pos c1, if_pos (by rw [hp1]; omega), W _ (by simp only [List.length_append, List.length_singleton]; omega)]; simp
    · rw [if_neg c1]
      by_cases c3 : n = 3
      · rw [if_pos (Or.inr (Or.inl c3))] at hb ⊢
        rw [if_pos c3, if_pos c3, if_pos (by rw [hp1]; omega), W _ (by simp only [List.length_append, List.length_singleton]; omega)]; simp
      · rw [if_neg c3]
        by_cases c4 : n = 4
        · rw [if_pos (Or.inr (Or.inr c4))] at hb ⊢
          rw [if_pos c4, if_pos (by rw [hp1]; omega), W _ (by simp only [List.length_append, List.length_singleton]; omega)]; simp
        · have cn : ¬ (n = 1 ∨ n = 3 ∨ n = 4) := by omega
          rw [if_neg cn] at hb ⊢
          rw [if_neg c4]
          by_cases c2 : n = 2
          · rw [if_pos c2] at hb ⊢
            rw [List.length_append, bytesOf_length] at hb
            rw [if_pos c2, if_pos (by rw [hp1]; omega), if_pos (by rw [List.length_append, List.length_append, List.length_singleton, bytesOf_length]; omega), W _ (by simp only [List.length_append, List.length_singleton, bytesOf_length]; omega)]; simp
          · rw [if_neg c2] at hb ⊢
            rw [if_neg c2]
            by_cases c5 : n = 5
            · rw [if_pos c5] at hb ⊢
              rw [if_pos c5, if_pos (by rw [hp1]; omega), W _ (by simp only [List.length_append, List.length_singleton]; omega)]; simp
            · rw [if_neg c5] at hb ⊢
              rw [if_neg c5, W _ (by simp only [List.length_append, List.length_singleton]; simp only [List.length_nil] at hb; omega)]; simp
theorem encode_eq {x : S38} (h : okT x) : F93_term_Encode (S38.f0 x) (S38.f1 x) (S38.f2 x) (S38.f3 x) = some ((encode x).1, (encode x).2, ()) := by
  rw [F93_term_Encode_eq, right_f h, Option.bind_some]
  unfold encode
  by_cases c : rightT x = 0
  · have := right_len h c
    rw [if_neg (fun hh => hh c), if_pos c, write_eq h [] (by simp; omega)]; rfl
  · rw [if_pos c, if_neg c]
theorem rbytes_l (l : List S38) (hl : l.length ≤ bigL) (ih : ∀ y ∈ l, (encT y).length ≤ 140737488355328 → F96_letheref02_Bytes (S38.f0 y) (S38.f1 y) (S38.f2 y) (S38.f3 y) = some (strOf (encT y), ())) : ∀ (d i : Nat) (b : List Int), l.length - i = d → i ≤ l.length → b.length + (encL (l.drop i)).length ≤ 140737488355328 →
    F96_letheref02_Bytes_l1000012 (strOf b) l (l.length : Int) (i : Int) = some (strOf (b ++ encL (l.drop i)), ()) := by
  simp only [bigL] at hl
  intro d
  induction d with
  | zero =>
    intro i b hd hi hb
    rw [F96_letheref02_Bytes_l1000012_eq, if_neg (by omega), List.drop_eq_nil_of_le (by omega), encL, List.append_nil]
  | succ d ihd =>
    intro i b hd hi hb
    rw [List.drop_eq_getElem_cons (by omega : i < l.length), encL] at hb ⊢
    rw [List.length_append] at hb
    rw [F96_letheref02_Bytes_l1000012_eq, if_pos (ilt (by omega)), if_pos (inb (by omega)), rd_lt (by omega : i < l.length), ih _ (List.getElem_mem _) (by omega), Option.bind_some, w64s (n := l.length) (by omega) (by omega)]
    simp only []
    rw [if_pos (by rw [size_str, size_str]; omega), ← str_append, ihd (i + 1) _ (by omega) (by omega) (by rw [List.length_append]; omega), List.append_assoc]
theorem rbytes_eq {x : S38} (h : okT x) : (encT x).length ≤ 140737488355328 → F96_letheref02_Bytes (S38.f0 x) (S38.f1 x) (S38.f2 x) (S38.f3 x) = some (strOf (encT x), ()) := by
  induction h with
  | @mk x h0 h1 h2 h3 h4 h5 ih =>
    intro hb
    have hu := wf_u64 h1
    obtain ⟨f, hf⟩ : ∃ f : Nat, S38.f1 x = (f : Int) := ⟨(S38.f1 x).toNat, by omega⟩
    rw [encT_eq] at hb ⊢
    generalize hn : S38.f0 x = n at *
    generalize hs : S38.f2 x = s at *
    generalize hL : S38.f3 x = l at *
    rw [hf] at hb ⊢
    rw [List.length_append] at hb
    have W : ∀ (c : List Int), c.length + (encL l).length ≤ 140737488355328 → F96_letheref02_Bytes_l11 (strOf c) n (f : Int) s l = some (strOf (c ++ encL l), ()) := by
      intro c hc
      rw [F96_letheref02_Bytes_l11_eq]
      have := rbytes_l l (by simp only [bigL]; omega) ih _ 0 c rfl (by omega) (by simpa using hc)
      simpa using this
    unfold hd at hb ⊢
    rw [List.length_cons] at hb
    have hz : (f : Int).toNat = f := Int.toNat_natCast f
    rw [hz] at hb ⊢
    have hst : s = strOf (bytesOf s) := (str_bytesOf s).symm
    rw [F96_letheref02_Bytes_eq, u8_mod, rput_eq (by omega), wraps_u64 (s.size : Int) (by omega) (by omega), wraps_u64 (l.length : Int) (by omega) (by omega), rput_eq (by omega), rput_eq (by omega)]
    simp only [Option.bind_some, ← str_append, size_str, List.length_singleton]
    by_cases c1 : n = 1
    · rw [if_pos (Or.inl c1)] at hb ⊢
      rw [if_pos c1, if_pos c1, if_pos (by omega), W _ (by simp only [List.length_append, List.length_singleton]; omega)]; simp
    · rw [if_neg c1]
      by_cases c3 : n = 3
      · rw [if_pos (Or.inr (Or.inl c3))] at hb ⊢
        rw [if_pos c3, if_pos c3, if_pos (by omega), W _ (by simp only [List.length_append, List.length_singleton]; omega)]; simp
      · rw [if_neg c3]
        by_cases c4 : n = 4
        · rw [if_pos (Or.inr (Or.inr c4))] at hb ⊢
          rw [if_pos c4, if_pos (by omega), W _ (by simp only [List.length_append, List.length_singleton]; omega)]; simp
        · have cn : ¬ (n = 1 ∨ n = 3 ∨ n = 4) := by omega
          rw [if_neg cn] at hb ⊢
          rw [if_neg c4]
          by_cases c2 : n = 2
          · rw [if_pos c2] at hb ⊢
            rw [List.length_append, bytesOf_length] at hb
            rw [if_pos c2, if_pos (by omega)]
            rw [if_pos (by rw [List.length_append, List.length_singleton]; omega)]
            have e1 : strOf ([n % 256] ++ putN s.size) ++ s = strOf ([n % 256] ++ putN s.size ++ bytesOf s) := by rw [str_append ([n % 256] ++ putN s.size) (bytesOf s), str_bytesOf]
            rw [e1, W _ (by simp only [List.length_append, List.length_singleton, bytesOf_length]; omega)]; simp
          · rw [if_neg c2] at hb ⊢
            rw [if_neg c2]
            by_cases c5 : n = 5
            · rw [if_pos c5] at hb ⊢
              rw [if_pos c5, if_pos (by omega), W _ (by simp only [List.length_append, List.length_singleton]; omega)]; simp
            · rw [if_neg c5] at hb ⊢
              rw [if_neg c5, W _ (by simp only [List.length_singleton]; simp only [List.length_nil] at hb; omega)]

/-! ### terms out of bytes -/
abbrev Rd (α : Type) := Except Int (α × List Int × Nat)
def rdL (f : List Int → Nat → Rd S38) : Nat → List Int → Nat → Rd (List S38)
  | 0, b, seen => .ok ([], b, seen)
  | m + 1, b, seen => match f b seen with
    | .error e => .error e
    | .ok (x, b', s') => match rdL f m b' s' with
      | .error e => .error e
      | .ok (l, b2, s2) => .ok (x :: l, b2, s2)
def bodyT (f : List Int → Nat → Rd S38) (c : Int) (n : Nat) (t : List Int) (seen : Nat) : Rd S38 :=
  if c = 1 ∨ c = 3 then .ok (⟨c, n, ByteArray.empty, []⟩, t, seen)
  else if c = 2 then (if 4000 < n then .error 25 else if t.length < n then .error 20 else .ok (⟨2, 0, strOf (t.take n), []⟩, t.drop n, seen))
  else match rdL f (if c = 4 then 1 else n) t seen with
    | .error e => .error e
    | .ok (l, b2, s2) => .ok (⟨c, if c = 4 then n else 0, ByteArray.empty, l⟩, b2, s2)
def headT (f : List Int → Nat → Rd S38) (b : List Int) (seen : Nat) : Rd S38 :=
  match b with
  | [] => .error 20
  | c :: t => if c < 1 ∨ 5 < c then .error 21 else if (getN 0 0 t).2.2 = 0 then bodyT f c (getN 0 0 t).1.toNat (t.drop (getN 0 0 t).2.1.toNat) (seen + 1) else .error (getN 0 0 t).2.2
def rdF : Nat → List Int → Nat → Rd S38
  | 0, b, seen => if 4000 ≤ seen then .error 23 else .error 22
  | D + 1, b, seen => if 4000 ≤ seen then .error 23 else headT (rdF D) b seen

theorem len_parts (l : List S38) : l.length ≤ partsL l := by
  induction l with
  | nil => simp
  | cons x t ih =>
    rw [partsL, List.length_cons]
    have := parts_pos x
    omega
/-- What is read, told of a term and of a row of terms. -/
structure Was (D : Nat) (b : List Int) (seen : Nat) (x : S38) (b' : List Int) (n : Nat) : Prop where
  enc : b = encT x ++ b'
  cnt : seen + parts x = n
  most : n ≤ 4000
  deep : depth x ≤ D
  shape : shp x = true
  ok : okT x
structure WasL (D : Nat) (b : List Int) (seen m : Nat) (l : List S38) (b' : List Int) (n : Nat) : Prop where
  enc : b = encL l ++ b'
  cnt : seen + partsL l = n
  most : n ≤ 4000
  deep : depthL l ≤ D
  shape : shpL l = true
  ok : ∀ y ∈ l, okT y
  len : l.length = m
theorem rdL_was {D : Nat} {f : List Int → Nat → Rd S38} (hf : ∀ b seen x b' n, AllB b → f b seen = .ok (x, b', n) → Was D b seen x b' n) (m : Nat) :
    ∀ b seen l b' n, AllB b → seen ≤ 4000 → rdL f m b seen = .ok (l, b', n) → WasL D b seen m l b' n := by
  induction m with
  | zero =>
    intro b seen l b' n hB hs h
    simp only [rdL, Except.ok.injEq, Prod.mk.injEq] at h
    obtain ⟨rfl, rfl, rfl⟩ := h
    exact ⟨by simp [encL], by simp [partsL], hs, by simp [depthL], by simp [shpL], by simp, rfl⟩
  | succ m ih =>
    intro b seen l b' n hB hs h
    rw [rdL] at h
    cases e1 : f b seen with
    | error e => rw [e1] at h; simp at h
    | ok r =>
      obtain ⟨x, b1, n1⟩ := r
      rw [e1] at h
      simp only at h
      have w1 := hf _ _ _ _ _ hB e1
      cases e2 : rdL f m b1 n1 with
      | error e => rw [e2] at h; simp at h
      | ok r =>
        obtain ⟨l1, b2, n2⟩ := r
        rw [e2] at h
        simp only [Except.ok.injEq, Prod.mk.injEq] at h
        obtain ⟨rfl, rfl, rfl⟩ := h
        have hB1 : AllB b1 := fun y hy => hB y (by rw [w1.enc]; simp [hy])
        have w2 := ih _ _ _ _ _ hB1 w1.most e2
        refine ⟨?_, ?_, w2.most, ?_, ?_, ?_, ?_⟩
        · rw [encL, List.append_assoc, ← w2.enc]; exact w1.enc
        · rw [partsL]; have := w1.cnt; have := w2.cnt; omega
        · rw [depthL]; have := w1.deep; have := w2.deep; omega
        · rw [shpL, w1.shape, w2.shape]; rfl
        · intro y hy
          rcases List.mem_cons.1 hy with rfl | hy
          · exact w1.ok
          · exact w2.ok y hy
        · rw [List.length_cons, w2.len]
theorem wf_nat {n : Nat} (h : n < 18446744073709551616) : (Lit.int .u64 (n : Int)).wf = true := by
  simp [Lit.wf, IntKind.min, IntKind.max, IntKind.bits, IntKind.signed]
  omega
theorem wf_kind {c : Int} (h : 1 ≤ c ∧ c ≤ 5) : (Lit.int .i64 c).wf = true := by
  simp [Lit.wf, IntKind.min, IntKind.max, IntKind.bits, IntKind.signed]
  omega
theorem rdF_was (D : Nat) : ∀ b seen x b' n, AllB b → rdF D b seen = .ok (x, b', n) → Was D b seen x b' n := by
  induction D with
  | zero =>
    intro b seen x b' n hB h
    rw [rdF] at h
    split at h <;> simp at h
  | succ D ih =>
    intro b seen x b' n hB h
    rw [rdF] at h
    split at h
    · simp at h
    · rename_i hs
      cases b with
      | nil => simp [headT] at h
      | cons c t =>
        rw [headT] at h
        split at h
        · simp at h
        · rename_i hc
          have hBt : AllB t := fun y hy => hB y (by simp [hy])
          rcases get_is0 hBt with ⟨k, more, h1, hk, h2⟩ | h2 | h2
          · rw [h2] at h
            simp only [if_true, Int.toNat_natCast] at h
            rw [show t.drop (putN k).length = more from by rw [h1]; simp] at h
            have hBm : AllB more := fun y hy => hBt y (by rw [h1]; simp [hy])
            have hcm : c % 256 = c := by omega
            unfold bodyT at h
            split at h
            · rename_i c13
              simp only [Except.ok.injEq, Prod.mk.injEq] at h
              obtain ⟨rfl, rfl, rfl⟩ := h
              refine ⟨?_, by rw [parts_eq]; simp [partsL], by omega, by rw [depth_eq]; simp [depthL], ?_, okT.leaf (wf_kind (by omega)) (wf_nat hk) (by simp [ByteArray.size])⟩
              · rw [encT_mk, hd, if_pos (show c = 1 ∨ c = 3 ∨ c = 4 by omega), hcm, h1]
                simp [encL]
              · rw [shp_mk, one, if_pos c13]
                simp [shpL, bytesOf_empty]
            · rename_i c13
              split at h
              · rename_i c2
                subst c2
                split at h
                · simp at h
                · rename_i hk2
                  split at h
                  · simp at h
                  · rename_i hk3
                    simp only [Except.ok.injEq, Prod.mk.injEq] at h
                    obtain ⟨rfl, rfl, rfl⟩ := h
                    have hsz : (strOf (more.take k)).size = k := by rw [size_str, List.length_take]; omega
                    refine ⟨?_, by rw [parts_eq]; simp [partsL], by omega, by rw [depth_eq]; simp [depthL], ?_, okT.leaf (wf_kind (by omega)) (by decide) (by rw [hsz]; omega)⟩
                    · rw [encT_mk, hd, if_neg (by simp), if_pos rfl]
                      simp only [hsz, bytesOf_str (hBm.take k), encL, List.append_nil]
                      rw [h1]
                      simp
                    · rw [shp_mk, one, if_neg (by simp), if_pos rfl]
                      simp only [hsz, shpL, Bool.and_true, decide_eq_true_eq]
                      exact ⟨trivial, by omega, rfl⟩
              · rename_i c2
                cases e1 : rdL (rdF D) (if c = 4 then 1 else k) more (seen + 1) with
                | error e => rw [e1] at h; simp at h
                | ok r =>
                  obtain ⟨l, b1, n1⟩ := r
                  rw [e1] at h
                  simp only [Except.ok.injEq, Prod.mk.injEq] at h
                  obtain ⟨rfl, rfl, rfl⟩ := h
                  have w := rdL_was ih _ _ _ _ _ _ hBm (by omega) e1
                  have hlen : l.length ≤ 4000 := by have := len_parts l; have := w.cnt; have := w.most; omega
                  refine ⟨?_, ?_, w.most, ?_, ?_, okT.mk (show (Lit.int .i64 c).wf = true from wf_kind (by omega)) (by show (Lit.int .u64 (if c = 4 then (k : Int) else 0)).wf = true; split; exact wf_nat hk; decide) (by simp [ByteArray.size]) (by show l.length * 56 ≤ _; omega) (by show l.length ≤ _; exact Nat.le_trans hlen (by decide)) w.ok⟩
                  · rw [encT_mk, hd, hcm]
                    by_cases c4 : c = 4
                    · rw [if_pos (by omega), if_pos c4, Int.toNat_natCast, h1, w.enc]
                      simp
                    · have hl := w.len
                      rw [if_neg c4] at hl
                      rw [if_neg (by omega), if_neg c2, if_pos (show c = 5 by omega), hl, h1, w.enc]
                      simp
                  · rw [parts_eq]; have := w.cnt; simp only [T_f0, T_f1, T_f2, T_f3]; omega
                  · rw [depth_eq]; have := w.deep; simp only [T_f0, T_f1, T_f2, T_f3]; omega
                  · rw [shp_mk, one]
                    simp only [if_neg c13, if_neg c2, w.shape, Bool.and_true]
                    have hl := w.len
                    by_cases c4 : c = 4
                    · rw [if_pos c4] at hl
                      simp [c4, hl, bytesOf_empty]
                    · simp only [if_neg c4, if_pos (show c = 5 by omega)]
                      simp [bytesOf_empty]
          · rw [h2] at h; simp at h
          · rw [h2] at h; simp at h
theorem rdL_reads {D : Nat} (l : List S38) (ih : ∀ y ∈ l, ∀ more seen, shp y = true → depth y ≤ D → seen + parts y ≤ 4000 → rdF D (encT y ++ more) seen = .ok (y, more, seen + parts y)) (hs : shpL l = true) (hd : depthL l ≤ D) :
    ∀ more seen, seen + partsL l ≤ 4000 → rdL (rdF D) l.length (encL l ++ more) seen = .ok (l, more, seen + partsL l) := by
  induction l with
  | nil => intro more seen _; simp [rdL, encL, partsL]
  | cons x t iht =>
    intro more seen hn
    rw [shpL, Bool.and_eq_true] at hs
    rw [depthL] at hd
    rw [partsL] at hn ⊢
    rw [encL, List.append_assoc, List.length_cons, rdL, ih x (by simp) _ _ hs.1 (by omega) (by omega)]
    simp only
    rw [iht (fun y hy => ih y (by simp [hy])) hs.2 (by omega) more (seen + parts x) (by omega)]
    simp only
    rw [Nat.add_assoc]
theorem one_kind {n f : Int} {s : ByteArray} {len : Nat} (h : one n f s len = true) : ((n = 1 ∨ n = 3) ∧ s = ByteArray.empty ∧ len = 0) ∨ (n = 2 ∧ f = 0 ∧ s.size ≤ 4000 ∧ len = 0) ∨ (n = 4 ∧ s = ByteArray.empty ∧ len = 1) ∨ (n = 5 ∧ f = 0 ∧ s = ByteArray.empty) := by
  unfold one at h
  simp only [str_nil_iff] at h
  split at h
  · rename_i c; exact .inl ⟨c, by simpa using h⟩
  · split at h
    · rename_i c; exact .inr (.inl ⟨c, by simpa using h⟩)
    · split at h
      · rename_i c; exact .inr (.inr (.inl ⟨c, by simpa using h⟩))
      · split at h
        · rename_i c; exact .inr (.inr (.inr ⟨c, by simpa using h⟩))
        · simp at h
theorem rdF_reads {x : S38} (h : okT x) : ∀ D more seen, shp x = true → depth x ≤ D → seen + parts x ≤ 4000 → rdF D (encT x ++ more) seen = .ok (x, more, seen + parts x) := by
  induction h with
  | @mk x h0 h1 h2 h3 h4 h5 ih =>
    intro D more seen hs hdp hn
    have hu := wf_u64 h1
    obtain ⟨f, hf⟩ : ∃ f : Nat, x.f1 = (f : Int) := ⟨x.f1.toNat, by omega⟩
    cases D with
    | zero => have := depth_pos x; omega
    | succ D =>
      rw [shp_eq, Bool.and_eq_true] at hs
      rw [depth_eq] at hdp
      rw [parts_eq] at hn ⊢
      have hl := rdL_reads (D := D) x.f3 (fun y hy more seen a b c => ih y hy D more seen a b c) hs.2 (by omega)
      rw [rdF, if_neg (by omega), encT_eq, hd]
      rcases one_kind hs.1 with ⟨c, e1, e2⟩ | ⟨c, e1, e2, e3⟩ | ⟨c, e1, e2⟩ | ⟨c, e1, e2⟩
      · have e3 : x.f3 = [] := List.length_eq_zero_iff.1 e2
        rw [if_pos (by omega), show x.f0 % 256 = x.f0 from by omega, hf, Int.toNat_natCast, List.append_assoc, List.cons_append, headT, if_neg (by omega), get_put0 (by omega)]
        simp only [if_true, Int.toNat_natCast]
        rw [bodyT, if_pos c, e3]
        simp only [encL, partsL, List.nil_append, List.drop_left']
        exact congrArg (fun y => Except.ok (y, more, seen + 1)) (show S38.mk (S38.f0 x) (f : Int) ByteArray.empty [] = x by rw [← hf, ← e1, ← e3, etaT])
      · have e4 : x.f3 = [] := List.length_eq_zero_iff.1 e3
        rw [if_neg (by omega), if_pos c, show x.f0 % 256 = 2 from by omega, List.append_assoc, List.cons_append, List.append_assoc, headT, if_neg (by omega), get_put0 (by omega)]
        simp only [if_true, Int.toNat_natCast]
        rw [bodyT, if_neg (by decide), if_pos rfl, if_neg (by omega), e4]
        have e5 : List.drop (putN x.f2.size).length (putN x.f2.size ++ (bytesOf x.f2 ++ (encL [] ++ more))) = bytesOf x.f2 ++ more := by simp [encL]
        rw [e5, if_neg (by rw [List.length_append, bytesOf_length]; omega), List.take_left' (bytesOf_length _), List.drop_left' (bytesOf_length _), str_bytesOf]
        simp only [partsL]
        exact congrArg (fun y => Except.ok (y, more, seen + 1)) (show S38.mk 2 0 (S38.f2 x) [] = x by rw [← c, ← e1, ← e4, etaT])
      · rw [if_pos (by omega), show x.f0 % 256 = x.f0 from by omega, hf, Int.toNat_natCast, List.append_assoc, List.cons_append, headT, if_neg (by omega), get_put0 (by omega)]
        simp only [if_true, Int.toNat_natCast]
        rw [bodyT, if_neg (by omega), if_neg (by omega), if_pos c, List.drop_left' rfl]
        have := hl more (seen + 1) (by omega)
        rw [e2] at this
        rw [this]
        simp only [if_pos c]
        rw [← hf, ← e1, etaT, Nat.add_assoc]
      · rw [if_neg (by omega), if_neg (by omega), if_pos c, show x.f0 % 256 = x.f0 from by omega, List.append_assoc, List.cons_append, headT, if_neg (by omega), get_put0 (by omega)]
        simp only [if_true, Int.toNat_natCast]
        rw [bodyT, if_neg (by omega), if_neg (by omega), if_neg (show ¬ x.f0 = 4 by omega), List.drop_left' rfl]
        rw [hl more (seen + 1) (by omega)]
        simp only [if_neg (show ¬ x.f0 = 4 by omega)]
        rw [← e1, ← e2, etaT, Nat.add_assoc]
theorem rdL_cut {D : Nat} (l : List S38) (ih : ∀ y ∈ l, ∀ m seen, shp y = true → depth y ≤ D → seen + parts y ≤ 4000 → m < (encT y).length → rdF D ((encT y).take m) seen = .error 20) (ho : ∀ y ∈ l, okT y) (hs : shpL l = true) (hd : depthL l ≤ D) :
    ∀ m seen, seen + partsL l ≤ 4000 → m < (encL l).length → rdL (rdF D) l.length ((encL l).take m) seen = .error 20 := by
  induction l with
  | nil => intro m seen _ hm; simp [encL] at hm
  | cons x t iht =>
    intro m seen hn hm
    rw [shpL, Bool.and_eq_true] at hs
    rw [depthL] at hd
    rw [partsL] at hn
    rw [encL, List.length_append] at hm
    rw [encL, List.length_cons, rdL, List.take_append]
    rcases Nat.lt_or_ge m (encT x).length with h | h
    · rw [show m - (encT x).length = 0 from by omega, List.take_zero, List.append_nil, ih x (by simp) m seen hs.1 (by omega) (by omega) h]
    · rw [List.take_of_length_le h, rdF_reads (ho x (by simp)) D _ _ hs.1 (by omega) (by omega)]
      simp only
      rw [iht (fun y hy => ih y (by simp [hy])) (fun y hy => ho y (by simp [hy])) hs.2 (by omega) (m - (encT x).length) (seen + parts x) (by omega) (by omega)]
theorem rdF_cut {x : S38} (h : okT x) : ∀ D m seen, shp x = true → depth x ≤ D → seen + parts x ≤ 4000 → m < (encT x).length → rdF D ((encT x).take m) seen = .error 20 := by
  induction h with
  | @mk x h0 h1 h2 h3 h4 h5 ih =>
    intro D m seen hs hdp hn hm
    have hu := wf_u64 h1
    obtain ⟨f, hf⟩ : ∃ f : Nat, x.f1 = (f : Int) := ⟨x.f1.toNat, by omega⟩
    cases D with
    | zero => have := depth_pos x; omega
    | succ D =>
      rw [shp_eq, Bool.and_eq_true] at hs
      rw [depth_eq] at hdp
      rw [parts_eq] at hn
      have hl := rdL_cut (D := D) x.f3 (fun y hy m seen a b c d => ih y hy D m seen a b c d) h5 hs.2 (by omega)
      rw [rdF, if_neg (by omega)]
      rw [encT_eq, hd] at hm ⊢
      cases m with
      | zero => rfl
      | succ m =>
        rw [List.cons_append, List.length_cons] at hm
        rw [List.cons_append, List.take_succ_cons]
        have num : ∀ (c : Int) (n : Nat) (rest : List Int), (1 ≤ c ∧ c ≤ 5) → n < 18446744073709551616 → m < (putN n ++ rest).length → (∀ j, j < rest.length → bodyT (rdF D) c n (rest.take j) (seen + 1) = .error 20) → headT (rdF D) (c :: (putN n ++ rest).take m) seen = .error 20 := by
          intro c n rest hc hn' hm' hb
          rw [headT, if_neg (by omega), List.take_append]
          rw [List.length_append] at hm'
          rcases Nat.lt_or_ge m (putN n).length with h | h
          · rw [show m - (putN n).length = 0 from by omega, List.take_zero, List.append_nil, get_cut0 hn' h]
            rfl
          · rw [List.take_of_length_le h, get_put0 hn']
            simp only [if_true, Int.toNat_natCast]
            rw [List.drop_left' rfl]
            exact hb _ (by omega)
        rcases one_kind hs.1 with ⟨c, e1, e2⟩ | ⟨c, e1, e2, e3⟩ | ⟨c, e1, e2⟩ | ⟨c, e1, e2⟩
        · have e3 : x.f3 = [] := List.length_eq_zero_iff.1 e2
          rw [if_pos (by omega), hf, Int.toNat_natCast, e3] at hm ⊢
          rw [show x.f0 % 256 = x.f0 from by omega]
          exact num _ _ _ (by omega) (by omega) (by omega) (fun j hj => by simp [encL] at hj)
        · have e4 : x.f3 = [] := List.length_eq_zero_iff.1 e3
          rw [if_neg (by omega), if_pos c, e4, List.append_assoc] at hm ⊢
          rw [show x.f0 % 256 = 2 from by omega]
          refine num _ _ _ (by omega) (by omega) (by omega) (fun j hj => ?_)
          rw [List.length_append, bytesOf_length] at hj
          simp only [encL, List.length_nil] at hj
          rw [bodyT, if_neg (by decide), if_pos rfl, if_neg (by omega), if_pos (by rw [List.length_take]; omega)]
        · rw [if_pos (by omega), hf, Int.toNat_natCast] at hm ⊢
          rw [show x.f0 % 256 = x.f0 from by omega]
          refine num _ _ _ (by omega) (by omega) (by omega) (fun j hj => ?_)
          rw [bodyT, if_neg (by omega), if_neg (by omega), if_pos c]
          have := hl j (seen + 1) (by omega) hj
          rw [e2] at this
          rw [this]
        · rw [if_neg (by omega), if_neg (by omega), if_pos c] at hm ⊢
          rw [show x.f0 % 256 = x.f0 from by omega]
          refine num _ _ _ (by omega) (by omega) (by omega) (fun j hj => ?_)
          rw [bodyT, if_neg (by omega), if_neg (by omega), if_neg (show ¬ x.f0 = 4 by omega), hl j (seen + 1) (by omega) hj]


theorem str_drop (l : List Int) (j : Nat) : (strOf l).extract j (strOf l).size = strOf (l.drop j) := by
  apply ByteArray.ext
  simp [strOf, List.map_drop, ByteArray.size]
  rw [List.take_of_length_le (by simp)]
theorem subS_drop (l : List Int) {i : Int} (j : Nat) (h : i = (j : Int)) : subS (strOf l) i ((strOf l).size : Int) = strOf (l.drop j) := by
  subst h; unfold subS; rw [Int.toNat_natCast, Int.toNat_natCast]; exact str_drop l j
theorem subS_take (l : List Int) {i : Int} (j : Nat) (h : i = (j : Int)) : subS (strOf l) 0 i = strOf (l.take j) := by
  subst h; unfold subS; rw [Int.toNat_natCast]; exact str_take l j
theorem bt_str {l : List Int} (h : AllB l) {j : Nat} (hj : j < l.length) : bt (strOf l) (j : Int) = l[j] := by
  rw [bt_eq (by rw [size_str]; exact hj)]
  have : bytesOf (strOf l) = l := bytesOf_str h
  simp only [this]
theorem str_empty_iff {l : List Int} (h : AllB l) : strOf l = ByteArray.empty ↔ l = [] := by
  rw [← str_nil_iff, bytesOf_str h]
/-- What both programs answer for a string. -/
def decode (b : List Int) : Int × Int × ByteArray × List S38 × Int × Unit :=
  match rdF 12 b 0 with
  | .ok (x, b', _) => if b' = [] then (S38.f0 x, S38.f1 x, S38.f2 x, S38.f3 x, 0, ()) else (0, 0, ByteArray.empty, [], 24, ())
  | .error e => (0, 0, ByteArray.empty, [], e, ())

/-! ### reading: the code -/
abbrev T7 := Int × Int × ByteArray × List S38 × Int × ByteArray × Int × Unit
def MeetsP (r : Rd S38) (a : Option T7) : Prop :=
  match r with
  | .ok (x, b', n) => a = some (S38.f0 x, S38.f1 x, S38.f2 x, S38.f3 x, 0, strOf b', (n : Int), ())
  | .error e => e ≠ 0 ∧ ∃ s' n', a = some (0, 0, ByteArray.empty, [], e, s', n', ())
def MeetsL (c0 c1 : Int) (c2 : ByteArray) (acc : List S38) (r : Rd (List S38)) (a : Option T7) : Prop :=
  match r with
  | .ok (l, b', n) => a = some (c0, c1, c2, acc ++ l, 0, strOf b', (n : Int), ())
  | .error e => e ≠ 0 ∧ ∃ s' n', a = some (0, 0, ByteArray.empty, [], e, s', n', ())
theorem u64_pred {m : Nat} (h : m + 1 < 18446744073709551616) : IntKind.u64.wrap (((m + 1 : Nat) : Int) - 1) = (m : Int) := by rw [wraps_u64 _ (by omega) (by omega)]; omega
theorem reader_l {D : Nat} {f : List Int → Nat → Rd S38} (around : Nat) (ha : around ≤ 12)
    (hf : ∀ b seen, AllB b → b.length ≤ 281474976710656 → seen ≤ 4000 → MeetsP (f b seen) (F140_term_reader_term ((around + 1 : Nat) : Int) (strOf b) (seen : Int)))
    (hw : ∀ b seen x b' n, AllB b → f b seen = .ok (x, b', n) → Was D b seen x b' n) (c0 c1 o0 o1 : Int) (c2 o2 : ByteArray) (o3 : List S38) (m : Nat) :
    ∀ b seen (acc : List S38), AllB b → b.length ≤ 281474976710656 → seen ≤ 4000 → m < 18446744073709551616 → acc.length ≤ seen →
      MeetsL c0 c1 c2 acc (rdL f m b seen) (F140_term_reader_term_l1000022 (around : Int) (m : Int) (strOf b) (seen : Int) o0 o1 o2 c0 c1 c2 o3 acc) := by
  induction m with
  | zero =>
    intro b seen acc hB hb hs hm ha
    rw [rdL]
    show _ = _
    rw [F140_term_reader_term_l1000022_eq, if_neg (by omega), List.append_nil]
  | succ m ih =>
    intro b seen acc hB hb hs hm hacc
    have h1 := hf b seen hB hb hs
    rw [rdL, F140_term_reader_term_l1000022_eq, if_pos (by omega), w64s (n := 13) (by omega) (by omega), u64_pred hm]
    cases e1 : f b seen with
    | error e =>
      rw [e1] at h1
      obtain ⟨he, s', n', hev⟩ := h1
      refine ⟨he, s', n', ?_⟩
      rw [hev, Option.bind_some, if_pos he]
    | ok r =>
      obtain ⟨x, b1, n1⟩ := r
      rw [e1] at h1
      have w := hw _ _ _ _ _ hB e1
      have hpp := parts_pos x
      have hcnt := w.cnt
      have hmost := w.most
      have hB1 : AllB b1 := fun y hy => hB y (by rw [w.enc]; simp [hy])
      have hlen : b1.length ≤ 281474976710656 := by have := congrArg List.length w.enc; rw [List.length_append] at this; omega
      have h2 : F140_term_reader_term ((around + 1 : Nat) : Int) (strOf b) (seen : Int) = some (S38.f0 x, S38.f1 x, S38.f2 x, S38.f3 x, 0, strOf b1, (n1 : Int), ()) := h1
      rw [h2, Option.bind_some, if_neg (by simp), if_pos (by rw [List.length_singleton]; omega)]
      simp only [etaT]
      have := ih b1 n1 (acc ++ [x]) hB1 hlen hmost (by omega) (by rw [List.length_append, List.length_singleton]; omega)
      cases e2 : rdL f m b1 n1 with
      | error e =>
        rw [e2] at this
        exact this
      | ok r2 =>
        obtain ⟨l, b2, n2⟩ := r2
        rw [e2] at this
        simp only [MeetsL] at this ⊢
        rw [this, List.append_assoc]; rfl
theorem MeetsP.err {s : ByteArray} {seen around e : Int} {s' : ByteArray} {n' : Int} (he : e ≠ 0) (h : F163_term_reader_head around s seen = some (0, 0, e, s', n', ())) : MeetsP (.error e) (F140_term_reader_term around s seen) := by
  refine ⟨he, s', n', ?_⟩
  rw [F140_term_reader_term_eq, h, Option.bind_some, if_pos he]
theorem reader_eq (D : Nat) : D ≤ 12 → ∀ b seen, AllB b → b.length ≤ 281474976710656 → seen ≤ 4000 → MeetsP (rdF D b seen) (F140_term_reader_term ((12 - D : Nat) : Int) (strOf b) (seen : Int)) := by
  induction D with
  | zero =>
    intro hD b seen hB hb hs
    rw [rdF]
    by_cases h1 : 4000 ≤ seen
    · rw [if_pos h1]
      exact MeetsP.err (by decide) (by rw [F163_term_reader_head_eq, if_pos (by omega)])
    · rw [if_neg h1]
      exact MeetsP.err (by decide) (by rw [F163_term_reader_head_eq, if_neg (by omega), if_pos (by omega)])
  | succ D ih =>
    intro hD b seen hB hb hs
    rw [rdF]
    by_cases h1 : 4000 ≤ seen
    · rw [if_pos h1]
      exact MeetsP.err (by decide) (by rw [F163_term_reader_head_eq, if_pos (by omega)])
    · rw [if_neg h1]
      cases b with
      | nil => rw [headT]; exact MeetsP.err (by decide) (by rw [F163_term_reader_head_eq, if_neg (by omega), if_neg (by omega), if_pos ((str_empty_iff hB).2 rfl)])
      | cons c t =>
        have hcB := hB c (by simp)
        have hBt : AllB t := fun y hy => hB y (by simp [hy])
        rw [List.length_cons] at hb
        have hsz : ((strOf (c :: t)).size : Int) = (t.length : Int) + 1 := by rw [size_str, List.length_cons]; omega
        have hbt : bt (strOf (c :: t)) 0 = c := bt_str hB (j := 0) (by simp)
        have hw : IntKind.i64.wrap c = c := w64 (by omega) (by omega)
        have h7 : IntKind.i64.wrap ((seen : Int) + 1) = ((seen + 1 : Nat) : Int) := w64s (n := 4001) (by omega) (by omega)
        have hne : ¬ strOf (c :: t) = ByteArray.empty := fun h => by have := (str_empty_iff hB).1 h; simp at this
        have hsub : subS (strOf (c :: t)) 1 ((strOf (c :: t)).size : Int) = strOf t := subS_drop (c :: t) 1 rfl
        have hd : F163_term_reader_head ((12 - (D + 1) : Nat) : Int) (strOf (c :: t)) (seen : Int) = if c < 1 then some (0, 0, 21, strOf (c :: t), ((seen + 1 : Nat) : Int), ()) else if 5 < c then some (0, 0, 21, strOf (c :: t), ((seen + 1 : Nat) : Int), ()) else
            (F186_term_GetNum (strOf t)).bind fun y1 => if ¬ y1.2.2.1 = (0 : Int) then some (0, 0, y1.2.2.1, strOf (c :: t), ((seen + 1 : Nat) : Int), ()) else
              if (0 : Int) ≤ (IntKind.i64.wrap ((1 : Int) + y1.2.1)) ∧ (IntKind.i64.wrap ((1 : Int) + y1.2.1)) ≤ ((strOf (c :: t)).size : Int) ∧ ((strOf (c :: t)).size : Int) ≤ ((strOf (c :: t)).size : Int) then some (c, y1.1, 0, subS (strOf (c :: t)) (IntKind.i64.wrap ((1 : Int) + y1.2.1)) ((strOf (c :: t)).size : Int), ((seen + 1 : Nat) : Int), ()) else none := by
          rw [F163_term_reader_head_eq, if_neg (by omega), if_neg (by omega), if_neg hne, if_pos (by omega), hbt, hw, h7, hsub, if_pos (show (0 : Int) ≤ 1 ∧ 1 ≤ ((strOf (c :: t)).size : Int) ∧ ((strOf (c :: t)).size : Int) ≤ ((strOf (c :: t)).size : Int) by omega)]
        have g := get_eq (strOf t) (by rw [size_str]; omega)
        rw [bytesOf_str hBt] at g
        rw [headT]
        by_cases h2 : c < 1 ∨ 5 < c
        · rw [if_pos h2]
          refine MeetsP.err (s' := strOf (c :: t)) (n' := ((seen + 1 : Nat) : Int)) (by decide) ?_
          rw [hd]
          by_cases h3 : c < 1
          · rw [if_pos h3]
          · rw [if_neg h3, if_pos (h2.resolve_left h3)]
        · rw [if_neg h2]
          rw [if_neg (by omega), if_neg (by omega), g, Option.bind_some] at hd
          have bad : ∀ e, getN 0 0 t = (0, 0, e) → e ≠ 0 → MeetsP (.error e) (F140_term_reader_term ((12 - (D + 1) : Nat) : Int) (strOf (c :: t)) (seen : Int)) := by
            intro e he he0
            refine MeetsP.err (s' := strOf (c :: t)) (n' := ((seen + 1 : Nat) : Int)) he0 ?_
            rw [hd, he]
            exact if_pos he0
          rcases get_is0 hBt with ⟨n, more, e1, hn, e2⟩ | e2 | e2
          · have hBm : AllB more := fun y hy => hBt y (by rw [e1]; simp [hy])
            have hlen : t.length = (putN n).length + more.length := by rw [e1, List.length_append]
            have hq := putN_len10 hn
            have w1 : IntKind.i64.wrap (1 + ((putN n).length : Int)) = ((1 + (putN n).length : Nat) : Int) := by rw [w64 (by omega) (by omega)]; omega
            have hml : more.length ≤ 281474976710656 := by omega
            have hs1 : seen + 1 ≤ 4000 := Nat.lt_of_not_le h1
            have b5 : subS (strOf (c :: t)) ((1 + (putN n).length : Nat) : Int) ((strOf (c :: t)).size : Int) = strOf more := by
              rw [subS_drop _ _ rfl, Nat.add_comm, List.drop_succ_cons, e1, List.drop_left' rfl]
            have hh : F163_term_reader_head ((12 - (D + 1) : Nat) : Int) (strOf (c :: t)) (seen : Int) = some (c, (n : Int), 0, strOf more, ((seen + 1 : Nat) : Int), ()) := by
              rw [hd, e2]
              show (if ¬ (0 : Int) = 0 then _ else _) = _
              rw [if_neg (by simp)]
              show (if (0 : Int) ≤ (IntKind.i64.wrap ((1 : Int) + ((putN n).length : Int))) ∧ (IntKind.i64.wrap ((1 : Int) + ((putN n).length : Int))) ≤ ((strOf (c :: t)).size : Int) ∧ ((strOf (c :: t)).size : Int) ≤ ((strOf (c :: t)).size : Int) then some (c, (n : Int), 0, subS (strOf (c :: t)) (IntKind.i64.wrap ((1 : Int) + ((putN n).length : Int))) ((strOf (c :: t)).size : Int), ((seen + 1 : Nat) : Int), ()) else none) = _
              rw [w1, if_pos (by omega), b5]
            rw [e2]
            simp only [if_true, Int.toNat_natCast]
            rw [show t.drop (putN n).length = more from by rw [e1, List.drop_left' rfl], F140_term_reader_term_eq, hh, Option.bind_some, if_neg (by simp)]
            dsimp only
            have hL := fun (m : Nat) (hm : m < 18446744073709551616) (c1 : Int) => reader_l (D := D) (f := rdF D) (12 - (D + 1)) (by omega) (fun b s a1 a2 a3 => by have := ih (by omega) b s a1 a2 a3; rw [show 12 - (D + 1) + 1 = 12 - D from by omega]; exact this) (rdF_was D) c c1 0 0 ByteArray.empty ByteArray.empty [] m more (seen + 1) [] hBm hml hs1 hm (by simp)
            have h0 : ∀ (c1 : Int) (c2 : ByteArray) (b2 : List Int), F140_term_reader_term_l1000022 ((12 - (D + 1) : Nat) : Int) 0 (strOf b2) ((seen + 1 : Nat) : Int) 0 0 ByteArray.empty c c1 c2 [] [] = some (c, c1, c2, [], 0, strOf b2, ((seen + 1 : Nat) : Int), ()) := by
              intro c1 c2 b2; rw [F140_term_reader_term_l1000022_eq, if_neg (by simp)]
            rw [bodyT]
            by_cases k1 : c = 1
            · rw [if_pos k1, if_pos k1, if_pos (Or.inl k1), h0]; exact rfl
            · rw [if_neg k1]
              by_cases k3 : c = 3
              · rw [if_pos k3, if_pos (Or.inr k3), h0]; exact rfl
              · rw [if_neg k3, if_neg (by omega)]
                by_cases k2 : c = 2
                · rw [if_pos k2, if_pos k2]
                  by_cases k4 : 4000 < n
                  · rw [if_pos k4, if_pos (show (4000 : Int) < (n : Int) by omega)]
                    exact ⟨by decide, _, _, rfl⟩
                  · have hu : IntKind.u64.wrap ((strOf more).size : Int) = (more.length : Int) := by rw [size_str]; exact wraps_u64 _ (by omega) (by omega)
                    have hz : ((strOf more).size : Int) = (more.length : Int) := by rw [size_str]
                    rw [if_neg k4, if_neg (show ¬ (4000 : Int) < (n : Int) by omega)]
                    simp only [hu]
                    by_cases k5 : more.length < n
                    · rw [if_pos k5, if_pos (show (more.length : Int) < (n : Int) by omega)]
                      exact ⟨by decide, _, _, rfl⟩
                    · rw [if_neg k5, if_neg (show ¬ (more.length : Int) < (n : Int) by omega), if_pos (by omega), if_pos (by omega), subS_drop _ n rfl, subS_take _ n rfl, h0]
                      subst k2; exact rfl
                · rw [if_neg k2, if_neg k2]
                  by_cases k4 : c = 4
                  · have := hL 1 (by omega) (n : Int)
                    simp only [if_pos k4]
                    cases q : rdL (rdF D) 1 more (seen + 1) with
                    | error e => rw [q] at this; obtain ⟨g1, g2, g3, g4⟩ := this; exact ⟨g1, g2, g3, g4⟩
                    | ok r =>
                      obtain ⟨l, b2, s2⟩ := r
                      rw [q] at this
                      simp only [MeetsL, MeetsP, T_f0, T_f1, T_f2, T_f3, List.nil_append] at this ⊢
                      exact this
                  · have k5 : c = 5 := by omega
                    have := hL n hn 0
                    simp only [if_neg k4, if_pos k5]
                    cases q : rdL (rdF D) n more (seen + 1) with
                    | error e => rw [q] at this; obtain ⟨g1, g2, g3, g4⟩ := this; exact ⟨g1, g2, g3, g4⟩
                    | ok r =>
                      obtain ⟨l, b2, s2⟩ := r
                      rw [q] at this
                      simp only [MeetsL, MeetsP, T_f0, T_f1, T_f2, T_f3, List.nil_append] at this ⊢
                      exact this
          · rw [e2]; exact bad 20 e2 (by decide)
          · rw [e2]; exact bad 21 e2 (by decide)
theorem decode_eq (s : ByteArray) (hs : s.size ≤ 281474976710656) : F98_term_Decode s = some (decode (bytesOf s)) := by
  have h := reader_eq 12 (by omega) (bytesOf s) 0 (AllB.of_bytes s) (by rw [bytesOf_length]; exact hs) (by omega)
  rw [str_bytesOf] at h
  rw [F98_term_Decode_eq]
  unfold decode
  cases q : rdF 12 (bytesOf s) 0 with
  | error e =>
    rw [q] at h
    obtain ⟨he, s', n', hev⟩ := h
    rw [show F140_term_reader_term 0 s 0 = _ from hev, Option.bind_some, if_pos he]
  | ok r =>
    obtain ⟨x, b', n⟩ := r
    rw [q] at h
    have w := rdF_was 12 _ _ _ _ _ (AllB.of_bytes s) q
    have hB : AllB b' := fun y hy => AllB.of_bytes s y (by rw [w.enc]; simp [hy])
    have h' : F140_term_reader_term ((12 - 12 : Nat) : Int) s ((0 : Nat) : Int) = some (S38.f0 x, S38.f1 x, S38.f2 x, S38.f3 x, 0, strOf b', (n : Int), ()) := h
    rw [show F140_term_reader_term 0 s 0 = _ from h', Option.bind_some, if_neg (by simp)]
    by_cases c1 : b' = []
    · rw [if_neg (fun hh => hh ((str_empty_iff hB).2 c1))]; simp only [if_pos c1]
    · rw [if_pos (fun hh => c1 ((str_empty_iff hB).1 hh))]; simp only [if_neg c1]

/-! ### reading: the document's -/
abbrev T8 := Int × Int × ByteArray × List S38 × Int × Int × Int × Unit
def MeetsR (tot : Nat) (r : Rd S38) (a : Option T8) : Prop :=
  match r with
  | .ok (x, b', n) => a = some (S38.f0 x, S38.f1 x, S38.f2 x, S38.f3 x, ((tot - b'.length : Nat) : Int), (n : Int), 0, ())
  | .error e => e ≠ 0 ∧ a = some (0, 0, ByteArray.empty, [], 0, 0, e, ())
def MeetsRL (tot : Nat) (c0 c1 : Int) (c2 : ByteArray) (acc : List S38) (r : Rd (List S38)) (a : Option T8) : Prop :=
  match r with
  | .ok (l, b', n) => a = some (c0, c1, c2, acc ++ l, ((tot - b'.length : Nat) : Int), (n : Int), 0, ())
  | .error e => e ≠ 0 ∧ a = some (0, 0, ByteArray.empty, [], 0, 0, e, ())
theorem u64_pred' {m : Nat} (h : m + 1 < 18446744073709551616) : IntKind.u64.wrap (((m + 1 : Nat) : Int) - 1) = (m : Int) := by rw [wraps_u64 _ (by omega) (by omega)]; omega
theorem suffix_at {B b' : List Int} {p : Nat} {e : List Int} (h : B.drop p = e ++ b') (hp : p ≤ B.length) : b' = B.drop (B.length - b'.length) ∧ b'.length ≤ B.length - p ∧ e.length + b'.length = B.length - p := by
  have h1 : b' = (B.drop p).drop e.length := by rw [h, List.drop_left' rfl]
  have h2 := congrArg List.length h
  rw [List.length_drop, List.length_append] at h2
  refine ⟨?_, by omega, by omega⟩
  rw [List.drop_drop] at h1
  rw [show B.length - b'.length = p + e.length by omega]
  exact h1
theorem more_l {D : Nat} {f : List Int → Nat → Rd S38} (B : List Int) (hB : AllB B) (around : Nat) (ha : around ≤ 12)
    (hf : ∀ p seen, p ≤ B.length → seen ≤ 4000 → MeetsR B.length (f (B.drop p) seen) (F141_letheref02_read (strOf B) (p : Int) (seen : Int) ((around + 1 : Nat) : Int)))
    (hw : ∀ b seen x b' n, AllB b → f b seen = .ok (x, b', n) → Was D b seen x b' n) (c0 c1 o0 o1 o4 o5 o6 : Int) (c2 o2 : ByteArray) (o3 : List S38) (m : Nat) :
    ∀ p seen (acc : List S38), p ≤ B.length → seen ≤ 4000 → m < 18446744073709551616 → acc.length ≤ seen →
      MeetsRL B.length c0 c1 c2 acc (rdL f m (B.drop p) seen) (F167_letheref02_more_l1000001_1 (strOf B) (m : Int) (around : Int) c0 c1 c2 (p : Int) (seen : Int) 0 o0 o1 o2 o4 o5 o6 acc o3) := by
  induction m with
  | zero =>
    intro p seen acc hp hs hm ha
    rw [rdL, F167_letheref02_more_l1000001_1_eq, if_neg (by omega)]
    show _ = _
    rw [List.append_nil, List.length_drop, show B.length - (B.length - p) = p by omega]
  | succ m ih =>
    intro p seen acc hp hs hm hacc
    have h1 := hf p seen hp hs
    rw [rdL, F167_letheref02_more_l1000001_1_eq, if_pos (by omega), w64s (n := 13) (by omega) (by omega), u64_pred' hm]
    cases e1 : f (B.drop p) seen with
    | error e =>
      rw [e1] at h1
      obtain ⟨he, hev⟩ := h1
      refine ⟨he, ?_⟩
      rw [hev, Option.bind_some, if_pos he]
    | ok r =>
      obtain ⟨x, b1, n1⟩ := r
      rw [e1] at h1
      have w := hw _ _ _ _ _ (hB.drop p) e1
      have hpp := parts_pos x
      have hcnt := w.cnt
      have hmost := w.most
      obtain ⟨s1, s2, s3⟩ := suffix_at w.enc hp
      simp only [MeetsR] at h1
      rw [h1, Option.bind_some, if_neg (by simp), if_pos (by rw [List.length_singleton]; omega)]
      simp only [etaT]
      have := ih (B.length - b1.length) n1 (acc ++ [x]) (by omega) hmost (by omega) (by rw [List.length_append, List.length_singleton]; omega)
      rw [← s1] at this
      cases e2 : rdL f m b1 n1 with
      | error e => rw [e2] at this; exact this
      | ok r2 =>
        obtain ⟨l, b2, n2⟩ := r2
        rw [e2] at this
        simp only [MeetsRL] at this ⊢
        rw [this, List.append_assoc]; rfl
theorem more_eq {D : Nat} {f : List Int → Nat → Rd S38} (B : List Int) (hB : AllB B) (around : Nat) (ha : around ≤ 12)
    (hf : ∀ p seen, p ≤ B.length → seen ≤ 4000 → MeetsR B.length (f (B.drop p) seen) (F141_letheref02_read (strOf B) (p : Int) (seen : Int) ((around + 1 : Nat) : Int)))
    (hw : ∀ b seen x b' n, AllB b → f b seen = .ok (x, b', n) → Was D b seen x b' n) (c0 c1 : Int) (c2 : ByteArray) (m : Nat) (p seen : Nat) (hp : p ≤ B.length) (hs : seen ≤ 4000) (hm : m < 18446744073709551616) :
      MeetsRL B.length c0 c1 c2 [] (rdL f m (B.drop p) seen) (F167_letheref02_more (strOf B) c0 c1 c2 (p : Int) (seen : Int) 0 (m : Int) (around : Int) []) := by
  rw [F167_letheref02_more_eq, F167_letheref02_more_l1000001_eq]
  cases m with
  | zero =>
    rw [rdL, if_neg (by omega)]
    show _ = _
    rw [List.append_nil, List.length_drop, show B.length - (B.length - p) = p by omega]
  | succ m =>
    have h1 := hf p seen hp hs
    rw [rdL, if_pos (by omega), w64s (n := 13) (by omega) (by omega), u64_pred' hm]
    cases e1 : f (B.drop p) seen with
    | error e =>
      rw [e1] at h1
      obtain ⟨he, hev⟩ := h1
      refine ⟨he, ?_⟩
      rw [hev, Option.bind_some, if_pos he]
    | ok r =>
      obtain ⟨x, b1, n1⟩ := r
      rw [e1] at h1
      have w := hw _ _ _ _ _ (hB.drop p) e1
      have hpp := parts_pos x
      have hcnt := w.cnt
      have hmost := w.most
      obtain ⟨s1, s2, s3⟩ := suffix_at w.enc hp
      simp only [MeetsR] at h1
      rw [h1, Option.bind_some, if_neg (by simp), if_pos (by simp)]
      simp only [etaT, List.nil_append]
      have := more_l B hB around ha hf hw c0 c1 0 0 0 0 0 c2 ByteArray.empty [] m (B.length - b1.length) n1 [x] (by omega) hmost (by omega) (by rw [List.length_singleton]; omega)
      rw [← s1] at this
      cases e2 : rdL f m b1 n1 with
      | error e => rw [e2] at this; exact this
      | ok r2 =>
        obtain ⟨l, b2, n2⟩ := r2
        rw [e2] at this
        exact this
theorem ext_part (B : List Int) (i n : Nat) : (strOf B).extract i (i + n) = strOf ((B.drop i).take n) := by
  apply ByteArray.ext
  simp [strOf, List.map_take, List.map_drop, List.drop_take]
theorem read_eq (B : List Int) (hB : AllB B) (hb : B.length ≤ 281474976710656) (D : Nat) : D ≤ 12 → ∀ p seen, p ≤ B.length → seen ≤ 4000 → MeetsR B.length (rdF D (B.drop p) seen) (F141_letheref02_read (strOf B) (p : Int) (seen : Int) ((12 - D : Nat) : Int)) := by
  induction D with
  | zero =>
    intro hD p seen hp hs
    rw [rdF, F141_letheref02_read_eq]
    simp only [F164_letheref02_wrong_eq, Option.bind_some]
    by_cases h1 : 4000 ≤ seen
    · rw [if_pos h1, if_pos (by omega)]; exact ⟨by decide, rfl⟩
    · rw [if_neg h1, if_neg (by omega), if_pos (by omega)]; exact ⟨by decide, rfl⟩
  | succ D ih =>
    intro hD p seen hp hs
    rw [rdF, F141_letheref02_read_eq]
    simp only [F164_letheref02_wrong_eq, Option.bind_some]
    by_cases h1 : 4000 ≤ seen
    · rw [if_pos h1, if_pos (by omega)]; exact ⟨by decide, rfl⟩
    · rw [if_neg h1, if_neg (by omega), if_neg (by omega), size_str]
      by_cases hp2 : p = B.length
      · rw [if_pos (by omega), hp2, List.drop_length, headT]; exact ⟨by decide, rfl⟩
      · have hlt : p < B.length := by omega
        rw [if_neg (by omega), if_pos (by omega), bt_str hB hlt, List.drop_eq_getElem_cons hlt]
        generalize hc : B[p] = c
        have hcB : 0 ≤ c ∧ c ≤ 255 := by rw [← hc]; exact hB _ (List.getElem_mem _)
        have hBt : AllB (B.drop (p + 1)) := hB.drop _
        have hw : IntKind.i64.wrap c = c := w64 (by omega) (by omega)
        have h7 : IntKind.i64.wrap ((seen : Int) + 1) = ((seen + 1 : Nat) : Int) := w64s (n := 4001) (by omega) (by omega)
        have hp1 : IntKind.i64.wrap ((p : Int) + 1) = ((p + 1 : Nat) : Int) := w64s (n := B.length) hlt (by omega)
        rw [hw, h7, hp1, headT]
        by_cases h2 : c < 1 ∨ 5 < c
        · rw [if_pos h2]
          by_cases h3 : c < 1
          · rw [if_pos h3]; exact ⟨by decide, rfl⟩
          · rw [if_neg h3, if_pos (h2.resolve_left h3)]; exact ⟨by decide, rfl⟩
        · have hsub : subS (strOf B) ((p + 1 : Nat) : Int) (B.length : Int) = strOf (B.drop (p + 1)) := by have := subS_drop B (p + 1) rfl; rw [size_str] at this; exact this
          have g := rget_eq (strOf (B.drop (p + 1))) (by rw [size_str, List.length_drop]; omega)
          rw [bytesOf_str hBt] at g
          rw [if_neg h2, if_neg (show ¬ c < 1 by omega), if_neg (show ¬ (5 : Int) < c by omega), hsub]
          rw [if_pos (show (0 : Int) ≤ ((p + 1 : Nat) : Int) ∧ ((p + 1 : Nat) : Int) ≤ (B.length : Int) ∧ (B.length : Int) ≤ (B.length : Int) by omega), g, Option.bind_some]
          generalize ht : B.drop (p + 1) = t at *
          have htl : t.length = B.length - (p + 1) := by rw [← ht, List.length_drop]
          rcases get_is0 hBt with ⟨n, more, e1, hn, e2⟩ | e2 | e2
          · have hlen : t.length = (putN n).length + more.length := by rw [e1, List.length_append]
            have hq := putN_len10 hn
            have hs1 : seen + 1 ≤ 4000 := Nat.lt_of_not_le h1
            have hmd : more = B.drop (p + 1 + (putN n).length) := by rw [← List.drop_drop, ht, e1, List.drop_left' rfl]
            rw [e2]
            simp only [t3, not_true_eq_false, if_false, if_true, Int.toNat_natCast]
            rw [show t.drop (putN n).length = more from by rw [e1, List.drop_left' rfl]]
            have w1 : IntKind.i64.wrap (((p + 1 : Nat) : Int) + ((putN n).length : Int)) = ((p + 1 + (putN n).length : Nat) : Int) := by rw [w64 (by omega) (by omega)]; omega
            have hq2 : p + 1 + (putN n).length ≤ B.length := by omega
            have hpos : B.length - more.length = p + 1 + (putN n).length := by omega
            rw [w1]
            have hL := fun (m : Nat) (hm : m < 18446744073709551616) (c1 : Int) => more_eq (D := D) (f := rdF D) B hB (12 - (D + 1)) (by omega) (fun q s a1 a2 => by have := ih (by omega) q s a1 a2; rw [show 12 - (D + 1) + 1 = 12 - D from by omega]; exact this) (rdF_was D) c c1 ByteArray.empty m (p + 1 + (putN n).length) (seen + 1) hq2 hs1 hm
            rw [← hmd] at hL
            rw [bodyT]
            by_cases k1 : c = 1
            · rw [if_pos k1, if_pos k1, if_pos (Or.inl k1)]
              show _ = _
              rw [hpos]; rfl
            · rw [if_neg k1]
              by_cases k3 : c = 3
              · rw [if_pos k3, if_pos (Or.inr k3)]
                show _ = _
                rw [hpos]; rfl
              · rw [if_neg k3, if_neg (by omega)]
                by_cases k2 : c = 2
                · rw [if_pos k2, if_pos k2, F166_letheref02_atom_eq]
                  simp only [F164_letheref02_wrong_eq, Option.bind_some, size_str]
                  by_cases k4 : 4000 < n
                  · rw [if_pos k4, if_pos (show (4000 : Int) < (n : Int) by omega)]
                    exact ⟨by decide, rfl⟩
                  · have u1 : IntKind.i64.wrap ((B.length : Int) - ((p + 1 + (putN n).length : Nat) : Int)) = (more.length : Int) := by rw [w64 (by omega) (by omega)]; omega
                    have u2 : IntKind.i64.wrap (n : Int) = (n : Int) := w64 (by omega) (by omega)
                    have u3 : IntKind.i64.wrap (((p + 1 + (putN n).length : Nat) : Int) + (n : Int)) = ((p + 1 + (putN n).length + n : Nat) : Int) := by rw [w64 (by omega) (by omega)]; omega
                    rw [if_neg k4, if_neg (show ¬ (4000 : Int) < (n : Int) by omega)]
                    simp only [u1, u2, u3]
                    by_cases k5 : more.length < n
                    · rw [if_pos k5, if_pos (show (more.length : Int) < (n : Int) by omega)]
                      exact ⟨by decide, rfl⟩
                    · have u4 : subS (strOf B) ((p + 1 + (putN n).length : Nat) : Int) ((p + 1 + (putN n).length + n : Nat) : Int) = strOf (more.take n) := by
                        unfold subS; rw [Int.toNat_natCast, Int.toNat_natCast, ext_part, ← hmd]
                      rw [if_neg k5, if_neg (show ¬ (more.length : Int) < (n : Int) by omega), if_pos (by omega), u4]
                      show _ = _
                      rw [List.length_drop, show B.length - (more.length - n) = p + 1 + (putN n).length + n by omega]
                      subst k2; rfl
                · rw [if_neg k2, if_neg k2]
                  by_cases k4 : c = 4
                  · have := hL 1 (by omega) (n : Int)
                    simp only [if_pos k4]
                    cases q : rdL (rdF D) 1 more (seen + 1) with
                    | error e => rw [q] at this; obtain ⟨g1, g2⟩ := this; exact ⟨g1, by rw [show F167_letheref02_more (strOf B) c (n : Int) ByteArray.empty ((p + 1 + (putN n).length : Nat) : Int) ((seen + 1 : Nat) : Int) 0 1 ((12 - (D + 1) : Nat) : Int) [] = _ from g2]; rfl⟩
                    | ok r =>
                      obtain ⟨l, b2, s2⟩ := r
                      rw [q] at this
                      simp only [MeetsRL, MeetsR, T_f0, T_f1, T_f2, T_f3, List.nil_append] at this ⊢
                      rw [show F167_letheref02_more (strOf B) c (n : Int) ByteArray.empty ((p + 1 + (putN n).length : Nat) : Int) ((seen + 1 : Nat) : Int) 0 1 ((12 - (D + 1) : Nat) : Int) [] = _ from this]
                      rfl
                  · have := hL n hn 0
                    simp only [if_neg k4]
                    cases q : rdL (rdF D) n more (seen + 1) with
                    | error e => rw [q] at this; obtain ⟨g1, g2⟩ := this; exact ⟨g1, by rw [g2]; rfl⟩
                    | ok r =>
                      obtain ⟨l, b2, s2⟩ := r
                      rw [q] at this
                      simp only [MeetsRL, MeetsR, T_f0, T_f1, T_f2, T_f3, List.nil_append] at this ⊢
                      rw [this]
                      rfl
          · rw [e2]; exact ⟨by decide, rfl⟩
          · rw [e2]; exact ⟨by decide, rfl⟩
theorem rdecode_eq (s : ByteArray) (hs : s.size ≤ 281474976710656) : F99_letheref02_Decode s = some (decode (bytesOf s)) := by
  have hl : (bytesOf s).length = s.size := bytesOf_length s
  have h := read_eq (bytesOf s) (AllB.of_bytes s) (by omega) 12 (by omega) 0 0 (by omega) (by omega)
  rw [str_bytesOf, List.drop_zero] at h
  rw [F99_letheref02_Decode_eq]
  unfold decode
  cases q : rdF 12 (bytesOf s) 0 with
  | error e =>
    rw [q] at h
    obtain ⟨he, hev⟩ := h
    rw [show F141_letheref02_read s 0 0 0 = _ from hev, Option.bind_some, if_pos he]
  | ok r =>
    obtain ⟨x, b', n⟩ := r
    rw [q] at h
    have w := rdF_was 12 _ _ _ _ _ (AllB.of_bytes s) q
    have hlen := congrArg List.length w.enc
    rw [List.length_append] at hlen
    simp only [MeetsR] at h
    rw [show F141_letheref02_read s 0 0 0 = _ from h, Option.bind_some, if_neg (by simp)]
    by_cases c1 : b' = []
    · rw [if_neg (by subst c1; simp only [List.length_nil]; omega)]; simp only [if_pos c1]
    · have : b'.length ≠ 0 := fun hh => c1 (List.eq_nil_of_length_eq_zero hh)
      rw [if_pos (by show ((((bytesOf s).length - b'.length : Nat) : Int)) < _; omega)]; simp only [if_neg c1]

theorem errNeL {f : List Int → Nat → Rd S38} {D : Nat} (hf : ∀ b seen e, AllB b → f b seen = .error e → e ≠ 0) (hw : ∀ b seen x b' n, AllB b → f b seen = .ok (x, b', n) → Was D b seen x b' n) (m : Nat) : ∀ b seen e, AllB b → rdL f m b seen = .error e → e ≠ 0 := by
  induction m with
  | zero => intro b seen e _ h; simp [rdL] at h
  | succ m ih =>
    intro b seen e hB h
    rw [rdL] at h
    cases e1 : f b seen with
    | error e' =>
      rw [e1] at h
      simp only [Except.error.injEq] at h
      subst h
      exact hf _ _ _ hB e1
    | ok r =>
      obtain ⟨x, b1, n1⟩ := r
      rw [e1] at h
      have w := hw _ _ _ _ _ hB e1
      have hB1 : AllB b1 := fun y hy => hB y (by rw [w.enc]; simp [hy])
      simp only at h
      cases e2 : rdL f m b1 n1 with
      | error e' =>
        rw [e2] at h
        simp only [Except.error.injEq] at h
        subst h
        exact ih _ _ _ hB1 e2
      | ok r => rw [e2] at h; simp at h
theorem errNe (D : Nat) : ∀ b seen e, AllB b → rdF D b seen = .error e → e ≠ 0 := by
  induction D with
  | zero =>
    intro b seen e _ h
    rw [rdF] at h
    split at h <;> (simp only [Except.error.injEq] at h; omega)
  | succ D ih =>
    intro b seen e hB h
    rw [rdF] at h
    split at h
    · simp only [Except.error.injEq] at h; omega
    · cases b with
      | nil => simp only [headT, Except.error.injEq] at h; omega
      | cons c t =>
        have hBt : AllB t := fun y hy => hB y (by simp [hy])
        rw [headT] at h
        split at h
        · simp only [Except.error.injEq] at h; omega
        · split at h
          · unfold bodyT at h
            split at h
            · simp at h
            · split at h
              · split at h
                · simp only [Except.error.injEq] at h; omega
                · split at h
                  · simp only [Except.error.injEq] at h; omega
                  · simp at h
              · cases q : rdL (rdF D) (if c = 4 then 1 else (getN 0 0 t).1.toNat) (t.drop (getN 0 0 t).2.1.toNat) (seen + 1) with
                | error e' =>
                  rw [q] at h
                  simp only [Except.error.injEq] at h
                  subst h
                  exact errNeL ih (rdF_was D) _ _ _ _ (hBt.drop _) q
                | ok r => rw [q] at h; simp at h
          · rename_i hne
            simp only [Except.error.injEq] at h
            subst h
            exact hne
/-- A decoded term: as it was, and all there is. -/
def okD (x : S38) : Int × Int × ByteArray × List S38 × Int × Unit := (S38.f0 x, S38.f1 x, S38.f2 x, S38.f3 x, 0, ())
def erD (e : Int) : Int × Int × ByteArray × List S38 × Int × Unit := (0, 0, ByteArray.empty, [], e, ())
theorem decode_is (s : ByteArray) : (∃ x, decode (bytesOf s) = okD x ∧ bytesOf s = encT x ∧ okT x ∧ rightT x = 0) ∨ ∃ e, e ≠ 0 ∧ decode (bytesOf s) = erD e := by
  unfold decode
  cases e : rdF 12 (bytesOf s) 0 with
  | error e' =>
    refine .inr ⟨e', ?_, rfl⟩
    intro he
    subst he
    exact absurd rfl (errNe 12 _ _ _ (AllB.of_bytes s) e)
  | ok r =>
    obtain ⟨x, b', n⟩ := r
    have w := rdF_was 12 _ _ _ _ _ (AllB.of_bytes s) e
    by_cases c : b' = []
    · refine .inl ⟨x, by simp only [if_pos c]; rfl, by rw [w.enc, c, List.append_nil], w.ok, ?_⟩
      have hc := w.cnt
      have hm := w.most
      have hdp := w.deep
      unfold rightT
      rw [if_neg (by omega), if_neg (by omega), if_pos w.shape]
    · exact .inr ⟨24, by decide, by simp only [if_neg c]; rfl⟩
theorem decode_enc {x : S38} (hx : okT x) (hr : rightT x = 0) : decode (bytesOf (strOf (encT x))) = okD x := by
  obtain ⟨p1, p2, p3⟩ := right_is hr
  unfold decode
  have := rdF_reads hx 12 [] 0 p3 p2 (by omega)
  rw [List.append_nil] at this
  rw [bytesOf_str (encT_B hx), this]
  simp only [if_true]; rfl

theorem enc_pre {x y : S38} (hx : okT x) (hy : okT y) (hx0 : rightT x = 0) (hy0 : rightT y = 0) {more : List Int} (h : encT x = encT y ++ more) : x = y ∧ more = [] := by
  obtain ⟨p1, p2, p3⟩ := right_is hx0
  obtain ⟨q1, q2, q3⟩ := right_is hy0
  have e1 := rdF_reads hx 12 [] 0 p3 p2 (by omega)
  have e2 := rdF_reads hy 12 more 0 q3 q2 (by omega)
  rw [List.append_nil, h, e2] at e1
  simp only [Except.ok.injEq, Prod.mk.injEq] at e1
  exact ⟨e1.1.symm, e1.2.1⟩
theorem enc_inj {x y : S38} (hx : okT x) (hy : okT y) (hx0 : rightT x = 0) (hy0 : rightT y = 0) (h : encT x = encT y) : x = y := (enc_pre hx hy hx0 hy0 (more := []) (by rw [List.append_nil]; exact h)).1

/-! ### records of the cell -/
def recOk (n a b c o u : Int) : Bool := decide (0 ≤ n ∧ n ≤ 2147483647) && refOk a b c && decide (0 ≤ o ∧ o ≤ 1048576 ∧ 0 ≤ u ∧ u ≤ 134217728)
def recT (n k a b c o u : Int) : S38 := rowT [numT n, keyT k, numT a, numT b, numT c, numT o, numT u]
def recE (n k a b c o u : Int) : List Int := encT (recT n k a b c o u)
theorem recOk_is {n a b c o u : Int} (h : recOk n a b c o u = true) : (0 ≤ n ∧ n ≤ 2147483647) ∧ (0 ≤ a ∧ a ≤ 1048576 ∧ 0 ≤ b ∧ b ≤ 134217728 ∧ 1 ≤ c ∧ c ≤ 1048576) ∧ 0 ≤ o ∧ o ≤ 1048576 ∧ 0 ≤ u ∧ u ≤ 134217728 := by
  simp only [recOk, refOk, Bool.and_eq_true, decide_eq_true_eq] at h
  exact ⟨h.1.1, h.1.2, h.2⟩
theorem rec_ok (n : Int) {k : Int} (hk : (Lit.int .u64 k).wf = true) (a b c o u : Int) : okT (recT n k a b c o u) := okT.row (by simp) (fun x hx => by
  simp only [List.mem_cons, List.not_mem_nil, or_false] at hx
  rcases hx with e | e | e | e | e | e | e <;> subst e
  · exact okT.num _
  · exact okT.key hk
  all_goals exact okT.num _)
theorem rec_right (n k a b c o u : Int) : rightT (recT n k a b c o u) = 0 := by
  simp [rightT, recT, rowT, numT, keyT, parts, partsL, depth, depthL, shp, shpL, one, str_nil_iff]
def recV (n k a b c o u : Int) : Option (ByteArray × Int × Unit) := if recOk n a b c o u = true then some (strOf (recE n k a b c o u), 0, ()) else some (ByteArray.empty, 170, ())
theorem Num_t {n : Int} : F92_term_Num (IntKind.u64.wrap n) = ofT (numT n) := by rw [F92_term_Num_eq]; rfl
theorem tkey' (n : Int) : F80_term_Key n = ofT (keyT n) := by rw [F80_term_Key_eq]; rfl
theorem bytes_l (v : Int) (ns : List Int) (hn : ns.length ≤ 10) : ∀ (d i : Nat) (g : List S38), ns.length - i = d → i ≤ ns.length → g.length ≤ 2 + i → (∀ x ∈ g, Tn x) → F27_commit_Bytes_l1000005 (ns.length : Int) (i : Int) g ns = (F93_term_Encode 5 0 ByteArray.empty (g ++ (ns.drop i).map numT)).bind fun y => some (y.1, y.2.1, ()) := by
  intro d
  induction d with
  | zero =>
    intro i g hd hi hg ht
    rw [F27_commit_Bytes_l1000005_eq, if_neg (by omega), tof (by omega) ht, List.drop_eq_nil_of_le (by omega)]
    simp only [ofT, rowT, S38.f0, S38.f1, S38.f2, S38.f3, Option.bind_some, List.map_nil, List.append_nil]
  | succ d ih =>
    intro i g hd hi hg ht
    rw [F27_commit_Bytes_l1000005_eq, if_pos (ilt (by omega)), if_pos (inb (by omega)), Num_t]
    simp only [ofT, Option.bind_some, term_eta]
    rw [if_pos (by rw [List.length_singleton]; omega), w64s (n := ns.length) (by omega) (by omega), ih (i + 1) _ (by omega) (by omega) (by simp; omega) (snoc_tn ht (Tn.num _)), drop_rd (z := 0) (by omega : i < ns.length), List.append_assoc]
    rfl
theorem cbytes_eq (n : Int) {k : Int} (hk : (Lit.int .u64 k).wf = true) (a b c o u : Int) : F27_commit_Bytes n k a b c o u = recV n k a b c o u := by
  have hl := bytes_l 0 [a, b, c, o, u] (by simp) 5 0 [numT n, keyT k] (by simp) (by simp) (by simp) (by
    intro x hx
    simp only [List.mem_cons, List.not_mem_nil, or_false] at hx
    rcases hx with e | e <;> subst e
    · exact Tn.num _
    · exact Tn.key _)
  have he := encode_eq (rec_ok n hk a b c o u)
  have hr : encode (recT n k a b c o u) = (strOf (recE n k a b c o u), 0) := by unfold encode; rw [if_pos (rec_right _ _ _ _ _ _ _)]; rfl
  rw [hr] at he
  rw [show ([numT n, keyT k] ++ ([a, b, c, o, u].drop 0).map numT) = S38.f3 (recT n k a b c o u) from rfl] at hl
  have he2 : F93_term_Encode 5 0 ByteArray.empty (S38.f3 (recT n k a b c o u)) = some (strOf (recE n k a b c o u), 0, ()) := he
  rw [he2] at hl
  simp only [Option.bind_some] at hl
  rw [F27_commit_Bytes_eq, (ref_eq k a b c).1, F27_commit_Bytes_l2_eq]
  unfold recV
  by_cases C : recOk n a b c o u = true
  · obtain ⟨r1, _, r3⟩ := recOk_is C
    have c2 : refOk a b c = true := by simp only [recOk, Bool.and_eq_true] at C; exact C.1.2
    rw [if_pos C, if_neg (show ¬ n < 0 by omega), if_neg (show ¬ 2147483647 < n by omega), Option.bind_some, c2]
    dsimp only
    rw [if_neg (by simp), if_neg (show ¬ o < 0 by omega), if_neg (show ¬ 1048576 < o by omega), if_neg (show ¬ u < 0 by omega), if_neg (show ¬ 134217728 < u by omega), Num_t, tkey']
    simp only [ofT, Option.bind_some, term_eta]
    exact hl
  · rw [if_neg C]
    refine ite_to (fun _ => rfl) (fun h1 => ?_)
    refine ite_to (fun _ => rfl) (fun h2 => ?_)
    rw [Option.bind_some]
    refine ite_to (fun _ => rfl) (fun h3 => ?_)
    refine ite_to (fun _ => rfl) (fun h4 => ?_)
    refine ite_to (fun _ => rfl) (fun h5 => ?_)
    refine ite_to (fun _ => rfl) (fun h6 => ?_)
    refine ite_to (fun _ => rfl) (fun h7 => ?_)
    exfalso; apply C; simp only [recOk, Bool.and_eq_true, decide_eq_true_eq]; exact ⟨⟨by omega, by simpa using h3⟩, by omega⟩
theorem rright_rec (n k a b c o u : Int) : F35_letheref17_Right n k a b c o u = some (recOk n a b c o u, ()) := by
  rw [F35_letheref17_Right_eq, (ref_eq k a b c).2]
  unfold recOk
  refine ite_to (fun h0 => ?_) (fun h0 => ?_)
  · refine ite_to (fun h1 => ?_) (fun h1 => ?_)
    · rw [Option.bind_some]
      cases refOk a b c
      · simp
      · dsimp only
        rw [if_pos rfl]
        repeat' (refine ite_to (fun _ => ?_) (fun _ => ?_))
        all_goals (apply ob_eq <;> intro hh <;> simp only [Bool.and_eq_true, decide_eq_true_eq, Bool.false_eq_true, and_true, true_and, Bool.and_true] at hh ⊢ <;> omega)
    · apply ob_eq <;> intro hh <;> simp only [Bool.and_eq_true, decide_eq_true_eq, Bool.false_eq_true] at hh ⊢ <;> omega
  · apply ob_eq <;> intro hh <;> simp only [Bool.and_eq_true, decide_eq_true_eq, Bool.false_eq_true] at hh ⊢ <;> omega
theorem rbytes_rec (n : Int) {k : Int} (hk : (Lit.int .u64 k).wf = true) (a b c o u : Int) : F28_letheref17_Bytes n k a b c o u = recV n k a b c o u := by
  rw [F28_letheref17_Bytes_eq, rright_rec, Option.bind_some]
  unfold recV
  cases recOk n a b c o u
  · simp
  · dsimp only
    rw [if_neg (by simp), if_pos rfl, rnum, rkey, rnum, rnum, rnum, rnum, rnum]
    simp only [ofT, Option.bind_some, term_eta]
    rw [rrow]
    simp only [ofT, Option.bind_some]
    have := rbytes_eq (rec_ok n hk a b c o u) (by have := right_len (rec_ok n hk a b c o u) (rec_right n k a b c o u); omega)
    rw [show F96_letheref02_Bytes (S38.f0 (rowT [numT n, keyT k, numT a, numT b, numT c, numT o, numT u])) (S38.f1 (rowT [numT n, keyT k, numT a, numT b, numT c, numT o, numT u])) (S38.f2 (rowT [numT n, keyT k, numT a, numT b, numT c, numT o, numT u])) (S38.f3 (rowT [numT n, keyT k, numT a, numT b, numT c, numT o, numT u])) = some (strOf (recE n k a b c o u), ()) from this]
    rfl
abbrev P8 := Int × Int × Int × Int × Int × Int × Int × Int × Unit
def badP : Option P8 := some (0, 0, 0, 0, 0, 0, 0, 170, ())
def okP (n k a b c o u : Int) : Option P8 := some (n, k, a, b, c, o, u, 0, ())
def small (x : S38) : Bool := decide (S38.f0 x = 1 ∧ S38.f1 x ≤ 2147483647)
def cut (x : S38) : Int := mn (S38.f1 x) 2147483648
theorem cut_w {x : S38} (h : okT x) : IntKind.i64.wrap (cut x) = cut x ∧ 0 ≤ cut x ∧ cut x ≤ 2147483648 ∧ (S38.f1 x ≤ 2147483647 → cut x = S38.f1 x) := by
  have h0 : 0 ≤ S38.f1 x := by cases h with | mk _ h1 _ _ _ _ => exact (wf_u64 h1).1
  have h2 : 0 ≤ cut x ∧ cut x ≤ 2147483648 ∧ (S38.f1 x ≤ 2147483647 → cut x = S38.f1 x) := by unfold cut mn; split <;> omega
  exact ⟨w64 (by omega) (by omega), h2⟩
theorem small_eq (x : S38) : F100_letheref17_small (S38.f0 x) (S38.f1 x) (S38.f2 x) (S38.f3 x) = some (small x, ()) := by
  rw [F100_letheref17_small_eq]
  unfold small
  refine ite_to (fun h => ?_) (fun h => ?_)
  · apply ob_eq <;> intro hh <;> simp only [decide_eq_true_eq] at hh ⊢ <;> omega
  · apply ob_eq <;> intro hh <;> simp only [decide_eq_true_eq, Bool.false_eq_true] at hh ⊢; exact h hh.1
theorem cparse_row {x0 x1 x2 x3 x4 x5 x6 : S38} (s : ByteArray) (h0 : okT x0) (h1 : okT x1) (h2 : okT x2) (h3 : okT x3) (h4 : okT x4) (h5 : okT x5) (h6 : okT x6) (p q : Int) (t : ByteArray) :
    F29_commit_Parse_l1000006 s [x0, x1, x2, x3, x4, x5, x6] 7 0 0 0 0 0 0 0 0 p q t [x0, x1, x2, x3, x4, x5, x6] 0 0 0 0 0 0 0 = if recOk (cut x0) (cut x2) (cut x3) (cut x4) (cut x5) (cut x6) = true ∧ strOf (recE (cut x0) (S38.f1 x1) (cut x2) (cut x3) (cut x4) (cut x5) (cut x6)) = s then okP (cut x0) (S38.f1 x1) (cut x2) (cut x3) (cut x4) (cut x5) (cut x6) else badP := by
  have k1 : (Lit.int .u64 (S38.f1 x1)).wf = true := by cases h1 with | mk _ h1 _ _ _ _ => exact h1
  have w0 := (cut_w h0).1
  have w2 := (cut_w h2).1
  have w3 := (cut_w h3).1
  have w4 := (cut_w h4).1
  have w5 := (cut_w h5).1
  have w6 := (cut_w h6).1
  unfold cut at w0 w2 w3 w4 w5 w6
  rw [F29_commit_Parse_l1000006_eq, if_pos (by decide), if_pos (by simp)]; dsimp only
  rw [if_pos rfl, F29_commit_Parse_l9_eq, show IntKind.i64.wrap (0 + 1) = 1 by decide]
  rw [F29_commit_Parse_l1000006_eq, if_pos (by decide), if_pos (by simp)]; dsimp only
  rw [if_neg (by decide), if_pos rfl, F29_commit_Parse_l9_eq, show IntKind.i64.wrap (1 + 1) = 2 by decide]
  rw [F29_commit_Parse_l1000006_eq, if_pos (by decide), if_pos (by simp)]; dsimp only
  rw [if_neg (by decide), if_neg (by decide), if_pos rfl, F29_commit_Parse_l9_eq, show IntKind.i64.wrap (2 + 1) = 3 by decide]
  rw [F29_commit_Parse_l1000006_eq, if_pos (by decide), if_pos (by simp)]; dsimp only
  rw [if_neg (by decide), if_neg (by decide), if_neg (by decide), if_pos rfl, F29_commit_Parse_l9_eq, show IntKind.i64.wrap (3 + 1) = 4 by decide]
  rw [F29_commit_Parse_l1000006_eq, if_pos (by decide), if_pos (by simp)]; dsimp only
  rw [if_neg (by decide), if_neg (by decide), if_neg (by decide), if_neg (by decide), if_pos rfl, F29_commit_Parse_l9_eq, show IntKind.i64.wrap (4 + 1) = 5 by decide]
  rw [F29_commit_Parse_l1000006_eq, if_pos (by decide), if_pos (by simp)]; dsimp only
  rw [if_neg (by decide), if_neg (by decide), if_neg (by decide), if_neg (by decide), if_neg (by decide), if_pos rfl, F29_commit_Parse_l9_eq, show IntKind.i64.wrap (5 + 1) = 6 by decide]
  rw [F29_commit_Parse_l1000006_eq, if_pos (by decide), if_pos (by simp)]; dsimp only
  rw [if_neg (by decide), if_neg (by decide), if_neg (by decide), if_neg (by decide), if_neg (by decide), if_neg (by decide), if_pos rfl, F29_commit_Parse_l9_eq, show IntKind.i64.wrap (6 + 1) = 7 by decide]
  rw [F29_commit_Parse_l1000006_eq, if_neg (by decide), if_pos (by simp)]
  rw [show rd S38.z [x0, x1, x2, x3, x4, x5, x6] 0 = x0 from rfl, show rd S38.z [x0, x1, x2, x3, x4, x5, x6] 1 = x1 from rfl, show rd S38.z [x0, x1, x2, x3, x4, x5, x6] 2 = x2 from rfl, show rd S38.z [x0, x1, x2, x3, x4, x5, x6] 3 = x3 from rfl, show rd S38.z [x0, x1, x2, x3, x4, x5, x6] 4 = x4 from rfl, show rd S38.z [x0, x1, x2, x3, x4, x5, x6] 5 = x5 from rfl, show rd S38.z [x0, x1, x2, x3, x4, x5, x6] 6 = x6 from rfl]
  rw [w0, w2, w3, w4, w5, w6, cbytes_eq _ k1]
  unfold recV
  by_cases c : recOk (mn (S38.f1 x0) 2147483648) (mn (S38.f1 x2) 2147483648) (mn (S38.f1 x3) 2147483648) (mn (S38.f1 x4) 2147483648) (mn (S38.f1 x5) 2147483648) (mn (S38.f1 x6) 2147483648) = true
  · rw [if_pos c, Option.bind_some]
    dsimp only
    rw [if_neg (by simp)]
    by_cases c2 : strOf (recE (mn (S38.f1 x0) 2147483648) (S38.f1 x1) (mn (S38.f1 x2) 2147483648) (mn (S38.f1 x3) 2147483648) (mn (S38.f1 x4) 2147483648) (mn (S38.f1 x5) 2147483648) (mn (S38.f1 x6) 2147483648)) = s
    · rw [if_neg (by simp [c2]), if_pos ⟨c, c2⟩]; rfl
    · rw [if_pos c2, if_neg (fun h => c2 h.2)]; rfl
  · rw [if_neg c, Option.bind_some]
    dsimp only
    rw [if_pos (show ¬ (170 : Int) = 0 by decide)]
    exact (if_neg (fun h => c h.1)).symm
theorem rparse_row {x0 x1 x2 x3 x4 x5 x6 : S38} (h0 : okT x0) (h1 : okT x1) (h2 : okT x2) (h3 : okT x3) (h4 : okT x4) (h5 : okT x5) (h6 : okT x6) (p q : Int) (t : ByteArray) :
    F30_letheref17_Parse_l1000005 [x0, x1, x2, x3, x4, x5, x6] 7 0 0 0 0 0 0 0 0 p q t [x0, x1, x2, x3, x4, x5, x6] = if (small x0 = true ∧ small x2 = true ∧ small x3 = true ∧ small x4 = true ∧ small x5 = true ∧ small x6 = true) ∧ recOk (cut x0) (cut x2) (cut x3) (cut x4) (cut x5) (cut x6) = true then okP (cut x0) (S38.f1 x1) (cut x2) (cut x3) (cut x4) (cut x5) (cut x6) else badP := by
  have W : ∀ x, okT x → small x = true → IntKind.i64.wrap (S38.f1 x) = cut x := by
    intro x h hs
    have h0 : 0 ≤ S38.f1 x := by cases h with | mk _ h1 _ _ _ _ => exact (wf_u64 h1).1
    simp only [small, decide_eq_true_eq] at hs
    rw [(cut_w h).2.2.2 hs.2, w64 (by omega) (by omega)]
  have e0 : rd S38.z [x0, x1, x2, x3, x4, x5, x6] 0 = x0 := rfl
  have e1 : rd S38.z [x0, x1, x2, x3, x4, x5, x6] 1 = x1 := rfl
  have e2 : rd S38.z [x0, x1, x2, x3, x4, x5, x6] 2 = x2 := rfl
  have e3 : rd S38.z [x0, x1, x2, x3, x4, x5, x6] 3 = x3 := rfl
  have e4 : rd S38.z [x0, x1, x2, x3, x4, x5, x6] 4 = x4 := rfl
  have e5 : rd S38.z [x0, x1, x2, x3, x4, x5, x6] 5 = x5 := rfl
  have e6 : rd S38.z [x0, x1, x2, x3, x4, x5, x6] 6 = x6 := rfl
  rw [F30_letheref17_Parse_l1000005_eq, if_pos (by decide), if_pos (by simp), if_pos (by decide), e0, small_eq, Option.bind_some]; dsimp only
  cases q0 : small x0
  · rw [if_pos (show (!false) = true from rfl), if_neg (by simp)]; rfl
  rw [if_neg (by simp), show IntKind.i64.wrap (0 + 1) = 1 by decide]
  rw [F30_letheref17_Parse_l1000005_eq, if_pos (by decide), if_pos (by simp), if_neg (by decide), show IntKind.i64.wrap (1 + 1) = 2 by decide]
  rw [F30_letheref17_Parse_l1000005_eq, if_pos (by decide), if_pos (by simp), if_pos (by decide), e2, small_eq, Option.bind_some]; dsimp only
  cases q2 : small x2
  · rw [if_pos (show (!false) = true from rfl), if_neg (by simp)]; rfl
  rw [if_neg (by simp), show IntKind.i64.wrap (2 + 1) = 3 by decide]
  rw [F30_letheref17_Parse_l1000005_eq, if_pos (by decide), if_pos (by simp), if_pos (by decide), e3, small_eq, Option.bind_some]; dsimp only
  cases q3 : small x3
  · rw [if_pos (show (!false) = true from rfl), if_neg (by simp)]; rfl
  rw [if_neg (by simp), show IntKind.i64.wrap (3 + 1) = 4 by decide]
  rw [F30_letheref17_Parse_l1000005_eq, if_pos (by decide), if_pos (by simp), if_pos (by decide), e4, small_eq, Option.bind_some]; dsimp only
  cases q4 : small x4
  · rw [if_pos (show (!false) = true from rfl), if_neg (by simp)]; rfl
  rw [if_neg (by simp), show IntKind.i64.wrap (4 + 1) = 5 by decide]
  rw [F30_letheref17_Parse_l1000005_eq, if_pos (by decide), if_pos (by simp), if_pos (by decide), e5, small_eq, Option.bind_some]; dsimp only
  cases q5 : small x5
  · rw [if_pos (show (!false) = true from rfl), if_neg (by simp)]; rfl
  rw [if_neg (by simp), show IntKind.i64.wrap (5 + 1) = 6 by decide]
  rw [F30_letheref17_Parse_l1000005_eq, if_pos (by decide), if_pos (by simp), if_pos (by decide), e6, small_eq, Option.bind_some]; dsimp only
  cases q6 : small x6
  · rw [if_pos (show (!false) = true from rfl), if_neg (by simp)]; rfl
  rw [if_neg (by simp), show IntKind.i64.wrap (6 + 1) = 7 by decide]
  rw [F30_letheref17_Parse_l1000005_eq, if_neg (by decide), if_pos (by simp), if_pos (by simp), if_pos (by simp), if_pos (by simp), if_pos (by simp), if_pos (by simp), if_pos (by simp), e0, e1, e2, e3, e4, e5, e6, W _ h0 q0, W _ h2 q2, W _ h3 q3, W _ h4 q4, W _ h5 q5, W _ h6 q6, rright_rec, Option.bind_some]
  dsimp only
  cases recOk (cut x0) (cut x2) (cut x3) (cut x4) (cut x5) (cut x6)
  · rw [if_pos (show (!false) = true from rfl), if_neg (by simp)]; rfl
  · rw [if_neg (by simp), if_pos (by simp)]; rfl
theorem list7 {α : Type} {l : List α} (h : l.length = 7) : ∃ a b c d e f g, l = [a, b, c, d, e, f, g] := by
  match l, h with
  | [a, b, c, d, e, f, g], _ => exact ⟨a, b, c, d, e, f, g, rfl⟩
theorem numT_inj {n : Int} {x : S38} (h : numT n = x) (hn : 0 ≤ n ∧ n ≤ 2147483647) : small x = true ∧ cut x = n := by
  subst h
  have e : S38.f1 (numT n) = n := wrap_u64 hn.1 (by omega)
  refine ⟨?_, ?_⟩
  · simp only [small, decide_eq_true_eq, e]; exact ⟨rfl, hn.2⟩
  · unfold cut mn; rw [e]; split <;> omega
theorem small_is {x : S38} (ho : okT x) (hs : shp x = true) (h : small x = true) : numT (cut x) = x := by
  simp only [small, decide_eq_true_eq] at h
  have h0 : 0 ≤ S38.f1 x := by cases ho with | mk _ h1 _ _ _ _ => exact (wf_u64 h1).1
  unfold numT
  rw [(cut_w ho).2.2.2 h.2, wrap_u64 h0 (by omega)]
  exact (shp_num hs h.1).symm
theorem parse_c (s : ByteArray) (hs : s.size ≤ 281474976710656) :
    (∃ n k a b c o u, recOk n a b c o u = true ∧ (Lit.int .u64 k).wf = true ∧ s = strOf (recE n k a b c o u) ∧ F29_commit_Parse s = okP n k a b c o u) ∨
    (F29_commit_Parse s = badP ∧ ∀ n k a b c o u, recOk n a b c o u = true → (Lit.int .u64 k).wf = true → s ≠ strOf (recE n k a b c o u)) := by
  generalize hA : F29_commit_Parse s = A
  rw [F29_commit_Parse_eq, decode_eq _ hs] at hA
  rcases decode_is s with ⟨x, hd, he, ho, hr⟩ | ⟨e, he, hd⟩
  · rw [hd, okD] at hA
    simp only [Option.bind_some, not_true_eq_false, if_false] at hA
    have hso : s = strOf (encT x) := by rw [← he, str_bytesOf]
    have hsh := (right_is hr).2.2
    have no : (∀ n k a b c o u, recOk n a b c o u = true → recT n k a b c o u = x → False) → ∀ n k a b c o u, recOk n a b c o u = true → (Lit.int .u64 k).wf = true → s ≠ strOf (recE n k a b c o u) := by
      intro h n k a b c o u h1 h2 h3
      refine h n k a b c o u h1 (enc_inj (rec_ok n h2 a b c o u) ho (rec_right n k a b c o u) hr ?_)
      rw [← he, h3, recE, bytesOf_str (encT_B (rec_ok n h2 a b c o u))]
    by_cases c1 : S38.f0 x = 5
    · rw [if_neg (by simp [c1])] at hA
      by_cases c2 : (S38.f3 x).length = 7
      · have c2' : ¬ ¬ ((S38.f3 x).length : Int) = 7 := by omega
        rw [if_neg c2', show ((S38.f3 x).length : Int) = 7 by omega] at hA
        have hrow := shp_row hsh c1
        have hin : ∀ y ∈ S38.f3 x, shp y = true := fun y hy => shp_in hsh hy
        have hel := ho.el
        obtain ⟨x0, x1, x2, x3, x4, x5, x6, hl⟩ := list7 c2
        rw [hl] at hrow hin hel hA
        have o0 := hel x0 (by simp)
        have o1 := hel x1 (by simp)
        have o2 := hel x2 (by simp)
        have o3 := hel x3 (by simp)
        have o4 := hel x4 (by simp)
        have o5 := hel x5 (by simp)
        have o6 := hel x6 (by simp)
        have k1 : (Lit.int .u64 (S38.f1 x1)).wf = true := by cases o1 with | mk _ h1 _ _ _ _ => exact h1
        rw [cparse_row s o0 o1 o2 o3 o4 o5 o6] at hA
        have back : ∀ n k a b c o u, recOk n a b c o u = true → recT n k a b c o u = x → S38.f0 x1 = 3 ∧ (small x0 = true ∧ small x2 = true ∧ small x3 = true ∧ small x4 = true ∧ small x5 = true ∧ small x6 = true) ∧ recOk (cut x0) (cut x2) (cut x3) (cut x4) (cut x5) (cut x6) = true := by
          intro n k a b c o u h1 h2
          rw [hrow] at h2
          simp only [recT, rowT, S38.mk.injEq, List.cons.injEq, true_and, and_true] at h2
          obtain ⟨e0, e1, e2, e3, e4, e5, e6⟩ := h2
          obtain ⟨r1, r2, r3⟩ := recOk_is h1
          obtain ⟨s0, t0⟩ := numT_inj e0 (by omega)
          obtain ⟨s2, t2⟩ := numT_inj e2 (by omega)
          obtain ⟨s3, t3⟩ := numT_inj e3 (by omega)
          obtain ⟨s4, t4⟩ := numT_inj e4 (by omega)
          obtain ⟨s5, t5⟩ := numT_inj e5 (by omega)
          obtain ⟨s6, t6⟩ := numT_inj e6 (by omega)
          refine ⟨by rw [← e1]; rfl, ⟨s0, s2, s3, s4, s5, s6⟩, ?_⟩
          rw [t0, t2, t3, t4, t5, t6]; exact h1
        by_cases c3 : S38.f0 x1 = 3
        · by_cases c4 : (small x0 = true ∧ small x2 = true ∧ small x3 = true ∧ small x4 = true ∧ small x5 = true ∧ small x6 = true) ∧ recOk (cut x0) (cut x2) (cut x3) (cut x4) (cut x5) (cut x6) = true
          · have hx : recT (cut x0) (S38.f1 x1) (cut x2) (cut x3) (cut x4) (cut x5) (cut x6) = x := by
              obtain ⟨⟨s0, s2, s3, s4, s5, s6⟩, _⟩ := c4
              have a0 := small_is o0 (hin x0 (by simp)) s0
              have a2 := small_is o2 (hin x2 (by simp)) s2
              have a3 := small_is o3 (hin x3 (by simp)) s3
              have a4 := small_is o4 (hin x4 (by simp)) s4
              have a5 := small_is o5 (hin x5 (by simp)) s5
              have a6 := small_is o6 (hin x6 (by simp)) s6
              have a1 := shp_key (hin x1 (by simp)) c3
              rw [hrow]
              unfold recT
              rw [a0, a2, a3, a4, a5, a6, ← a1]
            have hse : s = strOf (recE (cut x0) (S38.f1 x1) (cut x2) (cut x3) (cut x4) (cut x5) (cut x6)) := by unfold recE; rw [hx]; exact hso
            exact .inl ⟨cut x0, S38.f1 x1, cut x2, cut x3, cut x4, cut x5, cut x6, c4.2, k1, hse, by rw [← hA]; exact if_pos ⟨c4.2, hse.symm⟩⟩
          · refine .inr ⟨hA.symm.trans (if_neg (fun h => ?_)), no (fun n k a b c o u h1 h2 => c4 (back n k a b c o u h1 h2).2)⟩
            exact absurd (no (fun n k a b c o u h1 h2 => c4 (back n k a b c o u h1 h2).2) _ _ _ _ _ _ _ h.1 k1 h.2.symm) (fun h => h)
        · refine .inr ⟨hA.symm.trans (if_neg (fun h => ?_)), no (fun n k a b c o u h1 h2 => c3 (back n k a b c o u h1 h2).1)⟩
          exact absurd (no (fun n k a b c o u h1 h2 => c3 (back n k a b c o u h1 h2).1) _ _ _ _ _ _ _ h.1 k1 h.2.symm) (fun h => h)
      · rw [if_pos (by omega)] at hA
        refine .inr ⟨hA.symm, no (fun n k a b c o u _ h2 => ?_)⟩
        rw [← h2] at c2; exact c2 rfl
    · rw [if_pos c1] at hA
      refine .inr ⟨hA.symm, no (fun n k a b c o u _ h2 => ?_)⟩
      rw [← h2] at c1; exact c1 rfl
  · rw [hd, erD] at hA
    simp only [Option.bind_some] at hA
    rw [if_pos he] at hA
    refine .inr ⟨hA.symm, ?_⟩
    intro n k a b c o u h1 h2 h3
    have := decode_enc (rec_ok n h2 a b c o u) (rec_right n k a b c o u)
    rw [show strOf (encT (recT n k a b c o u)) = s from h3.symm, hd] at this
    simp only [erD, okD, Prod.mk.injEq] at this
    exact he this.2.2.2.2.1
theorem parse_r (s : ByteArray) (hs : s.size ≤ 281474976710656) :
    (∃ n k a b c o u, recOk n a b c o u = true ∧ (Lit.int .u64 k).wf = true ∧ s = strOf (recE n k a b c o u) ∧ F30_letheref17_Parse s = okP n k a b c o u) ∨
    (F30_letheref17_Parse s = badP ∧ ∀ n k a b c o u, recOk n a b c o u = true → (Lit.int .u64 k).wf = true → s ≠ strOf (recE n k a b c o u)) := by
  generalize hB : F30_letheref17_Parse s = B
  rw [F30_letheref17_Parse_eq, rdecode_eq _ hs, F30_letheref17_Parse_l3_eq] at hB
  rcases decode_is s with ⟨x, hd, he, ho, hr⟩ | ⟨e, he, hd⟩
  · rw [hd, okD] at hB
    simp only [Option.bind_some, not_true_eq_false, if_false] at hB
    have hso : s = strOf (encT x) := by rw [← he, str_bytesOf]
    have hsh := (right_is hr).2.2
    have no : (∀ n k a b c o u, recOk n a b c o u = true → recT n k a b c o u = x → False) → ∀ n k a b c o u, recOk n a b c o u = true → (Lit.int .u64 k).wf = true → s ≠ strOf (recE n k a b c o u) := by
      intro h n k a b c o u h1 h2 h3
      refine h n k a b c o u h1 (enc_inj (rec_ok n h2 a b c o u) ho (rec_right n k a b c o u) hr ?_)
      rw [← he, h3, recE, bytesOf_str (encT_B (rec_ok n h2 a b c o u))]
    by_cases c1 : S38.f0 x = 5
    · rw [if_neg (by simp [c1])] at hB
      by_cases c2 : (S38.f3 x).length = 7
      · have c2' : ¬ ¬ ((S38.f3 x).length : Int) = 7 := by omega
        rw [if_neg c2', if_pos (by omega), show ((S38.f3 x).length : Int) = 7 by omega] at hB
        have hrow := shp_row hsh c1
        have hin : ∀ y ∈ S38.f3 x, shp y = true := fun y hy => shp_in hsh hy
        have hel := ho.el
        obtain ⟨x0, x1, x2, x3, x4, x5, x6, hl⟩ := list7 c2
        rw [hl] at hrow hin hel hB
        have o0 := hel x0 (by simp)
        have o1 := hel x1 (by simp)
        have o2 := hel x2 (by simp)
        have o3 := hel x3 (by simp)
        have o4 := hel x4 (by simp)
        have o5 := hel x5 (by simp)
        have o6 := hel x6 (by simp)
        have k1 : (Lit.int .u64 (S38.f1 x1)).wf = true := by cases o1 with | mk _ h1 _ _ _ _ => exact h1
        rw [rparse_row o0 o1 o2 o3 o4 o5 o6, show rd S38.z [x0, x1, x2, x3, x4, x5, x6] 1 = x1 from rfl] at hB
        have back : ∀ n k a b c o u, recOk n a b c o u = true → recT n k a b c o u = x → S38.f0 x1 = 3 ∧ (small x0 = true ∧ small x2 = true ∧ small x3 = true ∧ small x4 = true ∧ small x5 = true ∧ small x6 = true) ∧ recOk (cut x0) (cut x2) (cut x3) (cut x4) (cut x5) (cut x6) = true := by
          intro n k a b c o u h1 h2
          rw [hrow] at h2
          simp only [recT, rowT, S38.mk.injEq, List.cons.injEq, true_and, and_true] at h2
          obtain ⟨e0, e1, e2, e3, e4, e5, e6⟩ := h2
          obtain ⟨r1, r2, r3⟩ := recOk_is h1
          obtain ⟨s0, t0⟩ := numT_inj e0 (by omega)
          obtain ⟨s2, t2⟩ := numT_inj e2 (by omega)
          obtain ⟨s3, t3⟩ := numT_inj e3 (by omega)
          obtain ⟨s4, t4⟩ := numT_inj e4 (by omega)
          obtain ⟨s5, t5⟩ := numT_inj e5 (by omega)
          obtain ⟨s6, t6⟩ := numT_inj e6 (by omega)
          refine ⟨by rw [← e1]; rfl, ⟨s0, s2, s3, s4, s5, s6⟩, ?_⟩
          rw [t0, t2, t3, t4, t5, t6]; exact h1
        by_cases c3 : S38.f0 x1 = 3
        · rw [if_neg (show ¬ ¬ S38.f0 x1 = 3 by simp [c3])] at hB
          by_cases c4 : (small x0 = true ∧ small x2 = true ∧ small x3 = true ∧ small x4 = true ∧ small x5 = true ∧ small x6 = true) ∧ recOk (cut x0) (cut x2) (cut x3) (cut x4) (cut x5) (cut x6) = true
          · have hx : recT (cut x0) (S38.f1 x1) (cut x2) (cut x3) (cut x4) (cut x5) (cut x6) = x := by
              obtain ⟨⟨s0, s2, s3, s4, s5, s6⟩, _⟩ := c4
              have a0 := small_is o0 (hin x0 (by simp)) s0
              have a2 := small_is o2 (hin x2 (by simp)) s2
              have a3 := small_is o3 (hin x3 (by simp)) s3
              have a4 := small_is o4 (hin x4 (by simp)) s4
              have a5 := small_is o5 (hin x5 (by simp)) s5
              have a6 := small_is o6 (hin x6 (by simp)) s6
              have a1 := shp_key (hin x1 (by simp)) c3
              rw [hrow]
              unfold recT
              rw [a0, a2, a3, a4, a5, a6, ← a1]
            have hse : s = strOf (recE (cut x0) (S38.f1 x1) (cut x2) (cut x3) (cut x4) (cut x5) (cut x6)) := by unfold recE; rw [hx]; exact hso
            exact .inl ⟨cut x0, S38.f1 x1, cut x2, cut x3, cut x4, cut x5, cut x6, c4.2, k1, hse, by rw [← hB]; exact if_pos c4⟩
          · exact .inr ⟨by rw [← hB]; exact if_neg c4, no (fun n k a b c o u h1 h2 => c4 (back n k a b c o u h1 h2).2)⟩
        · rw [if_pos c3] at hB
          exact .inr ⟨hB.symm, no (fun n k a b c o u h1 h2 => c3 (back n k a b c o u h1 h2).1)⟩
      · rw [if_pos (by omega)] at hB
        refine .inr ⟨hB.symm, no (fun n k a b c o u _ h2 => ?_)⟩
        rw [← h2] at c2; exact c2 rfl
    · rw [if_pos c1] at hB
      refine .inr ⟨hB.symm, no (fun n k a b c o u _ h2 => ?_)⟩
      rw [← h2] at c1; exact c1 rfl
  · rw [hd, erD] at hB
    simp only [Option.bind_some] at hB
    rw [if_pos he] at hB
    refine .inr ⟨hB.symm, ?_⟩
    intro n k a b c o u h1 h2 h3
    have := decode_enc (rec_ok n h2 a b c o u) (rec_right n k a b c o u)
    rw [show strOf (encT (recT n k a b c o u)) = s from h3.symm, hd] at this
    simp only [erD, okD, Prod.mk.injEq] at this
    exact he this.2.2.2.2.1
theorem rec_inj {n k a b c o u n' k' a' b' c' o' u' : Int} (h1 : recOk n a b c o u = true) (h2 : (Lit.int .u64 k).wf = true) (g1 : recOk n' a' b' c' o' u' = true) (g2 : (Lit.int .u64 k').wf = true) (g3 : strOf (recE n k a b c o u) = strOf (recE n' k' a' b' c' o' u')) : n = n' ∧ k = k' ∧ a = a' ∧ b = b' ∧ c = c' ∧ o = o' ∧ u = u' := by
  have g6 : recT n k a b c o u = recT n' k' a' b' c' o' u' := by
    refine enc_inj (rec_ok n h2 a b c o u) (rec_ok n' g2 a' b' c' o' u') (rec_right n k a b c o u) (rec_right n' k' a' b' c' o' u') ?_
    have := congrArg bytesOf g3
    unfold recE at this
    rw [bytesOf_str (encT_B (rec_ok n h2 a b c o u)), bytesOf_str (encT_B (rec_ok n' g2 a' b' c' o' u'))] at this
    exact this
  obtain ⟨r1, r2, r3⟩ := recOk_is h1
  obtain ⟨q1, q2, q3⟩ := recOk_is g1
  have I : ∀ {x y : Int}, numT x = numT y → (0 ≤ x ∧ x ≤ 2147483647) → (0 ≤ y ∧ y ≤ 2147483647) → x = y := by
    intro x y h hx hy
    have e := congrArg S38.f1 h
    rw [show S38.f1 (numT x) = x from wrap_u64 hx.1 (by omega), show S38.f1 (numT y) = y from wrap_u64 hy.1 (by omega)] at e
    exact e
  simp only [recT, rowT, keyT, S38.mk.injEq, List.cons.injEq, true_and, and_true] at g6
  obtain ⟨e0, e1, e2, e3, e4, e5, e6⟩ := g6
  exact ⟨I e0 (by omega) (by omega), e1, I e2 (by omega) (by omega), I e3 (by omega) (by omega), I e4 (by omega) (by omega), I e5 (by omega) (by omega), I e6 (by omega) (by omega)⟩
theorem rec_small (n : Int) {k : Int} (hk : (Lit.int .u64 k).wf = true) (a b c o u : Int) : (strOf (recE n k a b c o u)).size ≤ 281474976710656 := by rw [size_str]; have := right_len (rec_ok n hk a b c o u) (rec_right n k a b c o u); unfold recE; omega
theorem parse_rec {n k a b c o u : Int} (h1 : recOk n a b c o u = true) (h2 : (Lit.int .u64 k).wf = true) : F29_commit_Parse (strOf (recE n k a b c o u)) = okP n k a b c o u := by
  rcases parse_c _ (rec_small n h2 a b c o u) with ⟨n', k', a', b', c', o', u', g1, g2, g3, g4⟩ | ⟨_, h⟩
  · obtain ⟨rfl, rfl, rfl, rfl, rfl, rfl, rfl⟩ := rec_inj h1 h2 g1 g2 g3
    exact g4
  · exact absurd rfl (h n k a b c o u h1 h2)
theorem parse_same (s : ByteArray) (hs : s.size ≤ 281474976710656) : F30_letheref17_Parse s = F29_commit_Parse s := by
  rcases parse_c s hs with ⟨n, k, a, b, c, o, u, h1, h2, h3, h4⟩ | ⟨h4, h5⟩
  · rcases parse_r s hs with ⟨n', k', a', b', c', o', u', g1, g2, g3, g4⟩ | ⟨_, g5⟩
    · obtain ⟨rfl, rfl, rfl, rfl, rfl, rfl, rfl⟩ := rec_inj h1 h2 g1 g2 (h3 ▸ g3)
      rw [h4, g4]
    · exact absurd h3 (g5 n k a b c o u h1 h2)
  · rcases parse_r s hs with ⟨n', k', a', b', c', o', u', g1, g2, g3, g4⟩ | ⟨g4, _⟩
    · exact absurd g3 (h5 n' k' a' b' c' o' u' g1 g2)
    · rw [h4, g4]

/-! ### the cell and its commits, plainly -/
structure Cl where
  (a b : ByteArray) (n : Int) (o : Bool) (h w : Int)
structure Rc where
  (n k a b c o u : Int)
def Rc.zero : Rc := ⟨0, 0, 0, 0, 0, 0, 0⟩
def spendV (c : Cl) : Int × Cl := if c.o = true then (110, c) else if 0 < c.h then (0, ⟨c.a, c.b, c.n, decide (IntKind.i64.wrap (c.h - 1) = 0), IntKind.i64.wrap (c.h - 1), IntKind.i64.wrap (c.w + 1)⟩) else (0, ⟨c.a, c.b, c.n, c.o, c.h, IntKind.i64.wrap (c.w + 1)⟩)
def layV (i : Int) (s : ByteArray) (c : Cl) : Int × Cl :=
  if (spendV c).1 = 0 then (0, ⟨if i = 0 then s else c.a, if i = 0 then c.b else s, IntKind.i64.wrap (c.n + 1), (spendV c).2.o, (spendV c).2.h, (spendV c).2.w⟩) else spendV c
def slot (i : Int) (c : Cl) : ByteArray := if i = 0 then c.a else c.b
def setV (i : Int) (s : ByteArray) (c : Cl) : Int × Cl := if i = 0 ∨ i = 1 then (if slot i c = ByteArray.empty then (if s = ByteArray.empty ∨ 200 < (s.size : Int) then (2, c) else layV i s c) else (131, c)) else (130, c)
def eraV (i : Int) (c : Cl) : Int × Cl := if i = 0 ∨ i = 1 then (if slot i c = ByteArray.empty then (132, c) else layV i ByteArray.empty c) else (130, c)
abbrev O8 := Int × ByteArray × ByteArray × Int × Bool × Int × Int × Unit
def cOut (r : Int × Cl) : Option O8 := some (r.1, r.2.a, r.2.b, r.2.n, r.2.o, r.2.h, r.2.w, ())
def rOut (r : Int × Cl) : Option O8 := some (r.1, r.2.a, r.2.b, r.2.n, !r.2.o, r.2.h, r.2.w, ())
abbrev O15 := Int × Int × Int × Int × Int × Int × Int × Int × ByteArray × ByteArray × Int × Bool × Int × Int × Unit
def cOutR (r : Rc) (e : Int) (c : Cl) : Option O15 := some (r.n, r.k, r.a, r.b, r.c, r.o, r.u, e, c.a, c.b, c.n, c.o, c.h, c.w, ())
def rOutR (r : Rc) (e : Int) (c : Cl) : Option O15 := some (r.n, r.k, r.a, r.b, r.c, r.o, r.u, e, c.a, c.b, c.n, !c.o, c.h, c.w, ())
abbrev O16 := Int × Int × Int × Int × Int × Int × Int × Int × Int × ByteArray × ByteArray × Int × Bool × Int × Int × Unit
def cOutN (r : Rc) (i e : Int) (c : Cl) : Option O16 := some (r.n, r.k, r.a, r.b, r.c, r.o, r.u, i, e, c.a, c.b, c.n, c.o, c.h, c.w, ())
def rOutN (r : Rc) (i e : Int) (c : Cl) : Option O16 := some (r.n, r.k, r.a, r.b, r.c, r.o, r.u, i, e, c.a, c.b, c.n, !c.o, c.h, c.w, ())
/-- What the bytes of a slot are read as. -/
noncomputable def pv (s : ByteArray) : Rc × Int := match F29_commit_Parse s with | some (n, k, a, b, c, o, u, e, _) => (⟨n, k, a, b, c, o, u⟩, e) | none => (Rc.zero, 170)
def outP (r : Rc × Int) : Option P8 := some (r.1.n, r.1.k, r.1.a, r.1.b, r.1.c, r.1.o, r.1.u, r.2, ())
theorem pv_eq {s : ByteArray} (hs : s.size ≤ 281474976710656) : F29_commit_Parse s = outP (pv s) ∧ ((pv s).2 = 0 ∨ pv s = (Rc.zero, 170)) := by
  rcases parse_c s hs with ⟨n, k, a, b, c, o, u, _, _, _, g4⟩ | ⟨g4, _⟩
  · have : pv s = (⟨n, k, a, b, c, o, u⟩, 0) := by unfold pv; rw [g4]; rfl
    rw [this]; exact ⟨g4, .inl rfl⟩
  · have : pv s = (Rc.zero, 170) := by unfold pv; rw [g4]; rfl
    rw [this]; exact ⟨g4, .inr rfl⟩
theorem pv_empty : pv ByteArray.empty = (Rc.zero, 170) := by
  rcases parse_c ByteArray.empty (by decide) with ⟨n, k, a, b, c, o, u, _, h2, h3, _⟩ | ⟨g4, _⟩
  · have h := congrArg bytesOf h3
    rw [recE, bytesOf_str (encT_B (rec_ok n h2 a b c o u)), encT_eq] at h
    simp [hd, bytesOf_empty] at h
  · unfold pv; rw [g4]; rfl
theorem pv_rec {n k a b c o u : Int} (h1 : recOk n a b c o u = true) (h2 : (Lit.int .u64 k).wf = true) : pv (strOf (recE n k a b c o u)) = (⟨n, k, a, b, c, o, u⟩, 0) := by
  unfold pv; rw [parse_rec h1 h2]; rfl
theorem pv_wf {s : ByteArray} (hs : s.size ≤ 281474976710656) : (Lit.int .u64 (pv s).1.k).wf = true := by
  rcases parse_c s hs with ⟨n, k, a, b, c, o, u, _, h2, _, g4⟩ | ⟨g4, _⟩
  · have : pv s = (⟨n, k, a, b, c, o, u⟩, 0) := by unfold pv; rw [g4]; rfl
    rw [this]; exact h2
  · have : pv s = (Rc.zero, 170) := by unfold pv; rw [g4]; rfl
    rw [this]; decide
noncomputable def nowV (c : Cl) : Rc × Int × Int :=
  if c.a = ByteArray.empty ∧ c.b = ByteArray.empty then (Rc.zero, 0, 171)
  else if ¬ (pv c.a).2 = 0 ∧ ¬ (pv c.b).2 = 0 then (Rc.zero, 0, 170)
  else if ¬ (pv c.a).2 = 0 ∨ (pv c.b).2 = 0 ∧ (pv c.a).1.n < (pv c.b).1.n then ((pv c.b).1, 1, 0) else ((pv c.a).1, 0, 0)
def setR (i : Int) (r : Rc) (c : Cl) : Rc × Int × Cl :=
  if recOk r.n r.a r.b r.c r.o r.u = true then (if (setV i (strOf (recE r.n r.k r.a r.b r.c r.o r.u)) c).1 = 0 then (r, setV i (strOf (recE r.n r.k r.a r.b r.c r.o r.u)) c) else (Rc.zero, setV i (strOf (recE r.n r.k r.a r.b r.c r.o r.u)) c)) else (Rc.zero, 170, c)
noncomputable def firstV (k a b c o u : Int) (z : Cl) : Rc × Int × Cl := if z.a = ByteArray.empty ∧ z.b = ByteArray.empty then setR 0 ⟨0, k, a, b, c, o, u⟩ z else (Rc.zero, 131, z)
noncomputable def nextV (k a b c o u : Int) (z : Cl) : Rc × Int × Cl :=
  if ¬ z.a = ByteArray.empty ∧ ¬ z.b = ByteArray.empty then (Rc.zero, 172, z)
  else if (nowV z).2.2 = 0 then
    (if (setR (IntKind.i64.wrap (1 - (nowV z).2.1)) ⟨IntKind.i64.wrap ((nowV z).1.n + 1), k, a, b, c, o, u⟩ z).2.1 = 0 then
      (if (eraV (nowV z).2.1 (setR (IntKind.i64.wrap (1 - (nowV z).2.1)) ⟨IntKind.i64.wrap ((nowV z).1.n + 1), k, a, b, c, o, u⟩ z).2.2).1 = 0 then
        ((setR (IntKind.i64.wrap (1 - (nowV z).2.1)) ⟨IntKind.i64.wrap ((nowV z).1.n + 1), k, a, b, c, o, u⟩ z).1, eraV (nowV z).2.1 (setR (IntKind.i64.wrap (1 - (nowV z).2.1)) ⟨IntKind.i64.wrap ((nowV z).1.n + 1), k, a, b, c, o, u⟩ z).2.2)
      else (Rc.zero, eraV (nowV z).2.1 (setR (IntKind.i64.wrap (1 - (nowV z).2.1)) ⟨IntKind.i64.wrap ((nowV z).1.n + 1), k, a, b, c, o, u⟩ z).2.2))
    else (Rc.zero, (setR (IntKind.i64.wrap (1 - (nowV z).2.1)) ⟨IntKind.i64.wrap ((nowV z).1.n + 1), k, a, b, c, o, u⟩ z).2))
  else (Rc.zero, (nowV z).2.2, z)
/-- What the slots hold is short. -/
def Short (c : Cl) : Prop := c.a.size ≤ 200 ∧ c.b.size ≤ 200
theorem spend_short {c : Cl} (h : Short c) : Short (spendV c).2 := by
  unfold spendV; split
  · exact h
  · split <;> exact h
theorem lay_short {c : Cl} (h : Short c) {i : Int} {s : ByteArray} (hs : s.size ≤ 200) : Short (layV i s c).2 := by
  unfold layV; split
  · constructor
    · dsimp only; split; exact hs; exact h.1
    · dsimp only; split; exact h.2; exact hs
  · exact spend_short h
theorem set_short {c : Cl} (h : Short c) (i : Int) (s : ByteArray) : Short (setV i s c).2 := by
  unfold setV; split
  · split
    · split
      · exact h
      · exact lay_short h (by omega)
    · exact h
  · exact h
theorem era_short {c : Cl} (h : Short c) (i : Int) : Short (eraV i c).2 := by
  unfold eraV; split
  · split
    · exact h
    · exact lay_short h (by decide)
  · exact h
theorem setR_short {c : Cl} (h : Short c) (i : Int) (r : Rc) : Short (setR i r c).2.2 := by
  unfold setR; split
  · split <;> exact set_short h _ _
  · exact h
theorem first_short {z : Cl} (h : Short z) (k a b c o u : Int) : Short (firstV k a b c o u z).2.2 := by
  unfold firstV; split
  · exact setR_short h _ _
  · exact h
theorem next_short {z : Cl} (h : Short z) (k a b c o u : Int) : Short (nextV k a b c o u z).2.2 := by
  unfold nextV; split
  · exact h
  · split
    · split
      · split <;> exact era_short (setR_short h _ _) _
      · exact setR_short h _ _
    · exact h

theorem cspend_eq (c : Cl) : F142_power_Power_Spend c.o c.h c.w = some ((spendV c).1, (spendV c).2.o, (spendV c).2.h, (spendV c).2.w, ()) := by
  rw [F142_power_Power_Spend_eq]
  unfold spendV
  by_cases h1 : c.o = true
  · rw [if_pos h1, if_pos h1]
  · rw [if_neg h1, if_neg h1]
    by_cases h2 : 0 < c.h
    · rw [if_pos h2, if_pos h2]
    · rw [if_neg h2, if_neg h2]
theorem clay_eq (i : Int) (hi : i = 0 ∨ i = 1) (s : ByteArray) (c : Cl) : F104_cell_Cell_lay i s c.a c.b c.n c.o c.h c.w = cOut (layV i s c) := by
  rw [F104_cell_Cell_lay_eq, cspend_eq, Option.bind_some]
  dsimp only
  unfold layV cOut
  by_cases h : (spendV c).1 = 0
  · rw [if_neg (by simp [h]), if_pos h]
    rcases hi with hi | hi <;> subst hi
    · rfl
    · rfl
  · rw [if_pos h, if_neg h]
    have : (spendV c).2.a = c.a ∧ (spendV c).2.b = c.b ∧ (spendV c).2.n = c.n := by
      unfold spendV; split
      · exact ⟨rfl, rfl, rfl⟩
      · split <;> exact ⟨rfl, rfl, rfl⟩
    rw [this.1, this.2.1, this.2.2]
theorem cis_eq (i : Int) (c : Cl) : F103_cell_Cell_is i c.a c.b c.n c.o c.h c.w = some (decide (i = 0 ∨ i = 1), c.a, c.b, c.n, c.o, c.h, c.w, ()) := by
  rw [F103_cell_Cell_is_eq]
  by_cases h : 0 ≤ i
  · rw [if_pos h, show decide (i < 2) = decide (i = 0 ∨ i = 1) from by rw [Bool.eq_iff_iff, decide_eq_true_eq, decide_eq_true_eq]; omega]
  · rw [if_neg h, show decide (i = 0 ∨ i = 1) = false from by rw [decide_eq_false_iff_not]; omega]
theorem cset_eq (i : Int) (s : ByteArray) (c : Cl) : F48_cell_Cell_Set i s c.a c.b c.n c.o c.h c.w = cOut (setV i s c) := by
  rw [F48_cell_Cell_Set_eq, cis_eq, Option.bind_some]
  simp only [F48_cell_Cell_Set_l6_eq]
  unfold setV
  by_cases hi : i = 0 ∨ i = 1
  · rw [if_neg (by simp [hi]), if_pos hi]
    have E : (if s = ByteArray.empty then some (2, c.a, c.b, c.n, c.o, c.h, c.w, ()) else if (200 : Int) < (s.size : Int) then some (2, c.a, c.b, c.n, c.o, c.h, c.w, ()) else (F104_cell_Cell_lay i s c.a c.b c.n c.o c.h c.w).bind fun y => some (y.1, y.2.1, y.2.2.1, y.2.2.2.1, y.2.2.2.2.1, y.2.2.2.2.2.1, y.2.2.2.2.2.2.1, ())) = cOut (if s = ByteArray.empty ∨ 200 < (s.size : Int) then (2, c) else layV i s c) := by
      by_cases h1 : s = ByteArray.empty
      · rw [if_pos h1, if_pos (.inl h1)]; rfl
      · rw [if_neg h1]
        by_cases h2 : 200 < (s.size : Int)
        · rw [if_pos h2, if_pos (.inr h2)]; rfl
        · rw [if_neg h2, if_neg (by rintro (h | h); exact h1 h; exact h2 h), clay_eq i hi]; rfl
    rcases hi with hi | hi <;> subst hi
    · rw [if_pos rfl]
      by_cases h0 : c.a = ByteArray.empty
      · rw [if_neg (by simp [h0]), if_pos (show slot 0 c = ByteArray.empty from h0)]; exact E
      · rw [if_pos h0, if_neg (show ¬ slot 0 c = ByteArray.empty from h0)]; rfl
    · rw [if_neg (by decide), if_pos rfl]
      by_cases h0 : c.b = ByteArray.empty
      · rw [if_neg (by simp [h0]), if_pos (show slot 1 c = ByteArray.empty from h0)]; exact E
      · rw [if_pos h0, if_neg (show ¬ slot 1 c = ByteArray.empty from h0)]; rfl
  · rw [if_pos (by simp only [not_or] at hi; simp [hi]), if_neg hi]; rfl
theorem cera_eq (i : Int) (c : Cl) : F50_cell_Cell_Erase i c.a c.b c.n c.o c.h c.w = cOut (eraV i c) := by
  rw [F50_cell_Cell_Erase_eq, cis_eq, Option.bind_some]
  dsimp only
  unfold eraV
  by_cases hi : i = 0 ∨ i = 1
  · rw [if_neg (by simp [hi]), if_pos hi, clay_eq i hi]
    rcases hi with hi | hi <;> subst hi
    · rw [if_pos rfl]
      by_cases h0 : c.a = ByteArray.empty
      · rw [if_pos h0, if_pos (show slot 0 c = ByteArray.empty from h0)]; rfl
      · rw [if_neg h0, if_neg (show ¬ slot 0 c = ByteArray.empty from h0)]; rfl
    · rw [if_neg (by decide), if_pos rfl]
      by_cases h0 : c.b = ByteArray.empty
      · rw [if_pos h0, if_pos (show slot 1 c = ByteArray.empty from h0)]; rfl
      · rw [if_neg h0, if_neg (show ¬ slot 1 c = ByteArray.empty from h0)]; rfl
  · rw [if_pos (by simp only [not_or] at hi; simp [hi]), if_neg hi]; rfl
theorem cget_eq (i : Int) (hi : i = 0 ∨ i = 1) (c : Cl) : F53_cell_Cell_Get i c.a c.b c.n c.o c.h c.w = some (slot i c, decide (¬ slot i c = ByteArray.empty), c.a, c.b, c.n, c.o, c.h, c.w, ()) := by
  rw [F53_cell_Cell_Get_eq, cis_eq, Option.bind_some]
  dsimp only
  rw [if_neg (by simp [hi])]
  rcases hi with hi | hi <;> subst hi
  · rw [if_pos rfl, if_pos rfl]; rfl
  · rw [if_neg (by decide), if_pos rfl, if_neg (by decide), if_pos rfl]; rfl
def slotsV (c : Cl) : List Int := (if c.a = ByteArray.empty then [] else [0]) ++ (if c.b = ByteArray.empty then [] else [1])
theorem cslots_eq (c : Cl) : F64_cell_Cell_Slots c.a c.b c.n c.o c.h c.w = some (c.a, c.b, c.n, c.o, c.h, c.w, slotsV c, ()) := by
  have two : ∀ g, F64_cell_Cell_Slots_l1000003 c.a c.b 2 c.a c.b c.n c.o c.h c.w g = some (c.a, c.b, c.n, c.o, c.h, c.w, g, ()) := by
    intro g
    rw [F64_cell_Cell_Slots_l1000003_eq, if_neg (by decide)]
  have one : ∀ g : List Int, g.length ≤ 1 → F64_cell_Cell_Slots_l1000003 c.a c.b 1 c.a c.b c.n c.o c.h c.w g = some (c.a, c.b, c.n, c.o, c.h, c.w, g ++ (if c.b = ByteArray.empty then [] else [1]), ()) := by
    intro g hg
    rw [F64_cell_Cell_Slots_l1000003_eq, if_pos (by decide), if_neg (by decide), if_pos rfl]
    by_cases h0 : c.b = ByteArray.empty
    · rw [if_neg (by simp [h0]), if_pos h0, F64_cell_Cell_Slots_l7_eq, show IntKind.i64.wrap (1 + 1) = 2 by decide, two, List.append_nil]
    · rw [if_pos h0, if_pos (by simp; omega), if_neg h0, F64_cell_Cell_Slots_l7_eq, show IntKind.i64.wrap (1 + 1) = 2 by decide, two]
  rw [F64_cell_Cell_Slots_eq, F64_cell_Cell_Slots_l1000003_eq, if_pos (by decide), if_pos rfl]
  unfold slotsV
  by_cases h0 : c.a = ByteArray.empty
  · rw [if_neg (by simp [h0]), if_pos h0, F64_cell_Cell_Slots_l7_eq, show IntKind.i64.wrap (0 + 1) = 1 by decide, one _ (by simp)]
  · rw [if_pos h0, if_pos (by simp), if_neg h0, F64_cell_Cell_Slots_l7_eq, show IntKind.i64.wrap (0 + 1) = 1 by decide, one _ (by simp)]; rfl
theorem cnow_eq (c : Cl) (hc : Short c) : F36_commit_Now c.a c.b c.n c.o c.h c.w = cOutN (nowV c).1 (nowV c).2.1 (nowV c).2.2 c := by
  obtain ⟨pa, qa⟩ := pv_eq (s := c.a) (by have := hc.1; omega)
  obtain ⟨pb, qb⟩ := pv_eq (s := c.b) (by have := hc.2; omega)
  have G0 := cget_eq 0 (.inl rfl) c
  have G1 := cget_eq 1 (.inr rfl) c
  rw [show slot 0 c = c.a from rfl] at G0
  rw [show slot 1 c = c.b from rfl] at G1
  -- behind the last slot
  have fin : ∀ (v i : Int) (r : Rc) (j : Int) (z2 : Rc) (g : List Int), ¬ i < v → (j = -1 → r = Rc.zero) → F36_commit_Now_l1000007 v i c.a c.b c.n c.o c.h c.w z2.n z2.k z2.a z2.b z2.c z2.o z2.u 0 0 0 0 0 0 0 (-1) r.n r.k r.a r.b r.c r.o r.u j g = if j = -1 then cOutN Rc.zero 0 170 c else cOutN r j 0 c := by
    intro v i r j z2 g hv hj
    rw [F36_commit_Now_l1000007_eq, if_neg hv]
    by_cases h : j = -1
    · obtain rfl := hj h
      rw [if_pos h, if_pos ⟨⟨rfl, ⟨rfl, rfl, rfl, rfl, trivial⟩, rfl, rfl, trivial⟩, h, trivial⟩]; rfl
    · rw [if_neg h, if_neg (fun hh => h hh.2.1)]; rfl
  have step : ∀ (v i : Int) (q : Int) (r : Rc) (j : Int) (z2 : Rc) (g : List Int), i < v → (0 ≤ i ∧ i < (List.length g : Int)) → rd 0 g i = q → (q = 0 ∨ q = 1) → (j = -1 → r = Rc.zero) → F36_commit_Now_l1000007 v i c.a c.b c.n c.o c.h c.w z2.n z2.k z2.a z2.b z2.c z2.o z2.u 0 0 0 0 0 0 0 (-1) r.n r.k r.a r.b r.c r.o r.u j g
      = if (pv (slot q c)).2 = 0 ∧ (j = -1 ∨ r.n < (pv (slot q c)).1.n) then F36_commit_Now_l1000007 v (IntKind.i64.wrap (i + 1)) c.a c.b c.n c.o c.h c.w z2.n z2.k z2.a z2.b z2.c z2.o z2.u 0 0 0 0 0 0 0 (-1) (pv (slot q c)).1.n (pv (slot q c)).1.k (pv (slot q c)).1.a (pv (slot q c)).1.b (pv (slot q c)).1.c (pv (slot q c)).1.o (pv (slot q c)).1.u q g else F36_commit_Now_l1000007 v (IntKind.i64.wrap (i + 1)) c.a c.b c.n c.o c.h c.w z2.n z2.k z2.a z2.b z2.c z2.o z2.u 0 0 0 0 0 0 0 (-1) r.n r.k r.a r.b r.c r.o r.u j g := by
    intro v i q r j z2 g hv hb hq hq1 hj
    have P : F29_commit_Parse (slot q c) = outP (pv (slot q c)) := by rcases hq1 with h | h <;> subst h; exact pa; exact pb
    rw [F36_commit_Now_l1000007_eq, if_pos hv, if_pos hb, hq, cget_eq q hq1, Option.bind_some]
    dsimp only
    rw [P]
    simp only [outP, Option.bind_some, F36_commit_Now_l13_eq]
    by_cases h0 : (pv (slot q c)).2 = 0
    · rw [if_pos h0]
      by_cases h1 : j = -1
      · obtain rfl := hj h1
        rw [if_pos ⟨⟨rfl, ⟨rfl, rfl, rfl, rfl, trivial⟩, rfl, rfl, trivial⟩, h1, trivial⟩, if_pos ⟨h0, .inl h1⟩]
      · rw [if_neg (fun hh => h1 hh.2.1)]
        by_cases h2 : r.n < (pv (slot q c)).1.n
        · rw [if_pos h2, if_pos ⟨h0, .inr h2⟩]
        · rw [if_neg h2, if_neg (by rintro ⟨_, h | h⟩; exact h1 h; exact h2 h)]
    · rw [if_neg h0, if_neg (fun hh => h0 hh.1)]
  rw [F36_commit_Now_eq, cslots_eq, Option.bind_some]
  dsimp only
  by_cases ha : c.a = ByteArray.empty
  · by_cases hb : c.b = ByteArray.empty
    · have e1 : slotsV c = [] := by unfold slotsV; rw [if_pos ha, if_pos hb]; rfl
      have e2 : nowV c = (Rc.zero, 0, 171) := by unfold nowV; exact if_pos ⟨ha, hb⟩
      rw [e1, e2, if_pos (by simp)]; rfl
    · have ea : ¬ (pv c.a).2 = 0 := by rw [ha, pv_empty]; decide
      have e1 : slotsV c = [1] := by unfold slotsV; rw [if_pos ha, if_neg hb]; rfl
      have n1 : ¬ (c.a = ByteArray.empty ∧ c.b = ByteArray.empty) := fun h => hb h.2
      rw [e1, if_neg (by simp)]
      have s1 := step 1 0 1 Rc.zero (-1) Rc.zero [1] (by decide) (by decide) rfl (.inr rfl) (fun _ => rfl)
      rw [show slot 1 c = c.b from rfl, show IntKind.i64.wrap (0 + 1) = 1 by decide] at s1
      refine Eq.trans s1 ?_
      by_cases h0 : (pv c.b).2 = 0
      · have e2 : nowV c = ((pv c.b).1, 1, 0) := by unfold nowV; rw [if_neg n1, if_neg (fun h => h.2 h0), if_pos (.inl ea)]
        rw [if_pos ⟨h0, .inl rfl⟩, fin 1 1 _ 1 Rc.zero [1] (by decide) (fun h => absurd h (by decide)), if_neg (by decide), e2]
      · have e2 : nowV c = (Rc.zero, 0, 170) := by unfold nowV; rw [if_neg n1, if_pos ⟨ea, h0⟩]
        rw [if_neg (fun h => h0 h.1), fin 1 1 Rc.zero (-1) Rc.zero [1] (by decide) (fun _ => rfl), if_pos rfl, e2]
  · have n1 : ¬ (c.a = ByteArray.empty ∧ c.b = ByteArray.empty) := fun h => ha h.1
    by_cases hb : c.b = ByteArray.empty
    · have eb : ¬ (pv c.b).2 = 0 := by rw [hb, pv_empty]; decide
      have e1 : slotsV c = [0] := by unfold slotsV; rw [if_neg ha, if_pos hb]; rfl
      rw [e1, if_neg (by simp)]
      have s1 := step 1 0 0 Rc.zero (-1) Rc.zero [0] (by decide) (by decide) rfl (.inl rfl) (fun _ => rfl)
      rw [show slot 0 c = c.a from rfl, show IntKind.i64.wrap (0 + 1) = 1 by decide] at s1
      refine Eq.trans s1 ?_
      by_cases h0 : (pv c.a).2 = 0
      · have e2 : nowV c = ((pv c.a).1, 0, 0) := by unfold nowV; rw [if_neg n1, if_neg (fun h => h.1 h0), if_neg (by rintro (h | h); exact h h0; exact eb h.1)]
        rw [if_pos ⟨h0, .inl rfl⟩, fin 1 1 _ 0 Rc.zero [0] (by decide) (fun h => absurd h (by decide)), if_neg (by decide), e2]
      · have e2 : nowV c = (Rc.zero, 0, 170) := by unfold nowV; rw [if_neg n1, if_pos ⟨h0, eb⟩]
        rw [if_neg (fun h => h0 h.1), fin 1 1 Rc.zero (-1) Rc.zero [0] (by decide) (fun _ => rfl), if_pos rfl, e2]
    · have e1 : slotsV c = [0, 1] := by unfold slotsV; rw [if_neg ha, if_neg hb]; rfl
      rw [e1, if_neg (by simp)]
      have s1 := step 2 0 0 Rc.zero (-1) Rc.zero [0, 1] (by decide) (by decide) rfl (.inl rfl) (fun _ => rfl)
      rw [show slot 0 c = c.a from rfl, show IntKind.i64.wrap (0 + 1) = 1 by decide] at s1
      refine Eq.trans s1 ?_
      by_cases h0 : (pv c.a).2 = 0
      · rw [if_pos ⟨h0, .inl rfl⟩, step 2 1 1 _ 0 Rc.zero [0, 1] (by decide) (by decide) rfl (.inr rfl) (fun h => absurd h (by decide)), show slot 1 c = c.b from rfl, show IntKind.i64.wrap (1 + 1) = 2 by decide]
        by_cases h1 : (pv c.b).2 = 0 ∧ (pv c.a).1.n < (pv c.b).1.n
        · have e2 : nowV c = ((pv c.b).1, 1, 0) := by unfold nowV; rw [if_neg n1, if_neg (fun h => h.1 h0), if_pos (.inr h1)]
          rw [if_pos ⟨h1.1, .inr h1.2⟩, fin 2 2 _ 1 Rc.zero [0, 1] (by decide) (fun h => absurd h (by decide)), if_neg (by decide), e2]
        · have e2 : nowV c = ((pv c.a).1, 0, 0) := by unfold nowV; rw [if_neg n1, if_neg (fun h => h.1 h0), if_neg (by rintro (h | h); exact h h0; exact h1 h)]
          rw [if_neg (fun h => h1 ⟨h.1, by rcases h.2 with hh | hh; exact absurd hh (by decide); exact hh⟩), fin 2 2 _ 0 Rc.zero [0, 1] (by decide) (fun h => absurd h (by decide)), if_neg (by decide), e2]
      · rw [if_neg (fun h => h0 h.1), step 2 1 1 Rc.zero (-1) Rc.zero [0, 1] (by decide) (by decide) rfl (.inr rfl) (fun _ => rfl), show slot 1 c = c.b from rfl, show IntKind.i64.wrap (1 + 1) = 2 by decide]
        by_cases h1 : (pv c.b).2 = 0
        · have e2 : nowV c = ((pv c.b).1, 1, 0) := by unfold nowV; rw [if_neg n1, if_neg (fun h => h.2 h1), if_pos (.inl h0)]
          rw [if_pos ⟨h1, .inl rfl⟩, fin 2 2 _ 1 Rc.zero [0, 1] (by decide) (fun h => absurd h (by decide)), if_neg (by decide), e2]
        · have e2 : nowV c = (Rc.zero, 0, 170) := by unfold nowV; rw [if_neg n1, if_pos ⟨h0, h1⟩]
          rw [if_neg (fun h => h1 h.1), fin 2 2 Rc.zero (-1) Rc.zero [0, 1] (by decide) (fun _ => rfl), if_pos rfl, e2]
theorem csetR_eq (i : Int) {r : Rc} (hk : (Lit.int .u64 r.k).wf = true) (c : Cl) : F101_commit_set i r.n r.k r.a r.b r.c r.o r.u c.a c.b c.n c.o c.h c.w = cOutR (setR i r c).1 (setR i r c).2.1 (setR i r c).2.2 := by
  rw [F101_commit_set_eq, cbytes_eq _ hk]
  unfold recV setR
  by_cases h : recOk r.n r.a r.b r.c r.o r.u = true
  · rw [if_pos h, if_pos h, Option.bind_some]
    dsimp only
    rw [if_pos rfl, cset_eq]
    simp only [cOut, Option.bind_some]
    by_cases h1 : (setV i (strOf (recE r.n r.k r.a r.b r.c r.o r.u)) c).1 = 0
    · rw [if_neg (by simp [h1]), if_pos h1]; simp only [cOutR, h1]
    · rw [if_pos h1, if_neg h1]; rfl
  · rw [if_neg h, if_neg h, Option.bind_some]
    dsimp only
    rw [if_neg (by decide), if_pos (by decide)]; rfl
theorem slots_len (c : Cl) : ((slotsV c).length : Int) = (if c.a = ByteArray.empty then 0 else 1) + (if c.b = ByteArray.empty then 0 else 1) := by
  unfold slotsV
  by_cases ha : c.a = ByteArray.empty <;> by_cases hb : c.b = ByteArray.empty <;> simp [ha, hb]
theorem cfirst_eq {k : Int} (hk : (Lit.int .u64 k).wf = true) (a b c o u : Int) (z : Cl) : F33_commit_First k a b c o u z.a z.b z.n z.o z.h z.w = cOutR (firstV k a b c o u z).1 (firstV k a b c o u z).2.1 (firstV k a b c o u z).2.2 := by
  rw [F33_commit_First_eq, cslots_eq, Option.bind_some]
  dsimp only
  unfold firstV
  have hl := slots_len z
  by_cases h : z.a = ByteArray.empty ∧ z.b = ByteArray.empty
  · rw [if_pos h.1, if_pos h.2] at hl
    rw [if_neg (by omega), if_pos h]
    rw [csetR_eq 0 (r := ⟨0, k, a, b, c, o, u⟩) hk z]; rfl
  · have : 0 < ((slotsV z).length : Int) := by
      by_cases ha : z.a = ByteArray.empty
      · have hb : ¬ z.b = ByteArray.empty := fun hb => h ⟨ha, hb⟩
        rw [if_pos ha, if_neg hb] at hl; omega
      · rw [if_neg ha] at hl; split at hl <;> omega
    rw [if_pos this, if_neg h]; rfl
theorem cnext_eq {k : Int} (hk : (Lit.int .u64 k).wf = true) (a b c o u : Int) (z : Cl) (hz : Short z) : F34_commit_Next k a b c o u z.a z.b z.n z.o z.h z.w = cOutR (nextV k a b c o u z).1 (nextV k a b c o u z).2.1 (nextV k a b c o u z).2.2 := by
  rw [F34_commit_Next_eq, cslots_eq, Option.bind_some]
  dsimp only
  unfold nextV
  have hl := slots_len z
  by_cases h : ¬ z.a = ByteArray.empty ∧ ¬ z.b = ByteArray.empty
  · rw [if_neg h.1, if_neg h.2] at hl
    rw [if_pos (by omega), if_pos h]; rfl
  · have : ¬ ((slotsV z).length : Int) = 2 := by
      by_cases ha : z.a = ByteArray.empty
      · rw [if_pos ha] at hl; split at hl <;> omega
      · have hb : z.b = ByteArray.empty := by apply Classical.byContradiction; intro hb; exact h ⟨ha, hb⟩
        rw [if_neg ha, if_pos hb] at hl; omega
    rw [if_neg this, if_neg h, cnow_eq z hz]
    simp only [cOutN, Option.bind_some]
    by_cases h1 : (nowV z).2.2 = 0
    · rw [if_neg (by simp [h1]), if_pos h1]
      have hs := csetR_eq (IntKind.i64.wrap (1 - (nowV z).2.1)) (r := ⟨IntKind.i64.wrap ((nowV z).1.n + 1), k, a, b, c, o, u⟩) hk z
      dsimp only at hs
      rw [hs]
      generalize setR (IntKind.i64.wrap (1 - (nowV z).2.1)) ⟨IntKind.i64.wrap ((nowV z).1.n + 1), k, a, b, c, o, u⟩ z = x
      simp only [cOutR, Option.bind_some]
      by_cases h2 : x.2.1 = 0
      · rw [if_pos h2, if_pos h2, cera_eq]
        generalize eraV (nowV z).2.1 x.2.2 = y
        simp only [cOut, Option.bind_some]
        by_cases h3 : y.1 = 0
        · rw [if_neg (by simp [h3]), if_pos h3]; simp only [h3]
        · rw [if_pos h3, if_neg h3]; rfl
      · rw [if_neg h2, if_neg h2, if_pos h2]; rfl
    · rw [if_pos h1, if_neg h1]; rfl

theorem rspend_eq (c : Cl) : F105_letheref11_Power_Spend (!c.o) c.h c.w = some ((spendV c).1, !(spendV c).2.o, (spendV c).2.h, (spendV c).2.w, ()) := by
  rw [F105_letheref11_Power_Spend_eq]
  unfold spendV
  by_cases h1 : c.o = true
  · rw [if_pos (by rw [h1]; rfl), if_pos h1]
  · have h1' : c.o = false := by cases h : c.o; rfl; exact absurd h h1
    rw [if_neg (by rw [h1']; decide), if_neg h1]
    by_cases h2 : 0 < c.h
    · rw [if_pos h2, if_pos h2]
      by_cases h3 : IntKind.i64.wrap (c.h - 1) = 0
      · rw [if_pos h3]; simp [h3]
      · rw [if_neg h3]; simp [h3, h1']
    · rw [if_neg h2, if_neg h2]
theorem lay_same {c : Cl} : (spendV c).2.a = c.a ∧ (spendV c).2.b = c.b ∧ (spendV c).2.n = c.n := by
  unfold spendV; split
  · exact ⟨rfl, rfl, rfl⟩
  · split <;> exact ⟨rfl, rfl, rfl⟩
theorem rlay_eq (i : Int) (hi : i = 0 ∨ i = 1) (s : ByteArray) (c : Cl) : ((F105_letheref11_Power_Spend (!c.o) c.h c.w).bind fun y1 =>
        if ¬ y1.1 = (0 : Int) then
          some (y1.1, c.a, c.b, c.n, y1.2.1, y1.2.2.1, y1.2.2.2.1, ())
        else
          if i = (0 : Int) then
            some (0, s, c.b, IntKind.i64.wrap (c.n + 1), y1.2.1, y1.2.2.1, y1.2.2.2.1, ())
          else
            if i = (1 : Int) then
              some (0, c.a, s, IntKind.i64.wrap (c.n + 1), y1.2.1, y1.2.2.1, y1.2.2.2.1, ())
            else
              none) = rOut (layV i s c) := by
  rw [rspend_eq, Option.bind_some]
  dsimp only
  unfold layV rOut
  by_cases h : (spendV c).1 = 0
  · rw [if_neg (by simp [h]), if_pos h]
    rcases hi with hi | hi <;> subst hi
    · rfl
    · rfl
  · rw [if_pos h, if_neg h, lay_same.1, lay_same.2.1, lay_same.2.2]
theorem rset_eq (i : Int) (s : ByteArray) (c : Cl) : F49_letheref13_Cell_Set i s c.a c.b c.n (!c.o) c.h c.w = rOut (setV i s c) := by
  have L5 : (i = 0 ∨ i = 1) → F49_letheref13_Cell_Set_l5 i s c.a c.b c.n (!c.o) c.h c.w = rOut (if s = ByteArray.empty ∨ 200 < (s.size : Int) then (2, c) else layV i s c) := by
    intro hi
    rw [F49_letheref13_Cell_Set_l5_eq]
    simp only [F49_letheref13_Cell_Set_l6_eq, F49_letheref13_Cell_Set_l11_eq]
    by_cases h1 : s = ByteArray.empty
    · rw [if_pos h1, if_pos (.inl h1)]; rfl
    · rw [if_neg h1]
      by_cases h2 : 200 < (s.size : Int)
      · rw [if_pos h2, if_pos (.inr h2)]; rfl
      · rw [if_neg h2, if_neg (by rintro (h | h); exact h1 h; exact h2 h), ← rlay_eq i hi]
  rw [F49_letheref13_Cell_Set_eq]
  simp only [F49_letheref13_Cell_Set_l4_eq]
  by_cases h0 : i = 0
  · have L := L5 (.inl h0)
    subst h0
    rw [if_neg (by decide), if_pos rfl, show setV 0 s c = (if c.a = ByteArray.empty then (if s = ByteArray.empty ∨ 200 < (s.size : Int) then (2, c) else layV 0 s c) else (131, c)) from if_pos (.inl rfl)]
    by_cases h : c.a = ByteArray.empty
    · rw [if_neg (by simp [h]), if_pos h]; exact L
    · rw [if_pos h, if_neg h]; rfl
  · rw [if_pos h0]
    by_cases h1 : i = 1
    · have L := L5 (.inr h1)
      subst h1
      rw [if_neg (by decide), if_neg (by decide), if_pos rfl, show setV 1 s c = (if c.b = ByteArray.empty then (if s = ByteArray.empty ∨ 200 < (s.size : Int) then (2, c) else layV 1 s c) else (131, c)) from if_pos (.inr rfl)]
      by_cases h : c.b = ByteArray.empty
      · rw [if_neg (by simp [h]), if_pos h]; exact L
      · rw [if_pos h, if_neg h]; rfl
    · rw [if_pos h1, show setV i s c = (130, c) from if_neg (by rintro (h | h); exact h0 h; exact h1 h)]; rfl
theorem rera_eq (i : Int) (c : Cl) : F51_letheref13_Cell_Erase i c.a c.b c.n (!c.o) c.h c.w = rOut (eraV i c) := by
  have L5 : (i = 0 ∨ i = 1) → F51_letheref13_Cell_Erase_l5 i c.a c.b c.n (!c.o) c.h c.w = rOut (layV i ByteArray.empty c) := by
    intro hi
    rw [F51_letheref13_Cell_Erase_l5_eq]
    simp only [F51_letheref13_Cell_Erase_l9_eq]
    rw [← rlay_eq i hi]
  rw [F51_letheref13_Cell_Erase_eq]
  simp only [F51_letheref13_Cell_Erase_l4_eq]
  by_cases h0 : i = 0
  · have L := L5 (.inl h0)
    subst h0
    rw [if_neg (by decide), if_pos rfl, show eraV 0 c = (if c.a = ByteArray.empty then (132, c) else layV 0 ByteArray.empty c) from if_pos (.inl rfl)]
    by_cases h : c.a = ByteArray.empty
    · rw [if_pos h, if_pos h]; rfl
    · rw [if_neg h, if_neg h]; exact L
  · rw [if_pos h0]
    by_cases h1 : i = 1
    · have L := L5 (.inr h1)
      subst h1
      rw [if_neg (by decide), if_neg (by decide), if_pos rfl, show eraV 1 c = (if c.b = ByteArray.empty then (132, c) else layV 1 ByteArray.empty c) from if_pos (.inr rfl)]
      by_cases h : c.b = ByteArray.empty
      · rw [if_pos h, if_pos h]; rfl
      · rw [if_neg h, if_neg h]; exact L
    · rw [if_pos h1, show eraV i c = (130, c) from if_neg (by rintro (h | h); exact h0 h; exact h1 h)]; rfl
theorem rnow_eq (c : Cl) (hc : Short c) : F43_letheref17_Now c.a c.b c.n (!c.o) c.h c.w = rOutN (nowV c).1 (nowV c).2.1 (nowV c).2.2 c := by
  obtain ⟨pa, qa⟩ := pv_eq (s := c.a) (by have := hc.1; omega)
  obtain ⟨pb, qb⟩ := pv_eq (s := c.b) (by have := hc.2; omega)
  rw [F43_letheref17_Now_eq, parse_same _ (by have := hc.1; omega), parse_same _ (by have := hc.2; omega), pa, pb]
  simp only [outP, Option.bind_some, F43_letheref17_Now_l7_eq, F43_letheref17_Now_l8_eq, F43_letheref17_Now_l9_eq]
  by_cases h0 : c.a = ByteArray.empty ∧ c.b = ByteArray.empty
  · have e2 : nowV c = (Rc.zero, 0, 171) := by unfold nowV; exact if_pos h0
    rw [if_pos h0.1, if_pos h0.2, e2]; rfl
  · have K : (if ¬ (pv c.a).2 = (0 : Int) then
          if ¬ (pv c.b).2 = (0 : Int) then
            some (0, 0, 0, 0, 0, 0, 0, 0, 170, c.a, c.b, c.n, !c.o, c.h, c.w, ())
          else
            if ¬ (pv c.a).2 = (0 : Int) then rOutN (pv c.b).1 1 0 c else if (pv c.b).2 = (0 : Int) then (if (pv c.a).1.n < (pv c.b).1.n then rOutN (pv c.b).1 1 0 c else rOutN (pv c.a).1 0 0 c) else rOutN (pv c.a).1 0 0 c
        else
          if ¬ (pv c.a).2 = (0 : Int) then rOutN (pv c.b).1 1 0 c else if (pv c.b).2 = (0 : Int) then (if (pv c.a).1.n < (pv c.b).1.n then rOutN (pv c.b).1 1 0 c else rOutN (pv c.a).1 0 0 c) else rOutN (pv c.a).1 0 0 c) = rOutN (nowV c).1 (nowV c).2.1 (nowV c).2.2 c := by
      by_cases h1 : (pv c.a).2 = 0
      · by_cases h2 : (pv c.b).2 = 0
        · by_cases h3 : (pv c.a).1.n < (pv c.b).1.n
          · have e2 : nowV c = ((pv c.b).1, 1, 0) := by unfold nowV; rw [if_neg h0, if_neg (fun h => h.1 h1), if_pos (.inr ⟨h2, h3⟩)]
            rw [e2, if_neg (by simp [h1]), if_neg (by simp [h1]), if_pos h2, if_pos h3]
          · have e2 : nowV c = ((pv c.a).1, 0, 0) := by unfold nowV; rw [if_neg h0, if_neg (fun h => h.1 h1), if_neg (by rintro (h | h); exact h h1; exact h3 h.2)]
            rw [e2, if_neg (by simp [h1]), if_neg (by simp [h1]), if_pos h2, if_neg h3]
        · have e2 : nowV c = ((pv c.a).1, 0, 0) := by unfold nowV; rw [if_neg h0, if_neg (fun h => h.1 h1), if_neg (by rintro (h | h); exact h h1; exact h2 h.1)]
          rw [e2, if_neg (by simp [h1]), if_neg (by simp [h1]), if_neg h2]
      · by_cases h2 : (pv c.b).2 = 0
        · have e2 : nowV c = ((pv c.b).1, 1, 0) := by unfold nowV; rw [if_neg h0, if_neg (fun h => h.2 h2), if_pos (.inl h1)]
          rw [e2, if_pos h1, if_neg (by simp [h2]), if_pos h1]
        · have e2 : nowV c = (Rc.zero, 0, 170) := by unfold nowV; rw [if_neg h0, if_pos ⟨h1, h2⟩]
          rw [e2, if_pos h1, if_pos h2]; rfl
    by_cases h1 : c.a = ByteArray.empty
    · rw [if_pos h1, if_neg (fun h => h0 ⟨h1, h⟩)]; exact K
    · rw [if_neg h1]; exact K
theorem rsetR_eq (i : Int) {r : Rc} (hk : (Lit.int .u64 r.k).wf = true) (c : Cl) : F102_letheref17_set i r.n r.k r.a r.b r.c r.o r.u c.a c.b c.n (!c.o) c.h c.w = rOutR (setR i r c).1 (setR i r c).2.1 (setR i r c).2.2 := by
  rw [F102_letheref17_set_eq, rbytes_rec _ hk]
  unfold recV setR
  by_cases h : recOk r.n r.a r.b r.c r.o r.u = true
  · rw [if_pos h, if_pos h, Option.bind_some]
    dsimp only
    rw [if_neg (by decide), rset_eq]
    simp only [rOut, Option.bind_some]
    by_cases h1 : (setV i (strOf (recE r.n r.k r.a r.b r.c r.o r.u)) c).1 = 0
    · rw [if_neg (by simp [h1]), if_pos h1]; simp only [rOutR, h1]
    · rw [if_pos h1, if_neg h1]; rfl
  · rw [if_neg h, if_neg h, Option.bind_some]
    dsimp only
    rw [if_pos (by decide)]; rfl
theorem rfirst_eq {k : Int} (hk : (Lit.int .u64 k).wf = true) (a b c o u : Int) (z : Cl) : F52_letheref17_First k a b c o u z.a z.b z.n (!z.o) z.h z.w = rOutR (firstV k a b c o u z).1 (firstV k a b c o u z).2.1 (firstV k a b c o u z).2.2 := by
  rw [F52_letheref17_First_eq]
  unfold firstV
  by_cases h : z.a = ByteArray.empty ∧ z.b = ByteArray.empty
  · rw [if_neg (by simp [h.1]), if_neg (by simp [h.2]), if_pos h, rsetR_eq 0 (r := ⟨0, k, a, b, c, o, u⟩) hk z]; rfl
  · rw [if_neg h]
    by_cases ha : z.a = ByteArray.empty
    · rw [if_neg (by simp [ha]), if_pos (fun hb => h ⟨ha, hb⟩)]; rfl
    · rw [if_pos ha]; rfl
theorem rnext_eq {k : Int} (hk : (Lit.int .u64 k).wf = true) (a b c o u : Int) (z : Cl) (hz : Short z) : F40_letheref17_Next k a b c o u z.a z.b z.n (!z.o) z.h z.w = rOutR (nextV k a b c o u z).1 (nextV k a b c o u z).2.1 (nextV k a b c o u z).2.2 := by
  rw [F40_letheref17_Next_eq, rnow_eq z hz]
  simp only [rOutN, Option.bind_some]
  unfold nextV
  by_cases h : ¬ z.a = ByteArray.empty ∧ ¬ z.b = ByteArray.empty
  · rw [if_pos h.1, if_pos h.2, if_pos h]; rfl
  · rw [if_neg h]
    have hs := rsetR_eq (IntKind.i64.wrap (1 - (nowV z).2.1)) (r := ⟨IntKind.i64.wrap ((nowV z).1.n + 1), k, a, b, c, o, u⟩) hk z
    dsimp only at hs
    rw [hs]
    generalize setR (IntKind.i64.wrap (1 - (nowV z).2.1)) ⟨IntKind.i64.wrap ((nowV z).1.n + 1), k, a, b, c, o, u⟩ z = x
    simp only [rOutR, Option.bind_some]
    rw [rera_eq]
    generalize eraV (nowV z).2.1 x.2.2 = y
    simp only [rOut, Option.bind_some]
    have two : ∀ {α : Type} (p q : Prop) [Decidable p] [Decidable q] (A B : α), ¬ (p ∧ q) → (if p then (if q then A else B) else B) = B := by
      intro α p q _ _ A B h
      by_cases hp : p
      · rw [if_pos hp, if_neg (fun hq => h ⟨hp, hq⟩)]
      · rw [if_neg hp]
    rw [two _ _ _ _ h]
    by_cases h1 : (nowV z).2.2 = 0
    · rw [if_neg (by simp [h1]), if_pos h1]
      by_cases h2 : x.2.1 = 0
      · rw [if_neg (by simp [h2]), if_pos h2]
        by_cases h3 : y.1 = 0
        · rw [if_neg (by simp [h3]), if_pos h3]; simp only [h3]
        · rw [if_pos h3, if_neg h3]; rfl
      · rw [if_pos h2, if_neg h2]; rfl
    · rw [if_pos h1, if_neg h1]; rfl

noncomputable def staleV (z : Cl) : Bool × Int × Cl :=
  if z.a = ByteArray.empty ∨ z.b = ByteArray.empty then (false, 0, z)
  else if (nowV z).2.2 = 0 then (decide ((eraV (IntKind.i64.wrap (1 - (nowV z).2.1)) z).1 = 0), eraV (IntKind.i64.wrap (1 - (nowV z).2.1)) z) else (false, (nowV z).2.2, z)
theorem stale_short {z : Cl} (h : Short z) : Short (staleV z).2.2 := by
  unfold staleV; split
  · exact h
  · split
    · exact era_short h _
    · exact h
theorem cstale_eq (z : Cl) (hz : Short z) : F41_commit_Stale z.a z.b z.n z.o z.h z.w = some ((staleV z).1, (staleV z).2.1, (staleV z).2.2.a, (staleV z).2.2.b, (staleV z).2.2.n, (staleV z).2.2.o, (staleV z).2.2.h, (staleV z).2.2.w, ()) := by
  rw [F41_commit_Stale_eq, cslots_eq, Option.bind_some]
  dsimp only
  unfold staleV
  have hl := slots_len z
  by_cases h : z.a = ByteArray.empty ∨ z.b = ByteArray.empty
  · have : ((slotsV z).length : Int) < 2 := by
      rcases h with h | h
      · rw [if_pos h] at hl; split at hl <;> omega
      · rw [if_pos h] at hl; split at hl <;> omega
    rw [if_pos this, if_pos h]
  · simp only [not_or] at h
    rw [if_neg h.1, if_neg h.2] at hl
    rw [if_neg (by omega), if_neg (by simp [h]), cnow_eq z hz]
    simp only [cOutN, Option.bind_some, cera_eq, cOut]
    by_cases h1 : (nowV z).2.2 = 0
    · rw [if_pos h1, if_pos h1]
    · rw [if_neg h1, if_neg h1]; simp [h1]
theorem rstale_eq (z : Cl) (hz : Short z) : F42_letheref17_Stale z.a z.b z.n (!z.o) z.h z.w = some ((staleV z).1, (staleV z).2.1, (staleV z).2.2.a, (staleV z).2.2.b, (staleV z).2.2.n, !(staleV z).2.2.o, (staleV z).2.2.h, (staleV z).2.2.w, ()) := by
  rw [F42_letheref17_Stale_eq]
  unfold staleV
  by_cases h : z.a = ByteArray.empty ∨ z.b = ByteArray.empty
  · rw [if_pos h]
    by_cases h1 : z.a = ByteArray.empty
    · rw [if_pos h1]
    · rw [if_neg h1, if_pos (by rcases h with h | h; exact absurd h h1; exact h)]
  · rw [if_neg h]
    simp only [not_or] at h
    rw [if_neg h.1, if_neg h.2, rnow_eq z hz]
    simp only [rOutN, Option.bind_some, rera_eq, rOut]
    by_cases h1 : (nowV z).2.2 = 0
    · rw [if_neg (by simp [h1]), if_pos h1]
    · rw [if_pos h1, if_neg h1]
def cutV (n : Int) (c : Cl) : Cl := if c.o = true then c else ⟨c.a, c.b, c.n, decide (n = 0), mn (mx n 0) 1073741824, c.w⟩
theorem ccut_eq (n : Int) (c : Cl) : F44_power_Power_Cut n c.o c.h c.w = some ((cutV n c).o, (cutV n c).h, (cutV n c).w, ()) := by
  rw [F44_power_Power_Cut_eq]
  unfold cutV
  by_cases h : c.o = true
  · rw [if_pos h, if_pos h]
  · rw [if_neg h, if_neg h]
theorem rcut_eq (n : Int) (c : Cl) : F45_letheref11_Power_Cut n (!c.o) c.h c.w = some (!(cutV n c).o, (cutV n c).h, (cutV n c).w, ()) := by
  rw [F45_letheref11_Power_Cut_eq]
  unfold cutV
  by_cases h : c.o = true
  · rw [if_pos (by rw [h]; rfl), if_pos h]
  · have h' : c.o = false := by cases hh : c.o; rfl; exact absurd hh h
    rw [if_neg (by rw [h']; decide), if_neg h]
    by_cases h1 : n = 0
    · subst h1
      rw [if_pos rfl, if_neg (by decide)]; rfl
    · rw [if_neg h1]
      by_cases h2 : 0 < n
      · have : mx n 0 = n := by unfold mx; split <;> omega
        rw [if_pos h2, h']; simp [h1, this]
      · have : mn (mx n 0) 1073741824 = 0 := by unfold mn mx; split <;> split <;> omega
        rw [if_neg h2, h']; simp [h1, this]
theorem cut_same (n : Int) (c : Cl) : (cutV n c).a = c.a ∧ (cutV n c).b = c.b ∧ (cutV n c).n = c.n := by unfold cutV; split <;> exact ⟨rfl, rfl, rfl⟩
theorem law_l (l : List S71) (hl : l.length ≤ 9223372036854775807) (hk : ∀ x ∈ l, (Lit.int .u64 (S71.f1 x)).wf = true) : ∀ (d i : Nat) (z : Cl), l.length - i = d → i ≤ l.length → Short z →
    F9_lethelaw17_CommitPlays_l1000006 l (l.length : Int) (i : Int) z.a z.b z.n z.a z.b z.n z.o z.h z.w (!z.o) z.h z.w = some (true, ()) := by
  intro d
  induction d with
  | zero =>
    intro i z hd hi hz
    rw [F9_lethelaw17_CommitPlays_l1000006_eq, if_neg (by omega)]
  | succ d ih =>
    intro i z hd hi hz
    rw [F9_lethelaw17_CommitPlays_l1000006_eq, if_pos (ilt (by omega)), if_pos (inb (by omega))]
    refine ite_to (fun _ => rfl) (fun _ => ?_)
    have hx := hk (rd S71.z l (i : Int)) (by rw [rd_lt (by omega : i < l.length)]; exact List.getElem_mem _)
    generalize rd S71.z l (i : Int) = x at hx ⊢
    have E : ∀ c : Cl, Short c → F9_lethelaw17_CommitPlays_l41 l (l.length : Int) (i : Int) c.a c.b c.n c.a c.b c.n c.o c.h c.w (!c.o) c.h c.w = some (true, ()) := by
      intro c hc
      rw [F9_lethelaw17_CommitPlays_l41_eq]
      rw [F9_lethelaw17_CommitPlays_l1000042_eq, if_pos (by decide), cget_eq 0 (.inl rfl), show slot 0 c = c.a from rfl, Option.bind_some]
      dsimp only
      rw [if_pos rfl, if_neg (by simp), if_pos rfl, if_neg (by simp), F9_lethelaw17_CommitPlays_l43_1_eq, show IntKind.i64.wrap (0 + 1) = 1 by decide]
      rw [F9_lethelaw17_CommitPlays_l1000042_eq, if_pos (by decide), cget_eq 1 (.inr rfl), show slot 1 c = c.b from rfl, Option.bind_some]
      dsimp only
      rw [if_neg (by decide), if_pos rfl, if_neg (by simp), if_neg (by decide), if_pos rfl, if_neg (by simp), F9_lethelaw17_CommitPlays_l43_eq, show IntKind.i64.wrap (1 + 1) = 2 by decide]
      rw [F9_lethelaw17_CommitPlays_l1000042_eq, if_neg (by decide), F37_cell_Cell_Count_eq, Option.bind_some]
      dsimp only
      rw [if_neg (by simp), F54_power_Power_On_eq, Option.bind_some]
      dsimp only
      rw [if_neg (by simp), w64s (n := l.length) (by omega) (by omega)]
      exact ih (i + 1) c (by omega) (by omega) hc
    refine ite_to (fun _ => ?_) (fun _ => ?_)
    · rw [cnext_eq hx _ _ _ _ _ z hz, rnext_eq hx _ _ _ _ _ z hz]
      have := E _ (next_short hz (S71.f1 x) (S71.f2 x) (S71.f3 x) (S71.f4 x) (S71.f5 x) (S71.f6 x))
      simp only [cOutR, rOutR, Option.bind_some, not_true_eq_false, if_false, and_self]
      exact this
    refine ite_to (fun _ => ?_) (fun _ => ?_)
    · rw [cstale_eq z hz, rstale_eq z hz]
      have := E _ (stale_short hz)
      simp only [Option.bind_some, not_true_eq_false, if_false, beq_self_eq_true, Bool.not_true, Bool.false_eq_true]
      exact this
    refine ite_to (fun _ => ?_) (fun _ => ?_)
    · rw [cnow_eq z hz, rnow_eq z hz]
      simp only [cOutN, rOutN, Option.bind_some, not_true_eq_false, if_false, and_self]
      exact E z hz
    refine ite_to (fun _ => ?_) (fun _ => ?_)
    · rw [ccut_eq, rcut_eq]
      have := E (cutV (S71.f5 x) z) ⟨by rw [(cut_same _ z).1]; exact hz.1, by rw [(cut_same _ z).2.1]; exact hz.2⟩
      rw [(cut_same _ z).1, (cut_same _ z).2.1, (cut_same _ z).2.2] at this
      exact this
    refine ite_to (fun _ => ?_) (fun _ => ?_)
    · rw [F46_power_Power_Restore_eq, F47_letheref11_Power_Restore_eq]
      exact E ⟨z.a, z.b, z.n, false, 0, z.w⟩ hz
    refine ite_to (fun _ => ?_) (fun _ => ?_)
    · rw [cset_eq, rset_eq]
      have := E _ (set_short hz (S71.f5 x) (S71.f7 x))
      simp only [cOut, rOut, Option.bind_some, not_true_eq_false, if_false]
      exact this
    refine ite_to (fun _ => ?_) (fun _ => ?_)
    · rw [cera_eq, rera_eq]
      have := E _ (era_short hz (S71.f5 x))
      simp only [cOut, rOut, Option.bind_some, not_true_eq_false, if_false]
      exact this
    · rw [cfirst_eq hx, rfirst_eq hx]
      have := E _ (first_short hz (S71.f1 x) (S71.f2 x) (S71.f3 x) (S71.f4 x) (S71.f5 x) (S71.f6 x))
      simp only [cOutR, rOutR, Option.bind_some, not_true_eq_false, if_false, and_self]
      exact this
theorem law (l : List S71) (hl : Ok tab Pr (.sl 71 (.st 71)) l) : F9_lethelaw17_CommitPlays l = some (true, ()) := by
  have hk : ∀ x ∈ l, (Lit.int .u64 (S71.f1 x)).wf = true := by
    intro x hx
    obtain ⟨i, hi, rfl⟩ := List.getElem_of_mem hx
    exact Ok.inv ((Ok.inv hl).2.2 i l[i] 1 ⟨.int .u64, l[i].f1⟩ (List.getElem?_eq_getElem hi) rfl)
  rw [F9_lethelaw17_CommitPlays_eq, F32_power_New_eq, Option.bind_some, F31_cell_New_eq, Option.bind_some, F39_letheref11_New_eq, Option.bind_some, F38_letheref13_New_eq, Option.bind_some]
  exact law_l l (sl_len hl) hk _ 0 ⟨ByteArray.empty, ByteArray.empty, 0, false, 0, 0⟩ rfl (by omega) ⟨by decide, by decide⟩

end
end Go.Proofs.Ytgfaplkbajjheaa.CommitPlaysp
