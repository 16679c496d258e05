/- The law NodeReads, for all arguments. Under no condition. -/
import Derived.Test.YtgfaplkbajjheaaENodeReads
import Derived.Laws.BitsLemmas
set_option linter.unusedVariables false
set_option linter.unusedSimpArgs false
namespace Go.Proofs.Ytgfaplkbajjheaa.NodeReadsp
open Go Go.RowKit Go.Proofs.Ytgfaplkbajjheaa.Rx Go.Proofs.Ytgfaplkbajjheaa.NodeReadsx
noncomputable section
theorem w64 {n : Int} (h0 : -9223372036854775808 ≤ n) (h1 : n ≤ 9223372036854775807) : IntKind.i64.wrap n = n := by rw [IntKind.wrap_i64]; omega
theorem w64s {j n : Nat} (h : j < n) (hn : n ≤ 9223372036854775807) : IntKind.i64.wrap ((j : Int) + 1) = ((j + 1 : Nat) : Int) := by rw [w64 (by omega) (by omega)]; omega
theorem w64p {j : Nat} (h : 0 < j) (hn : j ≤ 9223372036854775807) : IntKind.i64.wrap ((j : Int) - 1) = ((j - 1 : Nat) : Int) := by rw [w64 (by omega) (by omega)]; omega
theorem sl_len {e : TypeId} {t : Ty} {xs : List (den tab.S t)} (h : Ok tab Pr (.sl e t) xs) : xs.length ≤ 9223372036854775807 := by
  have := (Ok.inv h).2.1
  simp only [maxLen] at this
  omega
theorem ite_to {α : Type} {p : Prop} [Decidable p] {a b c : α} (h1 : p → a = c) (h2 : ¬ p → b = c) : (if p then a else b) = c := by
  by_cases h : p
  · rw [if_pos h]; exact h1 h
  · rw [if_neg h]; exact h2 h
theorem ob_eq {a b : Bool} (h1 : a = true → b = true) (h2 : b = true → a = true) : (some (a, ()) : Option (Bool × Unit)) = some (b, ()) := by rw [Bool.eq_iff_iff.2 ⟨h1, h2⟩]
theorem oi_eq {a b : Int} (h : a = b) : (some (a, ()) : Option (Int × Unit)) = some (b, ()) := by rw [h]
theorem rd_lt {α : Type} {z : α} {xs : List α} {i : Nat} (h : i < xs.length) : rd z xs (i : Int) = xs[i] := by simp [rd, h]
theorem drop_rd {α : Type} {z : α} {xs : List α} {i : Nat} (h : i < xs.length) : xs.drop i = rd z xs (i : Int) :: xs.drop (i + 1) := by rw [rd_lt h]; exact List.drop_eq_getElem_cons h
theorem inb {i n : Nat} (h : i < n) : (0 : Int) ≤ (i : Int) ∧ (i : Int) < (n : Int) := by omega
theorem ilt {i n : Nat} (h : i < n) : (i : Int) < (n : Int) := by omega
theorem subL_drop {α : Type} (xs : List α) {l : Int} {k : Nat} (h : l = (k : Int)) : subL xs l (xs.length : Int) = xs.drop k := by simp [subL, h]
theorem subL_take {α : Type} (xs : List α) {l : Int} {k : Nat} (h : l = (k : Int)) : subL xs 0 l = xs.take k := by simp [subL, h]

/-! ### strings as lists of numbers -/
/-- A list of bytes. -/
def AllB (l : List Int) : Prop := ∀ c ∈ l, 0 ≤ c ∧ c ≤ 255
theorem AllB.nil : AllB [] := fun _ h => by simp at h
theorem AllB.cons {c : Int} {l : List Int} (h : 0 ≤ c ∧ c ≤ 255) (hl : AllB l) : AllB (c :: l) := fun x hx => by
  rcases List.mem_cons.1 hx with rfl | hx
  · exact h
  · exact hl x hx
theorem AllB.app {a b : List Int} (ha : AllB a) (hb : AllB b) : AllB (a ++ b) := fun x hx => by
  rcases List.mem_append.1 hx with hx | hx
  · exact ha x hx
  · exact hb x hx
theorem AllB.take {a : List Int} (ha : AllB a) (n : Nat) : AllB (a.take n) := fun x hx => ha x (List.mem_of_mem_take hx)
theorem AllB.drop {a : List Int} (ha : AllB a) (n : Nat) : AllB (a.drop n) := fun x hx => ha x (List.mem_of_mem_drop hx)
theorem AllB.of_bytes (s : ByteArray) : AllB (bytesOf s) := fun x hx => by
  obtain ⟨b, _, rfl⟩ := List.mem_map.1 hx
  have := b.toNat_lt
  omega
theorem bytesOf_str {l : List Int} (h : AllB l) : bytesOf (strOf l) = l := by
  unfold bytesOf strOf
  simp only [List.map_map]
  rw [show (List.map ((fun b : UInt8 => (b.toNat : Int)) ∘ fun n : Int => UInt8.ofNat n.toNat) l) = List.map id l from List.map_congr_left (fun x hx => by
    have := h x hx
    simp only [Function.comp, id, UInt8.toNat_ofNat']
    omega)]
  simp
theorem str_bytesOf (s : ByteArray) : strOf (bytesOf s) = s := by
  unfold bytesOf strOf
  simp only [List.map_map]
  rw [show (List.map ((fun n : Int => UInt8.ofNat n.toNat) ∘ fun b : UInt8 => (b.toNat : Int)) s.data.toList) = List.map id s.data.toList from List.map_congr_left (fun x hx => by
    simp [Function.comp])]
  simp
theorem bytesOf_inj {a b : ByteArray} (h : bytesOf a = bytesOf b) : a = b := by rw [← str_bytesOf a, ← str_bytesOf b, h]
theorem bytesOf_append (a b : ByteArray) : bytesOf (a ++ b) = bytesOf a ++ bytesOf b := by simp [bytesOf]
theorem bytesOf_extract (a : ByteArray) (i j : Nat) : bytesOf (a.extract i j) = ((bytesOf a).take j).drop i := by
  simp [bytesOf, List.extract_eq_take_drop, List.map_take, List.map_drop, List.drop_take]
theorem bytesOf_empty : bytesOf ByteArray.empty = [] := rfl
theorem bytesOf_length (s : ByteArray) : (bytesOf s).length = s.size := by rw [bytesOf, List.length_map, Array.length_toList]; rfl
theorem size_bytesOf (s : ByteArray) : s.size = (bytesOf s).length := (bytesOf_length s).symm
theorem size_str (l : List Int) : (strOf l).size = l.length := by simp [strOf, ByteArray.size]
theorem str_append (a b : List Int) : strOf (a ++ b) = strOf a ++ strOf b := by
  apply ByteArray.ext
  simp [strOf]
theorem str_take (l : List Int) (j : Nat) : (strOf l).extract 0 j = strOf (l.take j) := by
  apply ByteArray.ext
  simp [strOf, List.map_take]


/-! ### whether a term may be -/
mutual
def parts : S38 → Nat
  | ⟨_, _, _, l⟩ => 1 + partsL l
def partsL : List S38 → Nat
  | [] => 0
  | x :: t => parts x + partsL t
end
mutual
def depth : S38 → Nat
  | ⟨_, _, _, l⟩ => 1 + depthL l
def depthL : List S38 → Nat
  | [] => 0
  | x :: t => max (depth x) (depthL t)
end
/-- The shape of a term by itself. -/
def one (n f : Int) (s : ByteArray) (len : Nat) : Bool :=
  if n = 1 ∨ n = 3 then decide (bytesOf s = [] ∧ len = 0) else if n = 2 then decide (f = 0 ∧ s.size ≤ 4000 ∧ len = 0) else if n = 4 then decide (bytesOf s = [] ∧ len = 1) else if n = 5 then decide (f = 0 ∧ bytesOf s = []) else false
mutual
def shp : S38 → Bool
  | ⟨n, f, s, l⟩ => one n f s l.length && shpL l
def shpL : List S38 → Bool
  | [] => true
  | x :: t => shp x && shpL t
end
theorem str_nil_iff {s : ByteArray} : bytesOf s = [] ↔ s = ByteArray.empty := ⟨fun h => bytesOf_inj (by rw [h]; rfl), fun h => by rw [h]; rfl⟩
theorem beqd (a b : Int) : (a == b) = decide (a = b) := by rw [Bool.eq_iff_iff, beq_iff_eq, decide_eq_true_eq]
theorem parts_eq (x : S38) : parts x = 1 + partsL x.f3 := by cases x; rw [parts]; rfl
theorem depth_eq (x : S38) : depth x = 1 + depthL x.f3 := by cases x; rw [depth]; rfl
theorem shp_eq (x : S38) : shp x = (one x.f0 x.f1 x.f2 x.f3.length && shpL x.f3) := by cases x; rw [shp]; rfl
theorem parts_pos (x : S38) : 1 ≤ parts x := by rw [parts_eq]; omega
theorem depth_pos (x : S38) : 1 ≤ depth x := by rw [depth_eq]; omega
def rightT (x : S38) : Int := if 4000 < parts x then 23 else if 12 < depth x then 22 else if shp x = true then 0 else 25

theorem right_is {x : S38} (hr : rightT x = 0) : parts x ≤ 4000 ∧ depth x ≤ 12 ∧ shp x = true := by
  unfold rightT at hr
  split at hr
  · simp at hr
  · split at hr
    · simp at hr
    · split at hr
      · rename_i c1 c2 c3
        exact ⟨by omega, by omega, c3⟩
      · simp at hr


/-! ### terms -/
theorem term_eta (t : S38) : S38.mk (S38.f0 t) (S38.f1 t) (S38.f2 t) (S38.f3 t) = t := by cases t; rfl
/-- A term with no list that is too long. -/
inductive Tn : S38 → Prop
  | mk (k n : Int) (b : ByteArray) (l : List S38) (h : l.length * 56 ≤ 140737488355328) (hl : ∀ x ∈ l, Tn x) : Tn (S38.mk k n b l)
abbrev T4 := Int × Int × ByteArray × List S38 × Unit
def ofT (t : S38) : Option T4 := some (S38.f0 t, S38.f1 t, S38.f2 t, S38.f3 t, ())

inductive okT : S38 → Prop
  | mk {x : S38} : (Lit.int .i64 (S38.f0 x)).wf = true → (Lit.int .u64 (S38.f1 x)).wf = true → (S38.f2 x).size ≤ 140737488351232 → (S38.f3 x).length * 56 ≤ 140737488351232 → (S38.f3 x).length ≤ maxLen → (∀ y ∈ S38.f3 x, okT y) → okT x
theorem etaT (x : S38) : (S38.mk (S38.f0 x) (S38.f1 x) (S38.f2 x) (S38.f3 x)) = x := by cases x; rfl
theorem okT.leaf {n f : Int} {s : ByteArray} (h0 : (Lit.int .i64 n).wf = true) (h1 : (Lit.int .u64 f).wf = true) (h2 : s.size ≤ 140737488351232) : okT (S38.mk n f s []) := okT.mk h0 h1 h2 (by show 0 * 56 ≤ _; omega) (by show 0 ≤ _; omega) (fun y hy => by cases hy)
theorem okT.len {x : S38} (h : okT x) : (S38.f3 x).length ≤ 2513169434843 := by
  cases h with
  | mk _ _ _ h3 _ _ => omega
theorem okT.el {x : S38} (h : okT x) : ∀ y ∈ S38.f3 x, okT y := by
  cases h with
  | mk _ _ _ _ _ h5 => exact h5
theorem okT.tn {x : S38} (h : okT x) : Tn x := by
  induction h with
  | @mk x h0 h1 h2 h3 h4 h5 ih => rw [← etaT x]; exact Tn.mk _ _ _ _ (by omega) ih
theorem okT_of (n : Nat) : ∀ x : S38, SizeOf.sizeOf x < n → Ok tab Pr (.int .i64) (S38.f0 x) → Ok tab Pr (.int .u64) (S38.f1 x) → Ok tab Pr .str (S38.f2 x) → Ok tab Pr (.sl 38 (.st 38)) (S38.f3 x) → okT x := by
  induction n with
  | zero => intro x hx; omega
  | succ n ih =>
    intro x hx h0 h1 h2 h3
    have hb := (Ok.inv h3).1
    rw [show Program.bytesOf Pr 38 = 56 by kernel_rfl] at hb
    refine okT.mk (Ok.inv h0) (Ok.inv h1) (Ok.inv h2) ?_ (Ok.inv h3).2.1 (fun y hy => ?_)
    · exact hb
    · obtain ⟨i, hi, rfl⟩ := List.getElem_of_mem hy
      have hs : SizeOf.sizeOf (S38.f3 x)[i] < n := by
        have h9 := List.sizeOf_lt_of_mem hy
        have h8 : SizeOf.sizeOf (S38.f3 x) < SizeOf.sizeOf x := by cases x; simp [S38.f3]; omega
        omega
      have hc := (Ok.inv h3).2.2 i (S38.f3 x)[i]
      exact ih _ hs (hc 0 ⟨.int .i64, _⟩ (List.getElem?_eq_getElem hi) rfl) (hc 1 ⟨.int .u64, _⟩ (List.getElem?_eq_getElem hi) rfl) (hc 2 ⟨.str, _⟩ (List.getElem?_eq_getElem hi) rfl) (hc 3 ⟨.sl 38 (.st 38), _⟩ (List.getElem?_eq_getElem hi) rfl)

/-! ### a node out of a term: what is so -/
abbrev at_ (x : S38) (i : Int) : S38 := rd S38.z (S38.f3 x) i
def isNumB (x : S38) : Bool := decide (S38.f0 x = 1) && decide (S38.f1 x ≤ 2147483647)
def verB (x : S38) : Bool := decide (S38.f0 x = 5) && (decide ((S38.f3 x).length = 3) && (isNumB (at_ x 0) && (decide (S38.f0 (at_ x 1) = 2) && decide (S38.f0 (at_ x 2) = 2))))
def toV (x : S38) : S98 := S98.mk (IntKind.i64.wrap (S38.f1 (at_ x 0))) (S38.f2 (at_ x 1)) (S38.f2 (at_ x 2))
def headB (x : S38) (k : Int) : Bool := decide (S38.f0 x = 5) && (decide (0 < (S38.f3 x).length) && decide (S38.f0 (at_ x 0) = k))
def entB (x : S38) : Bool := headB x 2 && ((S38.f3 x).drop 1).all verB
def toE (x : S38) : S96 := S96.mk (S38.f2 (at_ x 0)) (((S38.f3 x).drop 1).map toV)
def kidB (x : S38) : Bool := headB x 2 && (decide ((S38.f3 x).length = 5) && (decide (S38.f0 (at_ x 1) = 3) && (isNumB (at_ x 2) && (isNumB (at_ x 3) && isNumB (at_ x 4)))))
def toK (x : S38) : S100 := S100.mk (S38.f2 (at_ x 0)) (S38.f1 (at_ x 1)) (IntKind.i64.wrap (S38.f1 (at_ x 2))) (IntKind.i64.wrap (S38.f1 (at_ x 3))) (IntKind.i64.wrap (S38.f1 (at_ x 4)))
def leafB (x : S38) : Bool := decide (S38.f1 (at_ x 0) = 1)
def formB (x : S38) : Bool := headB x 1 && ((decide (S38.f1 (at_ x 0) = 1) || decide (S38.f1 (at_ x 0) = 2)) && ((S38.f3 x).drop 1).all (fun y => if leafB x = true then entB y else kidB y))
def ents (x : S38) : List S96 := if leafB x = true then ((S38.f3 x).drop 1).map toE else []
def kids (x : S38) : List S100 := if leafB x = true then [] else ((S38.f3 x).drop 1).map toK
theorem rd_drop1 (l : List S38) (i : Nat) : rd S38.z (l.drop 1) (i : Int) = rd S38.z l ((i + 1 : Nat) : Int) := by
  simp only [rd, Int.toNat_natCast, List.getD_eq_getElem?_getD, List.getElem?_drop, Nat.add_comm 1 i]

def quotaOk (a b c d e f g : Int) : Bool := decide (1 ≤ a ∧ a ≤ 64 ∧ 1 ≤ b ∧ b ≤ 16 ∧ 0 ≤ c ∧ c ≤ 32 ∧ 0 ≤ d ∧ d ≤ 16 ∧ 1 ≤ e ∧ e ≤ 4 ∧ 1 ≤ f ∧ f ≤ 8 ∧ 0 ≤ g ∧ g ≤ 32)
theorem q04 (a b c d e f g : Int) : F68_letheref04_Right a b c d e f g = some (quotaOk a b c d e f g, ()) := by
  rw [F68_letheref04_Right_eq]
  simp only [F68_letheref04_Right_l2_eq]
  repeat' (refine ite_to (fun _ => ?_) (fun _ => ?_))
  all_goals (apply ob_eq <;> intro hh <;> simp only [quotaOk, decide_eq_true_eq, Bool.false_eq_true] at hh ⊢ <;> omega)
theorem qin (x a b : Int) : F121_quota_in x a b = some (decide (a ≤ x ∧ x ≤ b), ()) := by
  rw [F121_quota_in_eq]
  refine ite_to (fun _ => ?_) (fun _ => ?_)
  all_goals (apply ob_eq <;> intro hh <;> simp only [decide_eq_true_eq, Bool.false_eq_true] at hh ⊢ <;> omega)
theorem q66 (a b c d e f g : Int) : F66_quota_Right a b c d e f g = some ((if quotaOk a b c d e f g = true then 0 else 40), ()) := by
  rw [F66_quota_Right_eq]
  simp only [F66_quota_Right_l3_eq, qin, Option.bind_some, decide_eq_true_eq]
  repeat' (refine ite_to (fun _ => ?_) (fun _ => ?_))
  · rw [if_pos (by simp only [quotaOk, decide_eq_true_eq]; omega)]
  all_goals rw [if_neg (by simp only [quotaOk, decide_eq_true_eq]; omega)]

/-! ### entries: what may be -/
def tooBig (c d : Int) (s t : ByteArray) : Int := if c < (s.size : Int) then 5 else if d < (t.size : Int) then 5 else 0
theorem tooBig_05 (c d : Int) (s t : ByteArray) : tooBig c d s t = 0 ∨ tooBig c d s t = 5 := by
  unfold tooBig; by_cases h1 : c < (s.size : Int) <;> by_cases h2 : d < (t.size : Int) <;> simp [h1, h2]
def versV (c d : Int) : Int → List S98 → Int
  | _, [] => 0
  | v, y :: ys => if S98.f0 y ≤ v then 50 else if 1073741824 < S98.f0 y then 50 else if tooBig c d (S98.f1 y) (S98.f2 y) = 0 then versV c d (S98.f0 y) ys else tooBig c d (S98.f1 y) (S98.f2 y)
theorem versV_cons (c d v : Int) (y : S98) (ys : List S98) : versV c d v (y :: ys) = if S98.f0 y ≤ v then 50 else if 1073741824 < S98.f0 y then 50 else if tooBig c d (S98.f1 y) (S98.f2 y) = 0 then versV c d (S98.f0 y) ys else tooBig c d (S98.f1 y) (S98.f2 y) := rfl
def namedV (a b c d e f g : Int) (s : ByteArray) (xs : List S98) : Int :=
  if quotaOk a b c d e f g = true then if s = ByteArray.empty then 4 else if b < (s.size : Int) then 5 else if e < (xs.length : Int) then 50 else versV c d 0 xs else 40
theorem texts_eq (a b c d e f g : Int) (s t : ByteArray) : F184_entry_texts a b c d e f g s t = some (tooBig c d s t, ()) := by
  rw [F184_entry_texts_eq]
  unfold tooBig
  repeat' (refine ite_to (fun h => ?_) (fun h => ?_))
  · rw [if_pos h]
  · rw [if_neg (by assumption), if_pos (by assumption)]
  · rw [if_neg (by assumption), if_neg (by assumption)]
theorem named_l (a b c d e f g : Int) (xs : List S98) (hx : xs.length ≤ 9223372036854775807) : ∀ (n i : Nat) (v : Int), xs.length - i = n → i ≤ xs.length →
    F153_entry_named_l1000011 v xs (xs.length : Int) (i : Int) a b c d e f g = some (versV c d v (xs.drop i), ()) := by
  intro n
  induction n with
  | zero =>
    intro i v hn hi
    rw [F153_entry_named_l1000011_eq, if_neg (by omega), List.drop_of_length_le (by omega)]; rfl
  | succ n ih =>
    intro i v hn hi
    rw [F153_entry_named_l1000011_eq, if_pos (ilt (by omega)), if_pos (inb (by omega)), texts_eq, Option.bind_some, drop_rd (z := S98.z) (by omega : i < xs.length), w64s (n := xs.length) (by omega) hx, ih (i + 1) _ (by omega) (by omega)]
    generalize rd S98.z xs (i : Int) = y
    rw [versV_cons]
    refine ite_to (fun h1 => by rw [if_pos h1]) (fun h1 => ?_)
    rw [if_neg h1]
    refine ite_to (fun h2 => by rw [if_pos h2]) (fun h2 => ?_)
    rw [if_neg h2]
    refine ite_to (fun h3 => by rw [if_neg h3]) (fun h3 => ?_)
    rw [if_pos (Decidable.not_not.1 h3)]
theorem ref_l (a b c d e f g : Int) (s : ByteArray) (xs : List S98) (hx : xs.length ≤ 9223372036854775807) : ∀ (n i : Nat) (v : Int), xs.length - i = n → i ≤ xs.length → (i = 0 → v = 0) → (0 < i → v = S98.f0 (rd S98.z xs ((i - 1 : Nat) : Int)) ∧ 1 ≤ v) →
    F154_letheref05_Named_l1000010 xs (xs.length : Int) (i : Int) a b c d e f g s xs = some (versV c d v (xs.drop i), ()) := by
  intro n
  induction n with
  | zero =>
    intro i v hn hi h0 h1
    rw [F154_letheref05_Named_l1000010_eq, if_neg (by omega), List.drop_of_length_le (by omega)]; rfl
  | succ n ih =>
    intro i v hn hi h0 h1
    rw [F154_letheref05_Named_l1000010_eq, if_pos (ilt (by omega)), if_pos (inb (by omega)), F154_letheref05_Named_l15_eq, drop_rd (z := S98.z) (by omega : i < xs.length), w64s (n := xs.length) (by omega) hx]
    generalize hy : rd S98.z xs (i : Int) = y
    rw [versV_cons]
    by_cases c1 : S98.f0 y < 1
    · rw [if_pos c1, if_pos]
      rcases Nat.eq_zero_or_pos i with q | q
      · rw [h0 q]; omega
      · have := (h1 q).2; omega
    · rw [if_neg c1]
      by_cases c2 : S98.f0 y ≤ v
      · rw [if_pos c2]
        refine ite_to (fun _ => rfl) (fun _ => ?_)
        rcases Nat.eq_zero_or_pos i with q | q
        · have := h0 q; omega
        · rw [if_pos (by omega), w64p q (by omega), if_pos (inb (by omega)), ← (h1 q).1, if_pos c2]
      · rw [if_neg c2]
        by_cases c3 : (1073741824 : Int) < S98.f0 y
        · rw [if_pos c3, if_pos c3]
        · rw [if_neg c3, if_neg c3, ih (i + 1) (S98.f0 y) (by omega) (by omega) (fun q => by omega) (fun _ => ⟨by rw [← hy]; rfl, by omega⟩)]
          have hr : (if c < ((S98.f1 y).size : Int) then some ((5 : Int), ()) else if d < ((S98.f2 y).size : Int) then some (5, ()) else some (versV c d (S98.f0 y) (xs.drop (i + 1)), ())) = some (if tooBig c d (S98.f1 y) (S98.f2 y) = 0 then versV c d (S98.f0 y) (xs.drop (i + 1)) else tooBig c d (S98.f1 y) (S98.f2 y), ()) := by
            unfold tooBig
            by_cases c4 : c < ((S98.f1 y).size : Int)
            · simp [c4]
            · by_cases c5 : d < ((S98.f2 y).size : Int)
              · simp [c4, c5]
              · simp [c4, c5]
          rcases Nat.eq_zero_or_pos i with q | q
          · rw [if_neg (by omega)]; exact hr
          · rw [if_pos (by omega), w64p q (by omega), if_pos (inb (by omega)), ← (h1 q).1, if_neg c2]; exact hr
theorem named_eq (a b c d e f g : Int) (s : ByteArray) (xs : List S98) (hx : xs.length ≤ 9223372036854775807) : F153_entry_named a b c d e f g s xs = some (namedV a b c d e f g s xs, ()) := by
  rw [F153_entry_named_eq, q66, Option.bind_some]
  unfold namedV
  cases quotaOk a b c d e f g with
  | false => simp
  | true =>
    simp only [if_true, not_true_eq_false, if_false]
    repeat' (refine ite_to (fun h => ?_) (fun h => ?_))
    · rw [if_pos h]
    · rw [if_neg (by assumption), if_pos h]
    · rw [if_neg (by assumption), if_neg (by assumption), if_pos h]
    · rw [if_neg (by assumption), if_neg (by assumption), if_neg h]
      exact named_l a b c d e f g xs hx xs.length 0 0 (by omega) (by omega)
theorem rnamed_eq (a b c d e f g : Int) (s : ByteArray) (xs : List S98) (hx : xs.length ≤ 9223372036854775807) : F154_letheref05_Named a b c d e f g s xs = some (namedV a b c d e f g s xs, ()) := by
  rw [F154_letheref05_Named_eq, q04, Option.bind_some]
  unfold namedV
  cases quotaOk a b c d e f g with
  | false => simp
  | true =>
    simp only [if_true, Bool.not_true, Bool.false_eq_true, if_false]
    repeat' (refine ite_to (fun h => ?_) (fun h => ?_))
    · rw [if_pos h]
    · rw [if_neg (by assumption), if_pos h]
    · rw [if_neg (by assumption), if_neg (by assumption), if_pos h]
    · rw [if_neg (by assumption), if_neg (by assumption), if_neg h]
      exact ref_l a b c d e f g s xs hx xs.length 0 0 (by omega) (by omega) (fun _ => rfl) (fun q => by omega)

/-! ### nodes: what may be -/
def rightV (a b c d e f g : Int) (s : ByteArray) (xs : List S98) : Int := if namedV a b c d e f g s xs = 0 then (if (xs.length : Int) = 0 then 50 else 0) else namedV a b c d e f g s xs
theorem eright_eq (a b c d e f g : Int) (s : ByteArray) (xs : List S98) (hx : xs.length ≤ 9223372036854775807) : F122_entry_Right a b c d e f g s xs = some (rightV a b c d e f g s xs, ()) := by
  rw [F122_entry_Right_eq, named_eq _ _ _ _ _ _ _ _ _ hx, Option.bind_some]
  unfold rightV
  refine ite_to (fun h => ?_) (fun h => ?_)
  · rw [if_pos h]
    refine ite_to (fun h2 => ?_) (fun h2 => ?_)
    · rw [if_pos h2]
    · rw [if_neg h2]; exact congrArg some (congrArg (·, ()) h)
  · rw [if_neg h]
theorem reright_eq (a b c d e f g : Int) (s : ByteArray) (xs : List S98) (hx : xs.length ≤ 9223372036854775807) : F123_letheref05_Right a b c d e f g s xs = some (rightV a b c d e f g s xs, ()) := by
  rw [F123_letheref05_Right_eq, rnamed_eq _ _ _ _ _ _ _ _ _ hx, Option.bind_some]
  unfold rightV
  refine ite_to (fun h => ?_) (fun h => ?_)
  · rw [if_pos h]
    refine ite_to (fun h2 => ?_) (fun h2 => ?_)
    · rw [if_pos h2]
    · rw [if_neg h2]; exact congrArg some (congrArg (·, ()) h)
  · rw [if_neg h]
def behind (p : Option ByteArray) (s : ByteArray) : Bool := match p with | none => true | some t => sLt t s
def leafV (a b c d e f g : Int) : Option ByteArray → List S96 → Int
  | _, [] => 0
  | p, y :: ys => if rightV a b c d e f g (S96.f0 y) (S96.f1 y) = 0 then (if behind p (S96.f0 y) = true then leafV a b c d e f g (some (S96.f0 y)) ys else 60) else rightV a b c d e f g (S96.f0 y) (S96.f1 y)
theorem leafV_cons (a b c d e f g : Int) (p : Option ByteArray) (y : S96) (ys : List S96) : leafV a b c d e f g p (y :: ys) = if rightV a b c d e f g (S96.f0 y) (S96.f1 y) = 0 then (if behind p (S96.f0 y) = true then leafV a b c d e f g (some (S96.f0 y)) ys else 60) else rightV a b c d e f g (S96.f0 y) (S96.f1 y) := rfl
def refOk (b c d : Int) : Bool := decide (0 ≤ b ∧ b ≤ 1048576 ∧ 0 ≤ c ∧ c ≤ 134217728 ∧ 1 ≤ d ∧ d ≤ 1048576)
def kidsV (b : Int) : Option ByteArray → List S100 → Int
  | _, [] => 0
  | p, y :: ys => if S100.f0 y = ByteArray.empty then 4 else if b < ((S100.f0 y).size : Int) then 5 else if refOk (S100.f2 y) (S100.f3 y) (S100.f4 y) = true then (if behind p (S100.f0 y) = true then kidsV b (some (S100.f0 y)) ys else 60) else 61
theorem kidsV_cons (b : Int) (p : Option ByteArray) (y : S100) (ys : List S100) : kidsV b p (y :: ys) = if S100.f0 y = ByteArray.empty then 4 else if b < ((S100.f0 y).size : Int) then 5 else if refOk (S100.f2 y) (S100.f3 y) (S100.f4 y) = true then (if behind p (S100.f0 y) = true then kidsV b (some (S100.f0 y)) ys else 60) else 61 := rfl
def nodeV (a b c d e f g : Int) (q : Bool) (xs : List S96) (ks : List S100) : Int :=
  if quotaOk a b c d e f g = true then
    (if q = true then (if (0 : Int) < (ks.length : Int) then 60 else if (4 : Int) < (xs.length : Int) then 60 else leafV a b c d e f g none xs)
     else (if (0 : Int) < (xs.length : Int) then 60 else if (ks.length : Int) < 2 then 60 else if (4 : Int) < (ks.length : Int) then 60 else kidsV b none ks))
  else 40
theorem prev_of {α : Type} {z : α} {n : α → ByteArray} {xs : List α} {i : Nat} {p : Option ByteArray} (h0 : i = 0 → p = none) (h1 : 0 < i → p = some (n (rd z xs ((i - 1 : Nat) : Int)))) (s : ByteArray) :
    behind p s = if (0 : Int) < (i : Int) then sLt (n (rd z xs ((i - 1 : Nat) : Int))) s else true := by
  rcases Nat.eq_zero_or_pos i with q | q
  · rw [h0 q, if_neg (by omega)]; rfl
  · rw [h1 q, if_pos (by omega)]; rfl
def EntryBound (y : S96) : Prop := List.length (α := S98) (S96.f1 y) ≤ 9223372036854775807
theorem leaf_l (a b c d e f g : Int) (q : Bool) (ks : List S100) (xs : List S96) (hx : xs.length ≤ 9223372036854775807) (hy : ∀ y ∈ xs, EntryBound y) : ∀ (n i : Nat) (p : Option ByteArray), xs.length - i = n → i ≤ xs.length → (i = 0 → p = none) → (0 < i → p = some (S96.f0 (rd S96.z xs ((i - 1 : Nat) : Int)))) →
    F67_node_leafRight_l1000004 xs (xs.length : Int) (i : Int) a b c d e f g q xs ks = some (leafV a b c d e f g p (xs.drop i), ()) ∧ F69_letheref06_leaf_l1000004 xs (xs.length : Int) (i : Int) a b c d e f g q xs ks = some (leafV a b c d e f g p (xs.drop i), ()) := by
  intro n
  induction n with
  | zero =>
    intro i p hn hi h0 h1
    rw [List.drop_of_length_le (by omega)]
    exact ⟨by rw [F67_node_leafRight_l1000004_eq, if_neg (by omega)]; rfl, by rw [F69_letheref06_leaf_l1000004_eq, if_neg (by omega)]; rfl⟩
  | succ n ih =>
    intro i p hn hi h0 h1
    have hb : EntryBound (rd S96.z xs (i : Int)) := by rw [rd_lt (by omega)]; exact hy _ (List.getElem_mem _)
    obtain ⟨p1, p2⟩ := ih (i + 1) (some (S96.f0 (rd S96.z xs (i : Int)))) (by omega) (by omega) (fun h => by omega) (fun _ => rfl)
    have hp := prev_of (n := S96.f0) h0 h1 (S96.f0 (rd S96.z xs (i : Int)))
    rw [F67_node_leafRight_l1000004_eq, F69_letheref06_leaf_l1000004_eq, if_pos (ilt (by omega)), if_pos (inb (by omega)), if_pos (ilt (by omega)), if_pos (inb (by omega)), eright_eq _ _ _ _ _ _ _ _ _ hb, reright_eq _ _ _ _ _ _ _ _ _ hb]
    simp only [Option.bind_some]
    rw [w64s (n := xs.length) (by omega) hx, p1, p2, drop_rd (z := S96.z) (by omega : i < xs.length), leafV_cons, hp]
    generalize rightV a b c d e f g (S96.f0 (rd S96.z xs (i : Int))) (S96.f1 (rd S96.z xs (i : Int))) = r
    by_cases c1 : r = 0
    · rcases Nat.eq_zero_or_pos i with hz | hz
      · subst hz; simp [c1]
      · have hi0 : (0 : Int) < (i : Int) := by omega
        have hpp : (0 : Int) ≤ ((i - 1 : Nat) : Int) ∧ ((i - 1 : Nat) : Int) < (xs.length : Int) := by omega
        rw [w64p hz (by omega)]
        simp only [if_pos hpp, if_pos hi0]
        cases sLt (S96.f0 (rd S96.z xs ((i - 1 : Nat) : Int))) (S96.f0 (rd S96.z xs (i : Int))) <;> simp [c1]
    · simp [c1]
theorem ref_eq (a b c d : Int) : F17_node_RefRight a b c d = some (refOk b c d, ()) ∧ F18_letheref06_RefRight a b c d = some (refOk b c d, ()) := by
  rw [F17_node_RefRight_eq, F18_letheref06_RefRight_eq]
  constructor
  all_goals repeat' (refine ite_to (fun _ => ?_) (fun _ => ?_))
  all_goals (apply ob_eq <;> intro hh <;> simp only [refOk, decide_eq_true_eq, Bool.false_eq_true] at hh ⊢ <;> omega)
theorem inner_l (a b c d e f g : Int) (q : Bool) (es : List S96) (xs : List S100) (hx : xs.length ≤ 9223372036854775807) : ∀ (n i : Nat) (p : Option ByteArray), xs.length - i = n → i ≤ xs.length → (i = 0 → p = none) → (0 < i → p = some (S100.f0 (rd S100.z xs ((i - 1 : Nat) : Int)))) →
    F15_node_Right_l1000008 xs (xs.length : Int) (i : Int) a b c d e f g q es xs = some (kidsV b p (xs.drop i), ()) ∧ F70_letheref06_inner_l1000004 xs (xs.length : Int) (i : Int) a b c d e f g q es xs = some (kidsV b p (xs.drop i), ()) := by
  intro n
  induction n with
  | zero =>
    intro i p hn hi h0 h1
    rw [List.drop_of_length_le (by omega)]
    exact ⟨by rw [F15_node_Right_l1000008_eq, if_neg (by omega)]; rfl, by rw [F70_letheref06_inner_l1000004_eq, if_neg (by omega)]; rfl⟩
  | succ n ih =>
    intro i p hn hi h0 h1
    obtain ⟨p1, p2⟩ := ih (i + 1) (some (S100.f0 (rd S100.z xs (i : Int)))) (by omega) (by omega) (fun h => by omega) (fun _ => rfl)
    have hp := prev_of (n := S100.f0) h0 h1 (S100.f0 (rd S100.z xs (i : Int)))
    obtain ⟨q1, q2⟩ := ref_eq (S100.f1 (rd S100.z xs (i : Int))) (S100.f2 (rd S100.z xs (i : Int))) (S100.f3 (rd S100.z xs (i : Int))) (S100.f4 (rd S100.z xs (i : Int)))
    rw [F15_node_Right_l1000008_eq, F70_letheref06_inner_l1000004_eq, if_pos (ilt (by omega)), if_pos (inb (by omega)), if_pos (ilt (by omega)), if_pos (inb (by omega)), q1, q2]
    simp only [Option.bind_some]
    rw [w64s (n := xs.length) (by omega) hx, p1, p2, drop_rd (z := S100.z) (by omega : i < xs.length), kidsV_cons, hp]
    by_cases c1 : S100.f0 (rd S100.z xs (i : Int)) = ByteArray.empty
    · simp [c1]
    · by_cases c2 : b < ((S100.f0 (rd S100.z xs (i : Int))).size : Int)
      · simp [c1, c2]
      · simp only [if_neg c1, if_neg c2]
        cases refOk (S100.f2 (rd S100.z xs (i : Int))) (S100.f3 (rd S100.z xs (i : Int))) (S100.f4 (rd S100.z xs (i : Int))) with
        | false => simp
        | true =>
          simp only [Bool.not_true, Bool.false_eq_true, if_false, if_true]
          rcases Nat.eq_zero_or_pos i with hz | hz
          · subst hz; simp
          · have hi0 : (0 : Int) < (i : Int) := by omega
            have hpp : (0 : Int) ≤ ((i - 1 : Nat) : Int) ∧ ((i - 1 : Nat) : Int) < (xs.length : Int) := by omega
            rw [w64p hz (by omega)]
            simp only [if_pos hpp, if_pos hi0]
            cases sLt (S100.f0 (rd S100.z xs ((i - 1 : Nat) : Int))) (S100.f0 (rd S100.z xs (i : Int))) <;> simp
theorem node_eq (a b c d e f g : Int) (q : Bool) (xs : List S96) (ks : List S100) (hx : xs.length ≤ 9223372036854775807) (hy : ∀ y ∈ xs, EntryBound y) (hk : ks.length ≤ 9223372036854775807) :
    F15_node_Right a b c d e f g q xs ks = some (nodeV a b c d e f g q xs ks, ()) ∧ F16_letheref06_Right a b c d e f g q xs ks = some (nodeV a b c d e f g q xs ks, ()) := by
  rw [F15_node_Right_eq, F16_letheref06_Right_eq, q66, q04]
  simp only [Option.bind_some]
  unfold nodeV
  cases quotaOk a b c d e f g with
  | false => exact ⟨by simp, by simp⟩
  | true =>
    simp only [if_true, not_true_eq_false, if_false, Bool.not_true, Bool.false_eq_true]
    cases q with
    | true =>
      simp only [if_true]
      obtain ⟨q1, q2⟩ := leaf_l a b c d e f g true ks xs hx hy xs.length 0 none (by omega) (by omega) (fun _ => rfl) (fun h => by omega)
      rw [F67_node_leafRight_eq, F69_letheref06_leaf_eq]
      rw [show F67_node_leafRight_l1000004 xs (List.length (α := S96) xs : Int) 0 a b c d e f g true xs ks = _ from q1, show F69_letheref06_leaf_l1000004 xs (List.length (α := S96) xs : Int) 0 a b c d e f g true xs ks = _ from q2]
      by_cases c1 : (0 : Int) < (ks.length : Int)
      · simp only [if_pos c1, Option.bind_some]; exact ⟨trivial, trivial⟩
      · by_cases c2 : (4 : Int) < (List.length (α := S96) xs : Int)
        · simp only [if_neg c1, if_pos c2, Option.bind_some]; exact ⟨trivial, trivial⟩
        · simp only [if_neg c1, if_neg c2, Option.bind_some]; exact ⟨rfl, rfl⟩
    | false =>
      simp only [Bool.false_eq_true, if_false]
      obtain ⟨q1, q2⟩ := inner_l a b c d e f g false xs ks hk ks.length 0 none (by omega) (by omega) (fun _ => rfl) (fun h => by omega)
      rw [F70_letheref06_inner_eq]
      rw [show F15_node_Right_l1000008 ks (ks.length : Int) 0 a b c d e f g false xs ks = _ from q1, show F70_letheref06_inner_l1000004 ks (ks.length : Int) 0 a b c d e f g false xs ks = _ from q2]
      by_cases c1 : (0 : Int) < (List.length (α := S96) xs : Int)
      · simp only [if_pos c1, Option.bind_some]; exact ⟨trivial, trivial⟩
      · by_cases c2 : (ks.length : Int) < (2 : Int)
        · simp only [if_neg c1, if_pos c2, Option.bind_some]; exact ⟨trivial, trivial⟩
        · by_cases c3 : (4 : Int) < (ks.length : Int)
          · simp only [if_neg c1, if_neg c2, if_pos c3, Option.bind_some]; exact ⟨trivial, trivial⟩
          · simp only [if_neg c1, if_neg c2, if_neg c3, Option.bind_some]; exact ⟨rfl, rfl⟩

abbrev bigL : Nat := 2513169434843
theorem parts_l (l : List S38) (hl : l.length ≤ bigL) (ih : ∀ x ∈ l, ∀ m : Nat, 1 ≤ m → m ≤ 1000000 → F127_term_parts (S38.f0 x) (S38.f1 x) (S38.f2 x) (S38.f3 x) (m : Int) = some (((min (parts x) m : Nat) : Int), ())) (m : Nat) (hm : m ≤ 1000000) : ∀ k i n, l.length - i = k → i ≤ l.length → n ≤ m → 1 ≤ n →
    F127_term_parts_l1000003 (m : Int) (n : Int) l (l.length : Int) (i : Int) = some (((min (n + partsL (l.drop i)) m : Nat) : Int), ()) := by
  intro k
  induction k with
  | zero =>
    intro i n hk hi hn h1
    rw [F127_term_parts_l1000003_eq, if_neg (by omega), List.drop_of_length_le (by omega)]
    exact oi_eq (by simp only [partsL]; omega)
  | succ k ihk =>
    intro i n hk hi hn h1
    simp only [bigL] at hl
    rw [F127_term_parts_l1000003_eq, if_pos (ilt (by omega)), if_pos (inb (by omega)), drop_rd (z := S38.z) (by omega : i < l.length)]
    by_cases c1 : m ≤ n
    · rw [if_pos (by omega)]
      exact oi_eq (by simp only [partsL]; omega)
    · rw [if_neg (by omega), w64 (by omega) (by omega), show (m : Int) - (n : Int) = ((m - n : Nat) : Int) by omega, rd_lt (by omega : i < l.length), ih _ (List.getElem_mem _) _ (by omega) (by omega), Option.bind_some, w64s (n := l.length) (by omega) (by omega)]
      generalize hp : parts l[i] = p
      have hp1 : 1 ≤ p := by rw [← hp]; exact parts_pos _
      rw [w64 (by omega) (by omega), show (n : Int) + ((min p (m - n) : Nat) : Int) = ((n + min p (m - n) : Nat) : Int) by omega, ihk (i + 1) _ (by omega) (by omega) (by omega) (by omega)]
      exact oi_eq (by simp only [partsL, hp]; omega)
theorem parts_f {x : S38} (h : okT x) : ∀ m : Nat, 1 ≤ m → m ≤ 1000000 → F127_term_parts (S38.f0 x) (S38.f1 x) (S38.f2 x) (S38.f3 x) (m : Int) = some (((min (parts x) m : Nat) : Int), ()) := by
  induction h with
  | @mk x h0 h1 h2 h3 h4 h5 ih =>
    intro m hm hm2
    rw [F127_term_parts_eq, parts_eq]
    exact parts_l (S38.f3 x) (by simp only [bigL]; omega) ih m hm2 _ 0 1 rfl (by omega) hm (by omega)
theorem rparts_l (l : List S38) (hl : l.length ≤ bigL) (ih : ∀ x ∈ l, ∀ m : Nat, 1 ≤ m → m ≤ 1000000 → F132_letheref02_Parts (S38.f0 x) (S38.f1 x) (S38.f2 x) (S38.f3 x) (m : Int) = some (((min (parts x) m : Nat) : Int), ())) (m : Nat) (hm : m ≤ 1000000) : ∀ k i n, l.length - i = k → i ≤ l.length → n ≤ m → 1 ≤ n →
    F132_letheref02_Parts_l1000003 (m : Int) (n : Int) l (l.length : Int) (i : Int) = some (((min (n + partsL (l.drop i)) m : Nat) : Int), ()) := by
  intro k
  induction k with
  | zero =>
    intro i n hk hi hn h1
    rw [F132_letheref02_Parts_l1000003_eq, if_neg (by omega), List.drop_of_length_le (by omega), if_neg (by omega)]
    exact oi_eq (by simp only [partsL]; omega)
  | succ k ihk =>
    intro i n hk hi hn h1
    simp only [bigL] at hl
    rw [F132_letheref02_Parts_l1000003_eq, if_pos (ilt (by omega)), if_pos (inb (by omega)), drop_rd (z := S38.z) (by omega : i < l.length)]
    by_cases c1 : m ≤ n
    · rw [if_pos (by omega)]
      exact oi_eq (by simp only [partsL]; omega)
    · rw [if_neg (by omega), w64 (by omega) (by omega), show (m : Int) - (n : Int) = ((m - n : Nat) : Int) by omega, rd_lt (by omega : i < l.length), ih _ (List.getElem_mem _) _ (by omega) (by omega), Option.bind_some, w64s (n := l.length) (by omega) (by omega)]
      generalize hp : parts l[i] = p
      have hp1 : 1 ≤ p := by rw [← hp]; exact parts_pos _
      rw [w64 (by omega) (by omega), show (n : Int) + ((min p (m - n) : Nat) : Int) = ((n + min p (m - n) : Nat) : Int) by omega, ihk (i + 1) _ (by omega) (by omega) (by omega) (by omega)]
      exact oi_eq (by simp only [partsL, hp]; omega)
theorem rparts_f {x : S38} (h : okT x) : ∀ m : Nat, 1 ≤ m → m ≤ 1000000 → F132_letheref02_Parts (S38.f0 x) (S38.f1 x) (S38.f2 x) (S38.f3 x) (m : Int) = some (((min (parts x) m : Nat) : Int), ()) := by
  induction h with
  | @mk x h0 h1 h2 h3 h4 h5 ih =>
    intro m hm hm2
    rw [F132_letheref02_Parts_eq, parts_eq]
    exact rparts_l (S38.f3 x) (by simp only [bigL]; omega) ih m hm2 _ 0 1 rfl (by omega) hm (by omega)
theorem deep_l (l : List S38) (hl : l.length ≤ bigL) (m : Nat) (hm : m ≤ 1000000) (hm2 : 2 ≤ m) (ih : ∀ x ∈ l, F128_term_deep (S38.f0 x) (S38.f1 x) (S38.f2 x) (S38.f3 x) ((m - 1 : Nat) : Int) = some (((min (depth x) (m - 1) : Nat) : Int), ())) : ∀ k i n, l.length - i = k → i ≤ l.length → n ≤ m - 1 →
    F128_term_deep_l1000004 (m : Int) (n : Int) l (l.length : Int) (i : Int) = some (((min (1 + max n (depthL (l.drop i))) m : Nat) : Int), ()) := by
  intro k
  induction k with
  | zero =>
    intro i n hk hi hn
    rw [F128_term_deep_l1000004_eq, if_neg (by omega), List.drop_of_length_le (by omega), w64 (by omega) (by omega)]
    exact oi_eq (by simp only [depthL]; omega)
  | succ k ihk =>
    intro i n hk hi hn
    simp only [bigL] at hl
    rw [F128_term_deep_l1000004_eq, if_pos (ilt (by omega)), if_pos (inb (by omega)), drop_rd (z := S38.z) (by omega : i < l.length), w64p (by omega) (by omega), rd_lt (by omega : i < l.length), ih _ (List.getElem_mem _), Option.bind_some, w64s (n := l.length) (by omega) (by omega)]
    generalize hp : depth l[i] = p
    rw [show mx (n : Int) ((min p (m - 1) : Nat) : Int) = ((max n (min p (m - 1)) : Nat) : Int) by unfold mx; split <;> omega, ihk (i + 1) _ (by omega) (by omega) (by omega)]
    exact oi_eq (by simp only [depthL, hp]; omega)
theorem deep_f {x : S38} (h : okT x) : ∀ m : Nat, 1 ≤ m → m ≤ 1000000 → F128_term_deep (S38.f0 x) (S38.f1 x) (S38.f2 x) (S38.f3 x) (m : Int) = some (((min (depth x) m : Nat) : Int), ()) := by
  induction h with
  | @mk x h0 h1 h2 h3 h4 h5 ih =>
    intro m hm hm2
    rw [F128_term_deep_eq, depth_eq]
    by_cases c1 : m = 1
    · rw [if_neg (by omega), w64 (by omega) (by omega)]
      exact oi_eq (by omega)
    · rw [if_pos (by omega)]
      have := deep_l (S38.f3 x) (by simp only [bigL]; omega) m hm2 (by omega) (fun y hy => ih y hy (m - 1) (by omega) (by omega)) _ 0 0 rfl (by omega) (by omega)
      rw [show F128_term_deep_l1000004 (m : Int) 0 (S38.f3 x) ((S38.f3 x).length : Int) 0 = _ from this]
      exact oi_eq (by simp only [List.drop_zero]; omega)
theorem rdeep_l (l : List S38) (hl : l.length ≤ bigL) (m : Nat) (hm : m ≤ 1000000) (hm2 : 2 ≤ m) (ih : ∀ x ∈ l, F133_letheref02_Deep (S38.f0 x) (S38.f1 x) (S38.f2 x) (S38.f3 x) ((m - 1 : Nat) : Int) = some (((min (depth x) (m - 1) : Nat) : Int), ())) : ∀ k i n, l.length - i = k → i ≤ l.length → n < m - 1 →
    F133_letheref02_Deep_l1000005 (m : Int) (n : Int) l (l.length : Int) (i : Int) = some (((min (1 + max n (depthL (l.drop i))) m : Nat) : Int), ()) := by
  intro k
  induction k with
  | zero =>
    intro i n hk hi hn
    rw [F133_letheref02_Deep_l1000005_eq, if_neg (by omega), List.drop_of_length_le (by omega), w64 (by omega) (by omega)]
    exact oi_eq (by simp only [depthL]; omega)
  | succ k ihk =>
    intro i n hk hi hn
    simp only [bigL] at hl
    rw [F133_letheref02_Deep_l1000005_eq, if_pos (ilt (by omega)), if_pos (inb (by omega)), drop_rd (z := S38.z) (by omega : i < l.length), w64p (by omega) (by omega), rd_lt (by omega : i < l.length), ih _ (List.getElem_mem _), Option.bind_some, w64s (n := l.length) (by omega) (by omega)]
    generalize hp : depth l[i] = p
    simp only [depthL, hp]
    refine ite_to (fun c1 => ?_) (fun c1 => ?_)
    · refine ite_to (fun c2 => ?_) (fun c2 => ?_)
      · exact oi_eq (by omega)
      · have := ihk (i + 1) (min p (m - 1)) (by omega) (by omega) (by omega)
        rw [this]
        exact oi_eq (by omega)
    · refine ite_to (fun c2 => ?_) (fun c2 => ?_)
      · omega
      · have := ihk (i + 1) n (by omega) (by omega) (by omega)
        rw [this]
        exact oi_eq (by omega)
theorem rdeep_f {x : S38} (h : okT x) : ∀ m : Nat, 1 ≤ m → m ≤ 1000000 → F133_letheref02_Deep (S38.f0 x) (S38.f1 x) (S38.f2 x) (S38.f3 x) (m : Int) = some (((min (depth x) m : Nat) : Int), ()) := by
  induction h with
  | @mk x h0 h1 h2 h3 h4 h5 ih =>
    intro m hm hm2
    rw [F133_letheref02_Deep_eq, depth_eq]
    by_cases c1 : m = 1
    · rw [if_pos (by omega)]
      exact oi_eq (by omega)
    · rw [if_neg (by omega)]
      have := rdeep_l (S38.f3 x) (by simp only [bigL]; omega) m hm2 (by omega) (fun y hy => ih y hy (m - 1) (by omega) (by omega)) _ 0 0 rfl (by omega) (by omega)
      rw [show F133_letheref02_Deep_l1000005 (m : Int) 0 (S38.f3 x) ((S38.f3 x).length : Int) 0 = _ from this]
      exact oi_eq (by simp only [List.drop_zero]; omega)
/-! shapes -/
theorem one_f (n f : Int) (s : ByteArray) (l : List S38) : F158_letheref02_One n f s l = some (one n f s l.length, ()) := by
  rw [F158_letheref02_One_eq]
  repeat' (refine ite_to (fun _ => ?_) (fun _ => ?_))
  all_goals (apply ob_eq <;> intro hh <;> simp only [one, str_nil_iff] at hh ⊢ <;> simp_all <;> omega)
theorem rshaped_l (l : List S38) (hl : l.length ≤ bigL) (ih : ∀ x ∈ l, F134_letheref02_shaped (S38.f0 x) (S38.f1 x) (S38.f2 x) (S38.f3 x) = some (shp x, ())) : ∀ k i, l.length - i = k → i ≤ l.length →
    F134_letheref02_shaped_l1000004 l (l.length : Int) (i : Int) = some (shpL (l.drop i), ()) := by
  intro k
  induction k with
  | zero =>
    intro i hk hi
    rw [F134_letheref02_shaped_l1000004_eq, if_neg (by omega), List.drop_of_length_le (by omega)]
    simp [shpL]
  | succ k ihk =>
    intro i hk hi
    simp only [bigL] at hl
    rw [F134_letheref02_shaped_l1000004_eq, if_pos (ilt (by omega)), if_pos (inb (by omega)), drop_rd (z := S38.z) (by omega : i < l.length), rd_lt (by omega : i < l.length), ih _ (List.getElem_mem _), Option.bind_some, w64s (n := l.length) (by omega) (by omega), ihk (i + 1) (by omega) (by omega)]
    cases hs : shp l[i] <;> simp [shpL, hs]
theorem rshaped_f {x : S38} (h : okT x) : F134_letheref02_shaped (S38.f0 x) (S38.f1 x) (S38.f2 x) (S38.f3 x) = some (shp x, ()) := by
  induction h with
  | @mk x h0 h1 h2 h3 h4 h5 ih =>
    rw [F134_letheref02_shaped_eq, one_f, shp_eq, Option.bind_some]
    have := rshaped_l (S38.f3 x) (by simp only [bigL]; omega) ih _ 0 rfl (by omega)
    rw [show F134_letheref02_shaped_l1000004 (S38.f3 x) ((S38.f3 x).length : Int) 0 = _ from this]
    cases one (S38.f0 x) (S38.f1 x) (S38.f2 x) (S38.f3 x).length <;> simp
theorem index_l (l : List S38) (hl : l.length ≤ bigL) (ih : ∀ x ∈ l, F129_term_shaped (S38.f0 x) (S38.f1 x) (S38.f2 x) (S38.f3 x) = some (shp x, ())) : ∀ k i, l.length - i = k → i ≤ l.length →
    ∃ n : Int, F185_slices_IndexFunc_157_l1000002 l (l.length : Int) (i : Int) = some (n, ()) ∧ (0 ≤ n ↔ shpL (l.drop i) = false) := by
  intro k
  induction k with
  | zero =>
    intro i hk hi
    rw [F185_slices_IndexFunc_157_l1000002_eq, if_neg (by omega), List.drop_of_length_le (by omega)]
    exact ⟨-1, rfl, by simp [shpL]⟩
  | succ k ihk =>
    intro i hk hi
    simp only [bigL] at hl
    rw [F185_slices_IndexFunc_157_l1000002_eq, if_pos (ilt (by omega)), if_pos (inb (by omega)), drop_rd (z := S38.z) (by omega : i < l.length), rd_lt (by omega : i < l.length), F157_term_shaped_1_eq, ih _ (List.getElem_mem _), Option.bind_some, Option.bind_some, w64s (n := l.length) (by omega) (by omega)]
    obtain ⟨n, q1, q2⟩ := ihk (i + 1) (by omega) (by omega)
    rw [q1]
    cases hs : shp l[i] with
    | true => exact ⟨n, by simp, by rw [q2]; simp [shpL, hs]⟩
    | false => exact ⟨i, by simp, by simp [shpL, hs]⟩
theorem shaped_f {x : S38} (h : okT x) : F129_term_shaped (S38.f0 x) (S38.f1 x) (S38.f2 x) (S38.f3 x) = some (shp x, ()) := by
  induction h with
  | @mk x h0 h1 h2 h3 h4 h5 ih =>
    have hb : ∀ b : Bool, F129_term_shaped_l12 b (S38.f0 x) (S38.f1 x) (S38.f2 x) (S38.f3 x) = some (b && shpL (S38.f3 x), ()) := by
      intro b
      obtain ⟨n, q1, q2⟩ := index_l (S38.f3 x) (by simp only [bigL]; omega) ih _ 0 rfl (by omega)
      rw [List.drop_zero] at q2
      rw [F129_term_shaped_l12_eq, F156_slices_ContainsFunc_157_eq, F185_slices_IndexFunc_157_eq, show F185_slices_IndexFunc_157_l1000002 (S38.f3 x) ((S38.f3 x).length : Int) 0 = _ from q1]
      cases b with
      | false => simp
      | true =>
        simp only [Option.bind_some, if_true, Bool.true_and]
        apply ob_eq
        · intro hh; cases hs : shpL (S38.f3 x) with
          | true => rfl
          | false => have := q2.2 hs; simp at hh; omega
        · intro hh; simp; by_cases c1 : 0 ≤ n
          · rw [q2.1 c1] at hh; cases hh
          · omega
    rw [F129_term_shaped_eq, shp_eq]
    simp only [hb]
    repeat' (refine ite_to (fun _ => ?_) (fun _ => ?_))
    all_goals (refine congrArg (fun b => some (b && shpL (S38.f3 x), ())) (Bool.eq_iff_iff.2 ?_) ; constructor <;> intro hh <;> simp only [one, str_nil_iff] at hh ⊢ <;> simp_all <;> omega)
theorem right_f {x : S38} (h : okT x) : F82_term_Right (S38.f0 x) (S38.f1 x) (S38.f2 x) (S38.f3 x) = some (rightT x, ()) := by
  have h1 := parts_f h 4001 (by omega) (by omega)
  have h2 := deep_f h 13 (by omega) (by omega)
  rw [F82_term_Right_eq, show F127_term_parts (S38.f0 x) (S38.f1 x) (S38.f2 x) (S38.f3 x) 4001 = _ from h1, show F128_term_deep (S38.f0 x) (S38.f1 x) (S38.f2 x) (S38.f3 x) 13 = _ from h2, shaped_f h]
  simp only [Option.bind_some]
  unfold rightT
  by_cases c1 : 4000 < parts x
  · rw [if_pos (by omega), if_pos c1]
  · rw [if_neg (by omega), if_neg c1]
    by_cases c2 : 12 < depth x
    · rw [if_pos (by omega), if_pos c2]
    · rw [if_neg (by omega), if_neg c2]
      cases shp x <;> simp
theorem rright_f {x : S38} (h : okT x) : F87_letheref02_Right (S38.f0 x) (S38.f1 x) (S38.f2 x) (S38.f3 x) = some (rightT x, ()) := by
  have h1 := rparts_f h 4001 (by omega) (by omega)
  have h2 := rdeep_f h 13 (by omega) (by omega)
  rw [F87_letheref02_Right_eq, show F132_letheref02_Parts (S38.f0 x) (S38.f1 x) (S38.f2 x) (S38.f3 x) 4001 = _ from h1, show F133_letheref02_Deep (S38.f0 x) (S38.f1 x) (S38.f2 x) (S38.f3 x) 13 = _ from h2, rshaped_f h]
  simp only [Option.bind_some]
  unfold rightT
  by_cases c1 : 4000 < parts x
  · rw [if_pos (by omega), if_pos c1]
  · rw [if_neg (by omega), if_neg c1]
    by_cases c2 : 12 < depth x
    · rw [if_pos (by omega), if_pos c2]
    · rw [if_neg (by omega), if_neg c2]
      cases shp x <;> simp

/-! ### a node out of a term: what the code does -/
theorem want_eq (o b : Bool) : F84_node_reader_want o b = some (!b && o, b || !o, ()) := by
  rw [F84_node_reader_want_eq]; cases b <;> cases o <;> rfl
theorem ifb {α : Type} {p : Prop} [Decidable p] {a b : α} : (if p then a else b) = if decide p = true then a else b := by by_cases h : p <;> simp [h]
theorem subL1 {l : List S38} (h : 0 < l.length) : subL l 1 (l.length : Int) = l.drop 1 := subL_drop l (k := 1) rfl
theorem rest_bad (x : S38) (k : Int) : F83_node_reader_rest (S38.f0 x) (S38.f1 x) (S38.f2 x) (S38.f3 x) k true = some (0, 0, ByteArray.empty, [], [], true, ()) := by
  rw [F83_node_reader_rest_eq]
  simp only [want_eq, Bool.not_true, Bool.false_and, Bool.true_or, Option.bind_some, Bool.false_eq_true, if_false]
  refine ite_to (fun _ => ?_) (fun _ => rfl)
  refine ite_to (fun h => ?_) (fun _ => rfl)
  rw [if_pos (by omega)]
theorem rest_eq (x : S38) (k : Int) : F83_node_reader_rest (S38.f0 x) (S38.f1 x) (S38.f2 x) (S38.f3 x) k false =
    if headB x k = true then some (S38.f0 (at_ x 0), S38.f1 (at_ x 0), S38.f2 (at_ x 0), S38.f3 (at_ x 0), (S38.f3 x).drop 1, false, ()) else some (0, 0, ByteArray.empty, [], [], true, ()) := by
  rw [F83_node_reader_rest_eq]
  simp only [want_eq, Bool.not_false, Bool.true_and, Bool.false_or, Option.bind_some]
  unfold headB
  by_cases c1 : S38.f0 x = 5
  · rw [if_pos c1]
    by_cases c2 : 0 < (S38.f3 x).length
    · have hin : (0 : Int) ≤ 0 ∧ 0 < ((S38.f3 x).length : Int) := by omega
      have hin1 : (0 : Int) ≤ 1 ∧ 1 ≤ ((S38.f3 x).length : Int) ∧ ((S38.f3 x).length : Int) ≤ ((S38.f3 x).length : Int) := by omega
      simp only [if_pos hin, if_pos hin.2, if_pos hin1, subL1 c2]
      by_cases c3 : S38.f0 (at_ x 0) = k <;> simp [c1, c2, c3]
    · have : ¬ (0 : Int) < ((S38.f3 x).length : Int) := by omega
      simp [c1, c2, this]
  · rw [if_neg c1]; simp [c1]
theorem number_eq (x : S38) (b : Bool) : F130_node_reader_number (S38.f0 x) (S38.f1 x) (S38.f2 x) (S38.f3 x) b = some ((if (!b && isNumB x) = true then IntKind.i64.wrap (S38.f1 x) else 0), b || !isNumB x, ()) := by
  rw [F130_node_reader_number_eq]
  simp only [want_eq, Option.bind_some]
  unfold isNumB
  by_cases c1 : S38.f0 x = 1 <;> by_cases c2 : S38.f1 x ≤ 2147483647 <;> cases b <;> simp [c1, c2]
theorem atom_eq (x : S38) (b : Bool) : F131_node_reader_atom (S38.f0 x) (S38.f1 x) (S38.f2 x) (S38.f3 x) b = some (S38.f2 x, b || !decide (S38.f0 x = 2), ()) := by
  rw [F131_node_reader_atom_eq]
  simp only [want_eq, Option.bind_some]
/-- One version more. -/
theorem entry_step (l : List S38) (hl : l.length ≤ bigL) (i : Nat) (hi : i < l.length) (b : Bool) (s t : ByteArray) (g g' : List S98) (hg : g'.length ≤ i) :
    ∃ g'', F85_node_reader_entry_l1000004 l (l.length : Int) (i : Int) b s t g g' = F85_node_reader_entry_l1000004 l (l.length : Int) ((i + 1 : Nat) : Int) (b || !verB l[i]) s t g g'' ∧ g''.length ≤ i + 1 ∧ ((b || !verB l[i]) = false → g'' = g' ++ [toV l[i]]) := by
  simp only [bigL] at hl
  have hn : ∀ y : S98, (g'.length + [y].length) * 40 ≤ 140737488355328 := fun y => by rw [List.length_singleton]; omega
  rw [F85_node_reader_entry_l1000004_eq, if_pos (ilt (by omega)), if_pos (inb (by omega)), rd_lt (by omega : i < l.length)]
  simp only [want_eq, Option.bind_some, F85_node_reader_entry_l8_eq, number_eq, atom_eq, w64s (n := l.length) (by omega) (by omega : l.length ≤ 9223372036854775807)]
  generalize l[i] = x
  by_cases c1 : S38.f0 x = 5
  · by_cases c2 : (S38.f3 x).length = 3
    · have i0 : (0 : Int) ≤ 0 ∧ 0 < ((S38.f3 x).length : Int) := by omega
      have i1 : (0 : Int) ≤ 1 ∧ 1 < ((S38.f3 x).length : Int) := by omega
      have i2 : (0 : Int) ≤ 2 ∧ 2 < ((S38.f3 x).length : Int) := by omega
      have i3 : ((S38.f3 x).length : Int) = 3 := by omega
      simp only [if_pos c1, if_pos i0, if_pos i1, if_pos i2, hn, if_true, i3, decide_true]
      cases b with
      | true =>
        refine ⟨g', ?_, by omega, by simp⟩
        simp
      | false =>
        refine ⟨g' ++ [S98.mk (if isNumB (at_ x 0) = true then IntKind.i64.wrap (S38.f1 (at_ x 0)) else 0) (S38.f2 (at_ x 1)) (S38.f2 (at_ x 2))], by simp [verB, c1, c2, Bool.or_assoc, at_], by rw [List.length_append, List.length_singleton]; omega, fun hh => ?_⟩
        simp [verB, c1, c2] at hh
        rw [if_pos hh.1]; rfl
    · have i3 : ¬ ((S38.f3 x).length : Int) = 3 := by omega
      refine ⟨g', ?_, by omega, by simp [verB, c2]⟩
      simp [c1, i3, verB, c2]
  · refine ⟨g', ?_, by omega, by simp [verB, c1]⟩
    simp [c1, verB]
theorem entry_l (l : List S38) (hl : l.length ≤ bigL) (s t : ByteArray) (g : List S98) : ∀ (n i : Nat) (b : Bool) (g' : List S98), l.length - i = n → i ≤ l.length → g'.length ≤ i →
    ∃ g'', F85_node_reader_entry_l1000004 l (l.length : Int) (i : Int) b s t g g' = some (t, g'', b || !((l.drop i).all verB), ()) ∧ g''.length ≤ l.length ∧ ((b || !((l.drop i).all verB)) = false → g'' = g' ++ (l.drop i).map toV) := by
  intro n
  induction n with
  | zero =>
    intro i b g' hn hi hg
    rw [F85_node_reader_entry_l1000004_eq, if_neg (by omega), List.drop_of_length_le (by omega)]
    exact ⟨g', by simp, by omega, by simp⟩
  | succ n ih =>
    intro i b g' hn hi hg
    obtain ⟨g1, q1, q2, q3⟩ := entry_step l hl i (by omega) b s t g g' hg
    obtain ⟨g2, p1, p2, p3⟩ := ih (i + 1) (b || !verB l[i]) g1 (by omega) (by omega) q2
    rw [q1, p1, List.drop_eq_getElem_cons (by omega : i < l.length)]
    have e : (b || !verB l[i] || !((l.drop (i + 1)).all verB)) = (b || !((l[i] :: l.drop (i + 1)).all verB)) := by
      rw [List.all_cons]; cases b <;> cases verB l[i] <;> simp
    rw [e] at p3 ⊢
    refine ⟨g2, rfl, p2, fun hh => ?_⟩
    rw [p3 hh, q3 (by rw [← e] at hh; cases hb : (b || !verB l[i]) with | false => rfl | true => rw [hb] at hh; simp at hh), List.map_cons, List.append_assoc]
    rfl
theorem rentry_bad (x : S38) : F85_node_reader_entry (S38.f0 x) (S38.f1 x) (S38.f2 x) (S38.f3 x) true = some (ByteArray.empty, [], true, ()) := by
  rw [F85_node_reader_entry_eq, rest_bad, Option.bind_some, F85_node_reader_entry_l1000004_eq, if_neg (by simp)]
theorem rentry_eq {x : S38} (hx : (S38.f3 x).length ≤ bigL) : ∃ s g, F85_node_reader_entry (S38.f0 x) (S38.f1 x) (S38.f2 x) (S38.f3 x) false = some (s, g, !entB x, ()) ∧ g.length ≤ (S38.f3 x).length ∧ (entB x = true → S96.mk s g = toE x) := by
  rw [F85_node_reader_entry_eq, rest_eq, entB]
  cases hh : headB x 2 with
  | false =>
    simp only [Bool.false_eq_true, if_false, Option.bind_some]
    rw [F85_node_reader_entry_l1000004_eq, if_neg (by simp)]
    exact ⟨_, _, rfl, by simp, by simp⟩
  | true =>
    simp only [if_true, Option.bind_some]
    obtain ⟨g, q1, q2, q3⟩ := entry_l ((S38.f3 x).drop 1) (by rw [List.length_drop]; omega) ByteArray.empty (S38.f2 (at_ x 0)) [] _ 0 false [] rfl (by omega) (by simp)
    rw [List.drop_zero] at q1 q3
    rw [show F85_node_reader_entry_l1000004 ((S38.f3 x).drop 1) (((S38.f3 x).drop 1).length : Int) 0 false ByteArray.empty (S38.f2 (at_ x 0)) [] [] = _ from q1]
    refine ⟨_, _, rfl, by rw [List.length_drop] at q2; omega, fun h => ?_⟩
    rw [q3 (by simpa using h), toE]; rfl
theorem rkid_bad (x : S38) : F86_node_reader_kid (S38.f0 x) (S38.f1 x) (S38.f2 x) (S38.f3 x) true = some (ByteArray.empty, 0, 0, 0, 0, true, ()) := by
  rw [F86_node_reader_kid_eq, rest_bad, Option.bind_some]
  simp [want_eq]
theorem rkid_eq (x : S38) : ∃ a b c d e, F86_node_reader_kid (S38.f0 x) (S38.f1 x) (S38.f2 x) (S38.f3 x) false = some (a, b, c, d, e, !kidB x, ()) ∧ (kidB x = true → S100.mk a b c d e = toK x) := by
  rw [F86_node_reader_kid_eq, rest_eq, kidB]
  cases hh : headB x 2 with
  | false =>
    simp only [Bool.false_eq_true, if_false, Option.bind_some, want_eq]
    exact ⟨_, _, _, _, _, by simp; exact ⟨rfl, rfl, rfl, rfl, rfl⟩, by simp⟩
  | true =>
    simp only [if_true, Option.bind_some, want_eq, number_eq]
    by_cases c1 : (S38.f3 x).length = 5
    · have hl : (((S38.f3 x).drop 1).length : Int) = 4 := by rw [List.length_drop]; omega
      have e0 : rd S38.z ((S38.f3 x).drop 1) 0 = at_ x 1 := rd_drop1 _ 0
      have e1 : rd S38.z ((S38.f3 x).drop 1) 1 = at_ x 2 := rd_drop1 _ 1
      have e2 : rd S38.z ((S38.f3 x).drop 1) 2 = at_ x 3 := rd_drop1 _ 2
      have e3 : rd S38.z ((S38.f3 x).drop 1) 3 = at_ x 4 := rd_drop1 _ 3
      rw [hl, e0, e1, e2, e3]
      by_cases c2 : S38.f0 (at_ x 1) = 3
      · refine ⟨_, _, _, _, _, by simp [c1, c2, Bool.or_assoc]; exact ⟨rfl, rfl, rfl, rfl, rfl⟩, fun h => ?_⟩
        simp [c1, c2] at h
        simp [h.1, h.2.1, h.2.2, toK]
      · exact ⟨_, _, _, _, _, by simp [c1, c2]; exact ⟨rfl, rfl, rfl, rfl, rfl⟩, by simp [c2]⟩
    · have hl : ¬ (((S38.f3 x).drop 1).length : Int) = 4 := by rw [List.length_drop]; omega
      exact ⟨_, _, _, _, _, by simp only [if_neg hl]; simp [c1]; exact ⟨rfl, rfl, rfl, rfl, rfl⟩, by simp [c1]⟩
abbrev N4 := Bool × List S96 × List S100 × Int × Unit
def endV (a b c d e f g : Int) (q : Bool) (bad : Bool) (es : List S96) (ks : List S100) : Option N4 :=
  if bad = true then some (false, [], [], 60, ()) else if nodeV a b c d e f g q es ks = 0 then some (q, es, ks, 0, ()) else some (false, [], [], nodeV a b c d e f g q es ks, ())
def pickB (q : Bool) (y : S38) : Bool := if q = true then entB y else kidB y
theorem node_r (a b c d e f g : Int) (q : Bool) (es : List S96) (ks : List S100) (h1 : es.length ≤ bigL) (h2 : ks.length ≤ bigL) (h3 : ∀ y ∈ es, EntryBound y) :
    (F15_node_Right a b c d e f g q es ks = some (nodeV a b c d e f g q es ks, ())) ∧ (F16_letheref06_Right a b c d e f g q es ks = some (nodeV a b c d e f g q es ks, ())) := by
  simp only [bigL] at h1 h2
  exact node_eq a b c d e f g q es ks (by omega) h3 (by omega)
theorem from_l (a b c d e f g : Int) (q h1 : Bool) (l : List S38) (hl : l.length ≤ bigL) (hx : ∀ x ∈ l, (S38.f3 x).length ≤ bigL) (g4 : List S96) (g5 : List S100) : ∀ (n i : Nat) (bad : Bool) (es : List S96) (ks : List S100), l.length - i = n → i ≤ l.length → es.length ≤ i → ks.length ≤ i → (∀ y ∈ es, EntryBound y) →
    ∃ es' ks', F24_node_From_l1000011 l (l.length : Int) (i : Int) a b c d e f g h1 bad q g4 g5 es ks = endV a b c d e f g q (bad || !((l.drop i).all (pickB q))) es' ks' ∧
      ((bad || !((l.drop i).all (pickB q))) = false → es' = es ++ (if q = true then (l.drop i).map toE else []) ∧ ks' = ks ++ (if q = true then [] else (l.drop i).map toK)) := by
  have hl' := hl
  simp only [bigL] at hl'
  intro n
  induction n with
  | zero =>
    intro i bad es ks hn hi h2 h3 h4
    refine ⟨es, ks, ?_, ?_⟩
    · rw [F24_node_From_l1000011_eq, if_neg (by omega), List.drop_of_length_le (by omega), (node_r a b c d e f g q es ks (by omega) (by omega) h4).1]
      cases bad with
      | true => simp [endV]
      | false =>
        simp only [Bool.false_eq_true, if_false, Option.bind_some, List.all_nil, Bool.not_true, Bool.or_self]
        unfold endV
        by_cases hz : nodeV a b c d e f g q es ks = 0
        · rw [if_neg (fun h => h hz), if_neg (by simp), if_pos hz]
        · rw [if_pos hz, if_neg (by simp), if_neg hz]
    · intro _
      rw [List.drop_of_length_le (by omega)]
      cases q <;> simp
  | succ n ih =>
    intro i bad es ks hn hi h2 h3 h4
    have hxi := hx l[i] (List.getElem_mem _)
    rw [List.drop_eq_getElem_cons (by omega : i < l.length), List.all_cons]
    rw [F24_node_From_l1000011_eq, if_pos (ilt (by omega)), if_pos (inb (by omega)), rd_lt (by omega : i < l.length), w64s (n := l.length) (by omega) (by omega)]
    cases q with
    | true =>
      rw [if_pos rfl]
      obtain ⟨s, g', q1, q2, q3⟩ : ∃ s g', F85_node_reader_entry (S38.f0 l[i]) (S38.f1 l[i]) (S38.f2 l[i]) (S38.f3 l[i]) bad = some (s, g', bad || !entB l[i], ()) ∧ g'.length ≤ bigL ∧ ((bad || !entB l[i]) = false → S96.mk s g' = toE l[i]) := by
        cases bad with
        | true => exact ⟨_, _, rentry_bad _, by simp, by simp⟩
        | false =>
          obtain ⟨s, g', r1, r2, r3⟩ := rentry_eq hxi
          exact ⟨s, g', by simpa using r1, by omega, fun h => r3 (by simpa using h)⟩
      rw [q1]
      simp only [Option.bind_some]
      rw [if_pos (by rw [List.length_singleton]; omega)]
      obtain ⟨es', ks', r1, r2⟩ := ih (i + 1) (bad || !entB l[i]) (es ++ [S96.mk s g']) ks (by omega) (by omega) (by rw [List.length_append, List.length_singleton]; omega) (by omega) (by
        intro y hy
        rw [List.mem_append, List.mem_singleton] at hy
        rcases hy with hy | hy
        · exact h4 y hy
        · rw [hy]; show g'.length ≤ _; simp only [bigL] at q2; omega)
      have eb : (bad || !entB l[i] || !((l.drop (i + 1)).all (pickB true))) = (bad || !(pickB true l[i] && (l.drop (i + 1)).all (pickB true))) := by
        simp only [pickB, if_true]; cases bad <;> cases entB l[i] <;> simp
      rw [eb] at r1 r2
      refine ⟨es', ks', r1, fun hh => ?_⟩
      obtain ⟨p1, p2⟩ := r2 hh
      simp only [if_true] at p1 p2 ⊢
      refine ⟨?_, p2⟩
      rw [p1, q3 (by rw [← eb] at hh; cases hb : (bad || !entB l[i]) with | false => rfl | true => rw [hb] at hh; simp at hh), List.map_cons, List.append_assoc]
      rfl
    | false =>
      rw [if_neg (by simp)]
      obtain ⟨k0, k1, k2, k3, k4, q1, q3⟩ : ∃ k0 k1 k2 k3 k4, F86_node_reader_kid (S38.f0 l[i]) (S38.f1 l[i]) (S38.f2 l[i]) (S38.f3 l[i]) bad = some (k0, k1, k2, k3, k4, bad || !kidB l[i], ()) ∧ ((bad || !kidB l[i]) = false → S100.mk k0 k1 k2 k3 k4 = toK l[i]) := by
        cases bad with
        | true => exact ⟨_, _, _, _, _, rkid_bad _, by simp⟩
        | false =>
          obtain ⟨k0, k1, k2, k3, k4, r1, r3⟩ := rkid_eq l[i]
          exact ⟨k0, k1, k2, k3, k4, by simpa using r1, fun h => r3 (by simpa using h)⟩
      rw [q1]
      simp only [Option.bind_some]
      rw [if_pos (by rw [List.length_singleton]; omega)]
      obtain ⟨es', ks', r1, r2⟩ := ih (i + 1) (bad || !kidB l[i]) es (ks ++ [S100.mk k0 k1 k2 k3 k4]) (by omega) (by omega) (by omega) (by rw [List.length_append, List.length_singleton]; omega) h4
      have eb : (bad || !kidB l[i] || !((l.drop (i + 1)).all (pickB false))) = (bad || !(pickB false l[i] && (l.drop (i + 1)).all (pickB false))) := by
        simp only [pickB, Bool.false_eq_true, if_false]; cases bad <;> cases kidB l[i] <;> simp
      rw [eb] at r1 r2
      refine ⟨es', ks', r1, fun hh => ?_⟩
      obtain ⟨p1, p2⟩ := r2 hh
      simp only [Bool.false_eq_true, if_false] at p1 p2 ⊢
      refine ⟨p1, ?_⟩
      rw [p2, q3 (by rw [← eb] at hh; cases hb : (bad || !kidB l[i]) with | false => rfl | true => rw [hb] at hh; simp at hh), List.map_cons, List.append_assoc]
      rfl
/-- What both answer. -/
def fromV (a b c d e f g : Int) (t : S38) : Option N4 :=
  if quotaOk a b c d e f g = true then (if rightT t = 0 then endV a b c d e f g (leafB t) (!formB t) (ents t) (kids t) else some (false, [], [], rightT t, ())) else some (false, [], [], 40, ())
theorem okT.sub {t : S38} (h : okT t) : (S38.f3 t).length ≤ bigL ∧ ∀ x ∈ S38.f3 t, (S38.f3 x).length ≤ bigL := ⟨h.len, fun x hx => (h.el x hx).len⟩
theorem endV_bad (a b c d e f g : Int) (q q' : Bool) (es es' : List S96) (ks ks' : List S100) : endV a b c d e f g q true es ks = endV a b c d e f g q' true es' ks' := by simp [endV]
theorem from_eq (a b c d e f g : Int) {t : S38} (h : okT t) : F24_node_From a b c d e f g (S38.f0 t) (S38.f1 t) (S38.f2 t) (S38.f3 t) = fromV a b c d e f g t := by
  rw [F24_node_From_eq, q66, right_f h]
  simp only [Option.bind_some]
  unfold fromV
  cases quotaOk a b c d e f g with
  | false => simp
  | true =>
    simp only [if_true, not_true_eq_false, if_false]
    by_cases c1 : rightT t = 0
    · rw [if_neg (fun hh => hh c1), if_pos c1, rest_eq]
      obtain ⟨hs1, hs2⟩ := h.sub
      cases hh : headB t 1 with
      | false =>
        simp only [Bool.false_eq_true, if_false, Option.bind_some, want_eq]
        rw [if_neg (by omega)]
        obtain ⟨es, ks, r1, r2⟩ := from_l a b c d e f g (decide ((0 : Int) = 1)) false [] (by simp) (by simp) [] [] 0 0 true [] [] rfl (by simp) (by simp) (by simp) (by simp)
        have hb : formB t = false := by simp [formB, hh]
        rw [hb]
        exact r1.trans (endV_bad _ _ _ _ _ _ _ _ _ _ _ _ _)
      | true =>
        simp only [if_true, Option.bind_some, want_eq]
        have key : ∀ bad : Bool, (bad = !(decide (S38.f1 (at_ t 0) = 1) || decide (S38.f1 (at_ t 0) = 2))) → F24_node_From_l1000011 ((S38.f3 t).drop 1) (((S38.f3 t).drop 1).length : Int) 0 a b c d e f g false bad (leafB t) [] [] [] [] = endV a b c d e f g (leafB t) (!formB t) (ents t) (kids t) := by
          intro bad hbad
          obtain ⟨es, ks, r1, r2⟩ := from_l a b c d e f g (leafB t) false ((S38.f3 t).drop 1) (by rw [List.length_drop]; omega) (fun x hx => hs2 x (List.mem_of_mem_drop hx)) [] [] _ 0 bad [] [] rfl (by omega) (by simp) (by simp) (by simp)
          rw [List.drop_zero] at r1 r2
          have eb : (bad || !(((S38.f3 t).drop 1).all (pickB (leafB t)))) = !formB t := by
            rw [hbad, formB, hh]
            show _ = !(true && (_ && ((S38.f3 t).drop 1).all (pickB (leafB t))))
            cases (decide (S38.f1 (at_ t 0) = 1) || decide (S38.f1 (at_ t 0) = 2)) <;> simp
          rw [eb] at r1 r2
          rw [show F24_node_From_l1000011 ((S38.f3 t).drop 1) (((S38.f3 t).drop 1).length : Int) 0 a b c d e f g false bad (leafB t) [] [] [] [] = _ from r1]
          cases hf : formB t with
          | false => simp [endV]
          | true =>
            obtain ⟨p1, p2⟩ := r2 (by rw [hf]; rfl)
            rw [p1, p2]; rfl
        by_cases c2 : S38.f1 (at_ t 0) = 1
        · rw [if_pos c2]
          exact key false (by simp [c2])
        · rw [if_neg c2]
          exact key (!(decide (S38.f1 (at_ t 0) = 2))) (by simp [c2])
    · rw [if_pos c1, if_neg c1]
/-! the document's -/
theorem isNum_eq (x : S38) : F160_letheref06_isNum (S38.f0 x) (S38.f1 x) (S38.f2 x) (S38.f3 x) = some (isNumB x, ()) := by
  rw [F160_letheref06_isNum_eq]; unfold isNumB
  by_cases c1 : S38.f0 x = 1 <;> simp [c1]
theorem version_eq (x : S38) : F159_letheref06_version (S38.f0 x) (S38.f1 x) (S38.f2 x) (S38.f3 x) = some (verB x, ()) := by
  rw [F159_letheref06_version_eq]
  simp only [isNum_eq, Option.bind_some]
  unfold verB
  by_cases c1 : S38.f0 x = 5
  · by_cases c2 : (S38.f3 x).length = 3
    · have i3 : ((S38.f3 x).length : Int) = 3 := by omega
      rw [i3]
      simp only [c1, c2, decide_true, Bool.true_and, if_true]
      cases isNumB (at_ x 0) with
      | false => simp
      | true => by_cases c3 : S38.f0 (at_ x 1) = 2 <;> simp [c3]
    · have i3 : ¬ ((S38.f3 x).length : Int) = 3 := by omega
      simp [c1, c2, i3]
  · simp [c1]
theorem isEntry_l (l : List S38) (hl : l.length ≤ bigL) : ∀ (n i : Nat), l.length - i = n → i ≤ l.length → F135_letheref06_isEntry_l1000004 l (l.length : Int) (i : Int) = some ((l.drop i).all verB, ()) := by
  simp only [bigL] at hl
  intro n
  induction n with
  | zero =>
    intro i hn hi
    rw [F135_letheref06_isEntry_l1000004_eq, if_neg (by omega), List.drop_of_length_le (by omega)]; rfl
  | succ n ih =>
    intro i hn hi
    rw [F135_letheref06_isEntry_l1000004_eq, if_pos (ilt (by omega)), if_pos (inb (by omega)), version_eq, Option.bind_some, w64s (n := l.length) (by omega) (by omega), ih (i + 1) (by omega) (by omega), drop_rd (z := S38.z) (by omega : i < l.length), List.all_cons]
    cases verB (rd S38.z l (i : Int)) <;> simp
theorem isEntry_eq {x : S38} (hx : (S38.f3 x).length ≤ bigL) : F135_letheref06_isEntry (S38.f0 x) (S38.f1 x) (S38.f2 x) (S38.f3 x) = some (entB x, ()) := by
  rw [F135_letheref06_isEntry_eq]
  unfold entB headB
  by_cases c1 : S38.f0 x = 5
  · by_cases c2 : 0 < (S38.f3 x).length
    · rw [if_neg (fun h => h c1), if_neg (by omega), if_pos (by omega)]
      by_cases c3 : S38.f0 (at_ x 0) = 2
      · rw [if_neg (fun h => h c3), if_pos (by omega), subL1 c2]
        have := isEntry_l ((S38.f3 x).drop 1) (by rw [List.length_drop]; omega) _ 0 rfl (by omega)
        rw [show F135_letheref06_isEntry_l1000004 ((S38.f3 x).drop 1) (((S38.f3 x).drop 1).length : Int) 0 = _ from this]
        simp [c1, c2, c3]
      · rw [if_pos c3]; simp [c3]
    · rw [if_neg (fun h => h c1), if_pos (by omega)]; simp [c2]
  · rw [if_pos c1]; simp [c1]
theorem isKid_eq (x : S38) : F136_letheref06_isKid (S38.f0 x) (S38.f1 x) (S38.f2 x) (S38.f3 x) = some (kidB x, ()) := by
  rw [F136_letheref06_isKid_eq]
  simp only [isNum_eq, Option.bind_some]
  unfold kidB headB
  by_cases c1 : S38.f0 x = 5
  · by_cases c2 : (S38.f3 x).length = 5
    · have i3 : ((S38.f3 x).length : Int) = 5 := by omega
      rw [i3]
      simp only [c1, c2, decide_true, Bool.true_and, if_true]
      by_cases c3 : S38.f0 (at_ x 0) = 2
      · by_cases c4 : S38.f0 (at_ x 1) = 3
        · simp only [c3, c4, if_true, decide_true, Bool.true_and]
          cases isNumB (at_ x 2) with
          | false => simp
          | true => cases isNumB (at_ x 3) <;> simp
        · simp [c3, c4]
      · simp [c3]
    · have i3 : ¬ ((S38.f3 x).length : Int) = 5 := by omega
      simp [c1, c2, i3]
  · simp [c1]
theorem formed_l (t : S38) (h0 : 0 < (S38.f3 t).length) (h12 : S38.f1 (at_ t 0) = 1 ∨ S38.f1 (at_ t 0) = 2) (l : List S38) (hl : l.length ≤ bigL) (hx : ∀ x ∈ l, (S38.f3 x).length ≤ bigL) (a b : Int) (s : ByteArray) : ∀ (n i : Nat), l.length - i = n → i ≤ l.length →
    F88_letheref06_formed_l1000004 l (l.length : Int) (i : Int) a b s (S38.f3 t) = some ((l.drop i).all (pickB (leafB t)), ()) := by
  simp only [bigL] at hl
  intro n
  induction n with
  | zero =>
    intro i hn hi
    rw [F88_letheref06_formed_l1000004_eq, if_neg (by omega), List.drop_of_length_le (by omega)]; rfl
  | succ n ih =>
    intro i hn hi
    have hxi := hx l[i] (List.getElem_mem _)
    have hin : (0 : Int) ≤ 0 ∧ 0 < ((S38.f3 t).length : Int) := by omega
    rw [F88_letheref06_formed_l1000004_eq, if_pos (ilt (by omega)), if_pos (inb (by omega)), rd_lt (by omega : i < l.length), isEntry_eq hxi, isKid_eq, drop_rd (z := S38.z) (by omega : i < l.length), List.all_cons, rd_lt (by omega : i < l.length)]
    simp only [if_pos hin, Option.bind_some, F88_letheref06_formed_l8_eq]
    rw [w64s (n := l.length) (by omega) (by omega), ih (i + 1) (by omega) (by omega)]
    have h12' : rd S38.z (S38.f3 t) 0 = at_ t 0 := rfl
    rw [h12']
    by_cases c1 : S38.f1 (at_ t 0) = 1
    · have c2 : ¬ S38.f1 (at_ t 0) = 2 := by omega
      simp only [pickB, leafB, c1, decide_true, if_true]
      cases entB l[i] <;> simp [c2]
    · have c2 : S38.f1 (at_ t 0) = 2 := h12.resolve_left c1
      simp only [pickB, leafB, c1, c2]
      cases kidB l[i] <;> simp
theorem formed_eq {t : S38} (h : okT t) : F88_letheref06_formed (S38.f0 t) (S38.f1 t) (S38.f2 t) (S38.f3 t) = some (formB t, ()) := by
  obtain ⟨hs1, hs2⟩ := h.sub
  rw [F88_letheref06_formed_eq, F88_letheref06_formed_l2_eq]
  unfold formB headB
  have hr : rd S38.z (S38.f3 t) 0 = at_ t 0 := rfl
  by_cases c1 : S38.f0 t = 5
  · by_cases c2 : 0 < (S38.f3 t).length
    · have hin : (0 : Int) ≤ 0 ∧ 0 < ((S38.f3 t).length : Int) := by omega
      rw [if_neg (fun h => h c1), if_neg (by omega)]
      simp only [if_pos hin, hr]
      by_cases c3 : S38.f0 (at_ t 0) = 1
      · rw [if_neg (fun h => h c3)]
        by_cases c4 : S38.f1 (at_ t 0) = 1 ∨ S38.f1 (at_ t 0) = 2
        · rw [if_neg (by omega), if_neg (by omega), if_pos (by omega), subL1 c2]
          have := formed_l t c2 c4 ((S38.f3 t).drop 1) (by rw [List.length_drop]; omega) (fun x hx => hs2 x (List.mem_of_mem_drop hx)) (S38.f0 t) (S38.f1 t) (S38.f2 t) _ 0 rfl (by omega)
          rw [show F88_letheref06_formed_l1000004 ((S38.f3 t).drop 1) (((S38.f3 t).drop 1).length : Int) 0 (S38.f0 t) (S38.f1 t) (S38.f2 t) (S38.f3 t) = _ from this]
          have h9 : (decide (S38.f1 (at_ t 0) = 1) || decide (S38.f1 (at_ t 0) = 2)) = true := by simpa using c4
          rw [h9, List.drop_zero]
          simp only [c1, c2, c3, decide_true, Bool.true_and]
          rfl
        · have h9 : (decide (S38.f1 (at_ t 0) = 1) || decide (S38.f1 (at_ t 0) = 2)) = false := by simpa using c4
          rw [h9]
          have hd : S38.f1 (at_ t 0) < 1 ∨ 2 < S38.f1 (at_ t 0) := by omega
          rcases hd with hd | hd
          · rw [if_pos hd]; simp
          · rw [if_neg (by omega), if_pos hd]; simp
      · rw [if_pos c3]; simp [c3]
    · rw [if_neg (fun h => h c1), if_pos (by omega)]; simp [c2]
  · rw [if_pos c1]; simp [c1]
theorem toEntry_l (l : List S38) (hl : l.length ≤ bigL) (hv : ∀ x ∈ l, verB x = true) (s t : ByteArray) (g' : List S98) : ∀ (n i : Nat) (g : List S98), l.length - i = n → i ≤ l.length → g.length ≤ i →
    F89_letheref06_toEntry_l1000003 l (l.length : Int) (i : Int) s t g' g = some (t, g ++ (l.drop i).map toV, ()) := by
  simp only [bigL] at hl
  intro n
  induction n with
  | zero =>
    intro i g hn hi hg
    rw [F89_letheref06_toEntry_l1000003_eq, if_neg (by omega), List.drop_of_length_le (by omega), List.map_nil, List.append_nil]
  | succ n ih =>
    intro i g hn hi hg
    have hv' := hv l[i] (List.getElem_mem _)
    have h3 : (S38.f3 l[i]).length = 3 := by
      unfold verB at hv'
      simp at hv'
      exact hv'.2.1
    rw [F89_letheref06_toEntry_l1000003_eq, if_pos (ilt (by omega)), if_pos (inb (by omega)), rd_lt (by omega : i < l.length)]
    simp only []
    rw [if_pos (by omega), if_pos (by omega), if_pos (by omega), if_pos (by rw [List.length_singleton]; omega), w64s (n := l.length) (by omega) (by omega), ih (i + 1) _ (by omega) (by omega) (by rw [List.length_append, List.length_singleton]; omega), List.drop_eq_getElem_cons (by omega : i < l.length), List.map_cons, List.append_assoc]
    rfl
theorem toEntry_eq {x : S38} (hx : (S38.f3 x).length ≤ bigL) (he : entB x = true) : F89_letheref06_toEntry (S38.f0 x) (S38.f1 x) (S38.f2 x) (S38.f3 x) = some (S96.f0 (toE x), S96.f1 (toE x), ()) := by
  unfold entB headB at he
  simp only [Bool.and_eq_true, decide_eq_true_eq, List.all_eq_true] at he
  rw [F89_letheref06_toEntry_eq, if_pos (by omega), if_pos (by omega), subL1 he.1.2.1]
  exact toEntry_l _ (by rw [List.length_drop]; omega) he.2 _ _ _ _ 0 [] rfl (by omega) (by simp)
theorem toKid_eq {x : S38} (he : kidB x = true) : F90_letheref06_toKid (S38.f0 x) (S38.f1 x) (S38.f2 x) (S38.f3 x) = some (S100.f0 (toK x), S100.f1 (toK x), S100.f2 (toK x), S100.f3 (toK x), S100.f4 (toK x), ()) := by
  unfold kidB headB at he
  simp only [Bool.and_eq_true, decide_eq_true_eq] at he
  have := he.2.1
  rw [F90_letheref06_toKid_eq, if_pos (by omega), if_pos (by omega), if_pos (by omega), if_pos (by omega), if_pos (by omega)]
  rfl
theorem rfrom_l (a b c d e f g : Int) (q h1 : Bool) (l : List S38) (hl : l.length ≤ bigL) (hx : ∀ x ∈ l, (S38.f3 x).length ≤ bigL) (hp : ∀ x ∈ l, pickB q x = true) (g4 : List S96) (g5 : List S100) : ∀ (n i : Nat) (es : List S96) (ks : List S100), l.length - i = n → i ≤ l.length → es.length ≤ i → ks.length ≤ i → (∀ y ∈ es, EntryBound y) →
    F25_letheref06_From_l1000009 l (l.length : Int) (i : Int) a b c d e f g h1 q g4 g5 es ks = endV a b c d e f g q false (es ++ (if q = true then (l.drop i).map toE else [])) (ks ++ (if q = true then [] else (l.drop i).map toK)) := by
  have hl' := hl
  simp only [bigL] at hl'
  intro n
  induction n with
  | zero =>
    intro i es ks hn hi h2 h3 h4
    rw [F25_letheref06_From_l1000009_eq, if_neg (by omega), List.drop_of_length_le (by omega), (node_r a b c d e f g q es ks (by omega) (by omega) h4).2]
    have e1 : es ++ (if q = true then ([] : List S38).map toE else []) = es := by cases q <;> simp
    have e2 : ks ++ (if q = true then [] else ([] : List S38).map toK) = ks := by cases q <;> simp
    rw [e1, e2, Option.bind_some]
    unfold endV
    by_cases hz : nodeV a b c d e f g q es ks = 0
    · rw [if_neg (fun h => h hz), if_neg (by simp), if_pos hz]
    · rw [if_pos hz, if_neg (by simp), if_neg hz]
  | succ n ih =>
    intro i es ks hn hi h2 h3 h4
    have hxi := hx l[i] (List.getElem_mem _)
    have hpi := hp l[i] (List.getElem_mem _)
    rw [List.drop_eq_getElem_cons (by omega : i < l.length), F25_letheref06_From_l1000009_eq, if_pos (ilt (by omega)), if_pos (inb (by omega)), rd_lt (by omega : i < l.length), w64s (n := l.length) (by omega) (by omega)]
    cases q with
    | true =>
      have hb : EntryBound (toE l[i]) := by
        show (((S38.f3 l[i]).drop 1).map toV).length ≤ _
        rw [List.length_map, List.length_drop]; simp only [bigL] at hxi; omega
      rw [if_pos rfl, toEntry_eq hxi hpi]
      simp only [Option.bind_some]
      rw [if_pos (by rw [List.length_singleton]; omega), ih (i + 1) (es ++ [toE l[i]]) ks (by omega) (by omega) (by rw [List.length_append, List.length_singleton]; omega) (by omega) (by
        intro y hy
        rw [List.mem_append, List.mem_singleton] at hy
        rcases hy with hy | hy
        · exact h4 y hy
        · rw [hy]; exact hb)]
      simp only [if_true, List.append_assoc, List.map_cons]
      rfl
    | false =>
      rw [if_neg (by simp), toKid_eq hpi]
      simp only [Option.bind_some]
      rw [if_pos (by rw [List.length_singleton]; omega)]
      rw [show [S100.mk (S100.f0 (toK l[i])) (S100.f1 (toK l[i])) (S100.f2 (toK l[i])) (S100.f3 (toK l[i])) (S100.f4 (toK l[i]))] = [toK l[i]] from rfl, ih (i + 1) es (ks ++ [toK l[i]]) (by omega) (by omega) (by omega) (by rw [List.length_append, List.length_singleton]; omega) h4]
      simp only [Bool.false_eq_true, if_false, List.append_assoc, List.map_cons]
      rfl
theorem rfrom_eq (a b c d e f g : Int) {t : S38} (h : okT t) : F25_letheref06_From a b c d e f g (S38.f0 t) (S38.f1 t) (S38.f2 t) (S38.f3 t) = fromV a b c d e f g t := by
  rw [F25_letheref06_From_eq, q04, rright_f h]
  simp only [Option.bind_some]
  unfold fromV
  cases quotaOk a b c d e f g with
  | false => simp
  | true =>
    simp only [if_true, Bool.not_true, Bool.false_eq_true, if_false]
    by_cases c1 : rightT t = 0
    · rw [if_neg (fun hh => hh c1), if_pos c1, formed_eq h]
      simp only [Option.bind_some]
      cases hf : formB t with
      | false => simp [endV]
      | true =>
        obtain ⟨hs1, hs2⟩ := h.sub
        unfold formB headB at hf
        simp only [Bool.and_eq_true, decide_eq_true_eq] at hf
        have hall : ∀ x ∈ (S38.f3 t).drop 1, pickB (leafB t) x = true := List.all_eq_true.1 hf.2.2
        simp only [Bool.not_true, Bool.false_eq_true, if_false]
        rw [if_pos (by omega), if_pos (by omega), subL1 hf.1.2.1]
        have := rfrom_l a b c d e f g (leafB t) false ((S38.f3 t).drop 1) (by rw [List.length_drop]; omega) (fun x hx => hs2 x (List.mem_of_mem_drop hx)) hall [] [] _ 0 [] [] rfl (by omega) (by simp) (by simp) (by simp)
        rw [List.drop_zero] at this
        exact this
    · rw [if_pos c1, if_neg c1]

theorem ents_b {t : S38} (h : okT t) : (ents t).length ≤ 9223372036854775807 ∧ (kids t).length ≤ 9223372036854775807 ∧ ∀ y ∈ ents t, EntryBound y := by
  obtain ⟨hs1, hs2⟩ := h.sub
  simp only [bigL] at hs1 hs2
  unfold ents kids
  cases leafB t with
  | true =>
    simp only [if_true]
    refine ⟨by rw [List.length_map, List.length_drop]; omega, by simp, fun y hy => ?_⟩
    obtain ⟨x, hx, rfl⟩ := List.mem_map.1 hy
    have := hs2 x (List.mem_of_mem_drop hx)
    show (((S38.f3 x).drop 1).map toV).length ≤ _
    rw [List.length_map, List.length_drop]; omega
  | false =>
    simp only [Bool.false_eq_true, if_false]
    exact ⟨by simp, by rw [List.length_map, List.length_drop]; omega, by simp⟩
theorem fromV_is (a b c d e f g : Int) {t : S38} : (fromV a b c d e f g t = some (leafB t, ents t, kids t, 0, ()) ∧ quotaOk a b c d e f g = true ∧ rightT t = 0 ∧ formB t = true ∧ nodeV a b c d e f g (leafB t) (ents t) (kids t) = 0) ∨ ∃ r, r ≠ 0 ∧ fromV a b c d e f g t = some (false, [], [], r, ()) := by
  unfold fromV
  by_cases c1 : quotaOk a b c d e f g = true
  · rw [if_pos c1]
    by_cases c2 : rightT t = 0
    · rw [if_pos c2]
      unfold endV
      cases hf : formB t with
      | false => exact .inr ⟨60, by decide, by simp⟩
      | true =>
        by_cases c3 : nodeV a b c d e f g (leafB t) (ents t) (kids t) = 0
        · exact .inl ⟨by simp [c3], c1, c2, rfl, c3⟩
        · exact .inr ⟨_, c3, by simp [c3]⟩
    · rw [if_neg c2]; exact .inr ⟨_, c2, rfl⟩
  · rw [if_neg c1]; exact .inr ⟨_, by decide, rfl⟩

theorem clone_l (l : List S38) (hl : l.length * 56 ≤ 140737488355328) (hc : ∀ x ∈ l, F124_term_clone (S38.f0 x) (S38.f1 x) (S38.f2 x) (S38.f3 x) = ofT x) (k n : Int) (b : ByteArray) (l' : List S38) (o o' : Int) (s : ByteArray) (g : List S38) : ∀ (m i : Nat), l.length - i = m → i ≤ l.length →
    F124_term_clone_l1000003 l (l.length : Int) (i : Int) k n b l' o o' s (l.take i) g = some (k, n, b, l, ()) := by
  intro m
  induction m with
  | zero =>
    intro i hm hi
    rw [F124_term_clone_l1000003_eq, if_neg (by omega), List.take_of_length_le (by omega)]
  | succ m ih =>
    intro i hm hi
    rw [F124_term_clone_l1000003_eq, if_pos (ilt (by omega)), if_pos (inb (by omega)), rd_lt (by omega : i < l.length), hc _ (List.getElem_mem _)]
    show (if _ then _ else none) = _
    rw [if_pos (by simp only [List.length_take, List.length_singleton]; omega), w64s (n := l.length) (by omega) (by omega)]
    have := ih (i + 1) (by omega) (by omega)
    rw [List.take_add_one, List.getElem?_eq_getElem (by omega)] at this
    rw [term_eta]
    exact this
theorem clone_eq {t : S38} (h : Tn t) : F124_term_clone (S38.f0 t) (S38.f1 t) (S38.f2 t) (S38.f3 t) = ofT t := by
  induction h with
  | mk k n b l h hl ih =>
    show F124_term_clone k n b l = some (k, n, b, l, ())
    rw [F124_term_clone_eq]
    exact clone_l l h ih k n b l 0 0 ByteArray.empty [] l.length 0 (by omega) (by omega)

/-! ### a node's term -/
def numT (n : Int) : S38 := S38.mk 1 (IntKind.u64.wrap n) ByteArray.empty []
def atomT (s : ByteArray) : S38 := S38.mk 2 0 s []
def keyT (n : Int) : S38 := S38.mk 3 n ByteArray.empty []
def rowT (l : List S38) : S38 := S38.mk 5 0 ByteArray.empty l
def versT (v : S98) : S38 := rowT [numT (S98.f0 v), atomT (S98.f1 v), atomT (S98.f2 v)]
def entryT (e : S96) : S38 := rowT (atomT (S96.f0 e) :: (S96.f1 e).map versT)
def kidT (k : S100) : S38 := rowT [atomT (S100.f0 k), keyT (S100.f1 k), numT (S100.f2 k), numT (S100.f3 k), numT (S100.f4 k)]
def nodeT (q : Bool) (xs : List S96) (ks : List S100) : S38 := if q = true then rowT (numT 1 :: xs.map entryT) else rowT (numT 2 :: ks.map kidT)
theorem Tn.num (n : Int) : Tn (numT n) := .mk _ _ _ _ (by simp) (fun x hx => by cases hx)
theorem Tn.atom (s : ByteArray) : Tn (atomT s) := .mk _ _ _ _ (by simp) (fun x hx => by cases hx)
theorem Tn.key (n : Int) : Tn (keyT n) := .mk _ _ _ _ (by simp) (fun x hx => by cases hx)
theorem Tn.row {l : List S38} (h : l.length ≤ 1000000) (hl : ∀ x ∈ l, Tn x) : Tn (rowT l) := .mk _ _ _ _ (by omega) hl
theorem Tn.vers (v : S98) : Tn (versT v) := Tn.row (by simp) (fun x hx => by
  simp only [List.mem_cons, List.not_mem_nil, or_false] at hx
  rcases hx with h | h | h <;> subst h
  · exact Tn.num _
  · exact Tn.atom _
  · exact Tn.atom _)
theorem Tn.kid (k : S100) : Tn (kidT k) := Tn.row (by simp) (fun x hx => by
  simp only [List.mem_cons, List.not_mem_nil, or_false] at hx
  rcases hx with h | h | h | h | h <;> subst h
  · exact Tn.atom _
  · exact Tn.key _
  all_goals exact Tn.num _)
theorem Tn.entry {e : S96} (h : List.length (α := S98) (S96.f1 e) ≤ 100) : Tn (entryT e) := Tn.row (by simp; omega) (fun x hx => by
  rw [List.mem_cons, List.mem_map] at hx
  rcases hx with h | ⟨v, _, h⟩ <;> subst h
  · exact Tn.atom _
  · exact Tn.vers _)
theorem Tn.node (q : Bool) (xs : List S96) (ks : List S100) (hx : xs.length ≤ 100) (hk : ks.length ≤ 100) (h : ∀ e ∈ xs, List.length (α := S98) (S96.f1 e) ≤ 100) : Tn (nodeT q xs ks) := by
  unfold nodeT
  split
  · refine Tn.row (by simp; omega) (fun x hx => ?_)
    rw [List.mem_cons, List.mem_map] at hx
    rcases hx with e | ⟨v, hv, e⟩ <;> subst e
    · exact Tn.num _
    · exact Tn.entry (h v hv)
  · refine Tn.row (by simp; omega) (fun x hx => ?_)
    rw [List.mem_cons, List.mem_map] at hx
    rcases hx with e | ⟨v, hv, e⟩ <;> subst e
    · exact Tn.num _
    · exact Tn.kid _
/-- What the code puts together. -/
theorem tnum (n : Int) : F72_node_number n = ofT (numT n) := by rw [F72_node_number_eq, F92_term_Num_eq]; rfl
theorem tatom (s : ByteArray) : F75_term_Atom s = ofT (atomT s) := by rw [F75_term_Atom_eq]; rfl
theorem tkey (n : Int) : F80_term_Key n = ofT (keyT n) := by rw [F80_term_Key_eq]; rfl
theorem tof {l : List S38} (h : l.length ≤ 1000000) (hl : ∀ x ∈ l, Tn x) : F77_term_Of l = ofT (rowT l) := by
  rw [F77_term_Of_eq, show F124_term_clone 5 0 ByteArray.empty l = ofT (rowT l) from clone_eq (Tn.row h hl)]; rfl
theorem snoc_tn {g : List S38} (hg : ∀ x ∈ g, Tn x) {y : S38} (hy : Tn y) : ∀ x ∈ g ++ [y], Tn x := by
  intro x hx
  rw [List.mem_append, List.mem_singleton] at hx
  rcases hx with h | h
  · exact hg x h
  · rw [h]; exact hy
theorem tvers (v : S98) : F76_node_Term_1_1 (S98.f0 v) (S98.f1 v) (S98.f2 v) = ofT (versT v) := by
  rw [F76_node_Term_1_1_eq, tnum, tatom, tatom]
  simp only [ofT, Option.bind_some, term_eta]
  rw [tof (by simp) (by
    intro x hx
    simp only [List.mem_cons, List.not_mem_nil, or_false] at hx
    rcases hx with h | h | h <;> subst h
    · exact Tn.num _
    · exact Tn.atom _
    · exact Tn.atom _)]
  rfl
theorem tkid (k : S100) : F79_node_Term_2 (S100.f0 k) (S100.f1 k) (S100.f2 k) (S100.f3 k) (S100.f4 k) = ofT (kidT k) := by
  rw [F79_node_Term_2_eq, tatom, tkey, tnum, tnum, tnum]
  simp only [ofT, Option.bind_some, term_eta]
  rw [tof (by simp) (by
    intro x hx
    simp only [List.mem_cons, List.not_mem_nil, or_false] at hx
    rcases hx with h | h | h | h | h <;> subst h
    · exact Tn.atom _
    · exact Tn.key _
    all_goals exact Tn.num _)]
  rfl
theorem rowV_l (xs : List S98) (hx : xs.length ≤ 100) (a b : Int) (s : ByteArray) (g' : List S38) : ∀ (n i : Nat) (g : List S38), xs.length - i = n → i ≤ xs.length → g.length ≤ 1 + i → (∀ x ∈ g, Tn x) →
    F74_node_row_76_l1000003 xs (xs.length : Int) (i : Int) a b s g g' = ofT (rowT (g ++ (xs.drop i).map versT)) := by
  intro n
  induction n with
  | zero =>
    intro i g hn hi hg ht
    rw [F74_node_row_76_l1000003_eq, if_neg (by omega), List.drop_of_length_le (by omega), List.map_nil, List.append_nil, tof (by omega) ht]; rfl
  | succ n ih =>
    intro i g hn hi hg ht
    rw [F74_node_row_76_l1000003_eq, if_pos (ilt (by omega)), if_pos (inb (by omega)), tvers, drop_rd (z := S98.z) (by omega : i < xs.length), w64s (n := xs.length) (by omega) (by omega)]
    simp only [ofT, Option.bind_some, term_eta]
    rw [if_pos (by simp only [List.length_singleton]; omega), ih (i + 1) _ (by omega) (by omega) (by rw [List.length_append, List.length_singleton]; omega) (snoc_tn ht (Tn.vers _)), List.map_cons, List.append_assoc]
    rfl
theorem tentry (e : S96) (h : List.length (α := S98) (S96.f1 e) ≤ 100) : F73_node_Term_1 (S96.f0 e) (S96.f1 e) = ofT (entryT e) := by
  rw [F73_node_Term_1_eq, tatom]
  simp only [ofT, Option.bind_some]
  rw [F74_node_row_76_eq, term_eta]
  have := rowV_l _ h 0 0 ByteArray.empty [] _ 0 [atomT (S96.f0 e)] rfl (by omega) (by simp) (by intro x hx; rw [List.mem_singleton] at hx; rw [hx]; exact Tn.atom _)
  rw [show F74_node_row_76_l1000003 (S96.f1 e) (List.length (α := S98) (S96.f1 e) : Int) 0 0 0 ByteArray.empty [atomT (S96.f0 e)] [] = _ from this]
  rfl
theorem rowE_l (xs : List S96) (hx : xs.length ≤ 100) (he : ∀ e ∈ xs, List.length (α := S98) (S96.f1 e) ≤ 100) (a b : Int) (s : ByteArray) (g' : List S38) : ∀ (n i : Nat) (g : List S38), xs.length - i = n → i ≤ xs.length → g.length ≤ 1 + i → (∀ x ∈ g, Tn x) →
    F71_node_row_73_l1000003 xs (xs.length : Int) (i : Int) a b s g g' = ofT (rowT (g ++ (xs.drop i).map entryT)) := by
  intro n
  induction n with
  | zero =>
    intro i g hn hi hg ht
    rw [F71_node_row_73_l1000003_eq, if_neg (by omega), List.drop_of_length_le (by omega), List.map_nil, List.append_nil, tof (by omega) ht]; rfl
  | succ n ih =>
    intro i g hn hi hg ht
    have hb : List.length (α := S98) (S96.f1 (rd S96.z xs (i : Int))) ≤ 100 := by rw [rd_lt (by omega)]; exact he _ (List.getElem_mem _)
    rw [F71_node_row_73_l1000003_eq, if_pos (ilt (by omega)), if_pos (inb (by omega)), tentry _ hb, drop_rd (z := S96.z) (by omega : i < xs.length), w64s (n := xs.length) (by omega) (by omega)]
    simp only [ofT, Option.bind_some, term_eta]
    rw [if_pos (by simp only [List.length_singleton]; omega), ih (i + 1) _ (by omega) (by omega) (by rw [List.length_append, List.length_singleton]; omega) (snoc_tn ht (Tn.entry hb)), List.map_cons, List.append_assoc]
    rfl
theorem rowK_l (xs : List S100) (hx : xs.length ≤ 100) (a b : Int) (s : ByteArray) (g' : List S38) : ∀ (n i : Nat) (g : List S38), xs.length - i = n → i ≤ xs.length → g.length ≤ 1 + i → (∀ x ∈ g, Tn x) →
    F78_node_row_79_l1000003 xs (xs.length : Int) (i : Int) a b s g g' = ofT (rowT (g ++ (xs.drop i).map kidT)) := by
  intro n
  induction n with
  | zero =>
    intro i g hn hi hg ht
    rw [F78_node_row_79_l1000003_eq, if_neg (by omega), List.drop_of_length_le (by omega), List.map_nil, List.append_nil, tof (by omega) ht]; rfl
  | succ n ih =>
    intro i g hn hi hg ht
    rw [F78_node_row_79_l1000003_eq, if_pos (ilt (by omega)), if_pos (inb (by omega)), tkid, drop_rd (z := S100.z) (by omega : i < xs.length), w64s (n := xs.length) (by omega) (by omega)]
    simp only [ofT, Option.bind_some, term_eta]
    rw [if_pos (by simp only [List.length_singleton]; omega), ih (i + 1) _ (by omega) (by omega) (by rw [List.length_append, List.length_singleton]; omega) (snoc_tn ht (Tn.kid _)), List.map_cons, List.append_assoc]
    rfl
/-- A node's term, of both. -/
def termV (a b c d e f g : Int) (q : Bool) (xs : List S96) (ks : List S100) : Option (Int × Int × ByteArray × List S38 × Int × Unit) :=
  if nodeV a b c d e f g q xs ks = 0 then some (S38.f0 (nodeT q xs ks), S38.f1 (nodeT q xs ks), S38.f2 (nodeT q xs ks), S38.f3 (nodeT q xs ks), 0, ()) else some (0, 0, ByteArray.empty, [], nodeV a b c d e f g q xs ks, ())
theorem named_n {a b c d e f g : Int} {s : ByteArray} {xs : List S98} (h : rightV a b c d e f g s xs = 0) : (xs.length : Int) ≤ 4 := by
  unfold rightV at h
  by_cases c1 : namedV a b c d e f g s xs = 0
  · unfold namedV at c1
    by_cases c2 : quotaOk a b c d e f g = true
    · have he : e ≤ 4 := by simp only [quotaOk, decide_eq_true_eq] at c2; omega
      rw [if_pos c2] at c1
      by_cases c3 : s = ByteArray.empty
      · rw [if_pos c3] at c1; omega
      · rw [if_neg c3] at c1
        by_cases c4 : b < (s.size : Int)
        · rw [if_pos c4] at c1; omega
        · rw [if_neg c4] at c1
          by_cases c5 : e < (xs.length : Int)
          · rw [if_pos c5] at c1; omega
          · omega
    · rw [if_neg c2] at c1; omega
  · rw [if_neg c1] at h; exact absurd h c1
theorem leaf_n {a b c d e f g : Int} : ∀ {xs : List S96} {p : Option ByteArray}, leafV a b c d e f g p xs = 0 → ∀ y ∈ xs, rightV a b c d e f g (S96.f0 y) (S96.f1 y) = 0
  | [], _, _, y, hy => by cases hy
  | x :: xs, p, h, y, hy => by
    rw [leafV_cons] at h
    by_cases c1 : rightV a b c d e f g (S96.f0 x) (S96.f1 x) = 0
    · rw [if_pos c1] at h
      by_cases c2 : behind p (S96.f0 x) = true
      · rw [if_pos c2] at h
        cases hy with
        | head => exact c1
        | tail _ hy => exact leaf_n h y hy
      · rw [if_neg c2] at h; omega
    · rw [if_neg c1] at h; exact absurd h c1
theorem node_n {a b c d e f g : Int} {q : Bool} {xs : List S96} {ks : List S100} (h : nodeV a b c d e f g q xs ks = 0) : xs.length ≤ 4 ∧ ks.length ≤ 4 ∧ ∀ y ∈ xs, List.length (α := S98) (S96.f1 y) ≤ 4 := by
  unfold nodeV at h
  by_cases c1 : quotaOk a b c d e f g = true
  · rw [if_pos c1] at h
    cases q with
    | true =>
      rw [if_pos rfl] at h
      by_cases c2 : (0 : Int) < (ks.length : Int)
      · rw [if_pos c2] at h; omega
      · rw [if_neg c2] at h
        by_cases c3 : (4 : Int) < (xs.length : Int)
        · rw [if_pos c3] at h; omega
        · rw [if_neg c3] at h
          exact ⟨by omega, by omega, fun y hy => by have := named_n (leaf_n h y hy); omega⟩
    | false =>
      rw [if_neg (by simp)] at h
      by_cases c2 : (0 : Int) < (xs.length : Int)
      · rw [if_pos c2] at h; omega
      · rw [if_neg c2] at h
        by_cases c3 : (ks.length : Int) < 2
        · rw [if_pos c3] at h; omega
        · rw [if_neg c3] at h
          by_cases c4 : (4 : Int) < (ks.length : Int)
          · rw [if_pos c4] at h; omega
          · exact ⟨by omega, by omega, fun y hy => by rw [List.eq_nil_of_length_eq_zero (l := xs) (by omega)] at hy; cases hy⟩
  · rw [if_neg c1] at h; omega
theorem nterm_c (a b c d e f g : Int) (q : Bool) (xs : List S96) (ks : List S100) (hx : xs.length ≤ 9223372036854775807) (hy : ∀ y ∈ xs, EntryBound y) (hk : ks.length ≤ 9223372036854775807) :
    F21_node_Term a b c d e f g q xs ks = termV a b c d e f g q xs ks := by
  obtain ⟨q1, q2⟩ := node_eq a b c d e f g q xs ks hx hy hk
  rw [F21_node_Term_eq, q1]
  simp only [Option.bind_some]
  unfold termV
  by_cases c1 : nodeV a b c d e f g q xs ks = 0
  · obtain ⟨n1, n2, n3⟩ := node_n c1
    have n3' : ∀ y ∈ xs, List.length (α := S98) (S96.f1 y) ≤ 100 := fun y hy => by have := n3 y hy; omega
    have hc : ¬ ¬ nodeV a b c d e f g q xs ks = 0 := fun h => h c1
    rw [if_neg hc, if_pos c1]
    rw [tnum, tnum]
    simp only [ofT, Option.bind_some]
    unfold nodeT
    cases q with
    | true =>
      rw [if_pos rfl, if_pos rfl, F71_node_row_73_eq, term_eta]
      have := rowE_l xs (by omega) n3' 0 0 ByteArray.empty [] _ 0 [numT 1] rfl (by omega) (by simp) (by intro x hx; rw [List.mem_singleton] at hx; rw [hx]; exact Tn.num _)
      rw [show F71_node_row_73_l1000003 xs (List.length (α := S96) xs : Int) 0 0 0 ByteArray.empty [numT 1] [] = _ from this]
      rfl
    | false =>
      rw [if_neg (by simp), if_neg (by simp), F78_node_row_79_eq, term_eta]
      have := rowK_l ks (by omega) 0 0 ByteArray.empty [] _ 0 [numT 2] rfl (by omega) (by simp) (by intro x hx; rw [List.mem_singleton] at hx; rw [hx]; exact Tn.num _)
      rw [show F78_node_row_79_l1000003 ks (List.length (α := S100) ks : Int) 0 0 0 ByteArray.empty [numT 2] [] = _ from this]
      rfl
  · rw [if_pos c1, if_neg c1]

theorem wf_u64 {x : Int} (h : (Lit.int .u64 x).wf = true) : 0 ≤ x ∧ x < 18446744073709551616 := by
  simp [Lit.wf, IntKind.min, IntKind.max, IntKind.bits, IntKind.signed] at h
  omega
theorem wf_i64 {x : Int} (h : (Lit.int .i64 x).wf = true) : -9223372036854775808 ≤ x ∧ x ≤ 9223372036854775807 := by
  simp [Lit.wf, IntKind.min, IntKind.max, IntKind.bits, IntKind.signed] at h
  omega
theorem wrap_u64 {n : Int} (h0 : 0 ≤ n) (h1 : n < 18446744073709551616) : IntKind.u64.wrap n = n := by
  have h : IntKind.u64.wrap n = n % 18446744073709551616 := by simp [IntKind.wrap, IntKind.bits, IntKind.signed]
  rw [h]; omega

/-! ### a term read as a node, and written again -/
theorem shp_in {x : S38} (h : shp x = true) {y : S38} (hy : y ∈ S38.f3 x) : shp y = true := by
  rw [shp_eq, Bool.and_eq_true] at h
  have : ∀ l : List S38, shpL l = true → y ∈ l → shp y = true := by
    intro l
    induction l with
    | nil => intro _ hy; cases hy
    | cons z l ih =>
      intro h hy
      simp only [shpL, Bool.and_eq_true] at h
      cases hy with
      | head => exact h.1
      | tail _ hy => exact ih h.2 hy
  exact this _ h.2 hy
theorem shp_num {x : S38} (h : shp x = true) (h0 : S38.f0 x = 1) : x = S38.mk 1 (S38.f1 x) ByteArray.empty [] := by
  rw [shp_eq, Bool.and_eq_true, h0] at h
  have := h.1
  simp [one, str_nil_iff] at this
  rw [← etaT x, h0, this.1, this.2]; rfl
theorem shp_key {x : S38} (h : shp x = true) (h0 : S38.f0 x = 3) : x = keyT (S38.f1 x) := by
  rw [shp_eq, Bool.and_eq_true, h0] at h
  have := h.1
  simp [one, str_nil_iff] at this
  rw [← etaT x, h0, this.1, this.2]; rfl
theorem shp_atom {x : S38} (h : shp x = true) (h0 : S38.f0 x = 2) : x = atomT (S38.f2 x) := by
  rw [shp_eq, Bool.and_eq_true, h0] at h
  have := h.1
  simp [one] at this
  rw [← etaT x, h0, this.1, this.2.2]; rfl
theorem shp_row {x : S38} (h : shp x = true) (h0 : S38.f0 x = 5) : x = rowT (S38.f3 x) := by
  rw [shp_eq, Bool.and_eq_true, h0] at h
  have := h.1
  simp [one, str_nil_iff] at this
  rw [← etaT x, h0, this.1, this.2]; rfl
theorem at_mem {x : S38} {i : Nat} (h : i < (S38.f3 x).length) : at_ x (i : Int) ∈ S38.f3 x := by unfold at_; rw [rd_lt h]; exact List.getElem_mem _
theorem num_back {x : S38} (ho : okT x) (hs : shp x = true) (h : isNumB x = true) : numT (IntKind.i64.wrap (S38.f1 x)) = x := by
  unfold isNumB at h
  simp only [Bool.and_eq_true, decide_eq_true_eq] at h
  have h0 : 0 ≤ S38.f1 x := by cases ho with | mk _ h1 _ _ _ _ => exact (wf_u64 h1).1
  unfold numT
  rw [w64 (by omega) (by omega), wrap_u64 (by omega) (by omega)]
  exact (shp_num hs h.1).symm
theorem list3 {α : Type} {z : α} {l : List α} (h : l.length = 3) : l = [rd z l 0, rd z l 1, rd z l 2] := by
  match l, h with
  | [a, b, c], _ => rfl
theorem list5 {α : Type} {z : α} {l : List α} (h : l.length = 5) : l = [rd z l 0, rd z l 1, rd z l 2, rd z l 3, rd z l 4] := by
  match l, h with
  | [a, b, c, d, e], _ => rfl
theorem list1 {α : Type} {z : α} {l : List α} (h : 0 < l.length) : l = rd z l 0 :: l.drop 1 := by
  match l, h with
  | a :: l, _ => rfl
theorem ver_back {x : S38} (ho : okT x) (hs : shp x = true) (h : verB x = true) : versT (toV x) = x := by
  unfold verB at h
  simp only [Bool.and_eq_true, decide_eq_true_eq] at h
  obtain ⟨h0, h3, hn, h1, h2⟩ := h
  have m0 := at_mem (x := x) (i := 0) (by omega)
  have m1 := at_mem (x := x) (i := 1) (by omega)
  have m2 := at_mem (x := x) (i := 2) (by omega)
  have e0 := num_back (ho.el _ m0) (shp_in hs m0) hn
  have e1 := shp_atom (shp_in hs m1) h1
  have e2 := shp_atom (shp_in hs m2) h2
  rw [shp_row hs h0, list3 (z := S38.z) h3]
  show rowT [numT (IntKind.i64.wrap (S38.f1 (at_ x 0))), atomT (S38.f2 (at_ x 1)), atomT (S38.f2 (at_ x 2))] = rowT [at_ x 0, at_ x 1, at_ x 2]
  rw [← show at_ x 1 = atomT (S38.f2 (at_ x 1)) from e1, ← show at_ x 2 = atomT (S38.f2 (at_ x 2)) from e2, show numT (IntKind.i64.wrap (S38.f1 (at_ x 0))) = at_ x 0 from e0]
theorem map_back {l : List S38} {α : Type} {f : S38 → α} {g : α → S38} (h : ∀ x ∈ l, g (f x) = x) : (l.map f).map g = l := by
  rw [List.map_map]
  exact (List.map_congr_left (fun x hx => h x hx)).trans (List.map_id l)
theorem ent_back {x : S38} (ho : okT x) (hs : shp x = true) (h : entB x = true) : entryT (toE x) = x := by
  unfold entB headB at h
  simp only [Bool.and_eq_true, decide_eq_true_eq, List.all_eq_true] at h
  obtain ⟨⟨h0, h3, h2⟩, hv⟩ := h
  have m0 := at_mem (x := x) (i := 0) (by omega)
  have e0 := shp_atom (shp_in hs m0) h2
  rw [shp_row hs h0]
  show rowT (atomT (S38.f2 (at_ x 0)) :: (((S38.f3 x).drop 1).map toV).map versT) = _
  rw [map_back (fun y hy => ver_back (ho.el y (List.mem_of_mem_drop hy)) (shp_in hs (List.mem_of_mem_drop hy)) (hv y hy)), ← show at_ x 0 = atomT (S38.f2 (at_ x 0)) from e0]
  exact congrArg rowT (list1 (z := S38.z) h3).symm
theorem kid_back {x : S38} (ho : okT x) (hs : shp x = true) (h : kidB x = true) : kidT (toK x) = x := by
  unfold kidB headB at h
  simp only [Bool.and_eq_true, decide_eq_true_eq] at h
  obtain ⟨⟨h0, _, h2⟩, h5, h1, n2, n3, n4⟩ := h
  have m0 := at_mem (x := x) (i := 0) (by omega)
  have m1 := at_mem (x := x) (i := 1) (by omega)
  have m2 := at_mem (x := x) (i := 2) (by omega)
  have m3 := at_mem (x := x) (i := 3) (by omega)
  have m4 := at_mem (x := x) (i := 4) (by omega)
  have e0 := shp_atom (shp_in hs m0) h2
  have e1 := shp_key (shp_in hs m1) h1
  have e2 := num_back (ho.el _ m2) (shp_in hs m2) n2
  have e3 := num_back (ho.el _ m3) (shp_in hs m3) n3
  have e4 := num_back (ho.el _ m4) (shp_in hs m4) n4
  rw [shp_row hs h0, list5 (z := S38.z) h5]
  show rowT [atomT (S38.f2 (at_ x 0)), keyT (S38.f1 (at_ x 1)), numT (IntKind.i64.wrap (S38.f1 (at_ x 2))), numT (IntKind.i64.wrap (S38.f1 (at_ x 3))), numT (IntKind.i64.wrap (S38.f1 (at_ x 4)))] = rowT [at_ x 0, at_ x 1, at_ x 2, at_ x 3, at_ x 4]
  rw [← show at_ x 0 = atomT (S38.f2 (at_ x 0)) from e0, ← show at_ x 1 = keyT (S38.f1 (at_ x 1)) from e1, show numT (IntKind.i64.wrap (S38.f1 (at_ x 2))) = at_ x 2 from e2, show numT (IntKind.i64.wrap (S38.f1 (at_ x 3))) = at_ x 3 from e3, show numT (IntKind.i64.wrap (S38.f1 (at_ x 4))) = at_ x 4 from e4]
theorem node_back {t : S38} (ho : okT t) (hr : rightT t = 0) (hf : formB t = true) : nodeT (leafB t) (ents t) (kids t) = t := by
  have hs := (right_is hr).2.2
  unfold formB headB at hf
  simp only [Bool.and_eq_true, decide_eq_true_eq, List.all_eq_true] at hf
  obtain ⟨⟨h0, h3, h1⟩, h12, hall⟩ := hf
  have m0 := at_mem (x := t) (i := 0) (by omega)
  have e0 := shp_num (shp_in hs m0) h1
  have en : at_ t 0 = numT (if leafB t = true then 1 else 2) := by
    have e1 : at_ t 0 = S38.mk 1 (S38.f1 (at_ t 0)) ByteArray.empty [] := e0
    simp only [Bool.or_eq_true, decide_eq_true_eq] at h12
    unfold leafB
    by_cases c1 : S38.f1 (at_ t 0) = 1
    · rw [e1, c1]; rfl
    · have c2 := h12.resolve_left c1
      rw [e1, c2]; rfl
  unfold nodeT ents kids
  cases hl : leafB t with
  | true =>
    rw [hl] at hall en
    simp only [if_true] at hall en ⊢
    rw [map_back (fun y hy => ent_back (ho.el y (List.mem_of_mem_drop hy)) (shp_in hs (List.mem_of_mem_drop hy)) (hall y hy)), ← en]
    exact (congrArg rowT (list1 (z := S38.z) h3).symm).trans (shp_row hs h0).symm
  | false =>
    rw [hl] at hall en
    simp only [Bool.false_eq_true, if_false] at hall en ⊢
    rw [map_back (fun y hy => kid_back (ho.el y (List.mem_of_mem_drop hy)) (shp_in hs (List.mem_of_mem_drop hy)) (hall y hy)), ← en]
    exact (congrArg rowT (list1 (z := S38.z) h3).symm).trans (shp_row hs h0).symm

theorem likeT_l (l : List S38) (hl : l.length * 56 ≤ 140737488355328) (hc : ∀ x ∈ l, F23_letheref02_Like (S38.f0 x) (S38.f1 x) (S38.f2 x) (S38.f3 x) (S38.f0 x) (S38.f1 x) (S38.f2 x) (S38.f3 x) = some (true, ())) (a b a' b' : Int) (s s' : ByteArray) : ∀ (m i : Nat), l.length - i = m → i ≤ l.length →
    F23_letheref02_Like_l1000004 (l.length : Int) (i : Int) a b s l a' b' s' l = some (true, ()) := by
  intro m
  induction m with
  | zero =>
    intro i hm hi
    rw [F23_letheref02_Like_l1000004_eq, if_neg (by omega)]
  | succ m ih =>
    intro i hm hi
    rw [F23_letheref02_Like_l1000004_eq, if_pos (ilt (by omega)), if_pos (inb (by omega)), if_pos (inb (by omega)), rd_lt (by omega : i < l.length), hc _ (List.getElem_mem _), Option.bind_some, w64s (n := l.length) (by omega) (by omega), ih (i + 1) (by omega) (by omega)]
    rfl
theorem likeT_self {t : S38} (h : Tn t) : F23_letheref02_Like (S38.f0 t) (S38.f1 t) (S38.f2 t) (S38.f3 t) (S38.f0 t) (S38.f1 t) (S38.f2 t) (S38.f3 t) = some (true, ()) := by
  induction h with
  | mk k n b l h hl ih =>
    show F23_letheref02_Like k n b l k n b l = some (true, ())
    rw [F23_letheref02_Like_eq, if_neg (by simp), if_neg (by simp), if_neg (by simp), if_neg (by simp)]
    exact likeT_l l h ih k n k n b b l.length 0 (by omega) (by omega)

theorem law (a b c d e f g : Int) (k n : Int) (s : ByteArray) (l : List S38) (_ : Ok tab Pr (.int .i64) a) (_ : Ok tab Pr (.int .i64) b) (_ : Ok tab Pr (.int .i64) c) (_ : Ok tab Pr (.int .i64) d) (_ : Ok tab Pr (.int .i64) e) (_ : Ok tab Pr (.int .i64) f) (_ : Ok tab Pr (.int .i64) g) (h0 : Ok tab Pr (.int .i64) k) (h1 : Ok tab Pr (.int .u64) n) (h2 : Ok tab Pr .str s) (h3 : Ok tab Pr (.sl 38 (.st 38)) l) : F7_lethelaw06_NodeReads a b c d e f g k n s l = some (true, ()) := by
  have h : okT (S38.mk k n s l) := okT_of _ _ (Nat.lt_succ_self _) h0 h1 h2 h3
  rw [F7_lethelaw06_NodeReads_eq, show F24_node_From a b c d e f g k n s l = _ from from_eq a b c d e f g h, show F25_letheref06_From a b c d e f g k n s l = _ from rfrom_eq a b c d e f g h]
  obtain ⟨b1, b2, b3⟩ := ents_b h
  rcases fromV_is a b c d e f g (t := S38.mk k n s l) with ⟨q, _, hr, hf, hn⟩ | ⟨r, hr, q⟩
  · rw [q]
    simp only [Option.bind_some, not_true_eq_false, if_false]
    rw [nterm_c _ _ _ _ _ _ _ _ _ _ b1 b3 b2, (node_eq _ _ _ _ _ _ _ _ _ _ b1 b3 b2).1]
    unfold termV
    rw [if_pos hn, node_back h hr hf, hn]
    simp only [Option.bind_some, if_true]
    rw [show F23_letheref02_Like k n s l (S38.f0 (S38.mk k n s l)) (S38.f1 (S38.mk k n s l)) (S38.f2 (S38.mk k n s l)) (S38.f3 (S38.mk k n s l)) = _ from likeT_self h.tn]
    rfl
  · rw [q]
    simp [hr]

end
end Go.Proofs.Ytgfaplkbajjheaa.NodeReadsp
