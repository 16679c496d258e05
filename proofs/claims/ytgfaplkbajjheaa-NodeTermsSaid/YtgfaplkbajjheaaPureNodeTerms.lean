/- The law NodeTerms, for all arguments. Under no condition. -/
import Derived.Test.YtgfaplkbajjheaaENodeTerms
import Derived.Laws.BitsLemmas
set_option linter.unusedVariables false
set_option linter.unusedSimpArgs false
namespace Go.Proofs.Ytgfaplkbajjheaa.NodeTermsp
open Go Go.RowKit Go.Proofs.Ytgfaplkbajjheaa.Rx Go.Proofs.Ytgfaplkbajjheaa.NodeTermsx
noncomputable section
theorem w64 {n : Int} (h0 : -9223372036854775808 ≤ n) (h1 : n ≤ 9223372036854775807) : IntKind.i64.wrap n = n := by rw [IntKind.wrap_i64]; omega
theorem w64s {j n : Nat} (h : j < n) (hn : n ≤ 9223372036854775807) : IntKind.i64.wrap ((j : Int) + 1) = ((j + 1 : Nat) : Int) := by rw [w64 (by omega) (by omega)]; omega
theorem w64p {j : Nat} (h : 0 < j) (hn : j ≤ 9223372036854775807) : IntKind.i64.wrap ((j : Int) - 1) = ((j - 1 : Nat) : Int) := by rw [w64 (by omega) (by omega)]; omega
theorem sl_len {e : TypeId} {t : Ty} {xs : List (den tab.S t)} (h : Ok tab Pr (.sl e t) xs) : xs.length ≤ 9223372036854775807 := by
  have := (Ok.inv h).2.1
  simp only [maxLen] at this
  omega
theorem ite_to {α : Type} {p : Prop} [Decidable p] {a b c : α} (h1 : p → a = c) (h2 : ¬ p → b = c) : (if p then a else b) = c := by
  by_cases h : p
  · rw [if_pos h]; exact h1 h
  · rw [if_neg h]; exact h2 h
theorem ob_eq {a b : Bool} (h1 : a = true → b = true) (h2 : b = true → a = true) : (some (a, ()) : Option (Bool × Unit)) = some (b, ()) := by rw [Bool.eq_iff_iff.2 ⟨h1, h2⟩]
theorem oi_eq {a b : Int} (h : a = b) : (some (a, ()) : Option (Int × Unit)) = some (b, ()) := by rw [h]
theorem rd_lt {α : Type} {z : α} {xs : List α} {i : Nat} (h : i < xs.length) : rd z xs (i : Int) = xs[i] := by simp [rd, h]
theorem drop_rd {α : Type} {z : α} {xs : List α} {i : Nat} (h : i < xs.length) : xs.drop i = rd z xs (i : Int) :: xs.drop (i + 1) := by rw [rd_lt h]; exact List.drop_eq_getElem_cons h
theorem inb {i n : Nat} (h : i < n) : (0 : Int) ≤ (i : Int) ∧ (i : Int) < (n : Int) := by omega
theorem ilt {i n : Nat} (h : i < n) : (i : Int) < (n : Int) := by omega
theorem subL_drop {α : Type} (xs : List α) {l : Int} {k : Nat} (h : l = (k : Int)) : subL xs l (xs.length : Int) = xs.drop k := by simp [subL, h]
theorem subL_take {α : Type} (xs : List α) {l : Int} {k : Nat} (h : l = (k : Int)) : subL xs 0 l = xs.take k := by simp [subL, h]

def quotaOk (a b c d e f g : Int) : Bool := decide (1 ≤ a ∧ a ≤ 64 ∧ 1 ≤ b ∧ b ≤ 16 ∧ 0 ≤ c ∧ c ≤ 32 ∧ 0 ≤ d ∧ d ≤ 16 ∧ 1 ≤ e ∧ e ≤ 4 ∧ 1 ≤ f ∧ f ≤ 8 ∧ 0 ≤ g ∧ g ≤ 32)
theorem q04 (a b c d e f g : Int) : F68_letheref04_Right a b c d e f g = some (quotaOk a b c d e f g, ()) := by
  rw [F68_letheref04_Right_eq]
  simp only [F68_letheref04_Right_l2_eq]
  repeat' (refine ite_to (fun _ => ?_) (fun _ => ?_))
  all_goals (apply ob_eq <;> intro hh <;> simp only [quotaOk, decide_eq_true_eq, Bool.false_eq_true] at hh ⊢ <;> omega)
theorem qin (x a b : Int) : F121_quota_in x a b = some (decide (a ≤ x ∧ x ≤ b), ()) := by
  rw [F121_quota_in_eq]
  refine ite_to (fun _ => ?_) (fun _ => ?_)
  all_goals (apply ob_eq <;> intro hh <;> simp only [decide_eq_true_eq, Bool.false_eq_true] at hh ⊢ <;> omega)
theorem q66 (a b c d e f g : Int) : F66_quota_Right a b c d e f g = some ((if quotaOk a b c d e f g = true then 0 else 40), ()) := by
  rw [F66_quota_Right_eq]
  simp only [F66_quota_Right_l3_eq, qin, Option.bind_some, decide_eq_true_eq]
  repeat' (refine ite_to (fun _ => ?_) (fun _ => ?_))
  · rw [if_pos (by simp only [quotaOk, decide_eq_true_eq]; omega)]
  all_goals rw [if_neg (by simp only [quotaOk, decide_eq_true_eq]; omega)]

/-! ### entries: what may be -/
def tooBig (c d : Int) (s t : ByteArray) : Int := if c < (s.size : Int) then 5 else if d < (t.size : Int) then 5 else 0
theorem tooBig_05 (c d : Int) (s t : ByteArray) : tooBig c d s t = 0 ∨ tooBig c d s t = 5 := by
  unfold tooBig; by_cases h1 : c < (s.size : Int) <;> by_cases h2 : d < (t.size : Int) <;> simp [h1, h2]
def versV (c d : Int) : Int → List S98 → Int
  | _, [] => 0
  | v, y :: ys => if S98.f0 y ≤ v then 50 else if 1073741824 < S98.f0 y then 50 else if tooBig c d (S98.f1 y) (S98.f2 y) = 0 then versV c d (S98.f0 y) ys else tooBig c d (S98.f1 y) (S98.f2 y)
theorem versV_cons (c d v : Int) (y : S98) (ys : List S98) : versV c d v (y :: ys) = if S98.f0 y ≤ v then 50 else if 1073741824 < S98.f0 y then 50 else if tooBig c d (S98.f1 y) (S98.f2 y) = 0 then versV c d (S98.f0 y) ys else tooBig c d (S98.f1 y) (S98.f2 y) := rfl
def namedV (a b c d e f g : Int) (s : ByteArray) (xs : List S98) : Int :=
  if quotaOk a b c d e f g = true then if s = ByteArray.empty then 4 else if b < (s.size : Int) then 5 else if e < (xs.length : Int) then 50 else versV c d 0 xs else 40
theorem texts_eq (a b c d e f g : Int) (s t : ByteArray) : F184_entry_texts a b c d e f g s t = some (tooBig c d s t, ()) := by
  rw [F184_entry_texts_eq]
  unfold tooBig
  repeat' (refine ite_to (fun h => ?_) (fun h => ?_))
  · rw [if_pos h]
  · rw [if_neg (by assumption), if_pos (by assumption)]
  · rw [if_neg (by assumption), if_neg (by assumption)]
theorem named_l (a b c d e f g : Int) (xs : List S98) (hx : xs.length ≤ 9223372036854775807) : ∀ (n i : Nat) (v : Int), xs.length - i = n → i ≤ xs.length →
    F153_entry_named_l1000011 v xs (xs.length : Int) (i : Int) a b c d e f g = some (versV c d v (xs.drop i), ()) := by
  intro n
  induction n with
  | zero =>
    intro i v hn hi
    rw [F153_entry_named_l1000011_eq, if_neg (by omega), List.drop_of_length_le (by omega)]; rfl
  | succ n ih =>
    intro i v hn hi
    rw [F153_entry_named_l1000011_eq, if_pos (ilt (by omega)), if_pos (inb (by omega)), texts_eq, Option.bind_some, drop_rd (z := S98.z) (by omega : i < xs.length), w64s (n := xs.length) (by omega) hx, ih (i + 1) _ (by omega) (by omega)]
    generalize rd S98.z xs (i : Int) = y
    rw [versV_cons]
    refine ite_to (fun h1 => by rw [if_pos h1]) (fun h1 => ?_)
    rw [if_neg h1]
    refine ite_to (fun h2 => by rw [if_pos h2]) (fun h2 => ?_)
    rw [if_neg h2]
    refine ite_to (fun h3 => by rw [if_neg h3]) (fun h3 => ?_)
    rw [if_pos (Decidable.not_not.1 h3)]
theorem ref_l (a b c d e f g : Int) (s : ByteArray) (xs : List S98) (hx : xs.length ≤ 9223372036854775807) : ∀ (n i : Nat) (v : Int), xs.length - i = n → i ≤ xs.length → (i = 0 → v = 0) → (0 < i → v = S98.f0 (rd S98.z xs ((i - 1 : Nat) : Int)) ∧ 1 ≤ v) →
    F154_letheref05_Named_l1000010 xs (xs.length : Int) (i : Int) a b c d e f g s xs = some (versV c d v (xs.drop i), ()) := by
  intro n
  induction n with
  | zero =>
    intro i v hn hi h0 h1
    rw [F154_letheref05_Named_l1000010_eq, if_neg (by omega), List.drop_of_length_le (by omega)]; rfl
  | succ n ih =>
    intro i v hn hi h0 h1
    rw [F154_letheref05_Named_l1000010_eq, if_pos (ilt (by omega)), if_pos (inb (by omega)), F154_letheref05_Named_l15_eq, drop_rd (z := S98.z) (by omega : i < xs.length), w64s (n := xs.length) (by omega) hx]
    generalize hy : rd S98.z xs (i : Int) = y
    rw [versV_cons]
    by_cases c1 : S98.f0 y < 1
    · rw [if_pos c1, if_pos]
      rcases Nat.eq_zero_or_pos i with q | q
      · rw [h0 q]; omega
      · have := (h1 q).2; omega
    · rw [if_neg c1]
      by_cases c2 : S98.f0 y ≤ v
      · rw [if_pos c2]
        refine ite_to (fun _ => rfl) (fun _ => ?_)
        rcases Nat.eq_zero_or_pos i with q | q
        · have := h0 q; omega
        · rw [if_pos (by omega), w64p q (by omega), if_pos (inb (by omega)), ← (h1 q).1, if_pos c2]
      · rw [if_neg c2]
        by_cases c3 : (1073741824 : Int) < S98.f0 y
        · rw [if_pos c3, if_pos c3]
        · rw [if_neg c3, if_neg c3, ih (i + 1) (S98.f0 y) (by omega) (by omega) (fun q => by omega) (fun _ => ⟨by rw [← hy]; rfl, by omega⟩)]
          have hr : (if c < ((S98.f1 y).size : Int) then some ((5 : Int), ()) else if d < ((S98.f2 y).size : Int) then some (5, ()) else some (versV c d (S98.f0 y) (xs.drop (i + 1)), ())) = some (if tooBig c d (S98.f1 y) (S98.f2 y) = 0 then versV c d (S98.f0 y) (xs.drop (i + 1)) else tooBig c d (S98.f1 y) (S98.f2 y), ()) := by
            unfold tooBig
            by_cases c4 : c < ((S98.f1 y).size : Int)
            · simp [c4]
            · by_cases c5 : d < ((S98.f2 y).size : Int)
              · simp [c4, c5]
              · simp [c4, c5]
          rcases Nat.eq_zero_or_pos i with q | q
          · rw [if_neg (by omega)]; exact hr
          · rw [if_pos (by omega), w64p q (by omega), if_pos (inb (by omega)), ← (h1 q).1, if_neg c2]; exact hr
theorem named_eq (a b c d e f g : Int) (s : ByteArray) (xs : List S98) (hx : xs.length ≤ 9223372036854775807) : F153_entry_named a b c d e f g s xs = some (namedV a b c d e f g s xs, ()) := by
  rw [F153_entry_named_eq, q66, Option.bind_some]
  unfold namedV
  cases quotaOk a b c d e f g with
  | false => simp
  | true =>
    simp only [if_true, not_true_eq_false, if_false]
    repeat' (refine ite_to (fun h => ?_) (fun h => ?_))
    · rw [if_pos h]
    · rw [if_neg (by assumption), if_pos h]
    · rw [if_neg (by assumption), if_neg (by assumption), if_pos h]
    · rw [if_neg (by assumption), if_neg (by assumption), if_neg h]
      exact named_l a b c d e f g xs hx xs.length 0 0 (by omega) (by omega)
theorem rnamed_eq (a b c d e f g : Int) (s : ByteArray) (xs : List S98) (hx : xs.length ≤ 9223372036854775807) : F154_letheref05_Named a b c d e f g s xs = some (namedV a b c d e f g s xs, ()) := by
  rw [F154_letheref05_Named_eq, q04, Option.bind_some]
  unfold namedV
  cases quotaOk a b c d e f g with
  | false => simp
  | true =>
    simp only [if_true, Bool.not_true, Bool.false_eq_true, if_false]
    repeat' (refine ite_to (fun h => ?_) (fun h => ?_))
    · rw [if_pos h]
    · rw [if_neg (by assumption), if_pos h]
    · rw [if_neg (by assumption), if_neg (by assumption), if_pos h]
    · rw [if_neg (by assumption), if_neg (by assumption), if_neg h]
      exact ref_l a b c d e f g s xs hx xs.length 0 0 (by omega) (by omega) (fun _ => rfl) (fun q => by omega)

/-! ### nodes: what may be -/
def rightV (a b c d e f g : Int) (s : ByteArray) (xs : List S98) : Int := if namedV a b c d e f g s xs = 0 then (if (xs.length : Int) = 0 then 50 else 0) else namedV a b c d e f g s xs
theorem eright_eq (a b c d e f g : Int) (s : ByteArray) (xs : List S98) (hx : xs.length ≤ 9223372036854775807) : F122_entry_Right a b c d e f g s xs = some (rightV a b c d e f g s xs, ()) := by
  rw [F122_entry_Right_eq, named_eq _ _ _ _ _ _ _ _ _ hx, Option.bind_some]
  unfold rightV
  refine ite_to (fun h => ?_) (fun h => ?_)
  · rw [if_pos h]
    refine ite_to (fun h2 => ?_) (fun h2 => ?_)
    · rw [if_pos h2]
    · rw [if_neg h2]; exact congrArg some (congrArg (·, ()) h)
  · rw [if_neg h]
theorem reright_eq (a b c d e f g : Int) (s : ByteArray) (xs : List S98) (hx : xs.length ≤ 9223372036854775807) : F123_letheref05_Right a b c d e f g s xs = some (rightV a b c d e f g s xs, ()) := by
  rw [F123_letheref05_Right_eq, rnamed_eq _ _ _ _ _ _ _ _ _ hx, Option.bind_some]
  unfold rightV
  refine ite_to (fun h => ?_) (fun h => ?_)
  · rw [if_pos h]
    refine ite_to (fun h2 => ?_) (fun h2 => ?_)
    · rw [if_pos h2]
    · rw [if_neg h2]; exact congrArg some (congrArg (·, ()) h)
  · rw [if_neg h]
def behind (p : Option ByteArray) (s : ByteArray) : Bool := match p with | none => true | some t => sLt t s
def leafV (a b c d e f g : Int) : Option ByteArray → List S96 → Int
  | _, [] => 0
  | p, y :: ys => if rightV a b c d e f g (S96.f0 y) (S96.f1 y) = 0 then (if behind p (S96.f0 y) = true then leafV a b c d e f g (some (S96.f0 y)) ys else 60) else rightV a b c d e f g (S96.f0 y) (S96.f1 y)
theorem leafV_cons (a b c d e f g : Int) (p : Option ByteArray) (y : S96) (ys : List S96) : leafV a b c d e f g p (y :: ys) = if rightV a b c d e f g (S96.f0 y) (S96.f1 y) = 0 then (if behind p (S96.f0 y) = true then leafV a b c d e f g (some (S96.f0 y)) ys else 60) else rightV a b c d e f g (S96.f0 y) (S96.f1 y) := rfl
def refOk (b c d : Int) : Bool := decide (0 ≤ b ∧ b ≤ 1048576 ∧ 0 ≤ c ∧ c ≤ 134217728 ∧ 1 ≤ d ∧ d ≤ 1048576)
def kidsV (b : Int) : Option ByteArray → List S100 → Int
  | _, [] => 0
  | p, y :: ys => if S100.f0 y = ByteArray.empty then 4 else if b < ((S100.f0 y).size : Int) then 5 else if refOk (S100.f2 y) (S100.f3 y) (S100.f4 y) = true then (if behind p (S100.f0 y) = true then kidsV b (some (S100.f0 y)) ys else 60) else 61
theorem kidsV_cons (b : Int) (p : Option ByteArray) (y : S100) (ys : List S100) : kidsV b p (y :: ys) = if S100.f0 y = ByteArray.empty then 4 else if b < ((S100.f0 y).size : Int) then 5 else if refOk (S100.f2 y) (S100.f3 y) (S100.f4 y) = true then (if behind p (S100.f0 y) = true then kidsV b (some (S100.f0 y)) ys else 60) else 61 := rfl
def nodeV (a b c d e f g : Int) (q : Bool) (xs : List S96) (ks : List S100) : Int :=
  if quotaOk a b c d e f g = true then
    (if q = true then (if (0 : Int) < (ks.length : Int) then 60 else if (4 : Int) < (xs.length : Int) then 60 else leafV a b c d e f g none xs)
     else (if (0 : Int) < (xs.length : Int) then 60 else if (ks.length : Int) < 2 then 60 else if (4 : Int) < (ks.length : Int) then 60 else kidsV b none ks))
  else 40
theorem prev_of {α : Type} {z : α} {n : α → ByteArray} {xs : List α} {i : Nat} {p : Option ByteArray} (h0 : i = 0 → p = none) (h1 : 0 < i → p = some (n (rd z xs ((i - 1 : Nat) : Int)))) (s : ByteArray) :
    behind p s = if (0 : Int) < (i : Int) then sLt (n (rd z xs ((i - 1 : Nat) : Int))) s else true := by
  rcases Nat.eq_zero_or_pos i with q | q
  · rw [h0 q, if_neg (by omega)]; rfl
  · rw [h1 q, if_pos (by omega)]; rfl
def EntryBound (y : S96) : Prop := List.length (α := S98) (S96.f1 y) ≤ 9223372036854775807
theorem leaf_l (a b c d e f g : Int) (q : Bool) (ks : List S100) (xs : List S96) (hx : xs.length ≤ 9223372036854775807) (hy : ∀ y ∈ xs, EntryBound y) : ∀ (n i : Nat) (p : Option ByteArray), xs.length - i = n → i ≤ xs.length → (i = 0 → p = none) → (0 < i → p = some (S96.f0 (rd S96.z xs ((i - 1 : Nat) : Int)))) →
    F67_node_leafRight_l1000004 xs (xs.length : Int) (i : Int) a b c d e f g q xs ks = some (leafV a b c d e f g p (xs.drop i), ()) ∧ F69_letheref06_leaf_l1000004 xs (xs.length : Int) (i : Int) a b c d e f g q xs ks = some (leafV a b c d e f g p (xs.drop i), ()) := by
  intro n
  induction n with
  | zero =>
    intro i p hn hi h0 h1
    rw [List.drop_of_length_le (by omega)]
    exact ⟨by rw [F67_node_leafRight_l1000004_eq, if_neg (by omega)]; rfl, by rw [F69_letheref06_leaf_l1000004_eq, if_neg (by omega)]; rfl⟩
  | succ n ih =>
    intro i p hn hi h0 h1
    have hb : EntryBound (rd S96.z xs (i : Int)) := by rw [rd_lt (by omega)]; exact hy _ (List.getElem_mem _)
    obtain ⟨p1, p2⟩ := ih (i + 1) (some (S96.f0 (rd S96.z xs (i : Int)))) (by omega) (by omega) (fun h => by omega) (fun _ => rfl)
    have hp := prev_of (n := S96.f0) h0 h1 (S96.f0 (rd S96.z xs (i : Int)))
    rw [F67_node_leafRight_l1000004_eq, F69_letheref06_leaf_l1000004_eq, if_pos (ilt (by omega)), if_pos (inb (by omega)), if_pos (ilt (by omega)), if_pos (inb (by omega)), eright_eq _ _ _ _ _ _ _ _ _ hb, reright_eq _ _ _ _ _ _ _ _ _ hb]
    simp only [Option.bind_some]
    rw [w64s (n := xs.length) (by omega) hx, p1, p2, drop_rd (z := S96.z) (by omega : i < xs.length), leafV_cons, hp]
    generalize rightV a b c d e f g (S96.f0 (rd S96.z xs (i : Int))) (S96.f1 (rd S96.z xs (i : Int))) = r
    by_cases c1 : r = 0
    · rcases Nat.eq_zero_or_pos i with hz | hz
      · subst hz; simp [c1]
      · have hi0 : (0 : Int) < (i : Int) := by omega
        have hpp : (0 : Int) ≤ ((i - 1 : Nat) : Int) ∧ ((i - 1 : Nat) : Int) < (xs.length : Int) := by omega
        rw [w64p hz (by omega)]
        simp only [if_pos hpp, if_pos hi0]
        cases sLt (S96.f0 (rd S96.z xs ((i - 1 : Nat) : Int))) (S96.f0 (rd S96.z xs (i : Int))) <;> simp [c1]
    · simp [c1]
theorem ref_eq (a b c d : Int) : F17_node_RefRight a b c d = some (refOk b c d, ()) ∧ F18_letheref06_RefRight a b c d = some (refOk b c d, ()) := by
  rw [F17_node_RefRight_eq, F18_letheref06_RefRight_eq]
  constructor
  all_goals repeat' (refine ite_to (fun _ => ?_) (fun _ => ?_))
  all_goals (apply ob_eq <;> intro hh <;> simp only [refOk, decide_eq_true_eq, Bool.false_eq_true] at hh ⊢ <;> omega)
theorem inner_l (a b c d e f g : Int) (q : Bool) (es : List S96) (xs : List S100) (hx : xs.length ≤ 9223372036854775807) : ∀ (n i : Nat) (p : Option ByteArray), xs.length - i = n → i ≤ xs.length → (i = 0 → p = none) → (0 < i → p = some (S100.f0 (rd S100.z xs ((i - 1 : Nat) : Int)))) →
    F15_node_Right_l1000008 xs (xs.length : Int) (i : Int) a b c d e f g q es xs = some (kidsV b p (xs.drop i), ()) ∧ F70_letheref06_inner_l1000004 xs (xs.length : Int) (i : Int) a b c d e f g q es xs = some (kidsV b p (xs.drop i), ()) := by
  intro n
  induction n with
  | zero =>
    intro i p hn hi h0 h1
    rw [List.drop_of_length_le (by omega)]
    exact ⟨by rw [F15_node_Right_l1000008_eq, if_neg (by omega)]; rfl, by rw [F70_letheref06_inner_l1000004_eq, if_neg (by omega)]; rfl⟩
  | succ n ih =>
    intro i p hn hi h0 h1
    obtain ⟨p1, p2⟩ := ih (i + 1) (some (S100.f0 (rd S100.z xs (i : Int)))) (by omega) (by omega) (fun h => by omega) (fun _ => rfl)
    have hp := prev_of (n := S100.f0) h0 h1 (S100.f0 (rd S100.z xs (i : Int)))
    obtain ⟨q1, q2⟩ := ref_eq (S100.f1 (rd S100.z xs (i : Int))) (S100.f2 (rd S100.z xs (i : Int))) (S100.f3 (rd S100.z xs (i : Int))) (S100.f4 (rd S100.z xs (i : Int)))
    rw [F15_node_Right_l1000008_eq, F70_letheref06_inner_l1000004_eq, if_pos (ilt (by omega)), if_pos (inb (by omega)), if_pos (ilt (by omega)), if_pos (inb (by omega)), q1, q2]
    simp only [Option.bind_some]
    rw [w64s (n := xs.length) (by omega) hx, p1, p2, drop_rd (z := S100.z) (by omega : i < xs.length), kidsV_cons, hp]
    by_cases c1 : S100.f0 (rd S100.z xs (i : Int)) = ByteArray.empty
    · simp [c1]
    · by_cases c2 : b < ((S100.f0 (rd S100.z xs (i : Int))).size : Int)
      · simp [c1, c2]
      · simp only [if_neg c1, if_neg c2]
        cases refOk (S100.f2 (rd S100.z xs (i : Int))) (S100.f3 (rd S100.z xs (i : Int))) (S100.f4 (rd S100.z xs (i : Int))) with
        | false => simp
        | true =>
          simp only [Bool.not_true, Bool.false_eq_true, if_false, if_true]
          rcases Nat.eq_zero_or_pos i with hz | hz
          · subst hz; simp
          · have hi0 : (0 : Int) < (i : Int) := by omega
            have hpp : (0 : Int) ≤ ((i - 1 : Nat) : Int) ∧ ((i - 1 : Nat) : Int) < (xs.length : Int) := by omega
            rw [w64p hz (by omega)]
            simp only [if_pos hpp, if_pos hi0]
            cases sLt (S100.f0 (rd S100.z xs ((i - 1 : Nat) : Int))) (S100.f0 (rd S100.z xs (i : Int))) <;> simp
theorem node_eq (a b c d e f g : Int) (q : Bool) (xs : List S96) (ks : List S100) (hx : xs.length ≤ 9223372036854775807) (hy : ∀ y ∈ xs, EntryBound y) (hk : ks.length ≤ 9223372036854775807) :
    F15_node_Right a b c d e f g q xs ks = some (nodeV a b c d e f g q xs ks, ()) ∧ F16_letheref06_Right a b c d e f g q xs ks = some (nodeV a b c d e f g q xs ks, ()) := by
  rw [F15_node_Right_eq, F16_letheref06_Right_eq, q66, q04]
  simp only [Option.bind_some]
  unfold nodeV
  cases quotaOk a b c d e f g with
  | false => exact ⟨by simp, by simp⟩
  | true =>
    simp only [if_true, not_true_eq_false, if_false, Bool.not_true, Bool.false_eq_true]
    cases q with
    | true =>
      simp only [if_true]
      obtain ⟨q1, q2⟩ := leaf_l a b c d e f g true ks xs hx hy xs.length 0 none (by omega) (by omega) (fun _ => rfl) (fun h => by omega)
      rw [F67_node_leafRight_eq, F69_letheref06_leaf_eq]
      rw [show F67_node_leafRight_l1000004 xs (List.length (α := S96) xs : Int) 0 a b c d e f g true xs ks = _ from q1, show F69_letheref06_leaf_l1000004 xs (List.length (α := S96) xs : Int) 0 a b c d e f g true xs ks = _ from q2]
      by_cases c1 : (0 : Int) < (ks.length : Int)
      · simp only [if_pos c1, Option.bind_some]; exact ⟨trivial, trivial⟩
      · by_cases c2 : (4 : Int) < (List.length (α := S96) xs : Int)
        · simp only [if_neg c1, if_pos c2, Option.bind_some]; exact ⟨trivial, trivial⟩
        · simp only [if_neg c1, if_neg c2, Option.bind_some]; exact ⟨rfl, rfl⟩
    | false =>
      simp only [Bool.false_eq_true, if_false]
      obtain ⟨q1, q2⟩ := inner_l a b c d e f g false xs ks hk ks.length 0 none (by omega) (by omega) (fun _ => rfl) (fun h => by omega)
      rw [F70_letheref06_inner_eq]
      rw [show F15_node_Right_l1000008 ks (ks.length : Int) 0 a b c d e f g false xs ks = _ from q1, show F70_letheref06_inner_l1000004 ks (ks.length : Int) 0 a b c d e f g false xs ks = _ from q2]
      by_cases c1 : (0 : Int) < (List.length (α := S96) xs : Int)
      · simp only [if_pos c1, Option.bind_some]; exact ⟨trivial, trivial⟩
      · by_cases c2 : (ks.length : Int) < (2 : Int)
        · simp only [if_neg c1, if_pos c2, Option.bind_some]; exact ⟨trivial, trivial⟩
        · by_cases c3 : (4 : Int) < (ks.length : Int)
          · simp only [if_neg c1, if_neg c2, if_pos c3, Option.bind_some]; exact ⟨trivial, trivial⟩
          · simp only [if_neg c1, if_neg c2, if_neg c3, Option.bind_some]; exact ⟨rfl, rfl⟩

/-! ### terms -/
theorem term_eta (t : S38) : S38.mk (S38.f0 t) (S38.f1 t) (S38.f2 t) (S38.f3 t) = t := by cases t; rfl
/-- A term with no list that is too long. -/
inductive Tn : S38 → Prop
  | mk (k n : Int) (b : ByteArray) (l : List S38) (h : l.length * 56 ≤ 140737488355328) (hl : ∀ x ∈ l, Tn x) : Tn (S38.mk k n b l)
abbrev T4 := Int × Int × ByteArray × List S38 × Unit
def ofT (t : S38) : Option T4 := some (S38.f0 t, S38.f1 t, S38.f2 t, S38.f3 t, ())

theorem clone_l (l : List S38) (hl : l.length * 56 ≤ 140737488355328) (hc : ∀ x ∈ l, F124_term_clone (S38.f0 x) (S38.f1 x) (S38.f2 x) (S38.f3 x) = ofT x) (k n : Int) (b : ByteArray) (l' : List S38) (o o' : Int) (s : ByteArray) (g : List S38) : ∀ (m i : Nat), l.length - i = m → i ≤ l.length →
    F124_term_clone_l1000003 l (l.length : Int) (i : Int) k n b l' o o' s (l.take i) g = some (k, n, b, l, ()) := by
  intro m
  induction m with
  | zero =>
    intro i hm hi
    rw [F124_term_clone_l1000003_eq, if_neg (by omega), List.take_of_length_le (by omega)]
  | succ m ih =>
    intro i hm hi
    rw [F124_term_clone_l1000003_eq, if_pos (ilt (by omega)), if_pos (inb (by omega)), rd_lt (by omega : i < l.length), hc _ (List.getElem_mem _)]
    show (if _ then _ else none) = _
    rw [if_pos (by simp only [List.length_take, List.length_singleton]; omega), w64s (n := l.length) (by omega) (by omega)]
    have := ih (i + 1) (by omega) (by omega)
    rw [List.take_add_one, List.getElem?_eq_getElem (by omega)] at this
    rw [term_eta]
    exact this
theorem clone_eq {t : S38} (h : Tn t) : F124_term_clone (S38.f0 t) (S38.f1 t) (S38.f2 t) (S38.f3 t) = ofT t := by
  induction h with
  | mk k n b l h hl ih =>
    show F124_term_clone k n b l = some (k, n, b, l, ())
    rw [F124_term_clone_eq]
    exact clone_l l h ih k n b l 0 0 ByteArray.empty [] l.length 0 (by omega) (by omega)

/-! ### a node's term -/
def numT (n : Int) : S38 := S38.mk 1 (IntKind.u64.wrap n) ByteArray.empty []
def atomT (s : ByteArray) : S38 := S38.mk 2 0 s []
def keyT (n : Int) : S38 := S38.mk 3 n ByteArray.empty []
def rowT (l : List S38) : S38 := S38.mk 5 0 ByteArray.empty l
def versT (v : S98) : S38 := rowT [numT (S98.f0 v), atomT (S98.f1 v), atomT (S98.f2 v)]
def entryT (e : S96) : S38 := rowT (atomT (S96.f0 e) :: (S96.f1 e).map versT)
def kidT (k : S100) : S38 := rowT [atomT (S100.f0 k), keyT (S100.f1 k), numT (S100.f2 k), numT (S100.f3 k), numT (S100.f4 k)]
def nodeT (q : Bool) (xs : List S96) (ks : List S100) : S38 := if q = true then rowT (numT 1 :: xs.map entryT) else rowT (numT 2 :: ks.map kidT)
theorem Tn.num (n : Int) : Tn (numT n) := .mk _ _ _ _ (by simp) (fun x hx => by cases hx)
theorem Tn.atom (s : ByteArray) : Tn (atomT s) := .mk _ _ _ _ (by simp) (fun x hx => by cases hx)
theorem Tn.key (n : Int) : Tn (keyT n) := .mk _ _ _ _ (by simp) (fun x hx => by cases hx)
theorem Tn.row {l : List S38} (h : l.length ≤ 1000000) (hl : ∀ x ∈ l, Tn x) : Tn (rowT l) := .mk _ _ _ _ (by omega) hl
theorem Tn.vers (v : S98) : Tn (versT v) := Tn.row (by simp) (fun x hx => by
  simp only [List.mem_cons, List.not_mem_nil, or_false] at hx
  rcases hx with h | h | h <;> subst h
  · exact Tn.num _
  · exact Tn.atom _
  · exact Tn.atom _)
theorem Tn.kid (k : S100) : Tn (kidT k) := Tn.row (by simp) (fun x hx => by
  simp only [List.mem_cons, List.not_mem_nil, or_false] at hx
  rcases hx with h | h | h | h | h <;> subst h
  · exact Tn.atom _
  · exact Tn.key _
  all_goals exact Tn.num _)
theorem Tn.entry {e : S96} (h : List.length (α := S98) (S96.f1 e) ≤ 100) : Tn (entryT e) := Tn.row (by simp; omega) (fun x hx => by
  rw [List.mem_cons, List.mem_map] at hx
  rcases hx with h | ⟨v, _, h⟩ <;> subst h
  · exact Tn.atom _
  · exact Tn.vers _)
theorem Tn.node (q : Bool) (xs : List S96) (ks : List S100) (hx : xs.length ≤ 100) (hk : ks.length ≤ 100) (h : ∀ e ∈ xs, List.length (α := S98) (S96.f1 e) ≤ 100) : Tn (nodeT q xs ks) := by
  unfold nodeT
  split
  · refine Tn.row (by simp; omega) (fun x hx => ?_)
    rw [List.mem_cons, List.mem_map] at hx
    rcases hx with e | ⟨v, hv, e⟩ <;> subst e
    · exact Tn.num _
    · exact Tn.entry (h v hv)
  · refine Tn.row (by simp; omega) (fun x hx => ?_)
    rw [List.mem_cons, List.mem_map] at hx
    rcases hx with e | ⟨v, hv, e⟩ <;> subst e
    · exact Tn.num _
    · exact Tn.kid _
/-- What the code puts together. -/
theorem tnum (n : Int) : F72_node_number n = ofT (numT n) := by rw [F72_node_number_eq, F92_term_Num_eq]; rfl
theorem tatom (s : ByteArray) : F75_term_Atom s = ofT (atomT s) := by rw [F75_term_Atom_eq]; rfl
theorem tkey (n : Int) : F80_term_Key n = ofT (keyT n) := by rw [F80_term_Key_eq]; rfl
theorem tof {l : List S38} (h : l.length ≤ 1000000) (hl : ∀ x ∈ l, Tn x) : F77_term_Of l = ofT (rowT l) := by
  rw [F77_term_Of_eq, show F124_term_clone 5 0 ByteArray.empty l = ofT (rowT l) from clone_eq (Tn.row h hl)]; rfl
theorem snoc_tn {g : List S38} (hg : ∀ x ∈ g, Tn x) {y : S38} (hy : Tn y) : ∀ x ∈ g ++ [y], Tn x := by
  intro x hx
  rw [List.mem_append, List.mem_singleton] at hx
  rcases hx with h | h
  · exact hg x h
  · rw [h]; exact hy
theorem tvers (v : S98) : F76_node_Term_1_1 (S98.f0 v) (S98.f1 v) (S98.f2 v) = ofT (versT v) := by
  rw [F76_node_Term_1_1_eq, tnum, tatom, tatom]
  simp only [ofT, Option.bind_some, term_eta]
  rw [tof (by simp) (by
    intro x hx
    simp only [List.mem_cons, List.not_mem_nil, or_false] at hx
    rcases hx with h | h | h <;> subst h
    · exact Tn.num _
    · exact Tn.atom _
    · exact Tn.atom _)]
  rfl
theorem tkid (k : S100) : F79_node_Term_2 (S100.f0 k) (S100.f1 k) (S100.f2 k) (S100.f3 k) (S100.f4 k) = ofT (kidT k) := by
  rw [F79_node_Term_2_eq, tatom, tkey, tnum, tnum, tnum]
  simp only [ofT, Option.bind_some, term_eta]
  rw [tof (by simp) (by
    intro x hx
    simp only [List.mem_cons, List.not_mem_nil, or_false] at hx
    rcases hx with h | h | h | h | h <;> subst h
    · exact Tn.atom _
    · exact Tn.key _
    all_goals exact Tn.num _)]
  rfl
theorem rowV_l (xs : List S98) (hx : xs.length ≤ 100) (a b : Int) (s : ByteArray) (g' : List S38) : ∀ (n i : Nat) (g : List S38), xs.length - i = n → i ≤ xs.length → g.length ≤ 1 + i → (∀ x ∈ g, Tn x) →
    F74_node_row_76_l1000003 xs (xs.length : Int) (i : Int) a b s g g' = ofT (rowT (g ++ (xs.drop i).map versT)) := by
  intro n
  induction n with
  | zero =>
    intro i g hn hi hg ht
    rw [F74_node_row_76_l1000003_eq, if_neg (by omega), List.drop_of_length_le (by omega), List.map_nil, List.append_nil, tof (by omega) ht]; rfl
  | succ n ih =>
    intro i g hn hi hg ht
    rw [F74_node_row_76_l1000003_eq, if_pos (ilt (by omega)), if_pos (inb (by omega)), tvers, drop_rd (z := S98.z) (by omega : i < xs.length), w64s (n := xs.length) (by omega) (by omega)]
    simp only [ofT, Option.bind_some, term_eta]
    rw [if_pos (by simp only [List.length_singleton]; omega), ih (i + 1) _ (by omega) (by omega) (by rw [List.length_append, List.length_singleton]; omega) (snoc_tn ht (Tn.vers _)), List.map_cons, List.append_assoc]
    rfl
theorem tentry (e : S96) (h : List.length (α := S98) (S96.f1 e) ≤ 100) : F73_node_Term_1 (S96.f0 e) (S96.f1 e) = ofT (entryT e) := by
  rw [F73_node_Term_1_eq, tatom]
  simp only [ofT, Option.bind_some]
  rw [F74_node_row_76_eq, term_eta]
  have := rowV_l _ h 0 0 ByteArray.empty [] _ 0 [atomT (S96.f0 e)] rfl (by omega) (by simp) (by intro x hx; rw [List.mem_singleton] at hx; rw [hx]; exact Tn.atom _)
  rw [show F74_node_row_76_l1000003 (S96.f1 e) (List.length (α := S98) (S96.f1 e) : Int) 0 0 0 ByteArray.empty [atomT (S96.f0 e)] [] = _ from this]
  rfl
theorem rowE_l (xs : List S96) (hx : xs.length ≤ 100) (he : ∀ e ∈ xs, List.length (α := S98) (S96.f1 e) ≤ 100) (a b : Int) (s : ByteArray) (g' : List S38) : ∀ (n i : Nat) (g : List S38), xs.length - i = n → i ≤ xs.length → g.length ≤ 1 + i → (∀ x ∈ g, Tn x) →
    F71_node_row_73_l1000003 xs (xs.length : Int) (i : Int) a b s g g' = ofT (rowT (g ++ (xs.drop i).map entryT)) := by
  intro n
  induction n with
  | zero =>
    intro i g hn hi hg ht
    rw [F71_node_row_73_l1000003_eq, if_neg (by omega), List.drop_of_length_le (by omega), List.map_nil, List.append_nil, tof (by omega) ht]; rfl
  | succ n ih =>
    intro i g hn hi hg ht
    have hb : List.length (α := S98) (S96.f1 (rd S96.z xs (i : Int))) ≤ 100 := by rw [rd_lt (by omega)]; exact he _ (List.getElem_mem _)
    rw [F71_node_row_73_l1000003_eq, if_pos (ilt (by omega)), if_pos (inb (by omega)), tentry _ hb, drop_rd (z := S96.z) (by omega : i < xs.length), w64s (n := xs.length) (by omega) (by omega)]
    simp only [ofT, Option.bind_some, term_eta]
    rw [if_pos (by simp only [List.length_singleton]; omega), ih (i + 1) _ (by omega) (by omega) (by rw [List.length_append, List.length_singleton]; omega) (snoc_tn ht (Tn.entry hb)), List.map_cons, List.append_assoc]
    rfl
theorem rowK_l (xs : List S100) (hx : xs.length ≤ 100) (a b : Int) (s : ByteArray) (g' : List S38) : ∀ (n i : Nat) (g : List S38), xs.length - i = n → i ≤ xs.length → g.length ≤ 1 + i → (∀ x ∈ g, Tn x) →
    F78_node_row_79_l1000003 xs (xs.length : Int) (i : Int) a b s g g' = ofT (rowT (g ++ (xs.drop i).map kidT)) := by
  intro n
  induction n with
  | zero =>
    intro i g hn hi hg ht
    rw [F78_node_row_79_l1000003_eq, if_neg (by omega), List.drop_of_length_le (by omega), List.map_nil, List.append_nil, tof (by omega) ht]; rfl
  | succ n ih =>
    intro i g hn hi hg ht
    rw [F78_node_row_79_l1000003_eq, if_pos (ilt (by omega)), if_pos (inb (by omega)), tkid, drop_rd (z := S100.z) (by omega : i < xs.length), w64s (n := xs.length) (by omega) (by omega)]
    simp only [ofT, Option.bind_some, term_eta]
    rw [if_pos (by simp only [List.length_singleton]; omega), ih (i + 1) _ (by omega) (by omega) (by rw [List.length_append, List.length_singleton]; omega) (snoc_tn ht (Tn.kid _)), List.map_cons, List.append_assoc]
    rfl
/-- The document's own. -/
theorem rnum (n : Int) : F94_letheref06_Num n = ofT (numT n) := by rw [F94_letheref06_Num_eq]; rfl
theorem ratom (s : ByteArray) : F155_letheref06_Atom s = ofT (atomT s) := by rw [F155_letheref06_Atom_eq]; rfl
theorem rkey (n : Int) : F95_letheref06_Key n = ofT (keyT n) := by rw [F95_letheref06_Key_eq]; rfl
theorem rrow (l : List S38) : F97_letheref06_Row l = ofT (rowT l) := by rw [F97_letheref06_Row_eq]; rfl
theorem rkid (k : S100) : F126_letheref06_kidTerm (S100.f0 k) (S100.f1 k) (S100.f2 k) (S100.f3 k) (S100.f4 k) = ofT (kidT k) := by
  rw [F126_letheref06_kidTerm_eq, ratom, rkey, rnum, rnum, rnum]
  simp only [ofT, Option.bind_some, term_eta, rrow]
  rfl
theorem rentry_l (xs : List S98) (hx : xs.length ≤ 100) (a b : Int) (s : ByteArray) (g' : List S38) : ∀ (n i : Nat) (g : List S38), xs.length - i = n → i ≤ xs.length → g.length ≤ 1 + i →
    F125_letheref06_entryTerm_l1000003 xs (xs.length : Int) (i : Int) a b s g g' = ofT (rowT (g ++ (xs.drop i).map versT)) := by
  intro n
  induction n with
  | zero =>
    intro i g hn hi hg
    rw [F125_letheref06_entryTerm_l1000003_eq, if_neg (by omega), List.drop_of_length_le (by omega), List.map_nil, List.append_nil, rrow]; rfl
  | succ n ih =>
    intro i g hn hi hg
    rw [F125_letheref06_entryTerm_l1000003_eq, if_pos (ilt (by omega)), if_pos (inb (by omega)), rnum, ratom, ratom, drop_rd (z := S98.z) (by omega : i < xs.length), w64s (n := xs.length) (by omega) (by omega)]
    simp only [ofT, Option.bind_some, term_eta, rrow]
    rw [if_pos (by simp only [List.length_singleton]; omega), ih (i + 1) _ (by omega) (by omega) (by rw [List.length_append, List.length_singleton]; omega), List.map_cons, List.append_assoc]
    rfl
theorem rentry (e : S96) (h : List.length (α := S98) (S96.f1 e) ≤ 100) : F125_letheref06_entryTerm (S96.f0 e) (S96.f1 e) = ofT (entryT e) := by
  rw [F125_letheref06_entryTerm_eq, ratom]
  simp only [ofT, Option.bind_some, term_eta]
  exact rentry_l _ h 0 0 ByteArray.empty [] _ 0 [atomT (S96.f0 e)] rfl (by omega) (by simp)
theorem ofE_l (xs : List S96) (hx : xs.length ≤ 100) (he : ∀ e ∈ xs, List.length (α := S98) (S96.f1 e) ≤ 100) (a b : Int) (s : ByteArray) (g' : List S38) : ∀ (n i : Nat) (g : List S38), xs.length - i = n → i ≤ xs.length → g.length ≤ 1 + i →
    F81_letheref06_Of_l1000004 xs (xs.length : Int) (i : Int) a b s g g' = ofT (rowT (g ++ (xs.drop i).map entryT)) := by
  intro n
  induction n with
  | zero =>
    intro i g hn hi hg
    rw [F81_letheref06_Of_l1000004_eq, if_neg (by omega), List.drop_of_length_le (by omega), List.map_nil, List.append_nil, rrow]; rfl
  | succ n ih =>
    intro i g hn hi hg
    have hb : List.length (α := S98) (S96.f1 (rd S96.z xs (i : Int))) ≤ 100 := by rw [rd_lt (by omega)]; exact he _ (List.getElem_mem _)
    rw [F81_letheref06_Of_l1000004_eq, if_pos (ilt (by omega)), if_pos (inb (by omega)), rentry _ hb, drop_rd (z := S96.z) (by omega : i < xs.length), w64s (n := xs.length) (by omega) (by omega)]
    simp only [ofT, Option.bind_some, term_eta]
    rw [if_pos (by simp only [List.length_singleton]; omega), ih (i + 1) _ (by omega) (by omega) (by rw [List.length_append, List.length_singleton]; omega), List.map_cons, List.append_assoc]
    rfl
theorem ofK_l (xs : List S100) (hx : xs.length ≤ 100) (a b : Int) (s : ByteArray) (g' : List S38) : ∀ (n i : Nat) (g : List S38), xs.length - i = n → i ≤ xs.length → g.length ≤ 1 + i →
    F81_letheref06_Of_l1000011 xs (xs.length : Int) (i : Int) a b s g g' = ofT (rowT (g ++ (xs.drop i).map kidT)) := by
  intro n
  induction n with
  | zero =>
    intro i g hn hi hg
    rw [F81_letheref06_Of_l1000011_eq, if_neg (by omega), List.drop_of_length_le (by omega), List.map_nil, List.append_nil, rrow]; rfl
  | succ n ih =>
    intro i g hn hi hg
    rw [F81_letheref06_Of_l1000011_eq, if_pos (ilt (by omega)), if_pos (inb (by omega)), rkid, drop_rd (z := S100.z) (by omega : i < xs.length), w64s (n := xs.length) (by omega) (by omega)]
    simp only [ofT, Option.bind_some, term_eta]
    rw [if_pos (by simp only [List.length_singleton]; omega), ih (i + 1) _ (by omega) (by omega) (by rw [List.length_append, List.length_singleton]; omega), List.map_cons, List.append_assoc]
    rfl
theorem rof (q : Bool) (xs : List S96) (ks : List S100) (hx : xs.length ≤ 100) (hk : ks.length ≤ 100) (h : ∀ e ∈ xs, List.length (α := S98) (S96.f1 e) ≤ 100) : F81_letheref06_Of q xs ks = ofT (nodeT q xs ks) := by
  rw [F81_letheref06_Of_eq, rnum, rnum]
  simp only [ofT, Option.bind_some, term_eta]
  unfold nodeT
  cases q with
  | true => exact ofE_l xs hx h 0 0 ByteArray.empty [] _ 0 [numT 1] rfl (by omega) (by simp)
  | false => exact ofK_l ks hk 0 0 ByteArray.empty [] _ 0 [numT 2] rfl (by omega) (by simp)
/-- A node's term, of both. -/
def termV (a b c d e f g : Int) (q : Bool) (xs : List S96) (ks : List S100) : Option (Int × Int × ByteArray × List S38 × Int × Unit) :=
  if nodeV a b c d e f g q xs ks = 0 then some (S38.f0 (nodeT q xs ks), S38.f1 (nodeT q xs ks), S38.f2 (nodeT q xs ks), S38.f3 (nodeT q xs ks), 0, ()) else some (0, 0, ByteArray.empty, [], nodeV a b c d e f g q xs ks, ())
theorem named_n {a b c d e f g : Int} {s : ByteArray} {xs : List S98} (h : rightV a b c d e f g s xs = 0) : (xs.length : Int) ≤ 4 := by
  unfold rightV at h
  by_cases c1 : namedV a b c d e f g s xs = 0
  · unfold namedV at c1
    by_cases c2 : quotaOk a b c d e f g = true
    · have he : e ≤ 4 := by simp only [quotaOk, decide_eq_true_eq] at c2; omega
      rw [if_pos c2] at c1
      by_cases c3 : s = ByteArray.empty
      · rw [if_pos c3] at c1; omega
      · rw [if_neg c3] at c1
        by_cases c4 : b < (s.size : Int)
        · rw [if_pos c4] at c1; omega
        · rw [if_neg c4] at c1
          by_cases c5 : e < (xs.length : Int)
          · rw [if_pos c5] at c1; omega
          · omega
    · rw [if_neg c2] at c1; omega
  · rw [if_neg c1] at h; exact absurd h c1
theorem leaf_n {a b c d e f g : Int} : ∀ {xs : List S96} {p : Option ByteArray}, leafV a b c d e f g p xs = 0 → ∀ y ∈ xs, rightV a b c d e f g (S96.f0 y) (S96.f1 y) = 0
  | [], _, _, y, hy => by cases hy
  | x :: xs, p, h, y, hy => by
    rw [leafV_cons] at h
    by_cases c1 : rightV a b c d e f g (S96.f0 x) (S96.f1 x) = 0
    · rw [if_pos c1] at h
      by_cases c2 : behind p (S96.f0 x) = true
      · rw [if_pos c2] at h
        cases hy with
        | head => exact c1
        | tail _ hy => exact leaf_n h y hy
      · rw [if_neg c2] at h; omega
    · rw [if_neg c1] at h; exact absurd h c1
theorem node_n {a b c d e f g : Int} {q : Bool} {xs : List S96} {ks : List S100} (h : nodeV a b c d e f g q xs ks = 0) : xs.length ≤ 4 ∧ ks.length ≤ 4 ∧ ∀ y ∈ xs, List.length (α := S98) (S96.f1 y) ≤ 4 := by
  unfold nodeV at h
  by_cases c1 : quotaOk a b c d e f g = true
  · rw [if_pos c1] at h
    cases q with
    | true =>
      rw [if_pos rfl] at h
      by_cases c2 : (0 : Int) < (ks.length : Int)
      · rw [if_pos c2] at h; omega
      · rw [if_neg c2] at h
        by_cases c3 : (4 : Int) < (xs.length : Int)
        · rw [if_pos c3] at h; omega
        · rw [if_neg c3] at h
          exact ⟨by omega, by omega, fun y hy => by have := named_n (leaf_n h y hy); omega⟩
    | false =>
      rw [if_neg (by simp)] at h
      by_cases c2 : (0 : Int) < (xs.length : Int)
      · rw [if_pos c2] at h; omega
      · rw [if_neg c2] at h
        by_cases c3 : (ks.length : Int) < 2
        · rw [if_pos c3] at h; omega
        · rw [if_neg c3] at h
          by_cases c4 : (4 : Int) < (ks.length : Int)
          · rw [if_pos c4] at h; omega
          · exact ⟨by omega, by omega, fun y hy => by rw [List.eq_nil_of_length_eq_zero (l := xs) (by omega)] at hy; cases hy⟩
  · rw [if_neg c1] at h; omega
theorem nterm_eq (a b c d e f g : Int) (q : Bool) (xs : List S96) (ks : List S100) (hx : xs.length ≤ 9223372036854775807) (hy : ∀ y ∈ xs, EntryBound y) (hk : ks.length ≤ 9223372036854775807) :
    F21_node_Term a b c d e f g q xs ks = termV a b c d e f g q xs ks ∧ F22_letheref06_Term a b c d e f g q xs ks = termV a b c d e f g q xs ks := by
  obtain ⟨q1, q2⟩ := node_eq a b c d e f g q xs ks hx hy hk
  rw [F21_node_Term_eq, F22_letheref06_Term_eq, q1, q2]
  simp only [Option.bind_some]
  unfold termV
  by_cases c1 : nodeV a b c d e f g q xs ks = 0
  · obtain ⟨n1, n2, n3⟩ := node_n c1
    have n3' : ∀ y ∈ xs, List.length (α := S98) (S96.f1 y) ≤ 100 := fun y hy => by have := n3 y hy; omega
    have hc : ¬ ¬ nodeV a b c d e f g q xs ks = 0 := fun h => h c1
    rw [if_neg hc, if_neg hc, if_pos c1, rof q xs ks (by omega) (by omega) n3']
    refine ⟨?_, rfl⟩
    rw [tnum, tnum]
    simp only [ofT, Option.bind_some]
    unfold nodeT
    cases q with
    | true =>
      rw [if_pos rfl, if_pos rfl, F71_node_row_73_eq, term_eta]
      have := rowE_l xs (by omega) n3' 0 0 ByteArray.empty [] _ 0 [numT 1] rfl (by omega) (by simp) (by intro x hx; rw [List.mem_singleton] at hx; rw [hx]; exact Tn.num _)
      rw [show F71_node_row_73_l1000003 xs (List.length (α := S96) xs : Int) 0 0 0 ByteArray.empty [numT 1] [] = _ from this]
      rfl
    | false =>
      rw [if_neg (by simp), if_neg (by simp), F78_node_row_79_eq, term_eta]
      have := rowK_l ks (by omega) 0 0 ByteArray.empty [] _ 0 [numT 2] rfl (by omega) (by simp) (by intro x hx; rw [List.mem_singleton] at hx; rw [hx]; exact Tn.num _)
      rw [show F78_node_row_79_l1000003 ks (List.length (α := S100) ks : Int) 0 0 0 ByteArray.empty [numT 2] [] = _ from this]
      rfl
  · rw [if_pos c1, if_pos c1, if_neg c1]; exact ⟨rfl, rfl⟩

theorem likeT_l (l : List S38) (hl : l.length * 56 ≤ 140737488355328) (hc : ∀ x ∈ l, F23_letheref02_Like (S38.f0 x) (S38.f1 x) (S38.f2 x) (S38.f3 x) (S38.f0 x) (S38.f1 x) (S38.f2 x) (S38.f3 x) = some (true, ())) (a b a' b' : Int) (s s' : ByteArray) : ∀ (m i : Nat), l.length - i = m → i ≤ l.length →
    F23_letheref02_Like_l1000004 (l.length : Int) (i : Int) a b s l a' b' s' l = some (true, ()) := by
  intro m
  induction m with
  | zero =>
    intro i hm hi
    rw [F23_letheref02_Like_l1000004_eq, if_neg (by omega)]
  | succ m ih =>
    intro i hm hi
    rw [F23_letheref02_Like_l1000004_eq, if_pos (ilt (by omega)), if_pos (inb (by omega)), if_pos (inb (by omega)), rd_lt (by omega : i < l.length), hc _ (List.getElem_mem _), Option.bind_some, w64s (n := l.length) (by omega) (by omega), ih (i + 1) (by omega) (by omega)]
    rfl
theorem likeT_self {t : S38} (h : Tn t) : F23_letheref02_Like (S38.f0 t) (S38.f1 t) (S38.f2 t) (S38.f3 t) (S38.f0 t) (S38.f1 t) (S38.f2 t) (S38.f3 t) = some (true, ()) := by
  induction h with
  | mk k n b l h hl ih =>
    show F23_letheref02_Like k n b l k n b l = some (true, ())
    rw [F23_letheref02_Like_eq, if_neg (by simp), if_neg (by simp), if_neg (by simp), if_neg (by simp)]
    exact likeT_l l h ih k n k n b b l.length 0 (by omega) (by omega)

theorem el_len {xs : List S96} (h : Ok tab Pr (.sl 96 (.st 96)) xs) : ∀ y ∈ xs, EntryBound y := by
  intro y hy
  obtain ⟨i, hi, e⟩ := List.getElem_of_mem hy
  have h1 := (Ok.inv h).2.2 i xs[i] 1 ⟨.sl 98 (.st 98), xs[i].f1⟩ (List.getElem?_eq_getElem hi) rfl
  rw [← e]
  exact sl_len h1
theorem law (a b c d e f g : Int) (q : Bool) (xs : List S96) (ks : List S100) (_ : Ok tab Pr (.int .i64) a) (_ : Ok tab Pr (.int .i64) b) (_ : Ok tab Pr (.int .i64) c) (_ : Ok tab Pr (.int .i64) d) (_ : Ok tab Pr (.int .i64) e) (_ : Ok tab Pr (.int .i64) f) (_ : Ok tab Pr (.int .i64) g) (h : Ok tab Pr (.sl 96 (.st 96)) xs) (hk : Ok tab Pr (.sl 100 (.st 100)) ks) : F4_lethelaw06_NodeTerms a b c d e f g q xs ks = some (true, ()) := by
  obtain ⟨q1, q2⟩ := nterm_eq a b c d e f g q xs ks (sl_len h) (el_len h) (sl_len hk)
  rw [F4_lethelaw06_NodeTerms_eq, q1, q2]
  unfold termV
  by_cases c1 : nodeV a b c d e f g q xs ks = 0
  · obtain ⟨n1, n2, n3⟩ := node_n c1
    simp only [if_pos c1, Option.bind_some, if_true]
    rw [likeT_self (Tn.node q xs ks (by omega) (by omega) (fun y hy => by have := n3 y hy; omega)), Option.bind_some]
  · simp only [if_neg c1, Option.bind_some, if_true]
    have := likeT_self (Tn.mk 0 0 ByteArray.empty [] (by simp) (fun x hx => by cases hx))
    rw [show F23_letheref02_Like 0 0 ByteArray.empty [] 0 0 ByteArray.empty [] = _ from this, Option.bind_some]

end
end Go.Proofs.Ytgfaplkbajjheaa.NodeTermsp
