/- The law BoxWraps, for all arguments. Under no condition. -/
import Derived.Test.YtfojcadooepgpaaEBoxWraps
import Derived.Laws.BitsLemmas
import Derived.Laws.Bits64
set_option linter.unusedVariables false
set_option linter.unusedSimpArgs false
set_option linter.unusedSectionVars false
namespace Go.Proofs.Ytfojcadooepgpaa.BoxWrapsp
open Go Go.RowKit Go.Proofs.Ytfojcadooepgpaa.Rx Go.Proofs.Ytfojcadooepgpaa.BoxWrapsx
noncomputable section
theorem w64 {n : Int} (h0 : -9223372036854775808 ≤ n) (h1 : n ≤ 9223372036854775807) : IntKind.i64.wrap n = n := by rw [IntKind.wrap_i64]; omega
theorem w64s {j n : Nat} (h : j < n) (hn : n ≤ 9223372036854775807) : IntKind.i64.wrap ((j : Int) + 1) = ((j + 1 : Nat) : Int) := by rw [w64 (by omega) (by omega)]; omega
theorem w64p {j : Nat} (h : 0 < j) (hn : j ≤ 9223372036854775807) : IntKind.i64.wrap ((j : Int) - 1) = ((j - 1 : Nat) : Int) := by rw [w64 (by omega) (by omega)]; omega
theorem sl_len {e : TypeId} {t : Ty} {xs : List (den tab.S t)} (h : Ok tab Pr (.sl e t) xs) : xs.length ≤ 9223372036854775807 := by
  have := (Ok.inv h).2.1
  simp only [maxLen] at this
  omega
theorem ite_to {α : Type} {p : Prop} [Decidable p] {a b c : α} (h1 : p → a = c) (h2 : ¬ p → b = c) : (if p then a else b) = c := by
  by_cases h : p
  · rw [if_pos h]; exact h1 h
  · rw [if_neg h]; exact h2 h
theorem ob_eq {a b : Bool} (h1 : a = true → b = true) (h2 : b = true → a = true) : (some (a, ()) : Option (Bool × Unit)) = some (b, ()) := by rw [Bool.eq_iff_iff.2 ⟨h1, h2⟩]
theorem oi_eq {a b : Int} (h : a = b) : (some (a, ()) : Option (Int × Unit)) = some (b, ()) := by rw [h]
theorem rd_lt {α : Type} {z : α} {xs : List α} {i : Nat} (h : i < xs.length) : rd z xs (i : Int) = xs[i] := by simp [rd, h]
theorem drop_rd {α : Type} {z : α} {xs : List α} {i : Nat} (h : i < xs.length) : xs.drop i = rd z xs (i : Int) :: xs.drop (i + 1) := by rw [rd_lt h]; exact List.drop_eq_getElem_cons h
theorem inb {i n : Nat} (h : i < n) : (0 : Int) ≤ (i : Int) ∧ (i : Int) < (n : Int) := by omega
theorem ilt {i n : Nat} (h : i < n) : (i : Int) < (n : Int) := by omega
theorem subL_drop {α : Type} (xs : List α) {l : Int} {k : Nat} (h : l = (k : Int)) : subL xs l (xs.length : Int) = xs.drop k := by simp [subL, h]
theorem subL_take {α : Type} (xs : List α) {l : Int} {k : Nat} (h : l = (k : Int)) : subL xs 0 l = xs.take k := by simp [subL, h]

/-! ### strings as lists of numbers -/
/-- A list of bytes. -/
def AllB (l : List Int) : Prop := ∀ c ∈ l, 0 ≤ c ∧ c ≤ 255
theorem AllB.nil : AllB [] := fun _ h => by simp at h
theorem AllB.cons {c : Int} {l : List Int} (h : 0 ≤ c ∧ c ≤ 255) (hl : AllB l) : AllB (c :: l) := fun x hx => by
  rcases List.mem_cons.1 hx with rfl | hx
  · exact h
  · exact hl x hx
theorem AllB.app {a b : List Int} (ha : AllB a) (hb : AllB b) : AllB (a ++ b) := fun x hx => by
  rcases List.mem_append.1 hx with hx | hx
  · exact ha x hx
  · exact hb x hx
theorem AllB.take {a : List Int} (ha : AllB a) (n : Nat) : AllB (a.take n) := fun x hx => ha x (List.mem_of_mem_take hx)
theorem AllB.drop {a : List Int} (ha : AllB a) (n : Nat) : AllB (a.drop n) := fun x hx => ha x (List.mem_of_mem_drop hx)
theorem AllB.of_bytes (s : ByteArray) : AllB (bytesOf s) := fun x hx => by
  obtain ⟨b, _, rfl⟩ := List.mem_map.1 hx
  have := b.toNat_lt
  omega
theorem bytesOf_str {l : List Int} (h : AllB l) : bytesOf (strB l) = l := by
  unfold bytesOf strB
  simp only [List.map_map]
  rw [show (List.map ((fun b : UInt8 => (b.toNat : Int)) ∘ fun n : Int => UInt8.ofNat n.toNat) l) = List.map id l from List.map_congr_left (fun x hx => by
    have := h x hx
    simp only [Function.comp, id, UInt8.toNat_ofNat']
    omega)]
  simp
theorem str_bytesOf (s : ByteArray) : strB (bytesOf s) = s := by
  unfold bytesOf strB
  simp only [List.map_map]
  rw [show (List.map ((fun n : Int => UInt8.ofNat n.toNat) ∘ fun b : UInt8 => (b.toNat : Int)) s.data.toList) = List.map id s.data.toList from List.map_congr_left (fun x hx => by
    simp [Function.comp])]
  simp
theorem bytesOf_inj {a b : ByteArray} (h : bytesOf a = bytesOf b) : a = b := by rw [← str_bytesOf a, ← str_bytesOf b, h]
theorem bytesOf_append (a b : ByteArray) : bytesOf (a ++ b) = bytesOf a ++ bytesOf b := by simp [bytesOf]
theorem bytesOf_extract (a : ByteArray) (i j : Nat) : bytesOf (a.extract i j) = ((bytesOf a).take j).drop i := by
  simp [bytesOf, List.extract_eq_take_drop, List.map_take, List.map_drop, List.drop_take]
theorem bytesOf_empty : bytesOf ByteArray.empty = [] := rfl
theorem bytesOf_length (s : ByteArray) : (bytesOf s).length = s.size := by rw [bytesOf, List.length_map, Array.length_toList]; rfl
theorem size_bytesOf (s : ByteArray) : s.size = (bytesOf s).length := (bytesOf_length s).symm
theorem size_str (l : List Int) : (strB l).size = l.length := by simp [strB, ByteArray.size]
theorem str_append (a b : List Int) : strB (a ++ b) = strB a ++ strB b := by
  apply ByteArray.ext
  simp [strB]
theorem str_take (l : List Int) (j : Nat) : (strB l).extract 0 j = strB (l.take j) := by
  apply ByteArray.ext
  simp [strB, List.map_take]


/-! ### whether a term may be -/
mutual
def parts : S25 → Nat
  | ⟨_, _, _, l⟩ => 1 + partsL l
def partsL : List S25 → Nat
  | [] => 0
  | x :: t => parts x + partsL t
end
mutual
def depth : S25 → Nat
  | ⟨_, _, _, l⟩ => 1 + depthL l
def depthL : List S25 → Nat
  | [] => 0
  | x :: t => max (depth x) (depthL t)
end
/-- The shape of a term by itself. -/
def one (n f : Int) (s : ByteArray) (len : Nat) : Bool :=
  if n = 1 ∨ n = 3 then decide (bytesOf s = [] ∧ len = 0) else if n = 2 then decide (f = 0 ∧ s.size ≤ 4000 ∧ len = 0) else if n = 4 then decide (bytesOf s = [] ∧ len = 1) else if n = 5 then decide (f = 0 ∧ bytesOf s = []) else false
mutual
def shp : S25 → Bool
  | ⟨n, f, s, l⟩ => one n f s l.length && shpL l
def shpL : List S25 → Bool
  | [] => true
  | x :: t => shp x && shpL t
end
theorem str_nil_iff {s : ByteArray} : bytesOf s = [] ↔ s = ByteArray.empty := ⟨fun h => bytesOf_inj (by rw [h]; rfl), fun h => by rw [h]; rfl⟩
theorem beqd (a b : Int) : (a == b) = decide (a = b) := by rw [Bool.eq_iff_iff, beq_iff_eq, decide_eq_true_eq]
theorem parts_eq (x : S25) : parts x = 1 + partsL x.f3 := by cases x; rw [parts]; rfl
theorem depth_eq (x : S25) : depth x = 1 + depthL x.f3 := by cases x; rw [depth]; rfl
theorem shp_eq (x : S25) : shp x = (one x.f0 x.f1 x.f2 x.f3.length && shpL x.f3) := by cases x; rw [shp]; rfl
theorem shp_mk (n f : Int) (s : ByteArray) (l : List S25) : shp (S25.mk n f s l) = (one n f s l.length && shpL l) := by rw [shp]
theorem parts_pos (x : S25) : 1 ≤ parts x := by rw [parts_eq]; omega
theorem depth_pos (x : S25) : 1 ≤ depth x := by rw [depth_eq]; omega
def rightT (x : S25) : Int := if 4000 < parts x then 23 else if 12 < depth x then 22 else if shp x = true then 0 else 25

theorem right_is {x : S25} (hr : rightT x = 0) : parts x ≤ 4000 ∧ depth x ≤ 12 ∧ shp x = true := by
  unfold rightT at hr
  split at hr
  · simp at hr
  · split at hr
    · simp at hr
    · split at hr
      · rename_i c1 c2 c3
        exact ⟨by omega, by omega, c3⟩
      · simp at hr


/-! ### terms -/
theorem term_eta (t : S25) : S25.mk (S25.f0 t) (S25.f1 t) (S25.f2 t) (S25.f3 t) = t := by cases t; rfl
@[simp] theorem T_f0 (a b : Int) (s : ByteArray) (l : List S25) : S25.f0 (S25.mk a b s l) = a := rfl
@[simp] theorem T_f1 (a b : Int) (s : ByteArray) (l : List S25) : S25.f1 (S25.mk a b s l) = b := rfl
@[simp] theorem T_f2 (a b : Int) (s : ByteArray) (l : List S25) : S25.f2 (S25.mk a b s l) = s := rfl
@[simp] theorem T_f3 (a b : Int) (s : ByteArray) (l : List S25) : S25.f3 (S25.mk a b s l) = l := rfl
/-- A term with no list that is too long. -/
inductive Tn : S25 → Prop
  | mk (k n : Int) (b : ByteArray) (l : List S25) (h : l.length * 56 ≤ 140737488355328) (hl : ∀ x ∈ l, Tn x) : Tn (S25.mk k n b l)
abbrev T4 := Int × Int × ByteArray × List S25 × Unit
def ofT (t : S25) : Option T4 := some (S25.f0 t, S25.f1 t, S25.f2 t, S25.f3 t, ())

inductive okT : S25 → Prop
  | mk {x : S25} : (Lit.int .i64 (S25.f0 x)).wf = true → (Lit.int .u64 (S25.f1 x)).wf = true → (S25.f2 x).size ≤ 140737488351232 → (S25.f3 x).length * 56 ≤ 140737488351232 → (S25.f3 x).length ≤ maxLen → (∀ y ∈ S25.f3 x, okT y) → okT x
theorem etaT (x : S25) : (S25.mk (S25.f0 x) (S25.f1 x) (S25.f2 x) (S25.f3 x)) = x := by cases x; rfl
theorem okT.leaf {n f : Int} {s : ByteArray} (h0 : (Lit.int .i64 n).wf = true) (h1 : (Lit.int .u64 f).wf = true) (h2 : s.size ≤ 140737488351232) : okT (S25.mk n f s []) := okT.mk h0 h1 h2 (by show 0 * 56 ≤ _; omega) (by show 0 ≤ _; omega) (fun y hy => by cases hy)
theorem okT.len {x : S25} (h : okT x) : (S25.f3 x).length ≤ 2513169434843 := by
  cases h with
  | mk _ _ _ h3 _ _ => omega
theorem okT.el {x : S25} (h : okT x) : ∀ y ∈ S25.f3 x, okT y := by
  cases h with
  | mk _ _ _ _ _ h5 => exact h5
theorem okT.tn {x : S25} (h : okT x) : Tn x := by
  induction h with
  | @mk x h0 h1 h2 h3 h4 h5 ih => rw [← etaT x]; exact Tn.mk _ _ _ _ (by omega) ih
theorem okT_of (n : Nat) : ∀ x : S25, SizeOf.sizeOf x < n → Ok tab Pr (.int .i64) (S25.f0 x) → Ok tab Pr (.int .u64) (S25.f1 x) → Ok tab Pr .str (S25.f2 x) → Ok tab Pr (.sl 25 (.st 25)) (S25.f3 x) → okT x := by
  induction n with
  | zero => intro x hx; omega
  | succ n ih =>
    intro x hx h0 h1 h2 h3
    have hb := (Ok.inv h3).1
    rw [show Program.bytesOf Pr 25 = 56 by kernel_rfl] at hb
    refine okT.mk (Ok.inv h0) (Ok.inv h1) (Ok.inv h2) ?_ (Ok.inv h3).2.1 (fun y hy => ?_)
    · exact hb
    · obtain ⟨i, hi, rfl⟩ := List.getElem_of_mem hy
      have hs : SizeOf.sizeOf (S25.f3 x)[i] < n := by
        have h9 := List.sizeOf_lt_of_mem hy
        have h8 : SizeOf.sizeOf (S25.f3 x) < SizeOf.sizeOf x := by cases x; simp [S25.f3]; omega
        omega
      have hc := (Ok.inv h3).2.2 i (S25.f3 x)[i]
      exact ih _ hs (hc 0 ⟨.int .i64, _⟩ (List.getElem?_eq_getElem hi) rfl) (hc 1 ⟨.int .u64, _⟩ (List.getElem?_eq_getElem hi) rfl) (hc 2 ⟨.str, _⟩ (List.getElem?_eq_getElem hi) rfl) (hc 3 ⟨.sl 25 (.st 25), _⟩ (List.getElem?_eq_getElem hi) rfl)

/-! ### boxes: what is so -/
abbrev T5 := Int × Int × ByteArray × List S25 × Int × Unit
def okE (t : S25) : Option T5 := some (S25.f0 t, S25.f1 t, S25.f2 t, S25.f3 t, 0, ())
def erT (e : Int) : Option T5 := some (0, 0, ByteArray.empty, [], e, ())
def boxT (k : Int) (t : S25) : S25 := S25.mk 4 k ByteArray.empty [t]
def sealV (k : Int) (t : S25) : Option T5 := if rightT t = 0 then (if rightT (boxT k t) = 0 then okE (boxT k t) else erT (rightT (boxT k t))) else erT (rightT t)
def openV (k : Int) (t : S25) : Option T5 := if rightT t = 0 then (if S25.f0 t = 4 then (if S25.f1 t = k then okE (rd S25.z (S25.f3 t) 0) else erT 31) else erT 30) else erT (rightT t)
theorem okT.box {k : Int} {t : S25} (hk : (Lit.int .u64 k).wf = true) (h : okT t) : okT (boxT k t) :=
  okT.mk (show (Lit.int .i64 4).wf = true by decide) hk (show ByteArray.empty.size ≤ 140737488351232 by decide) (by show 1 * 56 ≤ _; omega) (by show 1 ≤ _; simp [maxLen]) (fun y hy => by rw [boxT] at hy; rw [List.mem_singleton.1 hy]; exact h)
theorem right_in {t x : S25} (h : rightT t = 0) (hx : x ∈ S25.f3 t) : rightT x = 0 := by
  obtain ⟨h1, h2, h3⟩ := right_is h
  rw [parts_eq] at h1
  rw [depth_eq] at h2
  rw [shp_eq, Bool.and_eq_true] at h3
  have key : ∀ l : List S25, x ∈ l → parts x ≤ partsL l ∧ depth x ≤ depthL l ∧ (shpL l = true → shp x = true) := by
    intro l
    induction l with
    | nil => intro hx; cases hx
    | cons y l ih =>
      intro hx
      simp only [partsL, depthL, shpL, Bool.and_eq_true]
      cases hx with
      | head => exact ⟨by omega, by omega, fun h => h.1⟩
      | tail _ hx => obtain ⟨q1, q2, q3⟩ := ih hx; exact ⟨by omega, by omega, fun h => q3 h.2⟩
  obtain ⟨q1, q2, q3⟩ := key _ hx
  unfold rightT
  rw [if_neg (by omega), if_neg (by omega), if_pos (q3 h3.2)]
theorem box_one {t : S25} (h : rightT t = 0) (h4 : S25.f0 t = 4) : (S25.f3 t).length = 1 ∧ S25.f2 t = ByteArray.empty := by
  obtain ⟨_, _, h3⟩ := right_is h
  rw [shp_eq, Bool.and_eq_true] at h3
  have := h3.1
  simp only [one, h4] at this
  simp [str_nil_iff] at this
  exact ⟨this.2, this.1⟩
theorem box_is {t : S25} (h : rightT t = 0) (h4 : S25.f0 t = 4) : ∃ x, t = boxT (S25.f1 t) x ∧ rd S25.z (S25.f3 t) 0 = x ∧ x ∈ S25.f3 t := by
  obtain ⟨h1, h2⟩ := box_one h h4
  cases t with
  | mk k n s l =>
    match l, h1 with
    | [x], _ =>
      have h4 : k = 4 := h4
      have h2 : s = ByteArray.empty := h2
      subst h4; subst h2
      exact ⟨x, rfl, rfl, List.mem_singleton.2 rfl⟩

/-! ### boxes in boxes: what is so -/
def wrapF : S25 → List Int → Option T5
  | t, [] => okE t
  | t, k :: ks => if rightT (boxT k t) = 0 then wrapF (boxT k t) ks else erT (rightT (boxT k t))
def unwrapF : S25 → List Int → Option T5
  | t, [] => okE t
  | t, k :: ks => if S25.f0 t = 4 then (if S25.f1 t = k then unwrapF (rd S25.z (S25.f3 t) 0) ks else erT 31) else erT 30
def wrapV (t : S25) (ks : List Int) : Option T5 := if (8 : Int) < (ks.length : Int) then erT 2 else if rightT t = 0 then wrapF t ks else erT (rightT t)
def unwrapV (t : S25) (ks : List Int) : Option T5 := if (8 : Int) < (ks.length : Int) then erT 2 else if rightT t = 0 then unwrapF t ks.reverse else erT (rightT t)
def nestR (t : S25) (rks : List Int) : S25 := rks.foldr boxT t
theorem nestR_snoc (t : S25) (k : Int) (rks : List Int) : nestR t (rks ++ [k]) = nestR (boxT k t) rks := by simp [nestR]
theorem wrapF_is : ∀ (ks : List Int) (t : S25), rightT t = 0 → (wrapF t ks = okE (nestR t ks.reverse) ∧ rightT (nestR t ks.reverse) = 0) ∨ ∃ e, e ≠ 0 ∧ wrapF t ks = erT e
  | [], t, h => .inl ⟨rfl, h⟩
  | k :: ks, t, h => by
    rw [wrapF]
    by_cases c1 : rightT (boxT k t) = 0
    · rw [if_pos c1, List.reverse_cons, nestR_snoc]
      exact wrapF_is ks _ c1
    · rw [if_neg c1]; exact .inr ⟨_, c1, rfl⟩
theorem unwrapF_is (t : S25) : ∀ (rks rjs : List Int), rks.length = rjs.length → unwrapF (nestR t rks) rjs = if rks = rjs then okE t else erT 31
  | [], [], _ => by simp [unwrapF, nestR]
  | k :: rks, j :: rjs, h => by
    have h4 : S25.f0 (nestR t (k :: rks)) = 4 := rfl
    have hk : S25.f1 (nestR t (k :: rks)) = k := rfl
    have hr : rd S25.z (S25.f3 (nestR t (k :: rks))) 0 = nestR t rks := rfl
    rw [unwrapF, if_pos h4, hk, hr, unwrapF_is t rks rjs (by simpa using h)]
    by_cases c1 : k = j <;> simp [c1]
  | [], _ :: _, h => by simp at h
  | _ :: _, [], h => by simp at h
theorem okT.nest {t : S25} (h : okT t) : ∀ {ks : List Int}, (∀ k ∈ ks, (Lit.int .u64 k).wf = true) → okT (nestR t ks)
  | [], _ => h
  | k :: ks, hk => okT.box (hk k List.mem_cons_self) (h.nest (fun j hj => hk j (List.mem_cons_of_mem _ hj)))

abbrev bigL : Nat := 2513169434843
theorem parts_l (l : List S25) (hl : l.length ≤ bigL) (ih : ∀ x ∈ l, ∀ m : Nat, 1 ≤ m → m ≤ 1000000 → F60_term_parts (S25.f0 x) (S25.f1 x) (S25.f2 x) (S25.f3 x) (m : Int) = some (((min (parts x) m : Nat) : Int), ())) (m : Nat) (hm : m ≤ 1000000) : ∀ k i n, l.length - i = k → i ≤ l.length → n ≤ m → 1 ≤ n →
    F60_term_parts_l1000003 (m : Int) (n : Int) l (l.length : Int) (i : Int) = some (((min (n + partsL (l.drop i)) m : Nat) : Int), ()) := by
  intro k
  induction k with
  | zero =>
    intro i n hk hi hn h1
    rw [F60_term_parts_l1000003_eq, if_neg (by omega), List.drop_of_length_le (by omega)]
    exact oi_eq (by simp only [partsL]; omega)
  | succ k ihk =>
    intro i n hk hi hn h1
    simp only [bigL] at hl
    rw [F60_term_parts_l1000003_eq, if_pos (ilt (by omega)), if_pos (inb (by omega)), drop_rd (z := S25.z) (by omega : i < l.length)]
    by_cases c1 : m ≤ n
    · rw [if_pos (by omega)]
      exact oi_eq (by simp only [partsL]; omega)
    · rw [if_neg (by omega), w64 (by omega) (by omega), show (m : Int) - (n : Int) = ((m - n : Nat) : Int) by omega, rd_lt (by omega : i < l.length), ih _ (List.getElem_mem _) _ (by omega) (by omega), Option.bind_some, w64s (n := l.length) (by omega) (by omega)]
      generalize hp : parts l[i] = p
      have hp1 : 1 ≤ p := by rw [← hp]; exact parts_pos _
      rw [w64 (by omega) (by omega), show (n : Int) + ((min p (m - n) : Nat) : Int) = ((n + min p (m - n) : Nat) : Int) by omega, ihk (i + 1) _ (by omega) (by omega) (by omega) (by omega)]
      exact oi_eq (by simp only [partsL, hp]; omega)
theorem parts_f {x : S25} (h : okT x) : ∀ m : Nat, 1 ≤ m → m ≤ 1000000 → F60_term_parts (S25.f0 x) (S25.f1 x) (S25.f2 x) (S25.f3 x) (m : Int) = some (((min (parts x) m : Nat) : Int), ()) := by
  induction h with
  | @mk x h0 h1 h2 h3 h4 h5 ih =>
    intro m hm hm2
    rw [F60_term_parts_eq, parts_eq]
    exact parts_l (S25.f3 x) (by simp only [bigL]; omega) ih m hm2 _ 0 1 rfl (by omega) hm (by omega)
theorem rparts_l (l : List S25) (hl : l.length ≤ bigL) (ih : ∀ x ∈ l, ∀ m : Nat, 1 ≤ m → m ≤ 1000000 → F41_letheref02_Parts (S25.f0 x) (S25.f1 x) (S25.f2 x) (S25.f3 x) (m : Int) = some (((min (parts x) m : Nat) : Int), ())) (m : Nat) (hm : m ≤ 1000000) : ∀ k i n, l.length - i = k → i ≤ l.length → n ≤ m → 1 ≤ n →
    F41_letheref02_Parts_l1000003 (m : Int) (n : Int) l (l.length : Int) (i : Int) = some (((min (n + partsL (l.drop i)) m : Nat) : Int), ()) := by
  intro k
  induction k with
  | zero =>
    intro i n hk hi hn h1
    rw [F41_letheref02_Parts_l1000003_eq, if_neg (by omega), List.drop_of_length_le (by omega), if_neg (by omega)]
    exact oi_eq (by simp only [partsL]; omega)
  | succ k ihk =>
    intro i n hk hi hn h1
    simp only [bigL] at hl
    rw [F41_letheref02_Parts_l1000003_eq, if_pos (ilt (by omega)), if_pos (inb (by omega)), drop_rd (z := S25.z) (by omega : i < l.length)]
    by_cases c1 : m ≤ n
    · rw [if_pos (by omega)]
      exact oi_eq (by simp only [partsL]; omega)
    · rw [if_neg (by omega), w64 (by omega) (by omega), show (m : Int) - (n : Int) = ((m - n : Nat) : Int) by omega, rd_lt (by omega : i < l.length), ih _ (List.getElem_mem _) _ (by omega) (by omega), Option.bind_some, w64s (n := l.length) (by omega) (by omega)]
      generalize hp : parts l[i] = p
      have hp1 : 1 ≤ p := by rw [← hp]; exact parts_pos _
      rw [w64 (by omega) (by omega), show (n : Int) + ((min p (m - n) : Nat) : Int) = ((n + min p (m - n) : Nat) : Int) by omega, ihk (i + 1) _ (by omega) (by omega) (by omega) (by omega)]
      exact oi_eq (by simp only [partsL, hp]; omega)
theorem rparts_f {x : S25} (h : okT x) : ∀ m : Nat, 1 ≤ m → m ≤ 1000000 → F41_letheref02_Parts (S25.f0 x) (S25.f1 x) (S25.f2 x) (S25.f3 x) (m : Int) = some (((min (parts x) m : Nat) : Int), ()) := by
  induction h with
  | @mk x h0 h1 h2 h3 h4 h5 ih =>
    intro m hm hm2
    rw [F41_letheref02_Parts_eq, parts_eq]
    exact rparts_l (S25.f3 x) (by simp only [bigL]; omega) ih m hm2 _ 0 1 rfl (by omega) hm (by omega)
theorem deep_l (l : List S25) (hl : l.length ≤ bigL) (m : Nat) (hm : m ≤ 1000000) (hm2 : 2 ≤ m) (ih : ∀ x ∈ l, F61_term_deep (S25.f0 x) (S25.f1 x) (S25.f2 x) (S25.f3 x) ((m - 1 : Nat) : Int) = some (((min (depth x) (m - 1) : Nat) : Int), ())) : ∀ k i n, l.length - i = k → i ≤ l.length → n ≤ m - 1 →
    F61_term_deep_l1000004 (m : Int) (n : Int) l (l.length : Int) (i : Int) = some (((min (1 + max n (depthL (l.drop i))) m : Nat) : Int), ()) := by
  intro k
  induction k with
  | zero =>
    intro i n hk hi hn
    rw [F61_term_deep_l1000004_eq, if_neg (by omega), List.drop_of_length_le (by omega), w64 (by omega) (by omega)]
    exact oi_eq (by simp only [depthL]; omega)
  | succ k ihk =>
    intro i n hk hi hn
    simp only [bigL] at hl
    rw [F61_term_deep_l1000004_eq, if_pos (ilt (by omega)), if_pos (inb (by omega)), drop_rd (z := S25.z) (by omega : i < l.length), w64p (by omega) (by omega), rd_lt (by omega : i < l.length), ih _ (List.getElem_mem _), Option.bind_some, w64s (n := l.length) (by omega) (by omega)]
    generalize hp : depth l[i] = p
    rw [show mx (n : Int) ((min p (m - 1) : Nat) : Int) = ((max n (min p (m - 1)) : Nat) : Int) by unfold mx; split <;> omega, ihk (i + 1) _ (by omega) (by omega) (by omega)]
    exact oi_eq (by simp only [depthL, hp]; omega)
theorem deep_f {x : S25} (h : okT x) : ∀ m : Nat, 1 ≤ m → m ≤ 1000000 → F61_term_deep (S25.f0 x) (S25.f1 x) (S25.f2 x) (S25.f3 x) (m : Int) = some (((min (depth x) m : Nat) : Int), ()) := by
  induction h with
  | @mk x h0 h1 h2 h3 h4 h5 ih =>
    intro m hm hm2
    rw [F61_term_deep_eq, depth_eq]
    by_cases c1 : m = 1
    · rw [if_neg (by omega), w64 (by omega) (by omega)]
      exact oi_eq (by omega)
    · rw [if_pos (by omega)]
      have := deep_l (S25.f3 x) (by simp only [bigL]; omega) m hm2 (by omega) (fun y hy => ih y hy (m - 1) (by omega) (by omega)) _ 0 0 rfl (by omega) (by omega)
      rw [show F61_term_deep_l1000004 (m : Int) 0 (S25.f3 x) ((S25.f3 x).length : Int) 0 = _ from this]
      exact oi_eq (by simp only [List.drop_zero]; omega)
theorem rdeep_l (l : List S25) (hl : l.length ≤ bigL) (m : Nat) (hm : m ≤ 1000000) (hm2 : 2 ≤ m) (ih : ∀ x ∈ l, F42_letheref02_Deep (S25.f0 x) (S25.f1 x) (S25.f2 x) (S25.f3 x) ((m - 1 : Nat) : Int) = some (((min (depth x) (m - 1) : Nat) : Int), ())) : ∀ k i n, l.length - i = k → i ≤ l.length → n < m - 1 →
    F42_letheref02_Deep_l1000005 (m : Int) (n : Int) l (l.length : Int) (i : Int) = some (((min (1 + max n (depthL (l.drop i))) m : Nat) : Int), ()) := by
  intro k
  induction k with
  | zero =>
    intro i n hk hi hn
    rw [F42_letheref02_Deep_l1000005_eq, if_neg (by omega), List.drop_of_length_le (by omega), w64 (by omega) (by omega)]
    exact oi_eq (by simp only [depthL]; omega)
  | succ k ihk =>
    intro i n hk hi hn
    simp only [bigL] at hl
    rw [F42_letheref02_Deep_l1000005_eq, if_pos (ilt (by omega)), if_pos (inb (by omega)), drop_rd (z := S25.z) (by omega : i < l.length), w64p (by omega) (by omega), rd_lt (by omega : i < l.length), ih _ (List.getElem_mem _), Option.bind_some, w64s (n := l.length) (by omega) (by omega)]
    generalize hp : depth l[i] = p
    simp only [depthL, hp]
    refine ite_to (fun c1 => ?_) (fun c1 => ?_)
    · refine ite_to (fun c2 => ?_) (fun c2 => ?_)
      · exact oi_eq (by omega)
      · have := ihk (i + 1) (min p (m - 1)) (by omega) (by omega) (by omega)
        rw [this]
        exact oi_eq (by omega)
    · refine ite_to (fun c2 => ?_) (fun c2 => ?_)
      · omega
      · have := ihk (i + 1) n (by omega) (by omega) (by omega)
        rw [this]
        exact oi_eq (by omega)
theorem rdeep_f {x : S25} (h : okT x) : ∀ m : Nat, 1 ≤ m → m ≤ 1000000 → F42_letheref02_Deep (S25.f0 x) (S25.f1 x) (S25.f2 x) (S25.f3 x) (m : Int) = some (((min (depth x) m : Nat) : Int), ()) := by
  induction h with
  | @mk x h0 h1 h2 h3 h4 h5 ih =>
    intro m hm hm2
    rw [F42_letheref02_Deep_eq, depth_eq]
    by_cases c1 : m = 1
    · rw [if_pos (by omega)]
      exact oi_eq (by omega)
    · rw [if_neg (by omega)]
      have := rdeep_l (S25.f3 x) (by simp only [bigL]; omega) m hm2 (by omega) (fun y hy => ih y hy (m - 1) (by omega) (by omega)) _ 0 0 rfl (by omega) (by omega)
      rw [show F42_letheref02_Deep_l1000005 (m : Int) 0 (S25.f3 x) ((S25.f3 x).length : Int) 0 = _ from this]
      exact oi_eq (by simp only [List.drop_zero]; omega)
/-! shapes -/
theorem one_f (n f : Int) (s : ByteArray) (l : List S25) : F63_letheref02_One n f s l = some (one n f s l.length, ()) := by
  rw [F63_letheref02_One_eq]
  repeat' (refine ite_to (fun _ => ?_) (fun _ => ?_))
  all_goals (apply ob_eq <;> intro hh <;> simp only [one, str_nil_iff] at hh ⊢ <;> simp_all <;> omega)
theorem rshaped_l (l : List S25) (hl : l.length ≤ bigL) (ih : ∀ x ∈ l, F43_letheref02_shaped (S25.f0 x) (S25.f1 x) (S25.f2 x) (S25.f3 x) = some (shp x, ())) : ∀ k i, l.length - i = k → i ≤ l.length →
    F43_letheref02_shaped_l1000004 l (l.length : Int) (i : Int) = some (shpL (l.drop i), ()) := by
  intro k
  induction k with
  | zero =>
    intro i hk hi
    rw [F43_letheref02_shaped_l1000004_eq, if_neg (by omega), List.drop_of_length_le (by omega)]
    simp [shpL]
  | succ k ihk =>
    intro i hk hi
    simp only [bigL] at hl
    rw [F43_letheref02_shaped_l1000004_eq, if_pos (ilt (by omega)), if_pos (inb (by omega)), drop_rd (z := S25.z) (by omega : i < l.length), rd_lt (by omega : i < l.length), ih _ (List.getElem_mem _), Option.bind_some, w64s (n := l.length) (by omega) (by omega), ihk (i + 1) (by omega) (by omega)]
    cases hs : shp l[i] <;> simp [shpL, hs]
theorem rshaped_f {x : S25} (h : okT x) : F43_letheref02_shaped (S25.f0 x) (S25.f1 x) (S25.f2 x) (S25.f3 x) = some (shp x, ()) := by
  induction h with
  | @mk x h0 h1 h2 h3 h4 h5 ih =>
    rw [F43_letheref02_shaped_eq, one_f, shp_eq, Option.bind_some]
    have := rshaped_l (S25.f3 x) (by simp only [bigL]; omega) ih _ 0 rfl (by omega)
    rw [show F43_letheref02_shaped_l1000004 (S25.f3 x) ((S25.f3 x).length : Int) 0 = _ from this]
    cases one (S25.f0 x) (S25.f1 x) (S25.f2 x) (S25.f3 x).length <;> simp
theorem index_l (l : List S25) (hl : l.length ≤ bigL) (ih : ∀ x ∈ l, F62_term_shaped (S25.f0 x) (S25.f1 x) (S25.f2 x) (S25.f3 x) = some (shp x, ())) : ∀ k i, l.length - i = k → i ≤ l.length →
    ∃ n : Int, F85_slices_IndexFunc_78_l1000002 l (l.length : Int) (i : Int) = some (n, ()) ∧ (0 ≤ n ↔ shpL (l.drop i) = false) := by
  intro k
  induction k with
  | zero =>
    intro i hk hi
    rw [F85_slices_IndexFunc_78_l1000002_eq, if_neg (by omega), List.drop_of_length_le (by omega)]
    exact ⟨-1, rfl, by simp [shpL]⟩
  | succ k ihk =>
    intro i hk hi
    simp only [bigL] at hl
    rw [F85_slices_IndexFunc_78_l1000002_eq, if_pos (ilt (by omega)), if_pos (inb (by omega)), drop_rd (z := S25.z) (by omega : i < l.length), rd_lt (by omega : i < l.length), F78_term_shaped_1_eq, ih _ (List.getElem_mem _), Option.bind_some, Option.bind_some, w64s (n := l.length) (by omega) (by omega)]
    obtain ⟨n, q1, q2⟩ := ihk (i + 1) (by omega) (by omega)
    rw [q1]
    cases hs : shp l[i] with
    | true => exact ⟨n, by simp, by rw [q2]; simp [shpL, hs]⟩
    | false => exact ⟨i, by simp, by simp [shpL, hs]⟩
theorem shaped_f {x : S25} (h : okT x) : F62_term_shaped (S25.f0 x) (S25.f1 x) (S25.f2 x) (S25.f3 x) = some (shp x, ()) := by
  induction h with
  | @mk x h0 h1 h2 h3 h4 h5 ih =>
    have hb : ∀ b : Bool, F62_term_shaped_l12 b (S25.f0 x) (S25.f1 x) (S25.f2 x) (S25.f3 x) = some (b && shpL (S25.f3 x), ()) := by
      intro b
      obtain ⟨n, q1, q2⟩ := index_l (S25.f3 x) (by simp only [bigL]; omega) ih _ 0 rfl (by omega)
      rw [List.drop_zero] at q2
      rw [F62_term_shaped_l12_eq, F77_slices_ContainsFunc_78_eq, F85_slices_IndexFunc_78_eq, show F85_slices_IndexFunc_78_l1000002 (S25.f3 x) ((S25.f3 x).length : Int) 0 = _ from q1]
      cases b with
      | false => simp
      | true =>
        simp only [Option.bind_some, if_true, Bool.true_and]
        apply ob_eq
        · intro hh; cases hs : shpL (S25.f3 x) with
          | true => rfl
          | false => have := q2.2 hs; simp at hh; omega
        · intro hh; simp; by_cases c1 : 0 ≤ n
          · rw [q2.1 c1] at hh; cases hh
          · omega
    rw [F62_term_shaped_eq, shp_eq]
    simp only [hb]
    repeat' (refine ite_to (fun _ => ?_) (fun _ => ?_))
    all_goals (refine congrArg (fun b => some (b && shpL (S25.f3 x), ())) (Bool.eq_iff_iff.2 ?_) ; constructor <;> intro hh <;> simp only [one, str_nil_iff] at hh ⊢ <;> simp_all <;> omega)
theorem right_f {x : S25} (h : okT x) : F40_term_Right (S25.f0 x) (S25.f1 x) (S25.f2 x) (S25.f3 x) = some (rightT x, ()) := by
  have h1 := parts_f h 4001 (by omega) (by omega)
  have h2 := deep_f h 13 (by omega) (by omega)
  rw [F40_term_Right_eq, show F60_term_parts (S25.f0 x) (S25.f1 x) (S25.f2 x) (S25.f3 x) 4001 = _ from h1, show F61_term_deep (S25.f0 x) (S25.f1 x) (S25.f2 x) (S25.f3 x) 13 = _ from h2, shaped_f h]
  simp only [Option.bind_some]
  unfold rightT
  by_cases c1 : 4000 < parts x
  · rw [if_pos (by omega), if_pos c1]
  · rw [if_neg (by omega), if_neg c1]
    by_cases c2 : 12 < depth x
    · rw [if_pos (by omega), if_pos c2]
    · rw [if_neg (by omega), if_neg c2]
      cases shp x <;> simp
theorem rright_f {x : S25} (h : okT x) : F17_letheref02_Right (S25.f0 x) (S25.f1 x) (S25.f2 x) (S25.f3 x) = some (rightT x, ()) := by
  have h1 := rparts_f h 4001 (by omega) (by omega)
  have h2 := rdeep_f h 13 (by omega) (by omega)
  rw [F17_letheref02_Right_eq, show F41_letheref02_Parts (S25.f0 x) (S25.f1 x) (S25.f2 x) (S25.f3 x) 4001 = _ from h1, show F42_letheref02_Deep (S25.f0 x) (S25.f1 x) (S25.f2 x) (S25.f3 x) 13 = _ from h2, rshaped_f h]
  simp only [Option.bind_some]
  unfold rightT
  by_cases c1 : 4000 < parts x
  · rw [if_pos (by omega), if_pos c1]
  · rw [if_neg (by omega), if_neg c1]
    by_cases c2 : 12 < depth x
    · rw [if_pos (by omega), if_pos c2]
    · rw [if_neg (by omega), if_neg c2]
      cases shp x <;> simp

theorem clone_l (l : List S25) (hl : l.length * 56 ≤ 140737488355328) (hc : ∀ x ∈ l, F52_term_clone (S25.f0 x) (S25.f1 x) (S25.f2 x) (S25.f3 x) = ofT x) (k n : Int) (b : ByteArray) (l' : List S25) (o o' : Int) (s : ByteArray) (g : List S25) : ∀ (m i : Nat), l.length - i = m → i ≤ l.length →
    F52_term_clone_l1000003 l (l.length : Int) (i : Int) k n b l' o o' s (l.take i) g = some (k, n, b, l, ()) := by
  intro m
  induction m with
  | zero =>
    intro i hm hi
    rw [F52_term_clone_l1000003_eq, if_neg (by omega), List.take_of_length_le (by omega)]
  | succ m ih =>
    intro i hm hi
    rw [F52_term_clone_l1000003_eq, if_pos (ilt (by omega)), if_pos (inb (by omega)), rd_lt (by omega : i < l.length), hc _ (List.getElem_mem _)]
    show (if _ then _ else none) = _
    rw [if_pos (by simp only [List.length_take, List.length_singleton]; omega), w64s (n := l.length) (by omega) (by omega)]
    have := ih (i + 1) (by omega) (by omega)
    rw [List.take_add_one, List.getElem?_eq_getElem (by omega)] at this
    rw [term_eta]
    exact this
theorem clone_eq {t : S25} (h : Tn t) : F52_term_clone (S25.f0 t) (S25.f1 t) (S25.f2 t) (S25.f3 t) = ofT t := by
  induction h with
  | mk k n b l h hl ih =>
    show F52_term_clone k n b l = some (k, n, b, l, ())
    rw [F52_term_clone_eq]
    exact clone_l l h ih k n b l 0 0 ByteArray.empty [] l.length 0 (by omega) (by omega)

theorem copy_l (l : List S25) (hl : l.length * 56 ≤ 140737488355328) (hc : ∀ x ∈ l, F45_letheref02_Copy (S25.f0 x) (S25.f1 x) (S25.f2 x) (S25.f3 x) = ofT x) (k n : Int) (b : ByteArray) (o o' : Int) (s : ByteArray) (g : List S25) : ∀ (m i : Nat), l.length - i = m → i ≤ l.length →
    F45_letheref02_Copy_l1000003 l (l.length : Int) (i : Int) o o' s k n b g (l.take i) = some (k, n, b, l, ()) := by
  intro m
  induction m with
  | zero =>
    intro i hm hi
    rw [F45_letheref02_Copy_l1000003_eq, if_neg (by omega), List.take_of_length_le (by omega)]
  | succ m ih =>
    intro i hm hi
    rw [F45_letheref02_Copy_l1000003_eq, if_pos (ilt (by omega)), if_pos (inb (by omega)), rd_lt (by omega : i < l.length), hc _ (List.getElem_mem _)]
    show (if _ then _ else none) = _
    rw [if_pos (by simp only [List.length_take, List.length_singleton]; omega), w64s (n := l.length) (by omega) (by omega)]
    have := ih (i + 1) (by omega) (by omega)
    rw [List.take_add_one, List.getElem?_eq_getElem (by omega)] at this
    rw [term_eta]
    exact this
theorem copy_eq {t : S25} (h : Tn t) : F45_letheref02_Copy (S25.f0 t) (S25.f1 t) (S25.f2 t) (S25.f3 t) = ofT t := by
  induction h with
  | mk k n b l h hl ih =>
    show F45_letheref02_Copy k n b l = some (k, n, b, l, ())
    rw [F45_letheref02_Copy_eq]
    exact copy_l l h ih k n b 0 0 ByteArray.empty [] l.length 0 (by omega) (by omega)

/-! ### boxes: what the code does -/
theorem own_eq {t : S25} (h : okT t) : F39_box_own (S25.f0 t) (S25.f1 t) (S25.f2 t) (S25.f3 t) = if rightT t = 0 then okE t else erT (rightT t) := by
  rw [F39_box_own_eq, right_f h, Option.bind_some]
  by_cases c1 : rightT t = 0
  · have ht : Tn (S25.mk 5 0 ByteArray.empty [t]) := Tn.mk _ _ _ _ (by show 1 * 56 ≤ _; omega) (fun x hx => by rw [List.mem_singleton.1 hx]; exact h.tn)
    rw [if_neg (fun hh => hh c1), if_pos c1, term_eta, F31_term_Of_eq, show F52_term_clone 5 0 ByteArray.empty [t] = ofT (S25.mk 5 0 ByteArray.empty [t]) from clone_eq ht]
    rfl
  · rw [if_pos c1, if_neg c1]; rfl
theorem seal_eq {k : Int} {t : S25} (hk : (Lit.int .u64 k).wf = true) (h : okT t) : F16_box_Seal k (S25.f0 t) (S25.f1 t) (S25.f2 t) (S25.f3 t) = sealV k t := by
  rw [F16_box_Seal_eq, right_f h, Option.bind_some, term_eta]
  unfold sealV
  by_cases c1 : rightT t = 0
  · rw [if_neg (fun hh => hh c1), if_pos c1, show F39_box_own 4 k ByteArray.empty [t] = _ from own_eq (okT.box hk h)]
    by_cases c2 : rightT (boxT k t) = 0
    · rw [if_pos c2]; rfl
    · rw [if_neg c2]; rfl
  · rw [if_pos c1, if_neg c1]; rfl
theorem open_eq {k : Int} {t : S25} (h : okT t) : F19_box_Open k (S25.f0 t) (S25.f1 t) (S25.f2 t) (S25.f3 t) = openV k t := by
  rw [F19_box_Open_eq, right_f h, Option.bind_some]
  unfold openV
  by_cases c1 : rightT t = 0
  · rw [if_neg (fun hh => hh c1), if_pos c1]
    by_cases c2 : S25.f0 t = 4
    · rw [if_neg (fun hh => hh c2), if_pos c2]
      by_cases c3 : S25.f1 t = k
      · obtain ⟨x, e1, e2, e3⟩ := box_is c1 c2
        have h1 := (box_one c1 c2).1
        rw [if_neg (fun hh => hh c3), if_pos c3, if_pos (by omega), e2, own_eq (h.el x e3), if_pos (right_in c1 e3)]
        rfl
      · rw [if_pos c3, if_neg c3]; rfl
    · rw [if_pos c2, if_neg c2]; rfl
  · rw [if_pos c1, if_neg c1]; rfl
theorem rbox_eq {k : Int} {t : S25} (h : okT t) : F44_letheref03_Box k (S25.f0 t) (S25.f1 t) (S25.f2 t) (S25.f3 t) = ofT (boxT k t) := by
  rw [F44_letheref03_Box_eq, copy_eq h.tn]
  simp only [ofT, Option.bind_some, term_eta]
  rfl
theorem rseal_eq {k : Int} {t : S25} (hk : (Lit.int .u64 k).wf = true) (h : okT t) : F18_letheref03_Seal k (S25.f0 t) (S25.f1 t) (S25.f2 t) (S25.f3 t) = sealV k t := by
  rw [F18_letheref03_Seal_eq, rright_f h, Option.bind_some]
  unfold sealV
  by_cases c1 : rightT t = 0
  · rw [if_neg (fun hh => hh c1), if_pos c1, rbox_eq h]
    simp only [ofT, Option.bind_some]
    rw [rright_f (okT.box hk h)]
    simp only [Option.bind_some]
    by_cases c2 : rightT (boxT k t) = 0
    · rw [if_neg (fun hh => hh c2), if_pos c2]; rfl
    · rw [if_pos c2, if_neg c2]; rfl
  · rw [if_pos c1, if_neg c1]; rfl
theorem ropen_eq {k : Int} {t : S25} (h : okT t) : F20_letheref03_Open k (S25.f0 t) (S25.f1 t) (S25.f2 t) (S25.f3 t) = openV k t := by
  rw [F20_letheref03_Open_eq, rright_f h, Option.bind_some]
  unfold openV
  by_cases c1 : rightT t = 0
  · rw [if_neg (fun hh => hh c1), if_pos c1]
    by_cases c2 : S25.f0 t = 4
    · rw [if_neg (fun hh => hh c2), if_pos c2]
      by_cases c3 : S25.f1 t = k
      · obtain ⟨x, e1, e2, e3⟩ := box_is c1 c2
        have h1 := (box_one c1 c2).1
        rw [if_neg (fun hh => hh c3), if_pos c3, if_pos (by omega), e2, copy_eq (h.el x e3).tn]
        rfl
      · rw [if_pos c3, if_neg c3]; rfl
    · rw [if_pos c2, if_neg c2]; rfl
  · rw [if_pos c1, if_neg c1]; rfl
/-- Which answers there are. -/
theorem sealV_is {k : Int} {t : S25} (hk : (Lit.int .u64 k).wf = true) (h : okT t) : (sealV k t = okE (boxT k t) ∧ rightT t = 0 ∧ rightT (boxT k t) = 0) ∨ ∃ e, e ≠ 0 ∧ sealV k t = erT e := by
  unfold sealV
  by_cases c1 : rightT t = 0
  · rw [if_pos c1]
    by_cases c2 : rightT (boxT k t) = 0
    · rw [if_pos c2]; exact .inl ⟨rfl, c1, c2⟩
    · rw [if_neg c2]; exact .inr ⟨_, c2, rfl⟩
  · rw [if_neg c1]; exact .inr ⟨_, c1, rfl⟩
theorem openV_is {k : Int} {t : S25} (h : okT t) : (∃ x, openV k t = okE x ∧ rightT t = 0 ∧ t = boxT k x ∧ rightT x = 0 ∧ okT x) ∨ ∃ e, e ≠ 0 ∧ openV k t = erT e := by
  unfold openV
  by_cases c1 : rightT t = 0
  · rw [if_pos c1]
    by_cases c2 : S25.f0 t = 4
    · rw [if_pos c2]
      by_cases c3 : S25.f1 t = k
      · obtain ⟨x, e1, e2, e3⟩ := box_is c1 c2
        rw [if_pos c3, e2]
        exact .inl ⟨x, rfl, c1, by rw [← c3]; exact e1, right_in c1 e3, h.el x e3⟩
      · rw [if_neg c3]; exact .inr ⟨_, by decide, rfl⟩
    · rw [if_neg c2]; exact .inr ⟨_, by decide, rfl⟩
  · rw [if_neg c1]; exact .inr ⟨_, c1, rfl⟩

/-! ### boxes in boxes: what the code does -/
theorem ofE {t : S25} {α : Type} (F : T5 → Option α) : (okE t).bind F = F (S25.f0 t, S25.f1 t, S25.f2 t, S25.f3 t, 0, ()) := rfl
theorem each_bad (ks : List Int) (hn : ks.length ≤ 8) (e : Int) (he : e ≠ 0) (a b a' b' : Int) (s s' : ByteArray) (l l' : List S25) : ∀ (n i : Nat), ks.length - i = n → i ≤ ks.length →
    F15_box_each_16_l1000005 e ks (ks.length : Int) (i : Int) a b s l a' b' s' l' = some (a, b, s, l, e, ()) := by
  intro n
  induction n with
  | zero => intro i hm hi; rw [F15_box_each_16_l1000005_eq, if_neg (by omega)]
  | succ n ih =>
    intro i hm hi
    rw [F15_box_each_16_l1000005_eq, if_pos (ilt (by omega)), if_pos (inb (by omega)), if_neg he, w64s (n := ks.length) (by omega) (by omega)]
    exact ih (i + 1) (by omega) (by omega)
theorem each_seal (ks : List Int) (hn : ks.length ≤ 8) (hk : ∀ k ∈ ks, (Lit.int .u64 k).wf = true) (a' b' : Int) (s' : ByteArray) (l' : List S25) : ∀ (n i : Nat) (t : S25), ks.length - i = n → i ≤ ks.length → okT t → rightT t = 0 →
    F15_box_each_16_l1000005 0 ks (ks.length : Int) (i : Int) (S25.f0 t) (S25.f1 t) (S25.f2 t) (S25.f3 t) a' b' s' l' = wrapF t (ks.drop i) := by
  intro n
  induction n with
  | zero => intro i t hm hi h hr; rw [F15_box_each_16_l1000005_eq, if_neg (by omega), List.drop_of_length_le (by omega)]; rfl
  | succ n ih =>
    intro i t hm hi h hr
    have hki := hk ks[i] (List.getElem_mem _)
    rw [F15_box_each_16_l1000005_eq, if_pos (ilt (by omega)), if_pos (inb (by omega)), if_pos rfl, w64s (n := ks.length) (by omega) (by omega), rd_lt (by omega : i < ks.length), seal_eq hki h, List.drop_eq_getElem_cons (by omega : i < ks.length), wrapF]
    unfold sealV
    rw [if_pos hr]
    by_cases c1 : rightT (boxT ks[i] t) = 0
    · rw [if_pos c1, if_pos c1, ofE]
      exact ih (i + 1) _ (by omega) (by omega) (okT.box hki h) c1
    · rw [if_neg c1, if_neg c1]
      exact each_bad ks hn _ c1 0 0 a' b' ByteArray.empty s' [] l' _ (i + 1) rfl (by omega)
theorem wrap_eq {t : S25} (h : okT t) {ks : List Int} (hk : ∀ k ∈ ks, (Lit.int .u64 k).wf = true) : F5_box_Wrap (S25.f0 t) (S25.f1 t) (S25.f2 t) (S25.f3 t) ks = wrapV t ks := by
  rw [F5_box_Wrap_eq, F15_box_each_16_eq]
  unfold wrapV
  by_cases c0 : (8 : Int) < (ks.length : Int)
  · rw [if_pos c0, if_pos c0]; rfl
  · rw [if_neg c0, if_neg c0, own_eq h]
    by_cases c1 : rightT t = 0
    · rw [if_pos c1, if_pos c1, ofE]
      rw [show F15_box_each_16_l1000005 0 ks (ks.length : Int) 0 (S25.f0 t) (S25.f1 t) (S25.f2 t) (S25.f3 t) 0 0 ByteArray.empty [] = _ from each_seal ks (by omega) hk 0 0 ByteArray.empty [] _ 0 t rfl (by omega) h c1, List.drop_zero]
      rcases wrapF_is ks t c1 with ⟨q, _⟩ | ⟨e, _, q⟩ <;> rw [q] <;> rfl
    · rw [if_neg c1, if_neg c1]
      show (F15_box_each_16_l1000005 (rightT t) ks (ks.length : Int) 0 0 0 ByteArray.empty [] 0 0 ByteArray.empty []).bind _ = _
      rw [show F15_box_each_16_l1000005 (rightT t) ks (ks.length : Int) 0 0 0 ByteArray.empty [] 0 0 ByteArray.empty [] = _ from each_bad ks (by omega) _ c1 0 0 0 0 ByteArray.empty ByteArray.empty [] [] _ 0 rfl (by omega)]
      rfl
theorem rwrap_l (ks : List Int) (hn : ks.length ≤ 8) (hk : ∀ k ∈ ks, (Lit.int .u64 k).wf = true) (a' b' : Int) (s' : ByteArray) (l' : List S25) : ∀ (n i : Nat) (t : S25), ks.length - i = n → i ≤ ks.length → okT t → rightT t = 0 →
    F6_letheref03_Wrap_l1000006 ks (ks.length : Int) (i : Int) (S25.f0 t) (S25.f1 t) (S25.f2 t) (S25.f3 t) a' b' s' l' = wrapF t (ks.drop i) := by
  intro n
  induction n with
  | zero => intro i t hm hi h hr; rw [F6_letheref03_Wrap_l1000006_eq, if_neg (by omega), List.drop_of_length_le (by omega)]; rfl
  | succ n ih =>
    intro i t hm hi h hr
    have hki := hk ks[i] (List.getElem_mem _)
    rw [F6_letheref03_Wrap_l1000006_eq, if_pos (ilt (by omega)), if_pos (inb (by omega)), w64s (n := ks.length) (by omega) (by omega), rd_lt (by omega : i < ks.length), rseal_eq hki h, List.drop_eq_getElem_cons (by omega : i < ks.length), wrapF]
    unfold sealV
    rw [if_pos hr]
    by_cases c1 : rightT (boxT ks[i] t) = 0
    · rw [if_pos c1, if_pos c1, ofE, if_neg (by simp)]
      exact ih (i + 1) _ (by omega) (by omega) (okT.box hki h) c1
    · rw [if_neg c1, if_neg c1]
      show (if ¬ rightT (boxT ks[i] t) = 0 then _ else _) = _
      rw [if_pos c1]; rfl
theorem rwrap_eq {t : S25} (h : okT t) {ks : List Int} (hk : ∀ k ∈ ks, (Lit.int .u64 k).wf = true) : F6_letheref03_Wrap (S25.f0 t) (S25.f1 t) (S25.f2 t) (S25.f3 t) ks = wrapV t ks := by
  rw [F6_letheref03_Wrap_eq, rright_f h]
  unfold wrapV
  by_cases c0 : (8 : Int) < (ks.length : Int)
  · rw [if_pos c0, if_pos c0]; rfl
  · rw [if_neg c0, if_neg c0]
    simp only [Option.bind_some]
    by_cases c1 : rightT t = 0
    · rw [if_neg (fun hh => hh c1), if_pos c1]
      exact rwrap_l ks (by omega) hk 0 0 ByteArray.empty [] _ 0 t rfl (by omega) h c1
    · rw [if_pos c1, if_neg c1]; rfl

theorem each_obad (ks : List Int) (hn : ks.length ≤ 8) (e : Int) (he : e ≠ 0) (a b a' b' : Int) (s s' : ByteArray) (l l' : List S25) : ∀ (n i : Nat), ks.length - i = n → i ≤ ks.length →
    F15_box_each_19_l1000005 e ks (ks.length : Int) (i : Int) a b s l a' b' s' l' = some (a, b, s, l, e, ()) := by
  intro n
  induction n with
  | zero => intro i hm hi; rw [F15_box_each_19_l1000005_eq, if_neg (by omega)]
  | succ n ih =>
    intro i hm hi
    rw [F15_box_each_19_l1000005_eq, if_pos (ilt (by omega)), if_pos (inb (by omega)), if_neg he, w64s (n := ks.length) (by omega) (by omega)]
    exact ih (i + 1) (by omega) (by omega)
theorem each_open (ks : List Int) (hn : ks.length ≤ 8) (a' b' : Int) (s' : ByteArray) (l' : List S25) : ∀ (n i : Nat) (t : S25), ks.length - i = n → i ≤ ks.length → okT t → rightT t = 0 →
    F15_box_each_19_l1000005 0 ks (ks.length : Int) (i : Int) (S25.f0 t) (S25.f1 t) (S25.f2 t) (S25.f3 t) a' b' s' l' = unwrapF t (ks.drop i) := by
  intro n
  induction n with
  | zero => intro i t hm hi h hr; rw [F15_box_each_19_l1000005_eq, if_neg (by omega), List.drop_of_length_le (by omega)]; rfl
  | succ n ih =>
    intro i t hm hi h hr
    rw [F15_box_each_19_l1000005_eq, if_pos (ilt (by omega)), if_pos (inb (by omega)), if_pos rfl, w64s (n := ks.length) (by omega) (by omega), rd_lt (by omega : i < ks.length), open_eq h, List.drop_eq_getElem_cons (by omega : i < ks.length), unwrapF]
    unfold openV
    rw [if_pos hr]
    by_cases c1 : S25.f0 t = 4
    · rw [if_pos c1, if_pos c1]
      by_cases c2 : S25.f1 t = ks[i]
      · obtain ⟨x, e1, e2, e3⟩ := box_is hr c1
        rw [if_pos c2, if_pos c2, e2, ofE]
        exact ih (i + 1) x (by omega) (by omega) (h.el x e3) (right_in hr e3)
      · rw [if_neg c2, if_neg c2]
        exact each_obad ks hn _ (by decide) 0 0 a' b' ByteArray.empty s' [] l' _ (i + 1) rfl (by omega)
    · rw [if_neg c1, if_neg c1]
      exact each_obad ks hn _ (by decide) 0 0 a' b' ByteArray.empty s' [] l' _ (i + 1) rfl (by omega)
theorem each_o {t : S25} (h : okT t) (ks : List Int) : F15_box_each_19 (S25.f0 t) (S25.f1 t) (S25.f2 t) (S25.f3 t) ks = if (8 : Int) < (ks.length : Int) then erT 2 else if rightT t = 0 then unwrapF t ks else erT (rightT t) := by
  rw [F15_box_each_19_eq]
  by_cases c0 : (8 : Int) < (ks.length : Int)
  · rw [if_pos c0, if_pos c0]; rfl
  · rw [if_neg c0, if_neg c0, own_eq h]
    by_cases c1 : rightT t = 0
    · rw [if_pos c1, if_pos c1, ofE]
      exact each_open ks (by omega) 0 0 ByteArray.empty [] _ 0 t rfl (by omega) h c1
    · rw [if_neg c1, if_neg c1]
      exact each_obad ks (by omega) _ c1 0 0 0 0 ByteArray.empty ByteArray.empty [] [] _ 0 rfl (by omega)
theorem unwrapF_some : ∀ (ks : List Int) (t : S25), ∃ a b s l e, unwrapF t ks = some (a, b, s, l, e, ())
  | [], t => ⟨_, _, _, _, _, rfl⟩
  | k :: ks, t => by
    rw [unwrapF]
    by_cases c1 : S25.f0 t = 4
    · rw [if_pos c1]
      by_cases c2 : S25.f1 t = k
      · rw [if_pos c2]; exact unwrapF_some ks _
      · rw [if_neg c2]; exact ⟨_, _, _, _, _, rfl⟩
    · rw [if_neg c1]; exact ⟨_, _, _, _, _, rfl⟩
theorem unwrap_l (ks : List Int) (hn : ks.length * 8 ≤ 140737488355328) (a b a' b' : Int) (s s' : ByteArray) (l l' : List S25) : ∀ (n i : Nat), ks.length - i = n → i ≤ ks.length →
    F7_box_Unwrap_l1000003 ks (ks.length : Int) (i : Int) a b s l a' b' s' (ks.reverse.take i) l' = (F15_box_each_19 a b s l ks.reverse).bind fun y => some (y.1, y.2.1, y.2.2.1, y.2.2.2.1, y.2.2.2.2.1, ()) := by
  intro n
  induction n with
  | zero => intro i hm hi; rw [F7_box_Unwrap_l1000003_eq, if_neg (by omega), List.take_of_length_le (by simp; omega)]
  | succ n ih =>
    intro i hm hi
    have e1 : IntKind.i64.wrap ((ks.length : Int) - 1) = ((ks.length - 1 : Nat) : Int) := w64p (by omega) (by omega)
    have e2 : IntKind.i64.wrap (((ks.length - 1 : Nat) : Int) - (i : Int)) = ((ks.length - 1 - i : Nat) : Int) := by rw [w64 (by omega) (by omega)]; omega
    rw [F7_box_Unwrap_l1000003_eq, if_pos (ilt (by omega))]
    simp only [e1, e2]
    rw [if_pos (inb (by omega)), if_pos (by rw [List.length_take, List.length_reverse, List.length_singleton]; omega), w64s (n := ks.length) (by omega) (by omega)]
    have := ih (i + 1) (by omega) (by omega)
    rw [List.take_add_one, List.getElem?_eq_getElem (by simp; omega), List.getElem_reverse] at this
    rw [rd_lt (by omega)]
    exact this
theorem unwrap_eq {t : S25} (h : okT t) {ks : List Int} (hn : ks.length * 8 ≤ 140737488355328) : F7_box_Unwrap (S25.f0 t) (S25.f1 t) (S25.f2 t) (S25.f3 t) ks = unwrapV t ks := by
  rw [F7_box_Unwrap_eq, if_pos (by omega)]
  have := unwrap_l ks hn (S25.f0 t) (S25.f1 t) 0 0 (S25.f2 t) ByteArray.empty (S25.f3 t) [] _ 0 rfl (by omega)
  rw [List.take_zero] at this
  rw [show F7_box_Unwrap_l1000003 ks (ks.length : Int) 0 (S25.f0 t) (S25.f1 t) (S25.f2 t) (S25.f3 t) 0 0 ByteArray.empty [] [] = _ from this, each_o h, List.length_reverse]
  unfold unwrapV
  by_cases c0 : (8 : Int) < (ks.length : Int)
  · rw [if_pos c0]; rfl
  · rw [if_neg c0]
    by_cases c1 : rightT t = 0
    · rw [if_pos c1]
      obtain ⟨a, b, s, l, e, q⟩ := unwrapF_some ks.reverse t
      rw [q]; rfl
    · rw [if_neg c1]; rfl

theorem likeT_l (l : List S25) (hl : l.length * 56 ≤ 140737488355328) (hc : ∀ x ∈ l, F9_letheref02_Like (S25.f0 x) (S25.f1 x) (S25.f2 x) (S25.f3 x) (S25.f0 x) (S25.f1 x) (S25.f2 x) (S25.f3 x) = some (true, ())) (a b a' b' : Int) (s s' : ByteArray) : ∀ (m i : Nat), l.length - i = m → i ≤ l.length →
    F9_letheref02_Like_l1000004 (l.length : Int) (i : Int) a b s l a' b' s' l = some (true, ()) := by
  intro m
  induction m with
  | zero =>
    intro i hm hi
    rw [F9_letheref02_Like_l1000004_eq, if_neg (by omega)]
  | succ m ih =>
    intro i hm hi
    rw [F9_letheref02_Like_l1000004_eq, if_pos (ilt (by omega)), if_pos (inb (by omega)), if_pos (inb (by omega)), rd_lt (by omega : i < l.length), hc _ (List.getElem_mem _), Option.bind_some, w64s (n := l.length) (by omega) (by omega), ih (i + 1) (by omega) (by omega)]
    rfl
theorem likeT_self {t : S25} (h : Tn t) : F9_letheref02_Like (S25.f0 t) (S25.f1 t) (S25.f2 t) (S25.f3 t) (S25.f0 t) (S25.f1 t) (S25.f2 t) (S25.f3 t) = some (true, ()) := by
  induction h with
  | mk k n b l h hl ih =>
    show F9_letheref02_Like k n b l k n b l = some (true, ())
    rw [F9_letheref02_Like_eq, if_neg (by simp), if_neg (by simp), if_neg (by simp), if_neg (by simp)]
    exact likeT_l l h ih k n k n b b l.length 0 (by omega) (by omega)

theorem wf_u64 {x : Int} (h : (Lit.int .u64 x).wf = true) : 0 ≤ x ∧ x < 18446744073709551616 := by
  simp [Lit.wf, IntKind.min, IntKind.max, IntKind.bits, IntKind.signed] at h
  omega
theorem wf_i64 {x : Int} (h : (Lit.int .i64 x).wf = true) : -9223372036854775808 ≤ x ∧ x ≤ 9223372036854775807 := by
  simp [Lit.wf, IntKind.min, IntKind.max, IntKind.bits, IntKind.signed] at h
  omega
theorem wrap_u64 {n : Int} (h0 : 0 ≤ n) (h1 : n < 18446744073709551616) : IntKind.u64.wrap n = n := by
  have h : IntKind.u64.wrap n = n % 18446744073709551616 := by simp [IntKind.wrap, IntKind.bits, IntKind.signed]
  rw [h]; omega

theorem runwrap_l (ks : List Int) (hn : ks.length ≤ 8) (a' b' : Int) (s' : ByteArray) (l' : List S25) : ∀ (n : Nat) (t : S25), n ≤ ks.length → okT t → rightT t = 0 →
    F8_letheref03_Unwrap_l1000006 ks ((n : Int) - 1) (S25.f0 t) (S25.f1 t) (S25.f2 t) (S25.f3 t) a' b' s' l' = unwrapF t (ks.take n).reverse := by
  intro n
  induction n with
  | zero => intro t hn h hr; rw [F8_letheref03_Unwrap_l1000006_eq, if_neg (by omega), List.take_zero, List.reverse_nil]; rfl
  | succ n ih =>
    intro t hm h hr
    have e0 : ((n + 1 : Nat) : Int) - 1 = (n : Int) := by omega
    have e1 : IntKind.i64.wrap ((n : Int) - 1) = (n : Int) - 1 := w64 (by omega) (by omega)
    rw [F8_letheref03_Unwrap_l1000006_eq, e0, if_pos (by omega), if_pos (inb (by omega)), e1, rd_lt (by omega : n < ks.length), ropen_eq h, List.take_succ_eq_append_getElem (by omega : n < ks.length), List.reverse_append, List.reverse_singleton, List.singleton_append, unwrapF]
    unfold openV
    rw [if_pos hr]
    by_cases c1 : S25.f0 t = 4
    · rw [if_pos c1, if_pos c1]
      by_cases c2 : S25.f1 t = ks[n]
      · obtain ⟨x, q1, q2, q3⟩ := box_is hr c1
        rw [if_pos c2, if_pos c2, q2, ofE, if_neg (by simp)]
        exact ih x (by omega) (h.el x q3) (right_in hr q3)
      · rw [if_neg c2, if_neg c2]; rfl
    · rw [if_neg c1, if_neg c1]; rfl
theorem runwrap_eq {t : S25} (h : okT t) (ks : List Int) : F8_letheref03_Unwrap (S25.f0 t) (S25.f1 t) (S25.f2 t) (S25.f3 t) ks = unwrapV t ks := by
  rw [F8_letheref03_Unwrap_eq, rright_f h]
  unfold unwrapV
  by_cases c0 : (8 : Int) < (ks.length : Int)
  · rw [if_pos c0, if_pos c0]; rfl
  · rw [if_neg c0, if_neg c0]
    simp only [Option.bind_some]
    by_cases c1 : rightT t = 0
    · rw [if_neg (fun hh => hh c1), if_pos c1, w64 (by omega) (by omega)]
      have := runwrap_l ks (by omega) 0 0 ByteArray.empty [] ks.length t (Nat.le_refl _) h c1
      rw [List.take_length] at this
      exact this
    · rw [if_pos c1, if_neg c1]; rfl
/-- What is answered is a term that may be, and an error. -/
def Fine (y : Option T5) : Prop := ∃ x : S25, ∃ e : Int, Tn x ∧ y = some (S25.f0 x, S25.f1 x, S25.f2 x, S25.f3 x, e, ())
theorem fine_er (e : Int) : Fine (erT e) := ⟨S25.z, e, (okT.leaf (show (Lit.int .i64 0).wf = true by decide) (show (Lit.int .u64 0).wf = true by decide) (show ByteArray.empty.size ≤ 140737488351232 by decide) : okT (S25.mk 0 0 ByteArray.empty [])).tn, rfl⟩
theorem fine_ok {t : S25} (h : okT t) : Fine (okE t) := ⟨t, 0, h.tn, rfl⟩
theorem wrapF_fine : ∀ (ks : List Int) (t : S25), (∀ k ∈ ks, (Lit.int .u64 k).wf = true) → okT t → Fine (wrapF t ks)
  | [], t, _, h => fine_ok h
  | k :: ks, t, hk, h => by
    rw [wrapF]
    by_cases c : rightT (boxT k t) = 0
    · rw [if_pos c]; exact wrapF_fine ks _ (fun j hj => hk j (by simp [hj])) (okT.box (hk k (by simp)) h)
    · rw [if_neg c]; exact fine_er _
theorem unwrapF_fine : ∀ (ks : List Int) (t : S25), okT t → rightT t = 0 → Fine (unwrapF t ks)
  | [], t, h, _ => fine_ok h
  | k :: ks, t, h, hr => by
    rw [unwrapF]
    by_cases c1 : S25.f0 t = 4
    · rw [if_pos c1]
      by_cases c2 : S25.f1 t = k
      · obtain ⟨x, q1, q2, q3⟩ := box_is hr c1
        rw [if_pos c2, q2]; exact unwrapF_fine ks x (h.el x q3) (right_in hr q3)
      · rw [if_neg c2]; exact fine_er _
    · rw [if_neg c1]; exact fine_er _
theorem law (a b : Int) (s : ByteArray) (l : List S25) (ks : List Int) (h0 : Ok tab Pr (.int .i64) a) (h1 : Ok tab Pr (.int .u64) b) (h2 : Ok tab Pr .str s) (h3 : Ok tab Pr (.sl 25 (.st 25)) l) (h4 : Ok tab Pr (.sl 22 (.int .u64)) ks) : F3_lethelaw03_BoxWraps a b s l ks = some (true, ()) := by
  have h : okT (S25.mk a b s l) := okT_of _ _ (Nat.lt_succ_self _) h0 h1 h2 h3
  have hk : ∀ k ∈ ks, (Lit.int .u64 k).wf = true := by
    intro k hk
    obtain ⟨i, hi, rfl⟩ := List.getElem_of_mem hk
    exact Ok.inv ((Ok.inv h4).2.2 i ks[i] 0 ⟨.int .u64, ks[i]⟩ (List.getElem?_eq_getElem hi) rfl)
  have hl : ks.length * 8 ≤ 140737488355328 := by
    have h9 : ks.length * Pr.bytesOf 22 ≤ 140737488351232 := (Ok.inv h4).1
    have hb : Pr.bytesOf 22 = 8 := by kernel_rfl
    rw [hb] at h9
    omega
  rw [F3_lethelaw03_BoxWraps_eq, show F5_box_Wrap a b s l ks = _ from wrap_eq h hk, show F6_letheref03_Wrap a b s l ks = _ from rwrap_eq h hk, show F7_box_Unwrap a b s l ks = _ from unwrap_eq h hl, show F8_letheref03_Unwrap a b s l ks = _ from runwrap_eq h ks]
  have f1 : Fine (wrapV (S25.mk a b s l) ks) := by
    unfold wrapV
    split
    · exact fine_er _
    · split
      · exact wrapF_fine _ _ hk h
      · exact fine_er _
  have f2 : Fine (unwrapV (S25.mk a b s l) ks) := by
    unfold unwrapV
    split
    · exact fine_er _
    · split
      · exact unwrapF_fine _ _ h (by assumption)
      · exact fine_er _
  obtain ⟨x, e1, t1, q1⟩ := f1
  obtain ⟨y, e2, t2, q2⟩ := f2
  rw [q1, q2]
  simp only [Option.bind_some, if_true]
  rw [likeT_self t1, Option.bind_some, likeT_self t2]
  simp

end
end Go.Proofs.Ytfojcadooepgpaa.BoxWrapsp
