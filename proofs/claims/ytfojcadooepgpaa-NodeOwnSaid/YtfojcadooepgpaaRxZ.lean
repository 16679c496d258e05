/- A plain evaluator over the translated code: what a law's arguments read as. Under no condition. -/
import Derived.Test.YtfojcadooepgpaaRxN
import Derived.ChangeArms
import Derived.ChangeShapes
import Derived.SizedLaws
import Derived.DataReads
import Derived.ChangeOld
import Derived.DataElems
set_option linter.unusedVariables false
set_option linter.unusedSimpArgs false
namespace Go.Proofs.Ytfojcadooepgpaa.Rx
open Go Go.RowKit

section
variable {T : Tab} {P : Program}
/-- What is known of data that came in. -/
inductive Ok (T : Tab) (P : Program) : (t : Ty) → den T.S t → Prop
  | int (k : IntKind) (n : Int) (h : (Lit.int k n).wf = true) : Ok T P (.int k) n
  | bool (b : Bool) : Ok T P .bool b
  | str (s : ByteArray) (h : s.size ≤ 140737488351232) : Ok T P .str s
  | sl (e : TypeId) (t : Ty) (xs : List (den T.S t)) (h1 : xs.length * P.bytesOf e ≤ 140737488351232) (h2 : xs.length ≤ maxLen)
      (h3 : ∀ (i : Nat) x (j : Nat) d, xs[i]? = some x → (lv T t x)[j]? = some d → Ok T P d.1 d.2) : Ok T P (.sl e t) xs
def SlOk (T : Tab) (P : Program) (e : TypeId) (t : Ty) (xs : List (den T.S t)) : Prop :=
  xs.length * P.bytesOf e ≤ 140737488351232 ∧ xs.length ≤ maxLen ∧ ∀ (i : Nat) x (j : Nat) d, xs[i]? = some x → (lv T t x)[j]? = some d → Ok T P d.1 d.2
def OkInv (T : Tab) (P : Program) : (t : Ty) → den T.S t → Prop
  | .int k, n => (Lit.int k n).wf = true
  | .bool, _ => True
  | .str, s => s.size ≤ 140737488351232
  | .sl e t, xs => SlOk T P e t xs
  | _, _ => False
theorem Ok.inv {t : Ty} {x : den T.S t} (h : Ok T P t x) : OkInv T P t x := by
  cases h with
  | int k n h => exact h
  | bool b => trivial
  | str s h => exact h
  | sl e t xs h1 h2 h3 => exact ⟨h1, h2, h3⟩
/-- The cells of a type's value. -/
def leafF (f : TypeId → Option (List Ty)) (P : Program) : List Field → Nat → Option (List Ty)
  | [], _ => some []
  | fd :: r, off => bif Nat.beq fd.offset off then
      (match f fd.type with
      | some l => bif Nat.beq (P.cellsOf fd.type) l.length then (match leafF f P r (off + l.length) with | some l' => some (l ++ l') | none => none) else none
      | none => none) else none
def leaves (P : Program) : Nat → TypeId → Option (List Ty)
  | 0, _ => none
  | k + 1, t => match P.underlying t with
    | some (.struct fs) => (match leafF (leaves P k) P fs.toList 0 with | some l => bif Nat.beq (P.cellsOf t) l.length then some l else none | none => none)
    | _ => match tyOf P 4 t with | some ty => some [ty] | none => none
def okTy (L : List TypeId) : Ty → Bool
  | .sl _ t => okTy L t | .st n => memN L n | .mp _ _ => false | .it => false | _ => true
def okTys (L : List TypeId) : List Ty → Bool
  | [] => true | t :: r => okTy L t && okTys L r
def eqTy : List Ty → List Ty → Bool
  | [], [] => true | a :: l, b :: r => (match decEq a b with | isTrue _ => eqTy l r | isFalse _ => false) | _, _ => false
theorem eqTy_ok : ∀ {l r : List Ty}, eqTy l r = true → l = r
  | [], [], _ => rfl
  | a :: l, b :: r, h => by
    simp only [eqTy] at h
    split at h
    · rename_i e _; rw [e, eqTy_ok h]
    · cases h
  | [], _ :: _, h => by cases h
  | _ :: _, [], h => by cases h
/-- The structs of a table are as the program has them. -/
def okS (P : Program) (fs : TypeId → List Ty) (L : List TypeId) : List TypeId → Bool
  | [] => true
  | n :: r => (match leaves P 9 n with | some l => eqTy l (fs n) && (Nat.beq (P.cellsOf n) (fs n).length && Nat.ble 1 (fs n).length && okTys L (fs n)) | none => false) && okS P fs L r
theorem okS_ok {fs : TypeId → List Ty} {L : List TypeId} : ∀ {l : List TypeId}, okS P fs L l = true → ∀ n ∈ l, leaves P 9 n = some (fs n) ∧ P.cellsOf n = (fs n).length ∧ 1 ≤ (fs n).length ∧ okTys L (fs n) = true
  | [], _, n, h => by cases h
  | m :: r, ho, n, h => by
    simp only [okS, Bool.and_eq_true] at ho
    rcases List.mem_cons.1 h with rfl | h
    · have h1 := ho.1
      split at h1
      · rename_i l hl
        simp only [Bool.and_eq_true] at h1
        rw [hl, eqTy_ok h1.1]
        exact ⟨rfl, Nat.eq_of_beq_eq_true h1.2.1.1, Nat.le_of_ble_eq_true h1.2.1.2, h1.2.2⟩
      · cases h1
    · exact okS_ok ho.2 n h
theorem okTys_mem {L : List TypeId} : ∀ {l : List Ty}, okTys L l = true → ∀ t ∈ l, okTy L t = true
  | [], _, t, h => by cases h
  | a :: l, ho, t, h => by
    simp only [okTys, Bool.and_eq_true] at ho
    rcases List.mem_cons.1 h with rfl | h
    · exact ho.1
    · exact okTys_mem ho.2 t h

/-! ### bulk -/
mutual
/-- How many values and letters a reading holds. -/
def bulk {H : Type} : DataW H → Nat
  | .lit (.string bytes) => bytes.length + 1
  | .lit _ => 1
  | .nil => 1
  | .ptr d => bulk d + 1
  | .slice elems spare => bulkAll elems + bulkAll spare + 1
  | .agg parts => bulkAll parts + 1
  | .iface _ d => bulk d + 1
  | .map entries => bulkEntries entries + 1
  | .held _ => 1
def bulkAll {H : Type} : List (DataW H) → Nat
  | [] => 0
  | d :: r => bulk d + bulkAll r
def bulkEntries {H : Type} : List (Lit × DataW H) → Nat
  | [] => 0
  | x :: r => bulkEntry x + bulkEntries r
def bulkEntry {H : Type} : Lit × DataW H → Nat
  | (.string bytes, d) => bytes.length + bulk d + 1
  | (_, d) => bulk d + 1
end
/-- Data hold no more values and letters than so many. -/
inductive Bk (T : Tab) : List (DL T) → Nat → Prop
  | nil (n : Nat) : Bk T [] n
  | int (k : IntKind) (x : Int) (r : List (DL T)) (n : Nat) (h : Bk T r n) : Bk T (⟨.int k, x⟩ :: r) (n + 1)
  | bool (x : Bool) (r : List (DL T)) (n : Nat) (h : Bk T r n) : Bk T (⟨.bool, x⟩ :: r) (n + 1)
  | str (s : ByteArray) (r : List (DL T)) (n : Nat) (h : Bk T r n) : Bk T (⟨.str, s⟩ :: r) (n + (s.size + 1))
  | sl (e : TypeId) (t : Ty) (xs : List (den T.S t)) (r : List (DL T)) (m n : Nat) (h1 : Bk T (xs.flatMap (lv T t)) m) (h : Bk T r n) : Bk T (⟨.sl e t, xs⟩ :: r) (n + (m + 1))
theorem Bk.le {l : List (DL T)} {n : Nat} (h : Bk T l n) : ∀ {m : Nat}, n ≤ m → Bk T l m := by
  induction h with
  | nil n => exact fun _ => .nil _
  | int k x r n h ih => intro m hm; obtain ⟨m', rfl⟩ : ∃ m', m = m' + 1 := ⟨m - 1, by omega⟩; exact .int k x r m' (ih (by omega))
  | bool x r n h ih => intro m hm; obtain ⟨m', rfl⟩ : ∃ m', m = m' + 1 := ⟨m - 1, by omega⟩; exact .bool x r m' (ih (by omega))
  | str s r n h ih => intro m hm; obtain ⟨m', rfl⟩ : ∃ m', m = m' + (s.size + 1) := ⟨m - (s.size + 1), by omega⟩; exact .str s r m' (ih (by omega))
  | sl e t xs r k n h1 h ih1 ih => intro m hm; obtain ⟨m', rfl⟩ : ∃ m', m = m' + (k + 1) := ⟨m - (k + 1), by omega⟩; exact .sl e t xs r k m' h1 (ih (by omega))
theorem Bk.app {l r : List (DL T)} {n m : Nat} (h : Bk T l n) (h2 : Bk T r m) : Bk T (l ++ r) (n + m) := by
  induction h with
  | nil n => exact h2.le (by omega)
  | int k x r' n h ih => exact (Bk.int k x _ _ ih).le (by omega)
  | bool x r' n h ih => exact (Bk.bool x _ _ ih).le (by omega)
  | str s r' n h ih => exact (Bk.str s _ _ ih).le (by omega)
  | sl e t xs r' k n h1 h ih1 ih => exact (Bk.sl e t xs _ _ _ h1 ih).le (by omega)
theorem Bk.int_inv {k : IntKind} {x : Int} {r : List (DL T)} {n : Nat} (h : Bk T (⟨.int k, x⟩ :: r) n) : ∃ m, n = m + 1 ∧ Bk T r m := by
  cases h with
  | int _ _ _ m h => exact ⟨m, rfl, h⟩
theorem Bk.bool_inv {x : Bool} {r : List (DL T)} {n : Nat} (h : Bk T (⟨.bool, x⟩ :: r) n) : ∃ m, n = m + 1 ∧ Bk T r m := by
  cases h with
  | bool _ _ m h => exact ⟨m, rfl, h⟩
theorem Bk.str_inv {s : ByteArray} {r : List (DL T)} {n : Nat} (h : Bk T (⟨.str, s⟩ :: r) n) : ∃ m, n = m + (s.size + 1) ∧ Bk T r m := by
  cases h with
  | str _ _ m h => exact ⟨m, rfl, h⟩
theorem Bk.sl_inv {e : TypeId} {t : Ty} {xs : List (den T.S t)} {r : List (DL T)} {n : Nat} (h : Bk T (⟨.sl e t, xs⟩ :: r) n) : ∃ m k, n = m + (k + 1) ∧ Bk T (xs.flatMap (lv T t)) k ∧ Bk T r m := by
  cases h with
  | sl _ _ _ _ k m h1 h => exact ⟨m, k, rfl, h1, h⟩
theorem flat_bk {H : Type} {t : Ty} : ∀ {xs : List (den T.S t)} {es : List (DataW H)}, xs.length = es.length → (∀ (i : Nat) x d, xs[i]? = some x → es[i]? = some d → Bk T (lv T t x) (bulk d)) → Bk T (xs.flatMap (lv T t)) (bulkAll es)
  | [], es, _, _ => .nil _
  | x :: xs, [], h, _ => by cases h
  | x :: xs, e :: es, h, hb => by
    rw [List.flatMap_cons, bulkAll]
    exact (hb 0 x e rfl rfl).app (flat_bk (by simpa using h) fun i x d hx hd => hb (i + 1) x d (by simpa using hx) (by simpa using hd))

/-! ### arguments -/
def RO (T : Tab) (P : Program) (w : World) (d : DL T) (v : Value) : Prop := RD T w (fun b _ => b < w.heap.size) d.1 d.2 v ∧ Ok T P d.1 d.2
theorem tyOf_succ : ∀ (n : Nat) {t : TypeId} {ty : Ty}, tyOf P n t = some ty → tyOf P (n + 1) t = some ty
  | 0, t, ty, h => by cases h
  | n + 1, t, ty, h => by
    rw [tyOf] at h
    rw [tyOf]
    split at h
    · exact h
    · exact h
    · exact h
    · split at h
      · rename_i e _ ty' hty
        simp only [tyOf_succ n hty]
        exact h
      · cases h
    · exact h
    · cases h
theorem tyOf_le {n m : Nat} (hnm : n ≤ m) {t : TypeId} {ty : Ty} (h : tyOf P n t = some ty) : tyOf P m t = some ty := by
  obtain ⟨d, rfl⟩ := Nat.exists_eq_add_of_le hnm
  induction d with
  | zero => exact h
  | succ d ih => exact tyOf_succ _ (ih (by omega))
theorem flat_ok {L : List TypeId} (hL : okS P T.fs L L = true) {m : Nat} (hm : m ≤ 4) {e : TypeId} {te : Ty} (hte : tyOf P m e = some te) (ho : okTy L te = true) :
    leaves P 9 e = some (flat T te) ∧ okTys L (flat T te) = true ∧ 1 ≤ (flat T te).length := by
  have mem : ∀ {l : List TypeId} {n : TypeId}, memN l n = true → n ∈ l := by
    intro l n hn
    induction l with
    | nil => cases hn
    | cons x l ih =>
      simp only [memN, Bool.or_eq_true] at hn
      rcases hn with hn | hn
      · rw [Nat.eq_of_beq_eq_true hn]; exact List.mem_cons_self
      · exact List.mem_cons_of_mem _ (ih hn)
  have h4 := tyOf_le hm hte
  have plain : ∀ ty, tyOf P 4 e = some ty → (∀ n, ty ≠ .st n) → leaves P 9 e = some [ty] := by
    intro ty h hn
    unfold leaves
    split
    · rename_i fs hu
      unfold tyOf at h
      rw [hu] at h
      cases h
      exact absurd rfl (hn _)
    · rw [h]
  cases te with
  | st n =>
    have hne : n = e := by
      unfold tyOf at h4
      split at h4 <;> try (first | cases h4 | skip)
      · split at h4 <;> cases h4
      · rfl
    subst hne
    obtain ⟨h1, h2, h3, h5⟩ := okS_ok hL n (mem ho)
    exact ⟨h1, h5, h3⟩
  | int k => exact ⟨plain _ h4 (fun _ h => by cases h), rfl, by simp [flat]⟩
  | bool => exact ⟨plain _ h4 (fun _ h => by cases h), rfl, by simp [flat]⟩
  | str => exact ⟨plain _ h4 (fun _ h => by cases h), rfl, by simp [flat]⟩
  | sl e' t' => exact ⟨plain _ h4 (fun _ h => by cases h), by simp only [flat, okTys, okTy] at ho ⊢; simp [ho], by simp [flat]⟩
  | mp _ _ => cases ho
  | it => cases ho
theorem hl_of : ∀ {ts : List Ty} {ds : List (DL T)}, ds.map (·.1) = ts → ∃ h : HL T.S ts, toDL T ts h = ds
  | [], [], _ => ⟨(), rfl⟩
  | t :: ts, d :: ds, h => by
    simp only [List.map_cons, List.cons.injEq] at h
    obtain ⟨rfl, h⟩ := h
    obtain ⟨r, hr⟩ := hl_of h
    exact ⟨(d.2, r), by simp only [toDL, hr]⟩
  | [], _ :: _, h => by cases h
  | _ :: _, [], h => by cases h
theorem lv_of {t : Ty} {ds : List (DL T)} (h : ds.map (·.1) = flat T t) : ∃ x, lv T t x = ds := by
  have one : ∀ {ty : Ty}, ds.map (·.1) = [ty] → ∃ x : den T.S ty, [(⟨ty, x⟩ : DL T)] = ds := by
    intro ty h
    match ds, h with
    | [d], h =>
      simp only [List.map_cons, List.map_nil, List.cons.injEq, and_true] at h
      subst h
      exact ⟨d.2, rfl⟩
  cases t with
  | st n =>
    obtain ⟨h', hh⟩ := hl_of (ts := T.fs n) h
    refine ⟨T.pk n h', ?_⟩
    show toDL T (T.fs n) (T.out n (T.pk n h')) = ds
    rw [T.out_pk]
    exact hh
  | int k => exact one h
  | bool => exact one h
  | str => exact one h
  | sl e t => exact one h
  | mp k v => exact one h
  | it => exact one h
theorem weights_all {H : Type} {e : TypeId} : ∀ {l : List (DataW H)} {j : Nat} {d : DataW H}, l[j]? = some d → ∀ m ∈ d.weights P e, m ∈ DataW.weightsAll P e l
  | [], _, _, h, _, _ => by simp at h
  | d0 :: l, 0, d, h, m, hm => by
    simp only [List.getElem?_cons_zero, Option.some.injEq] at h
    subst h
    simp only [DataW.weightsAll, List.mem_append]
    exact Or.inl hm
  | d0 :: l, j + 1, d, h, m, hm => by
    simp only [List.getElem?_cons_succ] at h
    simp only [DataW.weightsAll, List.mem_append]
    exact Or.inr (weights_all h m hm)
theorem list_of {α : Type} {n : Nat} {R : Nat → α → Prop} (h : ∀ i, i < n → ∃ y, R i y) : ∃ ys : List α, ys.length = n ∧ ∀ i y, ys[i]? = some y → R i y := by
  induction n with
  | zero => exact ⟨[], rfl, fun i y hy => by simp at hy⟩
  | succ n ih =>
    obtain ⟨ys, hl, hy⟩ := ih (fun i hi => h i (by omega))
    obtain ⟨z, hz⟩ := h n (by omega)
    refine ⟨ys ++ [z], by simp [hl], fun i y hi => ?_⟩
    rcases Nat.lt_or_ge i n with hlt | hge
    · rw [List.getElem?_append_left (by omega)] at hi
      exact hy i y hi
    · rw [List.getElem?_append_right (by omega)] at hi
      have : i = n := by
        have := (List.getElem?_eq_some_iff.1 hi).1
        simp at this
        omega
      subst this
      simp [hl] at hi
      rw [← hi]
      exact hz
theorem addr_add (b o k : Nat) : Addr.add ⟨b, o, none⟩ k = ⟨b, o + k, none⟩ := by
  unfold Addr.add
  split
  · rename_i h; subst h; rfl
  · rfl
def OpensN (T : Tab) (P : Program) (L : List TypeId) (n : Nat) : Prop :=
  ∀ (k : Nat) (t : TypeId) (ls : List Ty), leaves P k t = some ls → okTys L ls = true → ∀ {H : Type} (enc : TypeId × Value → H) (w : World) (cs : List Value) (x : DataW H × List MemPlace),
    DataW.trod enc P w 0 (fun _ => true) true n t cs = some x → (∀ m ∈ x.1.weights P t, m ≤ reachBytes) → ∃ ds : List (DL T), ds.map (·.1) = ls ∧ All2 (RO T P w) ds cs ∧ Bk T ds (bulk x.1)
theorem okTys_app {L : List TypeId} : ∀ {l r : List Ty}, okTys L (l ++ r) = true → okTys L l = true ∧ okTys L r = true
  | [], r, h => ⟨rfl, h⟩
  | a :: l, r, h => by
    simp only [List.cons_append, okTys, Bool.and_eq_true] at h ⊢
    have := okTys_app h.2
    exact ⟨⟨h.1, this.1⟩, this.2⟩
theorem fields_ok {L : List TypeId} {n k : Nat} (hn : OpensN T P L n) : ∀ (fl : List Field) (off : Nat) (ls : List Ty), leafF (leaves P k) P fl off = some ls → okTys L ls = true → ∀ {H : Type} (enc : TypeId × Value → H) (w : World) (cs : List Value) (xs : List (DataW H × List MemPlace)), xs.length = fl.length →
    (∀ (i : Nat) (f : Field), fl[i]? = some f → DataW.trod enc P w 0 (fun _ => true) true n f.type ((cs.drop f.offset).take (P.cellsOf f.type)) = xs[i]?) →
    (∀ m ∈ DataW.weightsEach P (fl.map (·.type)) (xs.map (·.1)), m ≤ reachBytes) → ∃ ds : List (DL T), ds.map (·.1) = ls ∧ All2 (RO T P w) ds ((cs.drop off).take ls.length) ∧ Bk T ds (bulkAll (xs.map (·.1)))
  | [], off, ls, hl, ho, H, enc, w, cs, xs, hx, hf, hw => by cases hl; exact ⟨[], rfl, by simp [All2], .nil _⟩
  | f :: fl, off, ls, hl, ho, H, enc, w, cs, [], hx, hf, hw => by cases hx
  | f :: fl, off, ls, hl, ho, H, enc, w, cs, x :: xs, hx, hf, hw => by
    simp only [leafF] at hl
    cases hb : Nat.beq f.offset off with
    | false => rw [hb] at hl; cases hl
    | true =>
      rw [hb] at hl
      have e1 := Nat.eq_of_beq_eq_true hb
      simp only [cond_true] at hl
      split at hl
      · rename_i l hlf
        cases hb2 : Nat.beq (P.cellsOf f.type) l.length with
        | false => rw [hb2] at hl; cases hl
        | true =>
          rw [hb2] at hl
          have e2 := Nat.eq_of_beq_eq_true hb2
          simp only [cond_true] at hl
          split at hl
          · rename_i l' hl'
            cases hl
            obtain ⟨o1, o2⟩ := okTys_app ho
            have h0 := hf 0 f rfl
            rw [e1, e2] at h0
            obtain ⟨ds, q1, q2, b1⟩ := hn k f.type l hlf o1 enc w _ x h0 (fun m hm => hw m (by simp [DataW.weightsEach, hm]))
            obtain ⟨ds', q3, q4, b2⟩ := fields_ok hn fl (off + l.length) l' hl' o2 enc w cs xs (by simpa using hx) (fun i f' hi => by simpa using hf (i + 1) f' (by simpa using hi)) (fun m hm => hw m (by simp [DataW.weightsEach, hm]))
            refine ⟨ds ++ ds', by rw [List.map_append, q1, q3], ?_, by rw [List.map_cons, bulkAll]; exact b1.app b2⟩
            rw [List.length_append, List.take_add, List.drop_drop]
            exact q2.append q4
          · cases hl
      · cases hl
theorem opens_ok {L : List TypeId} (hL : okS P T.fs L L = true) (n : Nat) : OpensN T P L n := by
  induction n using Nat.strongRecOn with
  | _ n ih =>
    intro k t ls hls hok H enc w cs x hx hw
    cases k with
    | zero => cases hls
    | succ k =>
      unfold leaves at hls
      split at hls
      · rename_i fs hu
        split at hls
        · rename_i l hl
          cases hb : Nat.beq (P.cellsOf t) l.length with
          | false => rw [hb] at hls; cases hls
          | true =>
            rw [hb] at hls
            cases hls
            have e1 := Nat.eq_of_beq_eq_true hb
            obtain ⟨xs, n', rfl, rfl, hl1, hlen, hf⟩ := DataW.trod_struct hu hx
            simp only [DataW.weights, hu] at hw
            obtain ⟨ds, q1, q2, b1⟩ := fields_ok (ih n' (by omega)) fs.toList 0 _ hl hok enc w cs xs (by simpa using hlen) (fun i f hi => hf i f (by simpa using hi)) hw
            refine ⟨ds, q1, ?_, b1.le (by simp only [bulk]; omega)⟩
            rw [List.drop_zero, List.take_of_length_le (by omega)] at q2
            exact q2
        · cases hls
      · split at hls
        · rename_i ty hty
          cases hls
          unfold tyOf at hty
          split at hty
          · rename_i ki hu
            cases hty
            obtain ⟨a, rfl, rfl, hwf⟩ := DataW.trod_int hu hx
            exact ⟨[⟨.int ki, a⟩], rfl, ⟨⟨.int ki a, .int ki a hwf⟩, trivial⟩, (Bk.int ki a [] 0 (.nil 0)).le (by simp [bulk])⟩
          · rename_i hu
            cases hty
            obtain ⟨a, rfl, rfl⟩ := DataW.trod_bool hu hx
            exact ⟨[⟨.bool, a⟩], rfl, ⟨⟨.bool a, .bool a⟩, trivial⟩, (Bk.bool a [] 0 (.nil 0)).le (by simp [bulk])⟩
          · rename_i hu
            cases hty
            obtain ⟨a, rfl, rfl, _⟩ := DataW.trod_string hu hx
            refine ⟨[⟨.str, a⟩], rfl, ⟨⟨.str a, .str a ?_⟩, trivial⟩, (Bk.str a [] 0 (.nil 0)).le (by simp [bulk])⟩
            have := hw a.data.toList.length (by simp [DataW.weights])
            simpa [reachBytes] using this
          · rename_i e hu
            split at hty
            · rename_i te hte
              cases hty
              have hote : okTy L te = true := by simp only [okTys, okTy, Bool.and_eq_true] at hok; exact hok.1
              obtain ⟨g1, g2, g3⟩ := flat_ok hL (by decide) hte hote
              rcases DataW.trod_slice hu hx with ⟨rfl, rfl⟩ | ⟨a, len, cap, elems, rest, n', rfl, rfl, rfl, hb, hlc, hcm, hlen, hel, _, _⟩
              · exact ⟨[⟨.sl e te, []⟩], rfl, ⟨⟨.nil e te none 0, .sl e te [] (by simp) (by simp) (fun i x j d hi => by simp at hi)⟩, trivial⟩, (Bk.sl e te [] [] 0 0 (.nil 0) (.nil 0)).le (by simp [bulk])⟩
              · simp only [DataW.weights, hu] at hw
                have hbytes : len * P.bytesOf e ≤ 140737488351232 := by
                  have h1 := hw _ List.mem_cons_self
                  simp only [List.length_map, hlen] at h1
                  exact Nat.le_trans (Nat.mul_le_mul_right _ (Nat.le_add_right len rest.length)) h1
                obtain ⟨xs, hxl, hxs⟩ := list_of (n := len) (R := fun i y => P.cellsOf e = (flat T te).length ∧ ∃ c, w.cells? 0 (a.add (i * P.cellsOf e)) (P.cellsOf e) = some c ∧ All2 (RO T P w) (lv T te y) c ∧ ∀ d, (elems.map (·.1))[i]? = some d → Bk T (lv T te y) (bulk d)) (by
                  intro i hi
                  have h1 := hel i hi
                  rw [List.getElem?_eq_getElem (by omega)] at h1
                  obtain ⟨c, h2, h3⟩ := Option.bind_eq_some_iff.1 h1
                  obtain ⟨ds, q1, q2, b1⟩ := ih n' (by omega) 9 e _ g1 g2 enc w c _ h3 (fun m hm1 => hw m (by
                    refine List.mem_cons_of_mem _ (List.mem_append_left _ ?_)
                    exact weights_all (j := i) (d := elems[i].1) (by simp [List.getElem?_eq_getElem (show i < elems.length by omega)]) m hm1))
                  obtain ⟨y, rfl⟩ := lv_of q1
                  refine ⟨y, ?_, c, h2, q2, fun d hd => ?_⟩
                  · rw [← (World.cells?_some h2).2.1, ← q2.len, ← q1, List.length_map]
                  · rw [List.getElem?_map, List.getElem?_eq_getElem (show i < elems.length by omega)] at hd
                    cases hd
                    exact b1)
                refine ⟨[⟨.sl e te, xs⟩], rfl, ⟨⟨?_, .sl e te xs (by rw [hxl]; exact hbytes) (by rw [hxl]; omega) ?_⟩, trivial⟩, (Bk.sl e te xs [] _ 0 (flat_bk (es := elems.map (·.1)) (by simp [hxl, hlen]) fun i x d hx hd => (by obtain ⟨_, _, _, _, h9⟩ := hxs i x hx; exact h9 d hd)) (.nil 0)).le (by simp only [bulk]; omega)⟩
                · subst hxl
                  refine RD.mk hlc ?_
                  rcases Nat.eq_zero_or_pos xs.length with h0 | h0
                  · exact .inl h0
                  · have cell : ∀ (i : Nat) y (j : Nat) d, xs[i]? = some y → (lv T te y)[j]? = some d → ∃ u, w.cell? (a.add (i * (flat T te).length + j)) = some u ∧ RO T P w d u := by
                      intro i y j d hi hj
                      obtain ⟨s1, c, s2, s3, _⟩ := hxs i y hi
                      obtain ⟨_, s4, s5⟩ := World.cells?_some s2
                      obtain ⟨u, s6, s7⟩ := s3.get hj
                      have hjl : j < c.length := (List.getElem?_eq_some_iff.1 s6).1
                      have s8 := s5 j (by omega)
                      rw [s6, Addr.add_add, s1] at s8
                      exact ⟨u, s8, s7⟩
                    have hspot : a.spot = none := by
                      obtain ⟨y, hy⟩ : ∃ y, xs[0]? = some y := ⟨xs[0], by simp [h0]⟩
                      obtain ⟨s1, c, s2, s3, _⟩ := hxs 0 y hy
                      have hl0 : (lv T te y).length = (flat T te).length := by
                        have := s3.len
                        rw [(World.cells?_some s2).2.1, s1] at this
                        exact this
                      obtain ⟨u, s4, _⟩ := cell 0 y 0 _ hy (List.getElem?_eq_getElem (by omega))
                      unfold World.cell? at s4
                      split at s4
                      · split at s4
                        · cases s4
                        · rename_i hs
                          simpa [Addr.add] using hs
                      · cases s4
                    obtain ⟨b, o, sp⟩ := a
                    simp only at hspot
                    subst hspot
                    refine .inr ⟨b, o, rfl, fun i j => (w.cell? ⟨b, o + (i * (flat T te).length + j), none⟩).getD default, fun i y j d hi hj => ?_⟩
                    obtain ⟨u, s1, s2⟩ := cell i y j d hi hj
                    have s3 : w.cell? ⟨b, o + (i * (flat T te).length + j), none⟩ = some u := by rw [← addr_add]; exact s1
                    refine ⟨by simp only [s3, Option.getD_some], ?_, by simp only [s3, Option.getD_some]; exact s2.1⟩
                    unfold World.cell? at s3
                    split at s3
                    · rename_i hc
                      exact (Array.getElem?_eq_some_iff.1 hc).1
                    · cases s3
                · intro i y j d hi hj
                  obtain ⟨s1, c, s2, s3, _⟩ := hxs i y hi
                  obtain ⟨u, _, s4⟩ := s3.get hj
                  exact s4.2
            · cases hty
          · rename_i hu
            exact absurd hu (by simp_all)
          · cases hty
        · cases hls
end
end Go.Proofs.Ytfojcadooepgpaa.Rx
