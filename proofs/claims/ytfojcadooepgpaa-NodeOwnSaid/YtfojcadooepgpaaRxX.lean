/- A plain evaluator over the translated code: stores to elements, literals, made slices. Under no condition. -/
import Derived.Test.YtfojcadooepgpaaRxQa
import Derived.Great.FillDense
set_option linter.unusedVariables false
set_option linter.unusedSimpArgs false
namespace Go.Proofs.Ytfojcadooepgpaa.Rx
open Go Go.RowKit

section
variable {T : Tab} {m m' : Nat → Value} {X X' : Nat → Nat → Prop} {n n' : Nat} {w w' : World} {P : Program} {h h' : Hp T}

/-! ### a store to an element -/
theorem splice_get {vs us : List Value} {o : Nat} (hle : o + us.length ≤ vs.length) (q : Nat) : (vs.take o ++ us ++ vs.drop (o + us.length))[q]? = if q < o then vs[q]? else if q < o + us.length then us[q - o]? else vs[q]? := by
  have e1 : (vs.take o).length = o := by rw [List.length_take]; omega
  rw [List.append_assoc]
  by_cases h1 : q < o
  · rw [if_pos h1, List.getElem?_append_left (by omega), List.getElem?_take, if_pos h1]
  · rw [if_neg h1, List.getElem?_append_right (by omega), e1]
    by_cases h2 : q < o + us.length
    · rw [if_pos h2, List.getElem?_append_left (by omega)]
    · rw [if_neg h2, List.getElem?_append_right (by omega), List.getElem?_drop]
      congr 1
      omega
theorem splice_len {vs us : List Value} {o : Nat} (hle : o + us.length ≤ vs.length) : (vs.take o ++ us ++ vs.drop (o + us.length)).length = vs.length := by
  simp only [List.length_append, List.length_take, List.length_drop]
  omega
theorem store_elt (hr : Rel T m X h w) {i : Nat} {e : TypeId} {ty : Ty} {ys : List (den T.S ty)} (ho : h[i]? = some (.gr e ty ys false)) {b l c : Nat} (hm : m i = .slice (some ⟨b, 0, none⟩) l c) {x : Nat} (hx : x < l) {off : Nat} {us old : List Value} {y : den T.S ty}
    (hold : w.rangeAt b (x * (flat T ty).length) old) (hol : old.length = (flat T ty).length) (hle : off + us.length ≤ (flat T ty).length)
    (hc : CellsOf T w X ty [y] (old.take off ++ us ++ old.drop (off + us.length))) :
    Rel T m X (setO h i (.gr e ty (ys.set x y) false)) (w.setCells b (x * (flat T ty).length + off) us) ∧ Fr T m X h w m X (setO h i (.gr e ty (ys.set x y) false)) (w.setCells b (x * (flat T ty).length + off) us) ∧
    ∃ vs : List Value, w.heap[b]? = some (.cells vs.toArray e (0, 0)) ∧ x * (flat T ty).length + off + us.length ≤ vs.length := by
  obtain ⟨vs, hown, hcs⟩ := gr_cells hr ho
  rcases hown.2 with ⟨h2, _⟩ | ⟨g, cap, cur, h2, _, hg, hcap, hcm, hsz, htake⟩
  · rw [hm] at h2; cases h2
  rw [hm] at h2
  cases h2
  have hlt := lt_of_get ho
  have hcur : cur = cur.toList.toArray := by simp
  rw [hcur] at hg
  have hin : x * (flat T ty).length + off + us.length ≤ ys.length * (flat T ty).length := by
    have := Nat.mul_le_mul_right (flat T ty).length hx
    rw [Nat.succ_mul] at this
    omega
  have hin2 : ys.length * (flat T ty).length ≤ cur.toList.length := by
    have : cur.toList.length = cur.size := Array.length_toList
    rw [this, hsz]; exact Nat.mul_le_mul_right _ hcap
  have hfit : x * (flat T ty).length + off + us.length ≤ cur.toList.length := by omega
  have hnX : ∀ o, ¬ X b o := fun o hx => by have := (hr.gr i _ _ _ _ ho b (by rw [hm]; rfl) o hx).1; cases this
  have hww : ∀ p q, X p q → (w.setCells b (x * (flat T ty).length + off) us).cell? ⟨p, q, none⟩ = w.cell? ⟨p, q, none⟩ := by
    intro p q hx
    exact World.cell?_of_block (setCells_other b us _ w p (fun e => hnX q (e ▸ hx)))
  have on : On m X h.length w m X (setO h i (.gr e ty (ys.set x y) false)).length (w.setCells b (x * (flat T ty).length + off) us) := ⟨by rw [setO_len]; exact Nat.le_refl _, fun _ _ => rfl, fun _ _ h => h, hww⟩
  have hkeep : ∀ j o', j ≠ i → (setO h i (.gr e ty (ys.set x y) false))[j]? = some o' → h[j]? = some o' := fun j o' hne hj => by rwa [setO_other _ _ hne] at hj
  have hsep : ∀ j o', j ≠ i → h[j]? = some o' → o'.live = true → ¬ Blk (m j) b := fun j o' hne hj hl => hr.sep i j _ _ ho hj (Ne.symm hne) rfl hl b (by rw [hm]; rfl)
  have hnew := setCells_same b us (x * (flat T ty).length + off) w cur.toList hg hfit
  have hvl : vs.length = ys.length * (flat T ty).length := hcs.1
  refine ⟨?_, Fr.upd (i0 := i) on ?_ ?_ ?_ ?_ ?_ (fun j o' hne hj => .inr (hkeep j o' hne hj)) (fun o0 ho0 _ p hp => .inl ⟨i, _, ho, rfl, hp⟩) (fun _ _ hx => .inl hx), _, hg, hfit⟩
  · refine hr.upd on (setO_same _ hlt) (fun j o' hne hj => .inr ⟨hkeep j o' hne hj, fun p hp hl => ?_⟩) ?_ (fun _ p hp j o' hne hj hl => ?_) (fun p q hx => ?_) (fun _ _ _ _ _ _ _ _ hx => hx) ?_
    · exact setCells_other b us _ w p (fun e => hsep j o' hne (hkeep j o' hne hj) hl (e ▸ hp))
    · refine ⟨vs.take (x * (flat T ty).length + off) ++ us ++ vs.drop (x * (flat T ty).length + off + us.length), ⟨?_, .inr ⟨b, c, _, hm.trans (by simp), Nat.zero_le _, hnew, by simpa using hcap, hcm, ?_, ?_⟩⟩, fun k z j d hk hd => ?_⟩
      · rw [splice_len (by omega), List.length_set]
        exact hvl
      · rw [List.size_toArray, splice_len hfit, ← hsz]
        exact Array.length_toList
      · simp only [List.length_set]
        apply List.ext_getElem?
        intro q
        rw [List.getElem?_take, splice_get hfit, splice_get (by omega), ← htake, List.getElem?_take]
        by_cases hq : q < ys.length * (flat T ty).length
        · rw [if_pos hq, if_pos hq]
        · rw [if_neg hq, if_neg hq, if_neg (by omega), if_neg (by omega)]
      · have hj : j < (flat T ty).length := by rw [← lv_len ty z]; exact (List.getElem?_eq_some_iff.1 hd).1
        rw [splice_get (by omega)]
        by_cases hkx : x = k
        · subst hkx
          rw [List.getElem?_set_self (by omega)] at hk
          cases hk
          obtain ⟨v, hv, hq⟩ := hc.2 0 y j d rfl hd
          refine ⟨v, ?_, RD.mono hww (fun _ _ h => h) hq⟩
          simp only [Nat.zero_mul, Nat.zero_add] at hv
          rw [splice_get (by omega)] at hv
          have hoe : old[j]? = vs[x * (flat T ty).length + j]? := by
            have hv1 : x * (flat T ty).length + j < vs.length := by
              have := Nat.mul_le_mul_right (flat T ty).length hx
              rw [Nat.succ_mul] at this
              omega
            have a1 := hold j old[j] (List.getElem?_eq_getElem (by omega))
            have a2 := hown.cells (g := b) (by rw [hm]; rfl) _ _ (List.getElem?_eq_getElem hv1)
            rw [Addr.add_mid, Nat.zero_add, a1] at a2
            rw [List.getElem?_eq_getElem (by omega), List.getElem?_eq_getElem hv1]
            exact a2
          by_cases h1 : j < off
          · rw [if_pos h1, hoe] at hv
            rw [if_pos (by omega)]
            exact hv
          · rw [if_neg h1] at hv
            rw [if_neg (by omega)]
            by_cases h3 : j < off + us.length
            · rw [if_pos h3] at hv
              rw [if_pos (by omega)]
              have e3 : x * (flat T ty).length + j - (x * (flat T ty).length + off) = j - off := by omega
              rw [e3]
              exact hv
            · rw [if_neg h3, hoe] at hv
              rw [if_neg (by omega)]
              exact hv
        · rw [List.getElem?_set_ne hkx] at hk
          obtain ⟨v, hv, hq⟩ := hcs.2 k z j d hk hd
          refine ⟨v, ?_, RD.mono hww (fun _ _ h => h) hq⟩
          by_cases hlt2 : k < x
          · have := Nat.mul_le_mul_right (flat T ty).length hlt2
            rw [Nat.succ_mul] at this
            rw [if_pos (by omega)]
            exact hv
          · have hgt : x < k := by omega
            have := Nat.mul_le_mul_right (flat T ty).length hgt
            rw [Nat.succ_mul] at this
            rw [if_neg (by omega), if_neg (by omega)]
            exact hv
    · rw [hm] at hp
      cases hp
      exact hsep j o' hne (hkeep j o' hne hj) hl
    · rw [(setCells_tape b us _ w).2.1]
      exact hr.lt p q hx
    · exact fun p hp q hx => by rw [hm] at hp; cases hp; exact absurd hx (hnX q)
  · exact Nat.le_of_eq (setCells_tape b us _ w).2.1.symm
  · exact (setCells_tape b us _ w).2.2.1
  · exact (setCells_tape b us _ w).1
  · exact (setCells_tape b us _ w).2.2.2
  · intro p _ hp
    exact setCells_other b us _ w p (fun e => hp ⟨i, _, ho, rfl, by rw [hm, e]; rfl⟩)
theorem run_store' {t : TypeId} {b o k : Nat} {v : Value} {us : List Value} {tid : TypeId} {vs : List Value} (hs : sizeOf P t = some k) (hv : v.cells = us.toArray) (hk : us.length = k) (h1 : ∀ u ∈ us, u.oneCell' = true)
    (hh : w.heap[b]? = some (.cells vs.toArray tid (0, 0))) (hl : o + us.length ≤ vs.length) : (Instr.storeAt t (.pointer (some ⟨b, o, none⟩)) v).run P w = .ok () (w.setCells b o us) :=
  run_store hs hv hk h1 hh (by omega)
theorem nb_one {l : Lf T} {v : Value} (hl : LfR m X n w l v) : LfR m X n w (nbL l) v := by
  cases l with
  | b p i =>
    have h1 : v = .bool (@decide p i) := hl
    subst h1
    exact RD.bool _
  | _ => exact hl
theorem nb_all : ∀ {ls : List (Lf T)} {us : List Value}, All2 (LfR m X n w) ls us → All2 (LfR m X n w) (ls.map nbL) us
  | [], [], _ => trivial
  | l :: ls, u :: us, h => ⟨nb_one h.1, nb_all h.2⟩
  | [], _ :: _, h => h.elim
  | _ :: _, [], h => h.elim
/-! ### stores to a slice whose elements' rows are one's own -/
theorem dat_nil {t : Ty} {l l' : Lf T} {g : Hp T} (hc : coL (.d t) l ([] : Hp T) = some (l', g)) : g = [] ∧ ∃ y : den T.S t, l' = .d t y ∧ (∀ (m : Nat → Value) (X : Nat → Nat → Prop) (n : Nat) (w : World) v, LfR m X n w l v → RD T w X t y v) ∧ ∀ t' x, l = .d t' x → (⟨t', x⟩ : DL T) = ⟨t, y⟩ := by
  unfold coL at hc
  simp only at hc
  split at hc
  · split at hc
    · rename_i t' x _ ht _
      subst ht
      cases hc
      exact ⟨rfl, x, rfl, fun _ _ _ _ _ h => h, fun _ _ e => by cases e; rfl⟩
    · cases hc
  · split at hc
    · cases hc
      refine ⟨rfl, _, rfl, fun m X n w v h => ?_, fun _ _ e => by cases e⟩
      rw [show v = _ from h]
      exact RD.bool _
    · cases hc
  · split at hc
    · cases hc
      refine ⟨rfl, _, rfl, fun m X n w v h => ?_, fun _ _ e => by cases e⟩
      rw [show v = _ from h]
      exact RD.nil _ _ _ _
    · cases hc
  · simp [nth] at hc
  · simp [nth] at hc
  · simp [nth] at hc
  · cases hc
theorem dats_nil : ∀ {ts : List Ty} {ls : List (Lf T)} {ds : List (DL T)} {g : Hp T}, datLs ts ls ([] : Hp T) = some (ds, g) → g = [] ∧ ls.length = ds.length ∧ ∀ (j : Nat) l d, ls[j]? = some l → ds[j]? = some d →
    (∀ (m : Nat → Value) (X : Nat → Nat → Prop) (n : Nat) (w : World) v, LfR m X n w l v → RD T w X d.1 d.2 v) ∧ ∀ t' x, l = .d t' x → (⟨t', x⟩ : DL T) = d
  | [], [], ds, g, h => by cases h; exact ⟨rfl, rfl, fun j l d hj => by simp at hj⟩
  | t :: ts, l :: ls, ds, g, h => by
    simp only [datLs] at h
    split at h
    · rename_i t' x h' hco
      split at h
      · rename_i z hz
        cases h
        obtain ⟨e1, y, e2, e3, e4⟩ := dat_nil hco
        cases e2
        subst e1
        obtain ⟨e5, e6, e7⟩ := dats_nil hz
        refine ⟨e5, by simp [e6], fun j l' d hj hd => ?_⟩
        cases j with
        | zero => simp at hj hd; subst hj hd; exact ⟨e3, e4⟩
        | succ j => exact e7 j l' d (by simpa using hj) (by simpa using hd)
      · cases h
    · cases h
  | [], _ :: _, _, _, h => by simp [datLs] at h
  | _ :: _, [], _, _, h => by simp [datLs] at h
theorem elt_nil {t : Ty} {ls : List (Lf T)} {z : den T.S t × Hp T} (hc : eltOf t ls ([] : Hp T) = some z) : ls.length = (lv T t z.1).length ∧ ∀ (j : Nat) l d, ls[j]? = some l → (lv T t z.1)[j]? = some d →
    (∀ (m : Nat → Value) (X : Nat → Nat → Prop) (n : Nat) (w : World) v, LfR m X n w l v → RD T w X d.1 d.2 v) ∧ ∀ t' x, l = .d t' x → (⟨t', x⟩ : DL T) = d := by
  unfold eltOf at hc
  split at hc
  · rename_i q hq
    split at hc
    · rename_i x hx
      cases hc
      obtain ⟨_, e2, e3⟩ := dats_nil hq
      dsimp only
      rw [unlv_lv hx]
      exact ⟨e2, e3⟩
    · cases hc
  · cases hc
theorem setL_get {ls new : List (Lf T)} {off j : Nat} (hle : off + new.length ≤ ls.length) : (setL ls off new)[j]? = if j < off then ls[j]? else if j < off + new.length then new[j - off]? else ls[j]? := by
  show (ls.take off ++ new ++ ls.drop (off + new.length))[j]? = _
  have e1 : (ls.take off).length = off := by rw [List.length_take]; omega
  rw [List.append_assoc]
  by_cases h1 : j < off
  · rw [if_pos h1, List.getElem?_append_left (by omega), List.getElem?_take, if_pos h1]
  · rw [if_neg h1, List.getElem?_append_right (by omega), e1]
    by_cases h2 : j < off + new.length
    · rw [if_pos h2, List.getElem?_append_left (by omega)]
    · rw [if_neg h2, List.getElem?_append_right (by omega), List.getElem?_drop]
      congr 1
      omega
theorem dg_upd (hr : Rel T m X h w) {i : Nat} {e : TypeId} {ty : Ty} {xs xs' : List (den T.S ty)} {fx : Bool} (ho : h[i]? = some (.dg e ty xs fx)) {b : Nat} (hb : Blk (m i) b) {off : Nat} {us vs : List Value} {tid : TypeId} (hh : w.heap[b]? = some (.cells vs.toArray tid (0, 0)))
    (hnew : On m X h.length w m X h.length (w.setCells b off us) → ObR m X h.length (w.setCells b off us) i (.dg e ty xs' fx)) :
    Rel T m X (setO h i (.dg e ty xs' fx)) (w.setCells b off us) ∧ Fr T m X h w m X (setO h i (.dg e ty xs' fx)) (w.setCells b off us) := by
  have hlt := lt_of_get ho
  have hnX : ∀ o, ¬ X b o := hr.pv i _ ho rfl b hb
  have hww : ∀ p q, X p q → (w.setCells b off us).cell? ⟨p, q, none⟩ = w.cell? ⟨p, q, none⟩ := fun p q hx => World.cell?_of_block (setCells_other b us _ w p (fun e => hnX q (e ▸ hx)))
  have on0 : On m X h.length w m X h.length (w.setCells b off us) := ⟨Nat.le_refl _, fun _ _ => rfl, fun _ _ h => h, hww⟩
  have on : On m X h.length w m X (setO h i (.dg e ty xs' fx)).length (w.setCells b off us) := by rw [setO_len]; exact on0
  have hkeep : ∀ j o', j ≠ i → (setO h i (.dg e ty xs' fx))[j]? = some o' → h[j]? = some o' := fun j o' hne hj => by rwa [setO_other _ _ hne] at hj
  refine ⟨hr.upd on (setO_same _ hlt) (fun j o' hne hj => .inr ⟨hkeep j o' hne hj, fun p hp hl => setCells_other b us _ w p (fun e => hr.sep i j _ _ ho (hkeep j o' hne hj) (Ne.symm hne) rfl hl b hb (e ▸ hp))⟩) (by rw [setO_len]; exact hnew on0) (fun _ p hp j o' hne hj hl => hr.sep i j _ _ ho (hkeep j o' hne hj) (Ne.symm hne) rfl hl p hp) (fun p q hx => by rw [(setCells_tape b us _ w).2.1]; exact hr.lt p q hx) (fun _ _ _ _ _ _ _ _ hx => hx) (hr.pv i _ ho rfl), ?_⟩
  exact Fr.upd (i0 := i) on (Nat.le_of_eq (setCells_tape b us _ w).2.1.symm) (setCells_tape b us _ w).2.2.1 (setCells_tape b us _ w).1 (setCells_tape b us _ w).2.2.2 (fun p _ hp => setCells_other b us _ w p (fun e => hp ⟨i, _, ho, rfl, e ▸ hb⟩)) (fun j o' hne hj => .inr (hkeep j o' hne hj)) (fun o0 _ _ p hp => .inl ⟨i, _, ho, rfl, hp⟩) (fun _ _ hx => .inl hx)
theorem head_upd {e : TypeId} {size n : Nat} {fx : Bool} {b l c : Nat} {vs us : List Value} (hh : HeadR w e size fx (.slice (some ⟨b, 0, none⟩) l c) n vs) {p : Nat} (hp : p + us.length ≤ n * size) :
    HeadR (w.setCells b p us) e size fx (.slice (some ⟨b, 0, none⟩) l c) n (vs.take p ++ us ++ vs.drop (p + us.length)) ∧ ∃ cs : List Value, w.heap[b]? = some (.cells cs.toArray e (0, 0)) ∧ p + us.length ≤ cs.length := by
  have go : ∀ {cap : Nat} {cur : Array Value}, w.heap[b]? = some (.cells cur e (0, 0)) → n ≤ cap → cap * size ≤ cur.size → cur.toList.take (n * size) = vs → vs.length = n * size →
      (w.setCells b p us).heap[b]? = some (.cells (cur.toList.take p ++ us ++ cur.toList.drop (p + us.length)).toArray e (0, 0)) ∧ (cur.toList.take p ++ us ++ cur.toList.drop (p + us.length)).length = cur.size ∧
      (cur.toList.take p ++ us ++ cur.toList.drop (p + us.length)).take (n * size) = vs.take p ++ us ++ vs.drop (p + us.length) ∧ w.heap[b]? = some (.cells cur.toList.toArray e (0, 0)) ∧ p + us.length ≤ cur.toList.length := by
    intro cap cur hg hcap hsz ht hvl
    have hcur : cur = cur.toList.toArray := by simp
    have hl : cur.toList.length = cur.size := Array.length_toList
    have hfit : p + us.length ≤ cur.toList.length := by have := Nat.mul_le_mul_right size hcap; omega
    rw [hcur] at hg
    refine ⟨setCells_same b us p w cur.toList hg hfit, by rw [splice_len hfit, hl], ?_, hg, hfit⟩
    apply List.ext_getElem?
    intro q
    rw [List.getElem?_take, splice_get hfit, splice_get (by omega), ← ht, List.getElem?_take]
    by_cases hq : q < n * size
    · rw [if_pos hq, if_pos hq]
    · rw [if_neg hq, if_neg hq, if_neg (by omega), if_neg (by omega)]
  cases fx with
  | false =>
    rcases hh.2 with ⟨h2, _⟩ | ⟨g, cap, cur, h2, h3, h4, h5, h6, h7, h8⟩
    · cases h2
    · cases h2
      obtain ⟨a1, a2, a3, a4, a5⟩ := go h4 h5 (by omega) h8 hh.1
      refine ⟨⟨?_, .inr ⟨b, c, _, rfl, h3, a1, h5, h6, ?_, ?_⟩⟩, _, a4, a5⟩
      · have h9 : vs.length = n * size := hh.1
        rw [splice_len (by omega)]; exact h9
      · rw [List.size_toArray, a2]; exact h7
      · exact a3
  | true =>
    rcases hh.2 with ⟨h2, _⟩ | ⟨g, cap, cur, h2, h4, h5, h7, h8⟩
    · cases h2
    · cases h2
      obtain ⟨a1, a2, a3, a4, a5⟩ := go h4 h5 h7 h8 hh.1
      refine ⟨⟨?_, .inr ⟨b, c, _, rfl, a1, h5, ?_, ?_⟩⟩, _, a4, a5⟩
      · have h9 : vs.length = n * size := hh.1
        rw [splice_len (by omega)]; exact h9
      · rw [List.size_toArray, a2]; exact h7
      · exact a3
theorem row_upd (hlt : ∀ b o, X b o → b < w.heap.size) {e : TypeId} {t : Ty} {ys : List (den T.S t)} {b l c : Nat} (hrow : RowR T w X e t ys (.slice (some ⟨b, 0, none⟩) l c)) (hX : ∀ o, ¬ X b o) {y : Nat} (hy : y < l) {off : Nat} {us old : List Value} {z : den T.S t}
    (hold : w.rangeAt b (y * (flat T t).length) old) (hol : old.length = (flat T t).length) (hle : off + us.length ≤ (flat T t).length) (hc : CellsOf T w X t [z] (old.take off ++ us ++ old.drop (off + us.length))) :
    RowR T (w.setCells b (y * (flat T t).length + off) us) X e t (ys.set y z) (.slice (some ⟨b, 0, none⟩) l c) ∧ ∃ cs : List Value, w.heap[b]? = some (.cells cs.toArray e (0, 0)) ∧ y * (flat T t).length + off + us.length ≤ cs.length := by
  have hr0 : Rel T (fun _ => .slice (some ⟨b, 0, none⟩) l c) X [Ob.gr e t ys false] w := by
    have one : ∀ {i : Nat} {o : Ob T}, [Ob.gr e t ys false][i]? = some o → i = 0 ∧ o = .gr e t ys false := by
      intro i o hi
      cases i with
      | zero => simp at hi; exact ⟨rfl, hi.symm⟩
      | succ i => simp at hi
    refine ⟨fun i o hi => ?_, fun i j o o' hi hj hne => ?_, hlt, fun i o hi hp => ?_, fun i e' t' xs sh hi b' hb' o hx => ?_, fun i e' t' hi => ?_⟩
    · obtain ⟨rfl, rfl⟩ := one hi; exact hrow
    · exact absurd ((one hi).1.trans (one hj).1.symm) hne
    · obtain ⟨rfl, rfl⟩ := one hi; cases hp
    · cases hb'; exact absurd hx (hX o)
    · cases (one hi).2
  obtain ⟨q1, _, vs, q3, q4⟩ := store_elt hr0 (i := 0) rfl (m := fun _ => .slice (some ⟨b, 0, none⟩) l c) rfl hy hold hol hle hc
  have := q1.ob 0 _ rfl
  exact ⟨this, vs, q3, q4⟩
theorem slN_no : ∀ {ts : List Ty}, slN ts = some 0 → ∀ t ∈ ts, scT t = true
  | [], _, t, ht => by cases ht
  | .sl e t0 :: r, h, t, ht => by
    simp only [slN] at h
    split at h
    · cases h
    · cases h
  | .int k :: r, h, t, ht => by
    rcases List.mem_cons.1 ht with rfl | ht
    · rfl
    · exact slN_no (ts := r) (show slN r = some 0 from h) t ht
  | .bool :: r, h, t, ht => by
    rcases List.mem_cons.1 ht with rfl | ht
    · rfl
    · exact slN_no (ts := r) (show slN r = some 0 from h) t ht
  | .str :: r, h, t, ht => by
    rcases List.mem_cons.1 ht with rfl | ht
    · rfl
    · exact slN_no (ts := r) (show slN r = some 0 from h) t ht
  | .st _ :: r, h, _, _ => by simp [slN] at h
  | .mp _ _ :: r, h, _, _ => by simp [slN] at h
  | .it :: r, h, _, _ => by simp [slN] at h
theorem setD_get {y : DL T} : ∀ {ds : List (DL T)}, slN (ds.map (·.1)) = some 1 → ∀ {j : Nat} {d : DL T}, (setD y ds)[j]? = some d → (d = y ∧ ∃ d0, rowD ds = some d0 ∧ ds[j]? = some d0) ∨ (ds[j]? = some d ∧ scT d.1 = true)
  | [], h, j, d, hj => by simp [setD] at hj
  | ⟨.sl e t, xs⟩ :: r, h, j, d, hj => by
    have h0 : slN (r.map (·.1)) = some 0 := by
      simp only [List.map_cons, slN] at h
      split at h
      · rename_i n hn; cases h; exact hn
      · cases h
    cases j with
    | zero => simp [setD] at hj; exact .inl ⟨hj.symm, _, rfl, rfl⟩
    | succ j =>
      have hj' : r[j]? = some d := by simpa [setD] using hj
      exact .inr ⟨by simpa using hj', slN_no h0 _ (List.mem_map.2 ⟨d, List.mem_of_getElem? hj', rfl⟩)⟩
  | ⟨.int k, x⟩ :: r, h, j, d, hj => by
    cases j with
    | zero => simp [setD] at hj; subst hj; exact .inr ⟨rfl, rfl⟩
    | succ j =>
      rcases setD_get (ds := r) (show slN (r.map (·.1)) = some 1 from h) (j := j) (d := d) (by simpa [setD] using hj) with ⟨h1, d0, h2, h3⟩ | ⟨h1, h2⟩
      · exact .inl ⟨h1, d0, h2, by simpa using h3⟩
      · exact .inr ⟨by simpa using h1, h2⟩
  | ⟨.bool, x⟩ :: r, h, j, d, hj => by
    cases j with
    | zero => simp [setD] at hj; subst hj; exact .inr ⟨rfl, rfl⟩
    | succ j =>
      rcases setD_get (ds := r) (show slN (r.map (·.1)) = some 1 from h) (j := j) (d := d) (by simpa [setD] using hj) with ⟨h1, d0, h2, h3⟩ | ⟨h1, h2⟩
      · exact .inl ⟨h1, d0, h2, by simpa using h3⟩
      · exact .inr ⟨by simpa using h1, h2⟩
  | ⟨.str, x⟩ :: r, h, j, d, hj => by
    cases j with
    | zero => simp [setD] at hj; subst hj; exact .inr ⟨rfl, rfl⟩
    | succ j =>
      rcases setD_get (ds := r) (show slN (r.map (·.1)) = some 1 from h) (j := j) (d := d) (by simpa [setD] using hj) with ⟨h1, d0, h2, h3⟩ | ⟨h1, h2⟩
      · exact .inl ⟨h1, d0, h2, by simpa using h3⟩
      · exact .inr ⟨by simpa using h1, h2⟩
  | ⟨.st _, _⟩ :: r, h, _, _, _ => by simp [slN] at h
  | ⟨.mp _ _, _⟩ :: r, h, _, _, _ => by simp [slN] at h
  | ⟨.it, _⟩ :: r, h, _, _, _ => by simp [slN] at h
theorem celly_sc {hd : Option Value} {d : DL T} {v : Value} (hs : scT d.1 = true) : CellY T w X hd d v ↔ RD T w X d.1 d.2 v := by
  obtain ⟨t, x⟩ := d
  cases t with
  | sl e t => cases hs
  | _ => exact Iff.rfl
theorem allSc_get : ∀ {ts : List Ty}, allSc ts = true → ∀ t ∈ ts, scT t = true
  | [], _, t, ht => by cases ht
  | a :: r, h, t, ht => by
    simp only [allSc, Bool.and_eq_true] at h
    rcases List.mem_cons.1 ht with rfl | ht
    · exact h.1
    · exact allSc_get h.2 t ht
theorem store_el (hr : Rel T m X h w) {i : Nat} {e : TypeId} {ty : Ty} {xs : List (den T.S ty)} {fx : Bool} (ho : h[i]? = some (.dg e ty xs fx)) {x : Int} {off : Nat} {ls : List (Lf T)} {us : List Value} (hau : All2 (LfR m X h.length w) ls us) (hle : off + us.length ≤ (flat T ty).length)
    (hsc : allSc (((flat T ty).drop off).take us.length) = true) {z : den T.S ty × Hp T} (hz : eltOf ty (setL (lvL (lv T ty (rd (dz T ty) xs x))) off ls) ([] : Hp T) = some z) {pv : Value} (hl : YR (m i) (.el (flat T ty).length x off) pv) :
    ∃ b o cs, pv = .pointer (some ⟨b, o, none⟩) ∧ w.heap[b]? = some (.cells (cs : List Value).toArray e (0, 0)) ∧ o + us.length ≤ cs.length ∧
      Rel T m X (setO h i (.dg e ty (xs.set x.toNat z.1) fx)) (w.setCells b o us) ∧ Fr T m X h w m X (setO h i (.dg e ty (xs.set x.toNat z.1) fx)) (w.setCells b o us) := by
  obtain ⟨hdv, hs, vs, q1, q2, q3, q4, q5, q6⟩ := hr.ob i _ ho
  obtain ⟨hs', e1, b, ln, c, e2, h0, h1, rfl⟩ := hl
  rw [q1] at e1
  cases e1
  have e3 : hdv = .slice (some ⟨b, 0, none⟩) ln c := by simpa using e2
  subst e3
  obtain ⟨hln, _⟩ := q2.cells
  have hxl : x.toNat < xs.length := by omega
  have hx2 := Nat.mul_le_mul_right (flat T ty).length (Nat.succ_le_of_lt hxl)
  rw [Nat.succ_mul] at hx2
  have hvl : vs.length = xs.length * (flat T ty).length := by cases fx with | false => exact q2.1 | true => exact q2.1
  obtain ⟨k1, cs, k2, k3⟩ := head_upd (us := us) (p := x.toNat * (flat T ty).length + off) q2 (by omega)
  obtain ⟨z1, z2⟩ := elt_nil hz
  have hbm : Blk (m i) b := by rw [q1]; exact blk_tuple (hs := (Value.slice (some ⟨b, 0, none⟩) ln c :: hs).toArray) (u := .slice (some ⟨b, 0, none⟩) ln c) (by simp) rfl
  have hul := hau.len
  obtain ⟨r1, r2⟩ := dg_upd (off := x.toNat * (flat T ty).length + off) (us := us) (xs' := xs.set x.toNat z.1) hr ho hbm k2 (fun on => by
    refine ⟨_, hs, _, q1, by rw [List.length_set]; exact k1, by rw [List.length_set]; exact q3, q4, fun k x' j d hk hd => ?_, q6⟩
    have hj : j < (flat T ty).length := by rw [← lv_len ty x']; exact (List.getElem?_eq_some_iff.1 hd).1
    have keep : ∀ {hd : Option Value} {d : DL T} {v : Value}, hd = hs[k]? → CellY T w X hd d v → CellY T (w.setCells b (x.toNat * (flat T ty).length + off) us) X hd d v := by
      intro hd d v he hc
      refine celly_keep on hc (fun e1 p hp => setCells_other b us _ w p (fun e4 => ?_))
      rw [he] at e1
      exact List.rel_of_pairwise_cons q6 (List.mem_of_getElem? e1) b rfl (by rw [hp, e4])
    rw [splice_get (by omega)]
    by_cases hkx : x.toNat = k
    · subst hkx
      rw [List.getElem?_set_self hxl] at hk
      cases hk
      obtain ⟨l, hlj⟩ : ∃ l, (setL (lvL (lv T ty (rd (dz T ty) xs x))) off ls)[j]? = some l := ⟨_, List.getElem?_eq_getElem (by rw [z1, lv_len]; exact hj)⟩
      obtain ⟨w1, w2⟩ := z2 j l d hlj hd
      rw [setL_get (by unfold lvL; rw [List.length_map, lv_len]; omega)] at hlj
      have outside : (lvL (lv T ty (rd (dz T ty) xs x)))[j]? = some l → ∃ v, vs[x.toNat * (flat T ty).length + j]? = some v ∧ CellY T (w.setCells b (x.toNat * (flat T ty).length + off) us) X hs[x.toNat]? d v := by
        intro hlj
        unfold lvL at hlj
        rw [List.getElem?_map] at hlj
        obtain ⟨d0, hd0, rfl⟩ := Option.map_eq_some_iff.1 hlj
        have := w2 _ _ rfl
        obtain ⟨v, g1, g2⟩ := q5 _ _ _ _ (rd_at (T := T) (ty := ty) (xs := xs) (x := x) hxl) hd0
        rw [show d = d0 from this.symm]
        exact ⟨v, g1, keep rfl g2⟩
      by_cases j1 : j < off
      · rw [if_pos j1] at hlj
        rw [if_pos (by omega)]
        exact outside hlj
      · rw [if_neg j1] at hlj
        rw [if_neg (by omega)]
        by_cases j2 : j < off + ls.length
        · rw [if_pos j2] at hlj
          rw [if_pos (by omega)]
          obtain ⟨u, hu, hlu⟩ := hau.get hlj
          refine ⟨u, by rw [← hu]; congr 1; omega, ?_⟩
          have ht : (flat T ty)[j]? = some d.1 := by rw [← lv_types ty z.1, List.getElem?_map, hd]; rfl
          have hsd : scT d.1 = true := by
            refine allSc_get hsc d.1 (List.mem_of_getElem? (i := j - off) ?_)
            rw [List.getElem?_take, if_pos (by omega), List.getElem?_drop, show off + (j - off) = j by omega]
            exact ht
          exact (celly_sc hsd).2 (RD.mono on.ww on.xx (w1 _ _ _ _ _ hlu))
        · rw [if_neg j2] at hlj
          rw [if_neg (by omega)]
          exact outside hlj
    · rw [List.getElem?_set_ne hkx] at hk
      obtain ⟨v, g1, g2⟩ := q5 k x' j d hk hd
      refine ⟨v, ?_, keep rfl g2⟩
      by_cases hlt2 : k < x.toNat
      · have := Nat.mul_le_mul_right (flat T ty).length hlt2
        rw [Nat.succ_mul] at this
        rw [if_pos (by omega)]
        exact g1
      · have hgt : x.toNat < k := by omega
        have := Nat.mul_le_mul_right (flat T ty).length hgt
        rw [Nat.succ_mul] at this
        rw [if_neg (by omega), if_neg (by omega)]
        exact g1)
  exact ⟨b, _, cs, rfl, k2, k3, r1, r2⟩
theorem store_cell (hr : Rel T m X h w) {i : Nat} {e : TypeId} {ty : Ty} {xs : List (den T.S ty)} {fx : Bool} (ho : h[i]? = some (.dg e ty xs fx)) {x y : Int} {e2 : TypeId} {t2 : Ty} {ys : List (den T.S t2)} (hrd : rowD (lv T ty (rd (dz T ty) xs x)) = some ⟨.sl e2 t2, ys⟩) {off : Nat} {ls : List (Lf T)} {us : List Value} (hau : All2 (LfR m X h.length w) ls us) (hle : off + us.length ≤ (flat T t2).length)
    {z : den T.S t2 × Hp T} (hz : eltOf t2 (setL (lvL (lv T t2 (rd (dz T t2) ys y))) off ls) ([] : Hp T) = some z) {x' : den T.S ty} (hx' : unlv ty (setD ⟨.sl e2 t2, ys.set y.toNat z.1⟩ (lv T ty (rd (dz T ty) xs x))) = some x') {pv : Value} (hl : YR (m i) (.cell x (flat T t2).length y off) pv) :
    ∃ b o cs, pv = .pointer (some ⟨b, o, none⟩) ∧ w.heap[b]? = some (.cells (cs : List Value).toArray e2 (0, 0)) ∧ o + us.length ≤ cs.length ∧
      Rel T m X (setO h i (.dg e ty (xs.set x.toNat x') fx)) (w.setCells b o us) ∧ Fr T m X h w m X (setO h i (.dg e ty (xs.set x.toNat x') fx)) (w.setCells b o us) := by
  obtain ⟨hdv, hs, vs, q1, q2, q3, q4, q5, q6⟩ := hr.ob i _ ho
  obtain ⟨hs', e1, h0, b, ln, c, e3, h1, h2, rfl⟩ := hl
  obtain ⟨hxl, hrow⟩ := dg_row hr ho ⟨hs', e1, h0, e3, _, _, _, rfl⟩ hrd
  rw [q1] at e1
  cases e1
  have e4 : hs[x.toNat]? = some (.slice (some ⟨b, 0, none⟩) ln c) := by simpa using e3
  obtain ⟨_, old, ol1, ol2⟩ := row_elt hrow h1 h2
  have hul := hau.len
  have hol : old.length = (flat T t2).length := by rw [← ol2.len, lv_len]
  obtain ⟨z1, z2⟩ := elt_nil hz
  have hcs : CellsOf T w X t2 [z.1] (old.take off ++ us ++ old.drop (off + us.length)) := by
    refine ⟨by rw [splice_len (by omega)]; simp [hol], fun k x0 j d hk hd => ?_⟩
    cases k with
    | succ k => simp at hk
    | zero =>
      simp at hk
      subst hk
      have hj : j < (flat T t2).length := by rw [← lv_len t2 z.1]; exact (List.getElem?_eq_some_iff.1 hd).1
      have hall := setL_ok (lvL_ok (m := m) (n := h.length) ol2) hau off
      obtain ⟨l, hlj⟩ : ∃ l, (setL (lvL (lv T t2 (rd (dz T t2) ys y))) off ls)[j]? = some l := ⟨_, List.getElem?_eq_getElem (by rw [z1, lv_len]; exact hj)⟩
      obtain ⟨u, hu, hlu⟩ := hall.get hlj
      refine ⟨u, by simpa using hu, (z2 j l d hlj hd).1 _ _ _ _ _ hlu⟩
  have hmem : (Value.slice (some ⟨b, 0, none⟩) ln c) ∈ hs := List.mem_of_getElem? e4
  have hbm : Blk (m i) b := by rw [q1]; exact blk_tuple (hs := (hdv :: hs).toArray) (u := .slice (some ⟨b, 0, none⟩) ln c) (by simp [hmem]) rfl
  obtain ⟨k1, cs, k2, k3⟩ := row_upd hr.lt (us := us) hrow (hr.pv i _ ho rfl b hbm) (y := y.toNat) (by omega) ol1 hol hle hcs
  obtain ⟨r1, r2⟩ := dg_upd (off := y.toNat * (flat T t2).length + off) (us := us) (xs' := xs.set x.toNat x') hr ho hbm k2 (fun on => by
    refine ⟨hdv, hs, vs, q1, by rw [List.length_set]; exact head_keep q2 (fun p hp => setCells_other b us _ w p (fun e5 => List.rel_of_pairwise_cons q6 hmem p hp (by rw [e5]; rfl))), by rw [List.length_set]; exact q3, q4, fun k x0 j d hk hd => ?_, q6⟩
    by_cases hkx : x.toNat = k
    · subst hkx
      rw [List.getElem?_set_self hxl] at hk
      cases hk
      rw [unlv_lv hx'] at hd
      rcases setD_get (by rw [lv_types]; exact oneS_some q4) hd with ⟨rfl, d0, g1, g2⟩ | ⟨g1, g2⟩
      · obtain ⟨v, g3, g4⟩ := q5 _ _ _ _ (rd_at (T := T) (ty := ty) (xs := xs) (x := x) hxl) g2
        rw [hrd] at g1
        cases g1
        have := g4.1
        rw [e4] at this
        cases this
        exact ⟨_, g3, e4, k1⟩
      · obtain ⟨v, g3, g4⟩ := q5 _ _ _ _ (rd_at (T := T) (ty := ty) (xs := xs) (x := x) hxl) g1
        exact ⟨v, g3, (celly_sc g2).2 (RD.mono on.ww on.xx ((celly_sc g2).1 g4))⟩
    · rw [List.getElem?_set_ne hkx] at hk
      obtain ⟨v, g1, g2⟩ := q5 k x0 j d hk hd
      refine ⟨v, g1, celly_keep on g2 (fun e5 p hp => setCells_other b us _ w p (fun e6 => ?_))⟩
      rw [List.pairwise_cons] at q6
      obtain ⟨p1, p2⟩ := List.getElem?_eq_some_iff.1 e5
      obtain ⟨p3, p4⟩ := List.getElem?_eq_some_iff.1 e4
      have hpw := List.pairwise_iff_getElem.1 q6.2
      rcases Nat.lt_or_gt_of_ne hkx with hlt2 | hgt
      · exact hpw _ _ p3 p1 hlt2 b (by rw [p4]; rfl) (by rw [p2, hp, e6])
      · exact hpw _ _ p1 p3 hgt p (by rw [p2, hp]) (by rw [p4, e6]; rfl))
  exact ⟨b, _, cs, rfl, k2, k3, r1, r2⟩
theorem store_ok (hr : Rel T m X h w) {t : TypeId} {l : Lf T} {v : V T} (hx : storeF P t l v h = some h') {pv rv : Value} (hl : LfR m X h.length w l pv) (hv : VR m X h.length w v rv) :
    ∃ m' X' w', (Instr.storeAt t pv rv).run P w = .ok () w' ∧ Rel T m' X' h' w' ∧ Fr T m X h w m' X' h' w' := by
  unfold storeF at hx
  split at hx
  · rename_i k hs
    cases hb : Nat.beq v.2.length k with
    | false => rw [hb] at hx; cases hx
    | true =>
      rw [hb] at hx
      simp only [cond_true] at hx
      have hk := Nat.eq_of_beq_eq_true hb
      obtain ⟨us, hcu, hau⟩ := hv.cells
      have hul : us.length = k := by rw [← hau.len]; exact hk
      split at hx
      · rename_i i off
        split at hx
        · rename_i tid ls ho
          rw [nth_eq] at ho
          cases hb2 : Nat.ble (off + k) ls.length with
          | false => rw [hb2] at hx; cases hx
          | true =>
            rw [hb2] at hx
            cases hx
            have hle := Nat.le_of_ble_eq_true hb2
            obtain ⟨_, b, hm, rfl⟩ := hl
            obtain ⟨b', vs, hm', hh, ha⟩ := hr.ob i _ ho
            rw [hm] at hm'
            cases hm'
            obtain ⟨r1, r2⟩ := store_box (off := off) hr ho hm (nb_all hau) (by omega)
            have hll := ha.len
            exact ⟨m, X, _, run_store' (vs := vs) hs hcu hul hau.ones hh (by omega), r1, r2⟩
        · cases hx
      · rename_i i sz x off
        split at hx
        · rename_i e ty xs ho
          rw [nth_eq] at ho
          cases hb2 : (Nat.ble (off + k) (flat T ty).length && Nat.beq sz (flat T ty).length) with
          | false => rw [hb2] at hx; cases hx
          | true =>
            rw [hb2] at hx
            simp only [cond_true] at hx
            simp only [Bool.and_eq_true] at hb2
            have hle := Nat.le_of_ble_eq_true hb2.1
            have hsz := Nat.eq_of_beq_eq_true hb2.2
            subst hsz
            split at hx
            · rename_i z hz
              split at hx
              · rename_i e' ty' xs' ho2
                rw [nth_eq] at ho2
                split at hx
                · rename_i ys hys
                  cases hx
                  have := asRow_some hys
                  cases this
                  obtain ⟨_, b, ln, c, hm, h0, h1, rfl⟩ := hl
                  obtain ⟨_, old, hol1, hol2⟩ := own_elt hr ho hm h0 h1
                  have hall := setL_ok (lvL_ok (m := m) (n := h.length) hol2) hau off
                  obtain ⟨m1, X1, r1, r2, r3⟩ := elt_ok hr hz hall
                  have hm1 : m1 i = .slice (some ⟨b, 0, none⟩) ln c := (r3.on.mm i (lt_of_get ho)).trans hm
                  have hxl : x.toNat < ln := by omega
                  obtain ⟨q1, q2, vs, q3, q4⟩ := store_elt r1 ho2 hm1 hxl hol1 (by rw [← hol2.len, lv_len]) (by omega) r2
                  exact ⟨m1, X1, _, run_store' hs hcu hul hau.ones q3 q4, q1, r3.trans q2⟩
                · cases hx
              · cases hx
            · cases hx
        · cases hx
      · rename_i i sz x off
        split at hx
        · rename_i e ty xs fx ho
          rw [nth_eq] at ho
          cases hb2 : (Nat.ble (off + k) (flat T ty).length && (Nat.beq sz (flat T ty).length && allSc (((flat T ty).drop off).take k))) with
          | false => rw [hb2] at hx; cases hx
          | true =>
            rw [hb2] at hx
            simp only [cond_true] at hx
            simp only [Bool.and_eq_true] at hb2
            have hle := Nat.le_of_ble_eq_true hb2.1
            have hsz := Nat.eq_of_beq_eq_true hb2.2.1
            subst hsz
            split at hx
            · rename_i z hz
              cases hx
              obtain ⟨b, o, cs, rfl, q3, q4, q1, q2⟩ := store_el hr ho hau (by omega) (by rw [hul]; exact hb2.2.2) hz hl.2
              exact ⟨m, X, _, run_store' hs hcu hul hau.ones q3 q4, q1, q2⟩
            · cases hx
        · cases hx
      · rename_i i x sz y off
        split at hx
        · rename_i e ty xs fx ho
          rw [nth_eq] at ho
          split at hx
          · rename_i e2 t2 ys hrd
            cases hb2 : (Nat.ble (off + k) (flat T t2).length && Nat.beq sz (flat T t2).length) with
            | false => rw [hb2] at hx; cases hx
            | true =>
              rw [hb2] at hx
              simp only [cond_true] at hx
              simp only [Bool.and_eq_true] at hb2
              have hle := Nat.le_of_ble_eq_true hb2.1
              have hsz := Nat.eq_of_beq_eq_true hb2.2
              subst hsz
              split at hx
              · rename_i z hz
                split at hx
                · rename_i x' hx'
                  cases hx
                  obtain ⟨b, o, cs, rfl, q3, q4, q1, q2⟩ := store_cell hr ho hrd hau (by omega) hz hx' hl.2
                  exact ⟨m, X, _, run_store' hs hcu hul hau.ones q3 q4, q1, q2⟩
                · cases hx
              · cases hx
          · cases hx
        · cases hx
      · cases hx
  · cases hx

/-! ### literals -/
theorem fill_step (off : Nat) (us : List Value) (cs : Array Value) (hle : off + us.length ≤ cs.size) :
    (us.toArray.zipIdx.foldl (fun cs (x : Value × Nat) => cs.setIfInBounds (off + x.2) x.1) cs).toList = cs.toList.take off ++ us ++ cs.toList.drop (off + us.length) := by
  have hg := Great.foldl_set off us 0 cs
  rw [← Array.foldl_toList, Array.toList_zipIdx]
  apply List.ext_getElem?
  intro q
  have h2 := hg.2 q
  rw [Array.getElem?_toList]
  simp only [List.toList_toArray] at *
  rw [h2]
  simp only [Nat.add_zero]
  have hcl : cs.toList.length = cs.size := Array.length_toList
  have e1 : (cs.toList.take off).length = off := by rw [List.length_take]; omega
  rw [List.append_assoc]
  by_cases h3 : q < off
  · rw [if_neg (by omega), List.getElem?_append_left (by omega), List.getElem?_take, if_pos h3, Array.getElem?_toList]
  · rw [List.getElem?_append_right (by omega), e1]
    by_cases h4 : q < off + us.length
    · rw [if_pos (by omega), List.getElem?_append_left (by omega)]
    · rw [if_neg (by omega), List.getElem?_append_right (by omega), List.getElem?_drop, ← Array.getElem?_toList]
      congr 1
      omega
def PartR (m : Nat → Value) (X : Nat → Nat → Prop) (n : Nat) (w : World) (x : Nat × V T) (y : Nat × Value) : Prop := x.1 = y.1 ∧ VR m X n w x.2 y.2
theorem fill_ok {pl : List (Nat × Nat)} : ∀ {l : List (Nat × V T)} {ps : List (Nat × Value)} {ls ls' : List (Lf T)} {cs : Array Value}, All2 (PartR m X n w) l ps → fillP pl l ls = some ls' → All2 (LfR m X n w) ls cs.toList →
    ∃ cs', Instr.fill (pl.toArray[·]?) cs ps = some cs' ∧ All2 (LfR m X n w) ls' cs'.toList
  | [], [], ls, ls', cs, _, hf, hl => by cases hf; exact ⟨cs, rfl, hl⟩
  | x :: l, y :: ps, ls, ls', cs, ha, hf, hl => by
    simp only [fillP] at hf
    split at hf
    · rename_i q hq
      cases hb : (Nat.beq x.2.2.length q.2 && Nat.ble (q.1 + q.2) ls.length) with
      | false => rw [hb] at hf; cases hf
      | true =>
        rw [hb] at hf
        simp only [cond_true] at hf
        simp only [Bool.and_eq_true] at hb
        have e1 := Nat.eq_of_beq_eq_true hb.1
        have e2 := Nat.le_of_ble_eq_true hb.2
        obtain ⟨hidx, hv⟩ := ha.1
        obtain ⟨us, hcu, hau⟩ := hv.cells
        have hul : us.length = q.2 := by rw [← hau.len]; exact e1
        have hcl : cs.size = ls.length := by rw [hl.len, Array.length_toList]
        have hst := fill_step q.1 us cs (by omega)
        have hnext : All2 (LfR m X n w) (setL ls q.1 x.2.2) (us.toArray.zipIdx.foldl (fun cs (x : Value × Nat) => cs.setIfInBounds (q.1 + x.2) x.1) cs).toList := by
          rw [hst]; exact setL_ok hl hau q.1
        obtain ⟨cs', h1, h2⟩ := fill_ok ha.2 hf hnext
        refine ⟨cs', ?_, h2⟩
        obtain ⟨yi, yv⟩ := y
        simp only at hidx hcu
        subst hidx
        unfold Instr.fill
        have hpl : pl.toArray[x.1]? = some q := by simpa using hq
        simp only [hpl]
        have hg : (decide (yv.cells.size ≠ q.2) || decide (q.1 + yv.cells.size > cs.size)) = false := by
          rw [hcu]; simp only [List.size_toArray]
          simp
          omega
        rw [hcu] at hg ⊢
        simp only [hg, Bool.false_eq_true, if_false]
        exact h1
    · cases hf
  | [], _ :: _, _, _, _, ha, _, _ => ha.elim
  | _ :: _, [], _, _, _, ha, _, _ => ha.elim
theorem parts_ok {env : Env T} {a : Act} (hop : ∀ x, OR m X n w env a x) : ∀ {ps : List (Nat × Operand)} {l : List (Nat × V T)}, partsOf env ps = some l → All2 (PartR m X n w) l (ps.map fun x => (x.1, a.eval x.2))
  | [], l, hp => by cases hp; trivial
  | x :: r, l, hp => by
    simp only [partsOf] at hp
    split at hp
    · rename_i v hv
      split at hp
      · rename_i l' hl'
        cases hp
        exact ⟨⟨rfl, orV (hop _) hv⟩, parts_ok hop hl'⟩
      · cases hp
    · cases hp
theorem zero_ok {t : TypeId} {v : V T} (hz : zeroOf P t = some v) : ∃ i z, P.info? t = some i ∧ i.zero = some z ∧ ∃ us : List Value, z.cells = us.toArray ∧ All2 (LfR m X n w) v.2 us := by
  unfold zeroOf at hz
  split at hz
  · rename_i i hi
    split at hz
    · rename_i z hz'
      obtain ⟨_, _, us, h1, h2⟩ := ofVal_ok (m := m) (X := X) (n := n) (w := w) hz
      exact ⟨i, z, hi, hz', us, h2, h1⟩
    · cases hz
  · cases hz
theorem build_ok {env : Env T} {a : Act} (hop : ∀ x, OR m X n w env a x) {t : TypeId} {parts : Array (Nat × Operand)} {pl : List (Nat × Nat)} {zv : V T} {l : List (Nat × V T)} {ls : List (Lf T)} (hp : placesOf P t = some pl) (hz : zeroOf P t = some zv) (hl : partsOf env parts.toList = some l) (hf : fillP pl l zv.2 = some ls) :
    ∃ rv, (Instr.build t (parts.map fun (i, x) => (i, a.eval x))).run P w = .ok rv w ∧ VR m X n w (true, ls) rv := by
  unfold placesOf at hp
  split at hp
  · rename_i fs hu
    obtain ⟨i, z, hi, hz', us, h1, h2⟩ := zero_ok (m := m) (X := X) (n := n) (w := w) hz
    obtain ⟨cs', h3, h4⟩ := fill_ok (cs := us.toArray) (parts_ok hop hl) hf (by simpa using h2)
    refine ⟨.agg cs', run_build w t _ cs' ?_, cs'.toList, h4, by simp⟩
    unfold Program.built
    simp only [hi, hu, hz', hp, h1]
    rw [← h3]
    simp
  · cases hp
theorem elts_idx : ∀ {l : List (Nat × V T)} {ps : List (Nat × Value)} {k : Nat} {lss : List (List (Lf T))}, All2 (PartR m X n w) l ps → elts k l = some lss →
    ps = ((ps.map (·.2)).zipIdx k).map (fun x => (x.2, x.1)) ∧ All2 (fun ls v => ∃ us : List Value, v.cells = us.toArray ∧ All2 (LfR m X n w) ls us) lss (ps.map (·.2)) ∧ lss.length = l.length
  | [], [], k, lss, _, he => by cases he; exact ⟨rfl, trivial, rfl⟩
  | x :: l, y :: ps, k, lss, ha, he => by
    simp only [elts] at he
    cases hb : Nat.beq x.1 k with
    | false => rw [hb] at he; cases he
    | true =>
      rw [hb] at he
      simp only [cond_true] at he
      have hk := Nat.eq_of_beq_eq_true hb
      split at he
      · rename_i lss' hl'
        cases he
        obtain ⟨h1, h2, h3⟩ := elts_idx ha.2 hl'
        obtain ⟨hidx, hv⟩ := ha.1
        obtain ⟨yi, yv⟩ := y
        refine ⟨?_, ⟨hv.cells, h2⟩, by simp [h3]⟩
        simp only [List.map_cons, List.zipIdx_cons]
        rw [← h1]
        simp only at hidx
        rw [← hidx, hk]
      · cases he
  | [], _ :: _, _, _, ha, _ => ha.elim
  | _ :: _, [], _, _, ha, _ => ha.elim
theorem flatten_get {s : Nat} (hs : 0 < s) : ∀ (l : List (List Value)), (∀ x ∈ l, x.length = s) → ∀ k, l.flatten[k]? = (l[k / s]?).bind (fun x => x[k % s]?)
  | [], _, k => by simp
  | x :: l, hl, k => by
    have hx : x.length = s := hl x List.mem_cons_self
    rw [List.flatten_cons]
    by_cases hk : k < s
    · rw [List.getElem?_append_left (by omega), Nat.div_eq_of_lt hk, Nat.mod_eq_of_lt hk]
      simp
    · rw [List.getElem?_append_right (by omega), flatten_get hs l (fun y hy => hl y (List.mem_cons_of_mem _ hy)) (k - x.length), hx]
      have e1 : k / s = (k - s) / s + 1 := by
        have h1 : k = (k - s) + s := by omega
        rw [h1, Nat.add_div_right _ hs]
        congr 2
        omega
      have e2 : (k - s) % s = k % s := by
        have h1 : k = (k - s) + s := by omega
        rw [h1, Nat.add_mod_right]
        congr 1
        omega
      rw [e1, e2, List.getElem?_cons_succ]
theorem allLen_mem {s : Nat} : ∀ {lss : List (List (Lf T))}, allLen s lss = true → ∀ l ∈ lss, l.length = s
  | [], _, l, hl => by cases hl
  | x :: lss, hb, l, hl => by
    simp only [allLen, Bool.and_eq_true] at hb
    rcases List.mem_cons.1 hl with rfl | hl
    · exact Nat.eq_of_beq_eq_true hb.1
    · exact allLen_mem hb.2 l hl
theorem lit_ok (hr : Rel T m X h w) {env : Env T} {a : Act} (hop : ∀ x, OR m X h.length w env a x) {t e : TypeId} {len : Nat} {parts : Array (Nat × Operand)} {ty : Ty} {si : Nat × Nat} {l : List (Nat × V T)} {lss : List (List (Lf T))} {xs : List (den T.S ty)}
    (hu : P.underlying t = some (.slice e)) (hsi : rowI P e = some si) (hsz : si.1 = (flat T ty).length) (hl : partsOf env parts.toList = some l) (hln : l.length = len) (hsm : len * si.1 ≤ 65536) (he : elts 0 l = some lss) (ha : allLen si.1 lss = true) (hx : eltsOf ty lss h = some (xs, h')) :
    ∃ rv m' X' w', (Instr.buildSlice t len (parts.map fun (i, x) => (i, a.eval x))).run P w = .ok rv w' ∧ LfR m' X' (h'.length + 1) w' (.g h'.length : Lf T) rv ∧ Rel T m' X' (h' ++ [.gr e ty xs false]) w' ∧ Fr T m X h w m' X' (h' ++ [.gr e ty xs false]) w' := by
  obtain ⟨s, by_⟩ := si
  simp only at hsz hsm ha
  obtain ⟨i, z, hi, hz, h1, h2, h3, h4, h5⟩ := rowI_some hsi
  have hp := parts_ok hop hl
  obtain ⟨q1, q2, q3⟩ := elts_idx hp he
  let vs : List Value := (parts.toList.map fun x => (x.1, a.eval x.2)).map (·.2)
  have hvl : vs.length = len := by show List.length (List.map _ _) = len; rw [List.length_map, ← hp.len, hln]
  obtain ⟨uss, hu1, hu2⟩ : ∃ uss : List (List Value), All2 (fun ls us => All2 (LfR m X h.length w) ls us) lss uss ∧ All2 (fun (v : Value) us => v.cells = us.toArray) vs uss := by
    have : ∀ {lss : List (List (Lf T))} {vs : List Value}, All2 (fun ls v => ∃ us : List Value, v.cells = us.toArray ∧ All2 (LfR m X h.length w) ls us) lss vs → ∃ uss : List (List Value), All2 (fun ls us => All2 (LfR m X h.length w) ls us) lss uss ∧ All2 (fun (v : Value) us => v.cells = us.toArray) vs uss := by
      intro lss
      induction lss with
      | nil => intro vs hv; match vs, hv with | [], _ => exact ⟨[], trivial, trivial⟩
      | cons ls lss ih =>
        intro vs hv
        match vs, hv with
        | v :: vs, hv =>
          obtain ⟨us, k1, k2⟩ := hv.1
          obtain ⟨uss, k3, k4⟩ := ih hv.2
          exact ⟨us :: uss, ⟨k2, k3⟩, ⟨k1, k4⟩⟩
    exact this q2
  have hlens : ∀ us ∈ uss, us.length = s := by
    intro us hus
    obtain ⟨ls, hls, k⟩ := hu1.mem_right us hus
    rw [← k.len]
    exact allLen_mem ha ls hls
  obtain ⟨m1, X1, r1, r2, r3⟩ := elts_ok hr hx hu1
  have hvc : ∀ v ∈ vs, v.cells.size = s := by
    intro v hv
    obtain ⟨q, hq⟩ := List.mem_iff_getElem?.1 hv
    obtain ⟨us, k1, k2⟩ := hu2.get hq
    rw [k2]
    simp only [List.size_toArray]
    exact hlens us (List.mem_of_getElem? k1)
  have hfl : uss.length = len := by rw [← hu2.len, hvl]
  by_cases hlen0 : len = 0
  · -- nothing in it
    subst hlen0
    have hxs : xs = [] := by
      have := r2.1
      have h0 : uss = [] := List.eq_nil_of_length_eq_zero hfl
      rw [h0] at this
      simp only [List.flatten_nil, List.length_nil] at this
      rw [← hsz] at this
      rcases Nat.mul_eq_zero.1 this.symm with k | k
      · exact List.eq_nil_of_length_eq_zero k
      · omega
    subst hxs
    have hpn : parts.toList = [] := by
      have : (parts.toList.map fun x => (x.1, a.eval x.2)).length = 0 := by rw [← hp.len, hln]
      rw [List.length_map] at this
      exact List.eq_nil_of_length_eq_zero this
    have hpa : parts = #[] := by rw [← Array.toArray_toList (xs := parts), hpn]
    subst hpa
    have hrun : (Instr.buildSlice t 0 ((#[] : Array (Nat × Operand)).map fun (i, x) => (i, a.eval x))).run P w = .ok (.slice (some ⟨w.heap.size, 0, none⟩) 0 0) (w.alloc (.cells #[] e)) := by
      have h0 : (Array.range 0) = #[] := rfl
      simp [Instr.buildSlice, run_underlying hu, Go.sizeOf, typeInfo, hi, Instr.fill, newRow, h0]
    have hpr := push_row r1 (e := e) (t := ty) (xs := []) (v := .slice (some ⟨w.heap.size, 0, none⟩) 0 0) (vs := []) (row := none) (h1 := h') rfl (fun _ _ h => .inr h) (sh := false) (fun _ _ _ _ _ _ => by simp) (fun b hb => by cases hb) (grown_alloc w (.cells #[] e))
      (fun b hb => by cases hb; exact .inr rfl) (cell_alloc r1 _) ⟨by simp, .inr ⟨w.heap.size, 0, #[], rfl, Nat.zero_le _, heap_alloc_new w _, Nat.le_refl _, Nat.zero_le _, by simp, by simp⟩⟩ (CellsOf.nil _) (fun b o hb => by cases hb)
    exact ⟨_, _, X1, _, hrun, by have := hpr.2.2; simpa using this, hpr.1, r3.trans hpr.2.1⟩
  · have hpos : ¬ len * i.size = 0 := by rw [h1]; exact Nat.mul_ne_zero hlen0 (by omega)
    obtain ⟨r, f1, f2, f3⟩ := Great.fill_dense h4 vs 0 ((Array.range (len * s)).map (z.cells[· % z.cells.size]!)) hvc (by simp [hvl])
    have hparts : (parts.map fun (i, x) => (i, a.eval x)).toList = (vs.zipIdx 0).map (fun x => (x.2, x.1)) := by
      rw [← q1]
      simp
    have hrun := run_buildSlice (P := P) w t e len (parts.map fun (i, x) => (i, a.eval x)) r i z hu hi hz (by rw [h1]; omega) hpos (by rw [h1, hparts]; exact f1)
    have hrs : r.size = len * s := by rw [f2]; simp
    have hrl : r.toList = uss.flatten := by
      apply List.ext_getElem?
      intro k
      rw [Array.getElem?_toList, f3 k, flatten_get h4 uss hlens k]
      by_cases hk : k < len * s
      · rw [if_pos (by rw [hvl, Nat.zero_add]; omega)]
        simp only [Nat.sub_zero]
        have hkd : k / s < len := (Nat.div_lt_iff_lt_mul h4).2 hk
        obtain ⟨us, k1, k2⟩ := hu2.get (List.getElem?_eq_getElem (show k / s < vs.length by omega))
        rw [k1, List.getElem?_eq_getElem (show k / s < vs.length by omega)]
        simp only [Option.bind_some, k2]
        simp
      · rw [if_neg (by rw [hvl, Nat.zero_add]; omega)]
        have hkd : uss.length ≤ k / s := by rw [hfl]; exact (Nat.le_div_iff_mul_le h4).2 (by omega)
        rw [List.getElem?_eq_none hkd]
        simp
        omega
    have hown : (w.alloc (.cells r e)).ownsRow 0 e (flat T ty).length (.slice (some ⟨w.heap.size, 0, none⟩) len len) xs.length uss.flatten := by
      have hxl : xs.length = len := by
        have h7 := r2.1
        rw [← hrl, Array.length_toList, hrs, ← hsz] at h7
        exact (Nat.eq_of_mul_eq_mul_right h4 h7).symm
      rw [hxl, ← hsz]
      refine ⟨by rw [← hrl, Array.length_toList, hrs], .inr ⟨w.heap.size, len, r, rfl, Nat.zero_le _, heap_alloc_new w _, Nat.le_refl _, ?_, hrs, ?_⟩⟩
      · have h8 : len * 1 ≤ len * s := Nat.mul_le_mul_left len h4
        simp only [maxLen]; omega
      · rw [hrl, List.take_of_length_le]
        rw [← hrl, Array.length_toList, hrs]
        exact Nat.le_refl _
    have hpr := push_row r1 (e := e) (t := ty) (xs := xs) (v := .slice (some ⟨w.heap.size, 0, none⟩) len len) (vs := uss.flatten) (row := none) (h1 := h') rfl (fun _ _ h => .inr h) (sh := false) (fun _ _ _ _ _ _ => by simp) (fun b hb => by cases hb) (grown_alloc w (.cells r e))
      (fun b hb => by cases hb; exact .inr rfl) (cell_alloc r1 _) hown (r2.mono (cell_alloc r1 _) (fun _ _ h => h)) (fun b o hb => by cases hb)
    exact ⟨_, _, X1, _, hrun, by have := hpr.2.2; simpa using this, hpr.1, r3.trans hpr.2.1⟩
theorem run_lit {env : Env T} {a : Act} (hop : ∀ x, OR m X n w env a x) {t e : TypeId} {len : Nat} {parts : Array (Nat × Operand)} {si : Nat × Nat} {l : List (Nat × V T)} {lss : List (List (Lf T))}
    (hu : P.underlying t = some (.slice e)) (hsi : rowI P e = some si) (hl : partsOf env parts.toList = some l) (hln : l.length = len) (hsm : len * si.1 ≤ 65536) (he : elts 0 l = some lss) (ha : allLen si.1 lss = true) (hlen0 : len ≠ 0) :
    0 < si.1 ∧ ∃ uss : List (List Value), All2 (fun ls us => All2 (LfR m X n w) ls us) lss uss ∧ (∀ us ∈ uss, us.length = si.1) ∧ uss.length = len ∧ (Instr.buildSlice t len (parts.map fun (i, x) => (i, a.eval x))).run P w = .ok (.slice (some ⟨w.heap.size, 0, none⟩) len len) (w.alloc (.cells uss.flatten.toArray e)) := by
  obtain ⟨s, by_⟩ := si
  simp only at ha hsm
  obtain ⟨i, z, hi, hz, h1, h2, h3, h4, h5⟩ := rowI_some hsi
  have hp := parts_ok hop hl
  obtain ⟨q1, q2, q3⟩ := elts_idx hp he
  let vs : List Value := (parts.toList.map fun x => (x.1, a.eval x.2)).map (·.2)
  have hvl : vs.length = len := by show List.length (List.map _ _) = len; rw [List.length_map, ← hp.len, hln]
  obtain ⟨uss, hu1, hu2⟩ : ∃ uss : List (List Value), All2 (fun ls us => All2 (LfR m X n w) ls us) lss uss ∧ All2 (fun (v : Value) us => v.cells = us.toArray) vs uss := by
    have : ∀ {lss : List (List (Lf T))} {vs : List Value}, All2 (fun ls v => ∃ us : List Value, v.cells = us.toArray ∧ All2 (LfR m X n w) ls us) lss vs → ∃ uss : List (List Value), All2 (fun ls us => All2 (LfR m X n w) ls us) lss uss ∧ All2 (fun (v : Value) us => v.cells = us.toArray) vs uss := by
      intro lss
      induction lss with
      | nil => intro vs hv; match vs, hv with | [], _ => exact ⟨[], trivial, trivial⟩
      | cons ls lss ih =>
        intro vs hv
        match vs, hv with
        | v :: vs, hv =>
          obtain ⟨us, k1, k2⟩ := hv.1
          obtain ⟨uss, k3, k4⟩ := ih hv.2
          exact ⟨us :: uss, ⟨k2, k3⟩, ⟨k1, k4⟩⟩
    exact this q2
  have hlens : ∀ us ∈ uss, us.length = s := by
    intro us hus
    obtain ⟨ls, hls, k⟩ := hu1.mem_right us hus
    rw [← k.len]
    exact allLen_mem ha ls hls
  have hvc : ∀ v ∈ vs, v.cells.size = s := by
    intro v hv
    obtain ⟨q, hq⟩ := List.mem_iff_getElem?.1 hv
    obtain ⟨us, k1, k2⟩ := hu2.get hq
    rw [k2]
    simp only [List.size_toArray]
    exact hlens us (List.mem_of_getElem? k1)
  have hfl : uss.length = len := by rw [← hu2.len, hvl]
  have hpos : ¬ len * i.size = 0 := by rw [h1]; exact Nat.mul_ne_zero hlen0 (by omega)
  obtain ⟨r, f1, f2, f3⟩ := Great.fill_dense h4 vs 0 ((Array.range (len * s)).map (z.cells[· % z.cells.size]!)) hvc (by simp [hvl])
  have hparts : (parts.map fun (i, x) => (i, a.eval x)).toList = (vs.zipIdx 0).map (fun x => (x.2, x.1)) := by
    rw [← q1]
    simp
  have hrun := run_buildSlice (P := P) w t e len (parts.map fun (i, x) => (i, a.eval x)) r i z hu hi hz (by rw [h1]; omega) hpos (by rw [h1, hparts]; exact f1)
  have hrs : r.size = len * s := by rw [f2]; simp
  have hrl : r.toList = uss.flatten := by
    apply List.ext_getElem?
    intro k
    rw [Array.getElem?_toList, f3 k, flatten_get h4 uss hlens k]
    by_cases hk : k < len * s
    · rw [if_pos (by rw [hvl, Nat.zero_add]; omega)]
      simp only [Nat.sub_zero]
      have hkd : k / s < len := (Nat.div_lt_iff_lt_mul h4).2 hk
      obtain ⟨us, k1, k2⟩ := hu2.get (List.getElem?_eq_getElem (show k / s < vs.length by omega))
      rw [k1, List.getElem?_eq_getElem (show k / s < vs.length by omega)]
      simp only [Option.bind_some, k2]
      simp
    · rw [if_neg (by rw [hvl, Nat.zero_add]; omega)]
      have hkd : uss.length ≤ k / s := by rw [hfl]; exact (Nat.le_div_iff_mul_le h4).2 (by omega)
      rw [List.getElem?_eq_none hkd]
      simp
      omega
  refine ⟨h4, uss, hu1, hlens, hfl, ?_⟩
  have hra : r = uss.flatten.toArray := by rw [← hrl]
  rw [hrun, hra]

theorem elts_len : ∀ {l : List (Nat × V T)} {k : Nat} {lss : List (List (Lf T))}, elts k l = some lss → l.length = lss.length
  | [], k, lss, h => by cases h; rfl
  | x :: r, k, lss, h => by
    simp only [elts] at h
    cases hb : Nat.beq x.1 k with
    | false => rw [hb] at h; cases h
    | true =>
      rw [hb] at h
      simp only [cond_true] at h
      split at h
      · rename_i l0 h0
        cases h
        simp [elts_len h0]
      · cases h
theorem slN_one : ∀ {ts : List Ty}, slN ts = some 1 → ∀ {j : Nat} {e : TypeId} {t : Ty}, ts[j]? = some (.sl e t) → ∀ {j' : Nat} {t' : Ty}, j' ≠ j → ts[j']? = some t' → scT t' = true
  | [], h, j, _, _, hj, _, _, _, _ => by simp at hj
  | .sl e t :: r, h, j, e', t0, hj, j', t', hne, hj' => by
    have h0 : slN r = some 0 := by
      simp only [slN] at h
      split at h
      · rename_i n hn; cases h; exact hn
      · cases h
    cases j' with
    | zero =>
      cases j with
      | zero => exact absurd rfl hne
      | succ j =>
        have := slN_no h0 _ (List.mem_of_getElem? (show r[j]? = some (.sl e' t0) by simpa using hj))
        cases this
    | succ j' => exact slN_no h0 _ (List.mem_of_getElem? (show r[j']? = some t' by simpa using hj'))
  | .int k :: r, h, j, e', t0, hj, j', t', hne, hj' => by
    cases j with
    | zero => simp at hj
    | succ j =>
      cases j' with
      | zero => simp at hj'; subst hj'; rfl
      | succ j' => exact slN_one (ts := r) (show slN r = some 1 from h) (j := j) (j' := j') (by simpa using hj) (fun e => hne (by omega)) (by simpa using hj')
  | .bool :: r, h, j, e', t0, hj, j', t', hne, hj' => by
    cases j with
    | zero => simp at hj
    | succ j =>
      cases j' with
      | zero => simp at hj'; subst hj'; rfl
      | succ j' => exact slN_one (ts := r) (show slN r = some 1 from h) (j := j) (j' := j') (by simpa using hj) (fun e => hne (by omega)) (by simpa using hj')
  | .str :: r, h, j, e', t0, hj, j', t', hne, hj' => by
    cases j with
    | zero => simp at hj
    | succ j =>
      cases j' with
      | zero => simp at hj'; subst hj'; rfl
      | succ j' => exact slN_one (ts := r) (show slN r = some 1 from h) (j := j) (j' := j') (by simpa using hj) (fun e => hne (by omega)) (by simpa using hj')
  | .st _ :: r, h, _, _, _, _, _, _, _, _ => by simp [slN] at h
  | .mp _ _ :: r, h, _, _, _, _, _, _, _, _ => by simp [slN] at h
  | .it :: r, h, _, _, _, _, _, _, _, _ => by simp [slN] at h
theorem demoteL_ok (hr : Rel T m X h w) : ∀ {ls ls' : List (Lf T)} {h' : Hp T} {us : List Value}, demoteL h ls = some (ls', h') → All2 (LfR m X h.length w) ls us → ∃ m1 X1, Rel T m1 X1 h' w ∧ Fr T m X h w m1 X1 h' w ∧ All2 (LfR m1 X1 h'.length w) ls' us
  | [], ls', h', us, hd, _ => by cases hd
  | l :: r, ls', h', [], hd, hl => hl.elim
  | l :: r, ls', h', u :: us, hd, hl => by
    unfold demoteL at hd
    split at hd
    · rename_i heq; cases heq
    · rename_i k r' heq
      cases heq
      split at hd
      · rename_i z hz
        cases hd
        obtain ⟨m1, X1, q1, q2, q3⟩ := demote_ok hr hz
        exact ⟨m1, X1, q1, q2, q3 u hl.1.2, hl.2.imp (fun _ _ h => h.on q2.on)⟩
      · cases hd
    · rename_i l' r' _ heq
      cases heq
      split at hd
      · rename_i z hz
        cases hd
        obtain ⟨m1, X1, q1, q2, q3⟩ := demoteL_ok hr hz hl.2
        exact ⟨m1, X1, q1, q2, hl.1.on q2.on, q3⟩
      · cases hd
theorem splitOwn_ok : ∀ {ls ls2 : List (Lf T)} {k : Nat}, splitOwn h ls = some (k, ls2) → ls2.length = ls.length ∧ ∃ (e : TypeId) (t : Ty) (ys : List (den T.S t)) (j : Nat), h[k]? = some (.gr e t ys false) ∧ ls[j]? = some (.g k) ∧ ls2[j]? = some (.d (.sl e t) ys) ∧ ∀ j', j' ≠ j → ls2[j']? = ls[j']?
  | [], ls2, k, hs => by cases hs
  | l :: r, ls2, k, hs => by
    unfold splitOwn at hs
    split at hs
    · rename_i heq; cases heq
    · rename_i k' r' heq
      cases heq
      split at hs
      · rename_i e t ys ho
        rw [nth_eq] at ho
        cases hs
        refine ⟨rfl, e, t, ys, 0, ho, rfl, rfl, fun j' hj' => ?_⟩
        cases j' with
        | zero => exact absurd rfl hj'
        | succ j' => simp
      · cases hs
    · rename_i l' r' _ heq
      cases heq
      split at hs
      · rename_i z hz
        cases hs
        obtain ⟨h0, e, t, ys, j, h1, h2, h3, h4⟩ := splitOwn_ok (show splitOwn h r = some (z.1, z.2) from hz)
        refine ⟨by simp [h0], e, t, ys, j + 1, h1, by simpa using h2, by simpa using h3, fun j' hj' => ?_⟩
        cases j' with
        | zero => rfl
        | succ j' => simpa using h4 j' (fun e => hj' (by omega))
      · cases hs
/-- An element with a row of one's own: a slice of it. -/
theorem pushY_ok (hr : Rel T m X h w) {e : TypeId} {ty : Ty} {ls ls2 : List (Lf T)} {k : Nat} {us : List Value} (hs : splitOwn h ls = some (k, ls2)) (hl : All2 (LfR m X h.length w) ls us) {z : den T.S ty × Hp T} (hz : eltOf ty ls2 ([] : Hp T) = some z) (h1 : oneS (flat T ty) = true) :
    ∃ m' X', Rel T m' X' (setO h k .no ++ [Ob.dg e ty [z.1] false]) (w.alloc (.cells us.toArray e)) ∧ Fr T m X h w m' X' (setO h k .no ++ [Ob.dg e ty [z.1] false]) (w.alloc (.cells us.toArray e)) ∧ LfR m' X' (h.length + 1) (w.alloc (.cells us.toArray e)) (.y h.length .hd : Lf T) (.slice (some ⟨w.heap.size, 0, none⟩) 1 1) := by
  obtain ⟨g0, e2, t2, ys, j, g1, g2, g3, g4⟩ := splitOwn_ok hs
  obtain ⟨z1, z2⟩ := elt_nil hz
  obtain ⟨u, hu, hlu⟩ := hl.get g2
  obtain ⟨vs2, hown, hc2⟩ := gr_cells hr g1
  have hmk : m k = u := hlu.2.1.symm
  rw [hmk] at hown
  have hlt := lt_of_get g1
  have hln : ls.length = us.length := hl.len
  have hul : us.length = (flat T ty).length := by rw [← hln, ← g0, z1, lv_len]
  have hub : ∀ b, blk u = some b ↔ Blk (m k) b := by
    intro b
    rw [hmk]
    rcases hown.2 with ⟨h2, _⟩ | ⟨g, cap, cur, h2, _⟩
    · rw [h2]; exact Iff.rfl
    · rw [h2]; exact Iff.rfl
  have hblt : ∀ b, blk u = some b → b < w.heap.size := fun b hb => mine_lt hr ⟨k, _, g1, rfl, (hub b).1 hb⟩
  let V : Value := .tuple (Value.slice (some ⟨w.heap.size, 0, none⟩) 1 1 :: [u]).toArray
  have hl1 : (setO h k (.no : Ob T) ++ [Ob.dg e ty [z.1] false]).length = h.length + 1 := by simp [setO_len]
  have on : On m X h.length w (updM m h.length V) X (setO h k (.no : Ob T) ++ [Ob.dg e ty [z.1] false]).length (w.alloc (.cells us.toArray e)) := ⟨by omega, fun q hq => updM_other m _ (by omega), fun _ _ hx => hx, cell_alloc hr _⟩
  have hi0 : (setO h k (.no : Ob T) ++ [Ob.dg e ty [z.1] false])[h.length]? = some (Ob.dg e ty [z.1] false) := by have := get_push (setO h k (.no : Ob T)) (Ob.dg e ty [z.1] false); rwa [setO_len] at this
  have hk : ∀ (q : Nat) o', q ≠ h.length → (setO h k (.no : Ob T) ++ [Ob.dg e ty [z.1] false])[q]? = some o' → o' = .no ∨ (q ≠ k ∧ h[q]? = some o') := fun q o' hne hj => gone_get hlt q o' (get_push_old (by rw [setO_len]; exact hne) hj)
  have hgr := grown_alloc w (.cells us.toArray e)
  have hVb : ∀ b, Blk V b → b = w.heap.size ∨ Blk (m k) b := by
    rintro b ⟨u', hu', hb⟩
    have : u' = .slice (some ⟨w.heap.size, 0, none⟩) 1 1 ∨ u' = u := by simpa using hu'
    rcases this with rfl | rfl
    · cases hb; exact .inl rfl
    · exact .inr ((hub b).1 hb)
  refine ⟨updM m h.length V, X, hr.upd on hi0 (fun q o' hne hj => ?_) ?_ (fun _ b hb q o' hne hj hl2 => ?_) (fun b o hx => Nat.lt_of_lt_of_le (hr.lt b o hx) hgr.size) (fun _ _ _ _ _ _ _ _ hx => hx) ?_, ?_, ?_⟩
  · rcases hk q o' hne hj with h2 | ⟨_, h2⟩
    · exact .inl h2
    · exact .inr ⟨h2, fun b hb hl2 => hgr.block b (mine_lt hr ⟨q, _, h2, hl2, hb⟩) (by simp)⟩
  · rw [ObR, updM_same]
    refine ⟨.slice (some ⟨w.heap.size, 0, none⟩) 1 1, [u], us, rfl, ?_, rfl, h1, fun q x' j' d hq hd => ?_, ?_⟩
    · refine ⟨by simpa using hul, .inr ⟨w.heap.size, 1, us.toArray, rfl, Nat.zero_le _, heap_alloc_new w _, Nat.le_refl _, by simp [maxLen], by simpa using hul, ?_⟩⟩
      simp only [List.length_singleton, Nat.one_mul]
      rw [List.take_of_length_le (by omega)]
    · cases q with
      | succ q => simp at hq
      | zero =>
        simp at hq
        subst hq
        have hj'l : j' < (flat T ty).length := by rw [← lv_len ty z.1]; exact (List.getElem?_eq_some_iff.1 hd).1
        have ht : (flat T ty)[j']? = some d.1 := by rw [← lv_types ty z.1, List.getElem?_map, hd]; rfl
        have hdj : (flat T ty)[j]? = some (.sl e2 t2) := by
          have hjl : j < (lv T ty z.1).length := by rw [← z1]; exact (List.getElem?_eq_some_iff.1 g3).1
          have := (z2 j _ _ g3 (List.getElem?_eq_getElem hjl)).2 _ _ rfl
          rw [← lv_types ty z.1, List.getElem?_map, List.getElem?_eq_getElem hjl, ← this]
          rfl
        by_cases hjj : j' = j
        · subst hjj
          have := (z2 j' _ d g3 hd).2 _ _ rfl
          subst this
          refine ⟨u, by simpa using hu, rfl, vs2, ?_, fun q2 x2 j2 d2 k1 k2 => ?_⟩
          · refine ⟨hown.1, ?_⟩
            rcases hown.2 with h2 | ⟨g, cap, cur, h2, h3, h4, h5⟩
            · exact .inl h2
            · exact .inr ⟨g, cap, cur, h2, h3, (hgr.block g (Array.getElem?_eq_some_iff.1 h4).1 (by simp)).trans h4, h5⟩
          · obtain ⟨v, k3, k4⟩ := hc2.2 q2 x2 j2 d2 k1 k2
            exact ⟨v, k3, RD.mono on.ww on.xx k4⟩
        · have hsd := slN_one (oneS_some h1) hdj hjj ht
          obtain ⟨l, hlj⟩ : ∃ l, ls2[j']? = some l := ⟨_, List.getElem?_eq_getElem (by rw [z1, lv_len]; exact hj'l)⟩
          have hlj' := hlj
          rw [g4 j' hjj] at hlj'
          obtain ⟨v, hv, hlv⟩ := hl.get hlj'
          exact ⟨v, by simpa using hv, (celly_sc hsd).2 (RD.mono on.ww on.xx ((z2 j' l d hlj hd).1 _ _ _ _ _ hlv))⟩
    · simp only [List.pairwise_cons, List.mem_singleton, forall_eq, List.not_mem_nil, false_implies, implies_true, List.Pairwise.nil, and_true]
      intro b hb hb2
      cases hb
      exact absurd (hblt _ hb2) (Nat.lt_irrefl _)
  · rw [updM_same] at hb
    rw [updM_other m _ hne]
    rcases hk q o' hne hj with rfl | ⟨hqk, hj'⟩
    · cases hl2
    · rcases hVb b hb with rfl | hb
      · intro h6
        exact absurd (mine_lt hr ⟨q, _, hj', hl2, h6⟩) (Nat.lt_irrefl _)
      · exact hr.sep k q _ _ g1 hj' (Ne.symm hqk) rfl hl2 b hb
  · rw [updM_same]
    intro b hb o hx
    rcases hVb b hb with rfl | hb
    · exact absurd (hr.lt _ o hx) (Nat.lt_irrefl _)
    · have := (hr.gr k _ _ _ _ g1 b hb o hx).1
      cases this
  · refine Fr.upd (i0 := h.length) on hgr.size hgr.os hgr.tape hgr.output (fun b hb _ => hgr.block b hb (by simp)) (fun q o' hne hj => (hk q o' hne hj).imp id (·.2)) (fun o0 _ _ b hb => ?_) (fun _ _ hx => .inl hx)
    rw [updM_same] at hb
    rcases hVb b hb with rfl | hb
    · exact .inr (Nat.le_refl _)
    · exact .inl ⟨k, _, g1, rfl, hb⟩
  · exact ⟨by omega, by rw [updM_same]; exact ⟨_, rfl, rfl, _, _, _, rfl⟩⟩
theorem litY_ok (hr : Rel T m X h w) {env : Env T} {a : Act} (hop : ∀ x, OR m X h.length w env a x) {t e : TypeId} {len : Nat} {parts : Array (Nat × Operand)} {ty : Ty} {si : Nat × Nat} {l : List (Nat × V T)} {lss : List (List (Lf T))} {z : Res T}
    (hu : P.underlying t = some (.slice e)) (hsi : rowI P e = some si) (hl : partsOf env parts.toList = some l) (hln : l.length = len) (hsm : len * si.1 ≤ 65536) (he : elts 0 l = some lss) (ha : allLen si.1 lss = true) (hx : litY e ty lss h = some z) :
    ∃ rv m' X' w', (Instr.buildSlice t len (parts.map fun (i, x) => (i, a.eval x))).run P w = .ok rv w' ∧ AR m' X' z.h.length w' z.v rv ∧ Rel T m' X' z.h w' ∧ Fr T m X h w m' X' z.h w' := by
  unfold litY at hx
  split at hx
  · rename_i ls
    cases h1 : oneS (flat T ty) with
    | false => rw [h1] at hx; cases hx
    | true =>
      rw [h1] at hx
      simp only [cond_true] at hx
      have hlen : len = 1 := by rw [← hln, elts_len he]; rfl
      subst hlen
      obtain ⟨_, uss, q1, q2, q3, q4⟩ := run_lit hop hu hsi hl hln hsm he ha (by decide)
      match uss, q1, q3 with
      | [us], q1, _ =>
        simp only [List.flatten_cons, List.flatten_nil, List.append_nil] at q4
        unfold buildYF at hx
        obtain ⟨m1, X1, ls1, h1', r1, r2, r3, hx⟩ : ∃ m1 X1 ls1 h1', Rel T m1 X1 h1' w ∧ Fr T m X h w m1 X1 h1' w ∧ All2 (LfR m1 X1 h1'.length w) ls1 us ∧ (match splitOwn h1' ls1 with
          | some q => (match eltOf ty q.2 ([] : Hp T) with
            | some x => bif oneS (flat T ty) then sure (one (.y h1'.length .hd)) (setO h1' q.1 .no ++ [.dg e ty [x.1] false]) else none
            | none => none)
          | none => none) = some z := by
          cases hd : demoteL h ls with
          | none => rw [hd] at hx; exact ⟨m, X, ls, h, hr, Fr.refl, q1.1, hx⟩
          | some zz =>
            rw [hd] at hx
            obtain ⟨m1, X1, r1, r2, r3⟩ := demoteL_ok (h' := zz.2) hr (show demoteL h ls = some (zz.1, zz.2) from hd) q1.1
            exact ⟨m1, X1, zz.1, zz.2, r1, r2, r3, hx⟩
        split at hx
        · rename_i q hq
          split at hx
          · rename_i x hxe
            rw [h1] at hx
            cases hx
            obtain ⟨m', X', p1, p2, p3⟩ := pushY_ok (e := e) r1 (show splitOwn h1' ls1 = some (q.1, q.2) from hq) r3 hxe h1
            exact ⟨_, m', X', _, q4, AR_one.2 (by simpa [setO_len] using p3), p1, r2.trans p2⟩
          · cases hx
        · cases hx
  · cases hx
end
end Go.Proofs.Ytfojcadooepgpaa.Rx
