/- A plain evaluator over the translated code: memory that turns at one object. Under no condition. -/
import Derived.Test.YtfojcadooepgpaaRxO
set_option linter.unusedVariables false
set_option linter.unusedSimpArgs false
namespace Go.Proofs.Ytfojcadooepgpaa.Rx
open Go Go.RowKit

section
variable {T : Tab} {m m' : Nat → Value} {X X' : Nat → Nat → Prop} {n n' : Nat} {w w' : World} {P : Program} {h h' : Hp T}

theorem own_keep {base : Nat} {e : TypeId} {size k : Nat} {v : Value} {xs : List Value} (hw : w.ownsRow base e size v k xs) (hb : ∀ b, Blk v b → w'.heap[b]? = w.heap[b]?) : w'.ownsRow base e size v k xs := by
  obtain ⟨h1, h2⟩ := hw
  refine ⟨h1, ?_⟩
  rcases h2 with h2 | ⟨g, cap, cur, rfl, hg, hh, r⟩
  · exact .inl h2
  · exact .inr ⟨g, cap, cur, rfl, hg, (hb g rfl).trans hh, r⟩
theorem head_keep {e : TypeId} {size k : Nat} {fx : Bool} {v : Value} {xs : List Value} (hw : HeadR w e size fx v k xs) (hb : ∀ b, blk v = some b → w'.heap[b]? = w.heap[b]?) : HeadR w' e size fx v k xs := by
  cases fx with
  | false =>
    obtain ⟨h1, h2⟩ := hw
    refine ⟨h1, ?_⟩
    rcases h2 with h2 | ⟨g, cap, cur, rfl, hg, hh, r⟩
    · exact .inl h2
    · exact .inr ⟨g, cap, cur, rfl, hg, (hb g rfl).trans hh, r⟩
  | true =>
    obtain ⟨h1, h2⟩ := hw
    refine ⟨h1, ?_⟩
    rcases h2 with h2 | ⟨g, cap, cur, rfl, hh, r⟩
    · exact .inl h2
    · exact .inr ⟨g, cap, cur, rfl, (hb g rfl).trans hh, r⟩
theorem row_keep (ho : On m X n w m' X' n' w') {e : TypeId} {t : Ty} {xs : List (den T.S t)} {v : Value} (hr : RowR T w X e t xs v) (hb : ∀ b, blk v = some b → w'.heap[b]? = w.heap[b]?) : RowR T w' X' e t xs v := by
  obtain ⟨vs, ⟨h1, h2⟩, h3⟩ := hr
  refine ⟨vs, ⟨h1, ?_⟩, fun k x j d hk hd => ?_⟩
  · rcases h2 with h2 | ⟨g, cap, cur, rfl, hg, hh, r⟩
    · exact .inl h2
    · exact .inr ⟨g, cap, cur, rfl, hg, (hb g rfl).trans hh, r⟩
  · obtain ⟨u, h4, h5⟩ := h3 k x j d hk hd
    exact ⟨u, h4, RD.mono ho.ww ho.xx h5⟩
theorem celly_keep (ho : On m X n w m' X' n' w') {hd : Option Value} {d : DL T} {v : Value} (hr : CellY T w X hd d v) (hb : hd = some v → ∀ b, blk v = some b → w'.heap[b]? = w.heap[b]?) : CellY T w' X' hd d v := by
  obtain ⟨t, x⟩ := d
  cases t with
  | sl e t => exact ⟨hr.1, row_keep ho hr.2 (hb hr.1)⟩
  | int k => exact RD.mono ho.ww ho.xx hr
  | bool => exact RD.mono ho.ww ho.xx hr
  | str => exact RD.mono ho.ww ho.xx hr
  | st k => exact RD.mono ho.ww ho.xx hr
  | mp k v => exact RD.mono ho.ww ho.xx hr
  | it => exact RD.mono ho.ww ho.xx hr
theorem ObR.keep (ho : On m X n w m' X' n' w') {i : Nat} (hi : i < n) {o : Ob T} (hr : ObR m X n w i o) (hb : ∀ b, Blk (m i) b → w'.heap[b]? = w.heap[b]?) : ObR m' X' n' w' i o := by
  cases o with
  | box tid ls =>
    obtain ⟨b, vs, h1, h2, h3⟩ := hr
    exact ⟨b, vs, (ho.mm i hi).trans h1, (hb b (by rw [h1]; rfl)).trans h2, h3.imp (fun _ _ h => h.on ho)⟩
  | gr e t xs sh =>
    obtain ⟨vs, h1, h2⟩ := hr
    refine ⟨vs, by rw [ho.mm i hi]; exact own_keep h1 hb, fun k x j d hk hd => ?_⟩
    obtain ⟨v, h3, h4⟩ := h2 k x j d hk hd
    exact ⟨v, h3, RD.mono ho.ww ho.xx h4⟩
  | mp mt k v x po =>
    obtain ⟨r, es, h1, h2, h3, h4⟩ := hr
    refine ⟨r, es, (ho.mm i hi).trans h1, (hb r (by rw [h1]; rfl)).trans h2, h3.imp (fun _ _ q => q.mono ho.ww ho.xx), ?_⟩
    cases po with
    | none => trivial
    | some p =>
      obtain ⟨j, hole⟩ := p
      obtain ⟨h5, hs, h6, h7⟩ := h4
      exact ⟨Nat.lt_of_lt_of_le h5 ho.nn, hs, (ho.mm j h5).trans h6, h7⟩
  | po e t =>
    obtain ⟨hs, h1, h2, h3⟩ := hr
    refine ⟨hs, (ho.mm i hi).trans h1, fun u hu => ?_, h3⟩
    obtain ⟨b, len, cap, cur, e1, e2, e3⟩ := h2 u hu
    exact ⟨b, len, cap, cur, e1, (hb b (by rw [h1]; exact ⟨u, hu, by rw [e1]; rfl⟩)).trans e2, e3⟩
  | it j y =>
    obtain ⟨b, r, h1, h2, h3, h4⟩ := hr
    exact ⟨b, r, (ho.mm i hi).trans h1, (hb b (by rw [h1]; rfl)).trans h2, Nat.lt_of_lt_of_le h3 ho.nn, (ho.mm j h3).trans h4⟩
  | no => trivial
  | dg e t xs fx =>
    obtain ⟨hd, hs, vs, h1, h2, h3, h4, h5, h6⟩ := hr
    have hbk : ∀ u ∈ hd :: hs, ∀ b, blk u = some b → w'.heap[b]? = w.heap[b]? := fun u hu b hub => hb b (by rw [h1]; exact ⟨u, by simpa using hu, hub⟩)
    refine ⟨hd, hs, vs, (ho.mm i hi).trans h1, head_keep h2 (hbk hd List.mem_cons_self), h3, h4, fun k x j d hk hdd => ?_, h6⟩
    obtain ⟨v, h7, h8⟩ := h5 k x j d hk hdd
    exact ⟨v, h7, celly_keep ho h8 (fun e b hub => hbk v (List.mem_cons_of_mem _ (List.mem_of_getElem? e)) b hub)⟩
theorem lt_of_get {α : Type} {l : List α} {i : Nat} {a : α} (h : l[i]? = some a) : i < l.length := (List.getElem?_eq_some_iff.1 h).1
/-- What is told of the cells that others see, at one object. -/
def SeenOk (X : Nat → Nat → Prop) (v : Value) : Ob T → Prop
  | .box _ _ => ∀ b, Blk v b → ∀ o, ¬ X b o
  | .gr e t xs sh => ∀ b, Blk v b → ∀ o, X b o → sh = true ∧ o < xs.length * (flat T t).length
  | .mp _ _ _ _ _ => True
  | .po e t => ∀ hs : Array Value, v = .tuple hs → ∀ u ∈ hs.toList, ∀ A len cap, u = .slice (some A) len cap → ∀ p, X A.block p → p < len * (flat T t).length
  | .it _ _ => True
  | .no => True
  | .dg _ _ _ _ => ∀ b, Blk v b → ∀ o, ¬ X b o
theorem Rel.seen (hr : Rel T m X h w) {i : Nat} {o : Ob T} (hi : h[i]? = some o) : SeenOk X (m i) o := by
  cases o with
  | box tid ls => exact hr.box i tid ls hi
  | gr e t xs sh => exact hr.gr i e t xs sh hi
  | mp _ _ _ _ _ => trivial
  | po e t => exact hr.po i e t hi
  | it _ _ => trivial
  | no => trivial
  | dg e t xs fx => exact hr.pv i _ hi rfl
theorem SeenOk.less {v : Value} {o : Ob T} (hs : SeenOk X v o) (hX : o.live = true → ∀ b, Blk v b → ∀ p, X' b p → X b p) : SeenOk X' v o := by
  cases o with
  | box tid ls => exact fun b hb p hp => hs b hb p (hX rfl b hb p hp)
  | gr e t xs sh => exact fun b hb p hp => hs b hb p (hX rfl b hb p hp)
  | mp _ _ _ _ _ => trivial
  | po e t => exact fun hs' hv u hu A len cap hA p hp => hs hs' hv u hu A len cap hA p (hX rfl A.block (by rw [hv]; exact ⟨u, hu, by rw [hA]; rfl⟩) p hp)
  | it _ _ => trivial
  | no => trivial
  | dg e t xs fx => exact fun b hb p hp => hs b hb p (hX rfl b hb p hp)
theorem SeenOk.pv {v : Value} {o : Ob T} (hs : SeenOk X v o) (hp : o.priv = true) : ∀ b, Blk v b → ∀ p, ¬ X b p := by
  cases o with
  | box tid ls => exact hs
  | dg e t xs fx => exact hs
  | _ => cases hp
theorem Rel.upd (hr : Rel T m X h w) (on : On m X h.length w m' X' h'.length w') {i0 : Nat} {o0 : Ob T} (hi0 : h'[i0]? = some o0)
    (hk : ∀ i o', i ≠ i0 → h'[i]? = some o' → o' = .no ∨ (h[i]? = some o' ∧ ∀ b, Blk (m i) b → o'.live = true → w'.heap[b]? = w.heap[b]?))
    (h0 : ObR m' X' h'.length w' i0 o0)
    (hsep : o0.live = true → ∀ b, Blk (m' i0) b → ∀ i o', i ≠ i0 → h'[i]? = some o' → o'.live = true → ¬ Blk (m' i) b)
    (hlt : ∀ b o, X' b o → b < w'.heap.size)
    (hX : ∀ i o', i ≠ i0 → h'[i]? = some o' → o'.live = true → ∀ b, Blk (m i) b → ∀ o, X' b o → X b o)
    (h0X : SeenOk X' (m' i0) o0) : Rel T m' X' h' w' := by
  have old : ∀ i o', i ≠ i0 → h'[i]? = some o' → o'.live = true → h[i]? = some o' ∧ (∀ b, Blk (m i) b → w'.heap[b]? = w.heap[b]?) ∧ m' i = m i := by
    intro i o' hne hi hl
    rcases hk i o' hne hi with rfl | ⟨h1, h2⟩
    · cases hl
    · exact ⟨h1, fun b hb => h2 b hb hl, on.mm i (lt_of_get h1)⟩
  have seen : ∀ i o', h'[i]? = some o' → SeenOk X' (m' i) o' := by
    intro i o' hi
    by_cases hne : i = i0
    · subst hne
      rw [hi0] at hi
      cases hi
      exact h0X
    · cases hl : o'.live with
      | false => cases o' with | no => trivial | box _ _ => cases hl | gr _ _ _ _ => cases hl | mp _ _ _ _ _ => cases hl | po _ _ => cases hl | it _ _ => cases hl | dg _ _ _ _ => cases hl
      | true =>
        obtain ⟨h1, h2, h3⟩ := old i o' hne hi hl
        rw [h3]
        exact (hr.seen h1).less (hX i o' hne hi)
  refine ⟨fun i o' hi => ?_, fun i j o o' hi hj hij hl hl' b hb => ?_, hlt, fun i o hi hp => (seen i _ hi).pv hp, fun i e t xs sh hi => seen i _ hi, fun i e t hi => seen i _ hi⟩
  · by_cases hne : i = i0
    · subst hne
      rw [hi0] at hi
      cases hi
      exact h0
    · cases hl : o'.live with
      | false => cases o' with | no => trivial | box _ _ => cases hl | gr _ _ _ _ => cases hl | mp _ _ _ _ _ => cases hl | po _ _ => cases hl | it _ _ => cases hl | dg _ _ _ _ => cases hl
      | true =>
        obtain ⟨h1, h2, h3⟩ := old i o' hne hi hl
        exact (hr.ob i _ h1).keep on (lt_of_get h1) h2
  · by_cases hi0' : i = i0
    · subst hi0'
      rw [hi0] at hi
      cases hi
      exact hsep hl b hb j o' (Ne.symm hij) hj hl'
    · by_cases hj0 : j = i0
      · subst hj0
        rw [hi0] at hj
        cases hj
        intro hb'
        exact hsep hl' b hb' i o hi0' hi hl hb
      · obtain ⟨h1, _, h3⟩ := old i o hi0' hi hl
        obtain ⟨h4, _, h5⟩ := old j o' hj0 hj hl'
        rw [h3] at hb
        rw [h5]
        exact hr.sep i j _ _ h1 h4 hij hl hl' b hb
theorem Fr.upd (on : On m X h.length w m' X' h'.length w') (size : w.heap.size ≤ w'.heap.size) (os : w'.os = w.os) (tape : w'.tape = w.tape) (output : w'.output = w.output)
    (old : ∀ b, b < w.heap.size → ¬ Mine m h b → w'.heap[b]? = w.heap[b]?) {i0 : Nat}
    (hk : ∀ i o', i ≠ i0 → h'[i]? = some o' → o' = .no ∨ h[i]? = some o')
    (hm : ∀ o0, h'[i0]? = some o0 → o0.live = true → ∀ b, Blk (m' i0) b → Mine m h b ∨ w.heap.size ≤ b)
    (new : ∀ b o, X' b o → X b o ∨ Mine m h b ∨ w.heap.size ≤ b) : Fr T m X h w m' X' h' w' := by
  refine ⟨on, size, os, tape, output, old, fun b hb => ?_, new⟩
  obtain ⟨i, o, hi, hl, hbi⟩ := hb
  by_cases hne : i = i0
  · subst hne
    exact hm o hi hl b hbi
  · rcases hk i o hne hi with rfl | h1
    · cases hl
    · rw [on.mm i (lt_of_get h1)] at hbi
      exact .inl ⟨i, o, h1, hl, hbi⟩
theorem toDL_types : ∀ (ts : List Ty) (x : HL T.S ts), (toDL T ts x).map (·.1) = ts
  | [], _ => rfl
  | t :: ts, x => by simp only [toDL, List.map_cons, toDL_types ts x.2]
theorem lv_types (t : Ty) (x : den T.S t) : (lv T t x).map (·.1) = flat T t := by
  cases t with
  | st n => exact toDL_types _ _
  | _ => rfl
theorem slN_row : ∀ {ts : List Ty} {n : Nat}, slN ts = some (n + 1) → ∃ (j : Nat) (e : TypeId) (t : Ty), ts[j]? = some (.sl e t)
  | [], n, h => by simp [slN] at h
  | .sl e t :: r, n, h => ⟨0, e, t, rfl⟩
  | .int _ :: r, n, h => by obtain ⟨j, e, t, hj⟩ := slN_row (ts := r) (show slN r = some (n + 1) from h); exact ⟨j + 1, e, t, by simpa using hj⟩
  | .bool :: r, n, h => by obtain ⟨j, e, t, hj⟩ := slN_row (ts := r) (show slN r = some (n + 1) from h); exact ⟨j + 1, e, t, by simpa using hj⟩
  | .str :: r, n, h => by obtain ⟨j, e, t, hj⟩ := slN_row (ts := r) (show slN r = some (n + 1) from h); exact ⟨j + 1, e, t, by simpa using hj⟩
  | .st _ :: r, n, h => by simp [slN] at h
  | .mp _ _ :: r, n, h => by simp [slN] at h
  | .it :: r, n, h => by simp [slN] at h
theorem oneS_some {ts : List Ty} (h : oneS ts = true) : slN ts = some 1 := by
  unfold oneS at h
  split at h
  · assumption
  · cases h
theorem oneS_row {t : Ty} {x : den T.S t} (h : oneS (flat T t) = true) : ∃ (e : TypeId) (t2 : Ty) (ys : List (den T.S t2)) (j : Nat), (lv T t x)[j]? = some ⟨.sl e t2, ys⟩ := by
  obtain ⟨j, e, t2, hj⟩ := slN_row (oneS_some h)
  rw [← lv_types t x, List.getElem?_map] at hj
  cases hd : (lv T t x)[j]? with
  | none => rw [hd] at hj; cases hj
  | some d =>
    rw [hd] at hj
    obtain ⟨t3, y⟩ := d
    have e3 : t3 = .sl e t2 := by simpa using hj
    subst e3
    exact ⟨e, t2, y, j, hd⟩
theorem mine_lt (hr : Rel T m X h w) {b : Nat} (hb : Mine m h b) : b < w.heap.size := by
  obtain ⟨i, o, hi, hl, hbi⟩ := hb
  have ho := hr.ob i o hi
  cases o with
  | box tid ls =>
    obtain ⟨b', vs, h1, h2, _⟩ := ho
    rw [h1] at hbi
    cases hbi
    exact (Array.getElem?_eq_some_iff.1 h2).1
  | gr e t xs sh =>
    obtain ⟨vs, h1, _⟩ := ho
    rcases h1.2 with ⟨h2, _⟩ | ⟨g, cap, cur, h2, _, h3, _⟩
    · rw [h2] at hbi; cases hbi
    · rw [h2] at hbi; cases hbi; exact (Array.getElem?_eq_some_iff.1 h3).1
  | mp mt k v x po =>
    obtain ⟨r, es, h1, h2, _⟩ := ho
    rw [h1] at hbi
    cases hbi
    exact (Array.getElem?_eq_some_iff.1 h2).1
  | po e t =>
    obtain ⟨hs, h1, h2, _⟩ := ho
    rw [h1] at hbi
    obtain ⟨u, hu, hub⟩ := hbi
    obtain ⟨b', len, cap, cur, e1, e2, _⟩ := h2 u hu
    rw [e1] at hub
    cases hub
    exact (Array.getElem?_eq_some_iff.1 e2).1
  | it j y =>
    obtain ⟨b', r, h1, h2, _⟩ := ho
    rw [h1] at hbi
    cases hbi
    exact (Array.getElem?_eq_some_iff.1 h2).1
  | no => cases hl
  | dg e t xs fx =>
    obtain ⟨hd, hs, vs, h1, h2, h3, h4, h5, h6⟩ := ho
    rw [h1] at hbi
    obtain ⟨u, hu, hub⟩ := hbi
    have hlen : vs.length = xs.length * (flat T t).length := by cases fx with | false => exact h2.1 | true => exact h2.1
    rcases List.mem_cons.1 (show u ∈ hd :: hs by simpa using hu) with rfl | hu
    · cases fx with
      | false =>
        rcases h2.2 with ⟨e1, _⟩ | ⟨g, cap, cur, e1, _, e2, _⟩
        · rw [e1] at hub; cases hub
        · rw [e1] at hub; cases hub; exact (Array.getElem?_eq_some_iff.1 e2).1
      | true =>
        rcases h2.2 with ⟨e1, _⟩ | ⟨g, cap, cur, e1, e2, _⟩
        · rw [e1] at hub; cases hub
        · rw [e1] at hub; cases hub; exact (Array.getElem?_eq_some_iff.1 e2).1
    · obtain ⟨k, hk⟩ := List.mem_iff_getElem?.1 hu
      have hkl : k < xs.length := by rw [← h3]; exact lt_of_get hk
      obtain ⟨e2, t2, ys, j, hj⟩ := oneS_row (x := xs[k]) h4
      obtain ⟨v, q1, q2, vs2, q3, _⟩ := h5 k xs[k] j _ (List.getElem?_eq_getElem hkl) hj
      rw [hk] at q2
      cases q2
      rcases q3.2 with ⟨e1, _⟩ | ⟨g, cap, cur, e1, _, e2, _⟩
      · rw [e1] at hub; cases hub
      · rw [e1] at hub; cases hub; exact (Array.getElem?_eq_some_iff.1 e2).1

/-! ### stores -/
theorem setCells_other (b : Nat) : ∀ (vs : List Value) (o : Nat) (w : World) (k : Nat), k ≠ b → (w.setCells b o vs).heap[k]? = w.heap[k]?
  | [], _, _, _, _ => rfl
  | v :: r, o, w, k, hk => (setCells_other b r (o + 1) (w.setCell ⟨b, o, none⟩ v) k hk).trans (heap_setCell_other w ⟨b, o, none⟩ k v hk)
theorem setCells_tape (b : Nat) : ∀ (vs : List Value) (o : Nat) (w : World), (w.setCells b o vs).tape = w.tape ∧ (w.setCells b o vs).heap.size = w.heap.size ∧ (w.setCells b o vs).os = w.os ∧ (w.setCells b o vs).output = w.output
  | [], _, _ => ⟨rfl, rfl, rfl, rfl⟩
  | v :: r, o, w => by
    have := setCells_tape b r (o + 1) (w.setCell ⟨b, o, none⟩ v)
    exact ⟨this.1.trans rfl, this.2.1.trans (by simp [World.setCell]), this.2.2.1.trans rfl, this.2.2.2.trans rfl⟩
theorem setCells_same (b : Nat) {t : TypeId} : ∀ (us : List Value) (o : Nat) (w : World) (vs : List Value), w.heap[b]? = some (.cells vs.toArray t (0, 0)) → o + us.length ≤ vs.length →
    (w.setCells b o us).heap[b]? = some (.cells (vs.take o ++ us ++ vs.drop (o + us.length)).toArray t (0, 0))
  | [], o, w, vs, h, _ => by
    show w.heap[b]? = _
    rw [h]; simp
  | u :: r, o, w, vs, h, hl => by
    have h1 := heap_setCell_same w b o vs.toArray t u h
    have h2 : (vs.toArray.setIfInBounds o u) = (vs.set o u).toArray := by simp
    rw [h2] at h1
    have h3 := setCells_same b r (o + 1) (w.setCell ⟨b, o, none⟩ u) (vs.set o u) h1 (by simp at hl ⊢; omega)
    show ((w.setCell ⟨b, o, none⟩ u).setCells b (o + 1) r).heap[b]? = _
    rw [h3]
    simp only [List.length_cons] at hl
    have h4 : (vs.set o u).take (o + 1) = vs.take o ++ [u] := by
      rw [List.take_set, List.take_succ_eq_append_getElem (by omega), List.set_append_right _ _ (by rw [List.length_take]; omega)]
      simp [Nat.min_eq_left (show o ≤ vs.length by omega), Nat.min_le_left]
    have h5 : (vs.set o u).drop (o + 1 + r.length) = vs.drop (o + 1 + r.length) := by
      rw [List.drop_set, if_pos (by omega)]
    rw [h4, h5]
    simp [Nat.add_assoc, Nat.add_comm 1 r.length]
theorem run_store {t : TypeId} {b o k : Nat} {v : Value} {us vs : List Value} {tid : TypeId} (hs : sizeOf P t = some k) (hv : v.cells = us.toArray) (hk : us.length = k) (h1 : ∀ u ∈ us, u.oneCell' = true)
    (hh : w.heap[b]? = some (.cells vs.toArray tid (0, 0))) (hl : o + k ≤ vs.length) : (Instr.storeAt t (.pointer (some ⟨b, o, none⟩)) v).run P w = .ok () (w.setCells b o us) := by
  have h2 : (Instr.storeAt t (.pointer (some ⟨b, o, none⟩)) v) = (Instr.storeAt t (.pointer (some ⟨b, o, none⟩)) (.agg us.toArray)) := by
    unfold Instr.storeAt storeVar
    rw [hv]
    rfl
  rw [h2]
  refine run_storeAt_mid w b o t us.toArray (fun j hj => ?_) (by simpa [hk] using sizeOf_eq hs) (by simpa using h1)
  have hj' : j < us.length := by simpa using hj
  have hc := cell_of_row w b (o + j) _ _ _ hh
  rw [List.getElem?_toArray, List.getElem?_eq_getElem (by omega)] at hc
  exact ⟨by rw [hc]; rfl, frozen_of_row w b (o + j) _ _ hh⟩
theorem VR.cells {a : V T} {v : Value} (hv : VR m X n w a v) : ∃ us : List Value, v.cells = us.toArray ∧ All2 (LfR m X n w) a.2 us := by
  obtain ⟨us, h1, h2⟩ := hv
  refine ⟨us, ?_, h1⟩
  by_cases hb : a.1 = true
  · rw [if_pos hb] at h2; rw [h2]; rfl
  · rw [if_neg hb] at h2
    subst h2
    obtain ⟨l, hl⟩ : ∃ l, LfR m X n w l v := by
      obtain ⟨l, _, hl⟩ := h1.mem_right v (by simp)
      exact ⟨l, hl⟩
    have := hl.one
    cases v <;> first | rfl | cases this
theorem All2.ones {ls : List (Lf T)} {us : List Value} (h1 : All2 (LfR m X n w) ls us) : ∀ u ∈ us, u.oneCell' = true := by
  intro u hu
  obtain ⟨l, _, hl⟩ := h1.mem_right u hu
  exact hl.one
theorem setL_ok {ls new : List (Lf T)} {vs us : List Value} (h1 : All2 (LfR m X n w) ls vs) (h2 : All2 (LfR m X n w) new us) (off : Nat) :
    All2 (LfR m X n w) (setL ls off new) (vs.take off ++ us ++ vs.drop (off + us.length)) := by
  show All2 _ (ls.take off ++ new ++ ls.drop (off + new.length)) _
  rw [h2.len]
  exact ((h1.take off).append h2).append (h1.drop _)
theorem setO_len (h : Hp T) (i : Nat) (o : Ob T) : (setO h i o).length = h.length := by simp [setO]
theorem setO_same {h : Hp T} {i : Nat} (o : Ob T) (hi : i < h.length) : (setO h i o)[i]? = some o := by simp [setO, hi]
theorem setO_other (h : Hp T) {i j : Nat} (o : Ob T) (hij : j ≠ i) : (setO h i o)[j]? = h[j]? := by simp [setO, List.getElem?_set, Ne.symm hij]
theorem store_box (hr : Rel T m X h w) {i : Nat} {tid : TypeId} {ls new : List (Lf T)} (ho : h[i]? = some (.box tid ls)) {b off : Nat} (hm : m i = .pointer (some ⟨b, 0, none⟩)) {us : List Value} (hn : All2 (LfR m X h.length w) new us) (hle : off + us.length ≤ ls.length) :
    Rel T m X (setO h i (.box tid (setL ls off new))) (w.setCells b off us) ∧ Fr T m X h w m X (setO h i (.box tid (setL ls off new))) (w.setCells b off us) := by
  obtain ⟨b', vs, hm', hh, ha⟩ := hr.ob i _ ho
  rw [hm] at hm'
  cases hm'
  have hlt := lt_of_get ho
  have hbox := hr.box i _ _ ho b (by rw [hm]; rfl)
  have hww : ∀ p q, X p q → (w.setCells b off us).cell? ⟨p, q, none⟩ = w.cell? ⟨p, q, none⟩ := by
    intro p q hx
    have hp : p ≠ b := fun e => hbox q (e ▸ hx)
    exact World.cell?_of_block (setCells_other b us off w p hp)
  have on : On m X h.length w m X (setO h i (.box tid (setL ls off new))).length (w.setCells b off us) := ⟨by rw [setO_len]; exact Nat.le_refl _, fun _ _ => rfl, fun _ _ h => h, hww⟩
  have hlen := setO_len h i (.box tid (setL ls off new))
  have hkeep : ∀ j o', j ≠ i → (setO h i (.box tid (setL ls off new)))[j]? = some o' → h[j]? = some o' := fun j o' hne hj => by rwa [setO_other _ _ hne] at hj
  have hsep : ∀ j o', j ≠ i → h[j]? = some o' → o'.live = true → ¬ Blk (m j) b := fun j o' hne hj hl => hr.sep i j _ _ ho hj (Ne.symm hne) rfl hl b (by rw [hm]; rfl)
  refine ⟨hr.upd on (setO_same _ hlt) (fun j o' hne hj => .inr ⟨hkeep j o' hne hj, fun p hp hl => ?_⟩) ?_ (fun _ p hp j o' hne hj hl => ?_) (fun p q hx => ?_) (fun _ _ _ _ _ _ _ _ hx => hx) ?_, Fr.upd on ?_ ?_ ?_ ?_ ?_ (fun j o' hne hj => .inr (hkeep j o' hne hj)) (fun o0 ho0 _ p hp => ?_) (fun _ _ hx => .inl hx)⟩
  · exact setCells_other b us off w p (fun e => hsep j o' hne (hkeep j o' hne hj) hl (e ▸ hp))
  · refine ⟨b, _, hm, setCells_same b us off w vs hh (by rw [← ha.len]; exact hle), ?_⟩
    exact (setL_ok ha hn off).imp (fun _ _ h => h.on on)
  · rw [hm] at hp
    cases hp
    exact hsep j o' hne (hkeep j o' hne hj) hl
  · rw [(setCells_tape b us off w).2.1]
    exact hr.lt p q hx
  · exact fun p hp q hx => by rw [hm] at hp; cases hp; exact hbox q hx
  · exact Nat.le_of_eq (setCells_tape b us off w).2.1.symm
  · exact (setCells_tape b us off w).2.2.1
  · exact (setCells_tape b us off w).1
  · exact (setCells_tape b us off w).2.2.2
  · intro p _ hp
    exact setCells_other b us off w p (fun e => hp ⟨i, _, ho, rfl, by rw [hm, e]; rfl⟩)
  · exact .inl ⟨i, _, ho, rfl, hp⟩
end
end Go.Proofs.Ytfojcadooepgpaa.Rx
