/- A plain evaluator over the translated code: parts of a memory, in numbers of their own. Under no condition. -/
import Derived.Test.YtfojcadooepgpaaRxY
set_option linter.unusedVariables false
set_option linter.unusedSimpArgs false
namespace Go.Proofs.Ytfojcadooepgpaa.Rx
open Go Go.RowKit

section
variable {T : Tab} {m m' : Nat → Value} {X X' : Nat → Nat → Prop} {n n' : Nat} {w w' : World} {P : Program} {h h' : Hp T}

theorem memN_iff : ∀ {l : List Nat} {i : Nat}, memN l i = true ↔ i ∈ l
  | [], i => by simp [memN]
  | x :: r, i => by
    simp only [memN, Bool.or_eq_true, List.mem_cons, memN_iff (l := r)]
    constructor
    · rintro (h | h)
      · exact .inl (Nat.eq_of_beq_eq_true h).symm
      · exact .inr h
    · rintro (h | h)
      · subst h; exact .inl (Nat.beq_refl _)
      · exact .inr h
theorem idxN_ok : ∀ {l : List Nat} {i : Nat}, i ∈ l → l[idxN l i]? = some i
  | [], i, hi => by cases hi
  | x :: r, i, hi => by
    unfold idxN
    cases hb : Nat.beq x i with
    | true => have := Nat.eq_of_beq_eq_true hb; subst this; rfl
    | false =>
      have hne : x ≠ i := Nat.ne_of_beq_eq_false hb
      rcases List.mem_cons.1 hi with rfl | hi
      · exact absurd rfl hne
      · simpa using idxN_ok hi
theorem allN_iff {f : Nat → Bool} : ∀ {l : List Nat}, allN f l = true ↔ ∀ i ∈ l, f i = true
  | [] => by simp [allN]
  | x :: r => by simp [allN, allN_iff (l := r)]
theorem nodupN_get : ∀ {l : List Nat}, nodupN l = true → ∀ {i j a : Nat}, l[i]? = some a → l[j]? = some a → i = j
  | [], _, i, j, a, hi, _ => by simp at hi
  | x :: r, hn, i, j, a, hi, hj => by
    simp only [nodupN, Bool.and_eq_true, Bool.not_eq_true'] at hn
    have hx : x ∉ r := fun hm => by rw [memN_iff.2 hm] at hn; cases hn.1
    cases i with
    | zero => cases j with
      | zero => rfl
      | succ j => simp at hi hj; subst hi; exact absurd (List.mem_of_getElem? hj) hx
    | succ i => cases j with
      | zero => simp at hi hj; subst hj; exact absurd (List.mem_of_getElem? hi) hx
      | succ j => simp at hi hj; rw [nodupN_get hn.2 hi hj]
theorem preN_ok : ∀ {k : Nat} {ids : List Nat}, preN k ids = true → ∀ i, i < k → ids[i]? = some i
  | 0, _, _, i, hi => by omega
  | k + 1, ids, hp, i, hi => by
    simp only [preN, Bool.and_eq_true] at hp
    by_cases hk : i < k
    · exact preN_ok hp.1 i hk
    · have : i = k := by omega
      subst this
      have h2 := hp.2
      rw [nth_eq] at h2
      split at h2
      · rename_i j hj
        rw [hj, Nat.eq_of_beq_eq_true h2]
      · cases h2
structure Ids (m0 : Nat) (h : Hp T) (ids roots : List Nat) : Prop where
  nd : ∀ {i j a : Nat}, ids[i]? = some a → ids[j]? = some a → i = j
  pre : ∀ i, i < m0 → ids[i]? = some i
  roots : ∀ i ∈ roots, i ∈ ids
  obs : ∀ i ∈ ids, ∃ o, h[i]? = some o ∧ ∀ l ∈ obL o, ∀ j ∈ refs l, j ∈ ids
theorem okIds_ok {m0 : Nat} {ids roots : List Nat} (hb : okIds m0 h ids roots = true) : Ids m0 h ids roots := by
  simp only [okIds, Bool.and_eq_true] at hb
  obtain ⟨h1, h2, h3, h4⟩ := hb
  refine ⟨nodupN_get h1, preN_ok h2, fun i hi => memN_iff.1 (allN_iff.1 h3 i hi), fun i hi => ?_⟩
  have h5 := allN_iff.1 h4 i hi
  rw [nth_eq] at h5
  split at h5
  · rename_i o ho
    refine ⟨o, ho, fun l hl j hj => memN_iff.1 (allN_iff.1 h5 j ?_)⟩
    exact List.mem_flatMap.2 ⟨l, hl, hj⟩
  · cases h5
/-- The values behind the new numbers. -/
def pickM (m : Nat → Value) (ids : List Nat) : Nat → Value := fun j => match ids[j]? with | some i => m i | none => .nilFunc
theorem pickM_at {ids : List Nat} {i j : Nat} (hj : ids[j]? = some i) : pickM m ids j = m i := by simp [pickM, hj]
/-- A leaf in other numbers. -/
theorem LfR.ren {f : Nat → Nat} {l : Lf T} {v : Value} (hl : LfR m X n w l v) (hf : ∀ i ∈ refs l, f i < n' ∧ m' (f i) = m i) : LfR m' X n' w (renL f l) v := by
  cases l with
  | d t x => exact hl
  | b p i => exact hl
  | n => exact hl
  | g i =>
    obtain ⟨h1, h2⟩ := hf i (by simp [refs])
    exact ⟨h1, hl.2.1.trans h2.symm, hl.2.2⟩
  | m i =>
    obtain ⟨h1, h2⟩ := hf i (by simp [refs])
    exact ⟨h1, hl.2.1.trans h2.symm, hl.2.2⟩
  | p i off =>
    obtain ⟨h1, h2⟩ := hf i (by simp [refs])
    obtain ⟨_, b, h3, h4⟩ := hl
    exact ⟨h1, b, h2.trans h3, h4⟩
  | e i sz x off =>
    obtain ⟨h1, h2⟩ := hf i (by simp [refs])
    obtain ⟨_, b, l, c, h3, h4⟩ := hl
    exact ⟨h1, b, l, c, h2.trans h3, h4⟩
  | q ds => exact hl
  | pn => exact hl
  | f g cs =>
    obtain ⟨us, h1, h2⟩ := hl
    refine ⟨us, h1, ?_⟩
    have hcs : ∀ c ∈ cs, f c.1 < n' ∧ m' (f c.1) = m c.1 := fun c hc => hf c.1 (by simp only [refs]; exact List.mem_map.2 ⟨c, hc, rfl⟩)
    clear h1 hf
    induction cs generalizing us with
    | nil =>
      match us, h2 with
      | [], _ => trivial
    | cons c cs ih =>
      match us, h2 with
      | u :: us, h2 =>
        obtain ⟨⟨_, b, h3, h4⟩, h5⟩ := h2
        obtain ⟨h6, h7⟩ := hcs c List.mem_cons_self
        exact ⟨⟨h6, b, h7.trans h3, h4⟩, ih us h5 (fun c' hc' => hcs c' (List.mem_cons_of_mem _ hc'))⟩
  | u => exact hl
  | w p i s => exact hl
  | y i k =>
    obtain ⟨h1, h2⟩ := hf i (by simp [refs])
    exact ⟨h1, by rw [h2]; exact hl.2⟩
theorem All2.ren {f : Nat → Nat} : ∀ {ls : List (Lf T)} {us : List Value}, All2 (LfR m X n w) ls us → (∀ l ∈ ls, ∀ i ∈ refs l, f i < n' ∧ m' (f i) = m i) → All2 (LfR m' X n' w) (ls.map (renL f)) us
  | [], [], _, _ => trivial
  | l :: ls, u :: us, h, hf => ⟨h.1.ren (hf l List.mem_cons_self), All2.ren h.2 (fun l' hl' => hf l' (List.mem_cons_of_mem _ hl'))⟩
  | [], _ :: _, h, _ => h.elim
  | _ :: _, [], h, _ => h.elim
theorem VR.ren {f : Nat → Nat} {a : V T} {v : Value} (hv : VR m X n w a v) (hf : ∀ l ∈ a.2, ∀ i ∈ refs l, f i < n' ∧ m' (f i) = m i) : VR m' X n' w (renV f a) v := by
  obtain ⟨us, h1, h2⟩ := hv
  exact ⟨us, h1.ren hf, h2⟩
theorem ObR.ren {f : Nat → Nat} {i j : Nat} {o : Ob T} (ho : ObR m X n w i o) (hij : m' j = m i) (hf : ∀ l ∈ obL o, ∀ i ∈ refs l, f i < n' ∧ m' (f i) = m i) : ObR m' X n' w j (renO f o) := by
  cases o with
  | box tid ls =>
    obtain ⟨b, vs, h1, h2, h3⟩ := ho
    exact ⟨b, vs, hij.trans h1, h2, h3.ren hf⟩
  | gr e t xs sh =>
    obtain ⟨vs, h1, h2⟩ := ho
    exact ⟨vs, by rw [hij]; exact h1, h2⟩
  | mp mt k v x po =>
    obtain ⟨r, es, h1, h2, h3, h4⟩ := ho
    refine ⟨r, es, hij.trans h1, h2, h3, ?_⟩
    cases po with
    | none => trivial
    | some p =>
      obtain ⟨j, hole⟩ := p
      obtain ⟨_, hs, h6, h7⟩ := h4
      obtain ⟨h8, h9⟩ := hf (.g j) (by simp [obL]) j (by simp [refs])
      exact ⟨h8, hs, h9.trans h6, h7⟩
  | po e t => obtain ⟨hs, h1, h2⟩ := ho; exact ⟨hs, hij.trans h1, h2⟩
  | it q y =>
    obtain ⟨b, r, h1, h2, h3, h4⟩ := ho
    obtain ⟨h5, h6⟩ := hf (.m q) (by simp [obL]) q (by simp [refs])
    exact ⟨b, r, hij.trans h1, h2, h5, h6.trans h4⟩
  | no => trivial
  | dg e t xs fx => obtain ⟨hd, hs, vs, h1, h2⟩ := ho; exact ⟨hd, hs, vs, hij.trans h1, h2⟩
theorem live_ren (f : Nat → Nat) (o : Ob T) : (renO f o).live = o.live := by cases o <;> rfl
theorem seen_ren {f : Nat → Nat} {v : Value} {o : Ob T} : SeenOk X v (renO f o) ↔ SeenOk X v o := by cases o <;> exact Iff.rfl
theorem Rel.mk' (ob : ∀ (i : Nat) o, h[i]? = some o → ObR m X h.length w i o) (sep : ∀ (i j : Nat) o o', h[i]? = some o → h[j]? = some o' → i ≠ j → o.live = true → o'.live = true → ∀ b, Blk (m i) b → ¬ Blk (m j) b)
    (lt : ∀ b o, X b o → b < w.heap.size) (seen : ∀ (i : Nat) o, h[i]? = some o → SeenOk X (m i) o) : Rel T m X h w :=
  ⟨ob, sep, lt, fun i o hi hp => (seen i _ hi).pv hp, fun i e t xs sh hi => seen i _ hi, fun i e t hi => seen i _ hi⟩
theorem sub_get {ids : List Nat} {j : Nat} {o : Ob T} (hj : (sub h ids)[j]? = some o) : ∃ i, ids[j]? = some i ∧ o = renO (idxN ids) (getO h i) := by
  unfold sub at hj
  rw [List.getElem?_map] at hj
  obtain ⟨i, hi, rfl⟩ := Option.map_eq_some_iff.1 hj
  exact ⟨i, hi, rfl⟩
theorem getO_of {i : Nat} {o : Ob T} (hi : h[i]? = some o) : getO h i = o := by unfold getO; rw [nth_eq, hi]
theorem sub_len (h : Hp T) (ids : List Nat) : (sub h ids).length = ids.length := by simp [sub]
theorem ids_f {m0 : Nat} {ids roots : List Nat} (hi : Ids m0 h ids roots) {i : Nat} (hm : i ∈ ids) : idxN ids i < ids.length ∧ pickM m ids (idxN ids i) = m i :=
  ⟨lt_of_get (idxN_ok hm), pickM_at (idxN_ok hm)⟩
/-- A part of a memory. -/
theorem sub_ok (hr : Rel T m X h w) {m0 : Nat} {ids roots : List Nat} (hi : Ids m0 h ids roots) : Rel T (pickM m ids) X (sub h ids) w := by
  have key : ∀ (j : Nat) o, (sub h ids)[j]? = some o → ∃ i o', ids[j]? = some i ∧ h[i]? = some o' ∧ o = renO (idxN ids) o' ∧ pickM m ids j = m i := by
    intro j o hj
    obtain ⟨i, h1, h2⟩ := sub_get hj
    obtain ⟨o', h3, _⟩ := hi.obs i (List.mem_of_getElem? h1)
    exact ⟨i, o', h1, h3, by rw [h2, getO_of h3], pickM_at h1⟩
  refine Rel.mk' (fun j o hj => ?_) (fun i j o o' hi' hj' hne hl hl' b hb => ?_) hr.lt (fun j o hj => ?_)
  · obtain ⟨i, o', h1, h2, rfl, h4⟩ := key j o hj
    refine (hr.ob i o' h2).ren h4 (fun l hl k hk => ?_)
    obtain ⟨o'', h5, h6⟩ := hi.obs i (List.mem_of_getElem? h1)
    rw [h2] at h5
    cases h5
    rw [sub_len]
    exact ids_f hi (h6 l hl k hk)
  · obtain ⟨i1, o1, h1, h2, rfl, h4⟩ := key i o hi'
    obtain ⟨i2, o2, h5, h6, rfl, h8⟩ := key j o' hj'
    rw [live_ren] at hl hl'
    rw [h4] at hb
    rw [h8]
    exact hr.sep i1 i2 o1 o2 h2 h6 (fun e => hne (hi.nd h1 (e ▸ h5))) hl hl' b hb
  · obtain ⟨i, o', h1, h2, rfl, h4⟩ := key j o hj
    rw [seen_ren, h4]
    exact hr.seen h2
theorem sub_mine {m0 : Nat} {ids roots : List Nat} (hi : Ids m0 h ids roots) {b : Nat} (hb : Mine (pickM m ids) (sub h ids) b) : Mine m h b := by
  obtain ⟨j, o, hj, hl, hbj⟩ := hb
  obtain ⟨i, h1, h2⟩ := sub_get hj
  obtain ⟨o', h3, _⟩ := hi.obs i (List.mem_of_getElem? h1)
  rw [getO_of h3] at h2
  subst h2
  rw [live_ren] at hl
  rw [pickM_at h1] at hbj
  exact ⟨i, o', h3, hl, hbj⟩
/-- What has turned since a beginning is told of the part, too (whose first objects are the beginning's). -/
theorem sub_fr {m0 : Nat → Value} {X0 : Nat → Nat → Prop} {h0 : Hp T} {w0 : World} (hf : Fr T m0 X0 h0 w0 m X h w) {ids roots : List Nat} (hi : Ids h0.length h ids roots) : Fr T m0 X0 h0 w0 (pickM m ids) X (sub h ids) w := by
  refine ⟨⟨?_, fun i hlt => ?_, hf.on.xx, hf.on.ww⟩, hf.size, hf.os, hf.tape, hf.output, hf.old, fun b hb => hf.mine b (sub_mine hi hb), hf.new⟩
  · rw [sub_len]
    rcases Nat.eq_zero_or_pos h0.length with h1 | h1
    · omega
    · have := lt_of_get (hi.pre (h0.length - 1) (by omega))
      omega
  · rw [pickM_at (hi.pre i hlt)]
    exact hf.on.mm i hlt

/-! ### behind a call -/
theorem backN_lt {ids : List Nat} {k j i : Nat} (hj : ids[j]? = some i) : backN k ids j = i := by unfold backN; rw [nth_eq, hj]
theorem backN_ge {ids : List Nat} {k j : Nat} (hj : ids.length ≤ j) : backN k ids j = k + (j - ids.length) := by
  unfold backN; rw [nth_eq, List.getElem?_eq_none hj]
theorem merge_len (k : Nat) (ids : List Nat) : ∀ (r : List Nat) (g h : Hp T), r.length ≤ g.length → (mergeO k ids r g h).length = h.length + (g.length - r.length)
  | [], g, h, _ => by cases g <;> simp [mergeO]
  | i :: r, [], h, hl => by simp at hl
  | i :: r, o :: g, h, hl => by
    simp only [mergeO]
    rw [merge_len k ids r g _ (by simpa using hl), setO_len]
    simp only [List.length_cons]
    omega
theorem merge_get (k : Nat) (ids : List Nat) : ∀ (r : List Nat) (g h : Hp T), (∀ {i j a : Nat}, r[i]? = some a → r[j]? = some a → i = j) → (∀ i ∈ r, i < h.length) → r.length ≤ g.length → ∀ (i : Nat) o, (mergeO k ids r g h)[i]? = some o →
    (i ∉ r ∧ i < h.length ∧ h[i]? = some o) ∨ (∃ (j : Nat) (o' : Ob T), r[j]? = some i ∧ g[j]? = some o' ∧ o = renO (backN k ids) o') ∨ (h.length ≤ i ∧ ∃ o', g[r.length + (i - h.length)]? = some o' ∧ o = renO (backN k ids) o')
  | [], g, h, _, _, _, i, o, hi => by
    have e : mergeO k ids [] g h = h ++ g.map (renO (backN k ids)) := by cases g <;> simp [mergeO]
    rw [e] at hi
    by_cases hlt : i < h.length
    · rw [List.getElem?_append_left hlt] at hi
      exact .inl ⟨by simp, hlt, hi⟩
    · rw [List.getElem?_append_right (by omega), List.getElem?_map] at hi
      obtain ⟨o', h1, h2⟩ := Option.map_eq_some_iff.1 hi
      exact .inr (.inr ⟨by omega, o', by simpa using h1, h2.symm⟩)
  | a :: r, [], h, _, _, hl, _, _, _ => by simp at hl
  | a :: r, o0 :: g, h, hn, hlt, hl, i, o, hi => by
    simp only [mergeO] at hi
    have hna : a ∉ r := by
      intro hm
      obtain ⟨q, hq⟩ := List.mem_iff_getElem?.1 hm
      have := hn (i := 0) (j := q + 1) (a := a) rfl (by simpa using hq)
      omega
    have hnr : ∀ {i j b : Nat}, r[i]? = some b → r[j]? = some b → i = j := by
      intro i j b h1 h2
      have := hn (i := i + 1) (j := j + 1) (a := b) (by simpa using h1) (by simpa using h2)
      omega
    have ih := merge_get k ids r g (setO h a (renO (backN k ids) o0)) hnr (fun i hi => by rw [setO_len]; exact hlt i (List.mem_cons_of_mem _ hi)) (by simpa using hl) i o hi
    rw [setO_len] at ih
    rcases ih with ⟨h1, h2, h3⟩ | ⟨j, o', h1, h2, h3⟩ | ⟨h1, o', h2, h3⟩
    · by_cases hia : i = a
      · subst hia
        rw [setO_same _ h2] at h3
        cases h3
        exact .inr (.inl ⟨0, o0, rfl, rfl, rfl⟩)
      · rw [setO_other _ _ hia] at h3
        exact .inl ⟨by simp [hia, h1], h2, h3⟩
    · exact .inr (.inl ⟨j + 1, o', by simpa using h1, by simpa using h2, h3⟩)
    · refine .inr (.inr ⟨h1, o', ?_, h3⟩)
      simp only [List.length_cons]
      have e : r.length + 1 + (i - h.length) = (r.length + (i - h.length)) + 1 := by omega
      rw [e]
      simpa using h2
/-- The values of all, behind a call. -/
def joinM (m m1 : Nat → Value) (k l : Nat) : Nat → Value := fun i => if i < k then m i else m1 (l + (i - k))
theorem merge_ok (hr : Rel T m X h w) {ids roots : List Nat} (hi : Ids 0 h ids roots) {m1 : Nat → Value} {X1 : Nat → Nat → Prop} {g : Hp T} {w1 : World} (hr1 : Rel T m1 X1 g w1) (hf : Fr T (pickM m ids) X (sub h ids) w m1 X1 g w1) :
    Rel T (joinM m m1 h.length ids.length) X1 (mergeO h.length ids ids g h) w1 ∧ Fr T m X h w (joinM m m1 h.length ids.length) X1 (mergeO h.length ids ids g h) w1 ∧
    ∀ i, i < g.length → backN h.length ids i < (mergeO h.length ids ids g h).length ∧ joinM m m1 h.length ids.length (backN h.length ids i) = m1 i := by
  have hlen : ids.length ≤ g.length := by have := hf.on.nn; rwa [sub_len] at this
  have hlts : ∀ i ∈ ids, i < h.length := fun i hm => by obtain ⟨o, ho, _⟩ := hi.obs i hm; exact lt_of_get ho
  have hml := merge_len h.length ids ids g h hlen
  have hold : ∀ i, i < h.length → joinM m m1 h.length ids.length i = m i := fun i hlt => by simp [joinM, hlt]
  have hidm : ∀ {j i : Nat}, ids[j]? = some i → m1 j = m i := by
    intro j i hj
    have h1 := hf.on.mm j (by rw [sub_len]; exact lt_of_get hj)
    rw [h1, pickM_at hj]
  have hback : ∀ i, i < g.length → backN h.length ids i < (mergeO h.length ids ids g h).length ∧ joinM m m1 h.length ids.length (backN h.length ids i) = m1 i := by
    intro i hlt
    rw [hml]
    by_cases hil : i < ids.length
    · have hj : ids[i]? = some ids[i] := List.getElem?_eq_getElem hil
      have hl := hlts _ (List.mem_of_getElem? hj)
      rw [backN_lt hj, hold _ hl, hidm hj]
      exact ⟨by omega, rfl⟩
    · rw [backN_ge (by omega)]
      refine ⟨by omega, ?_⟩
      unfold joinM
      rw [if_neg (by omega)]
      congr 1
      omega
  have hget := merge_get h.length ids ids g h hi.nd hlts hlen
  -- objects that the call has seen, and such as it has not
  have cases_ : ∀ (i : Nat) o, (mergeO h.length ids ids g h)[i]? = some o →
      (i ∉ ids ∧ h[i]? = some o ∧ joinM m m1 h.length ids.length i = m i) ∨ (∃ (j : Nat) (o' : Ob T), g[j]? = some o' ∧ o = renO (backN h.length ids) o' ∧ joinM m m1 h.length ids.length i = m1 j ∧ backN h.length ids j = i) := by
    intro i o hio
    rcases hget i o hio with ⟨h1, h2, h3⟩ | ⟨j, o', h1, h2, h3⟩ | ⟨h1, o', h2, h3⟩
    · exact .inl ⟨h1, h3, hold i h2⟩
    · exact .inr ⟨j, o', h2, h3, by rw [hold i (hlts i (List.mem_of_getElem? h1)), hidm h1], backN_lt h1⟩
    · refine .inr ⟨ids.length + (i - h.length), o', h2, h3, ?_, ?_⟩
      · unfold joinM
        rw [if_neg (by omega)]
      · rw [backN_ge (by omega)]
        omega
  have hfar : ∀ (i : Nat) o b, i ∉ ids → h[i]? = some o → o.live = true → Blk (m i) b → ¬ Mine (pickM m ids) (sub h ids) b ∧ b < w.heap.size := by
    intro i o b hni hio hl hb
    refine ⟨?_, mine_lt hr ⟨i, o, hio, hl, hb⟩⟩
    rintro ⟨j, o', hj, hl', hbj⟩
    obtain ⟨q, h1, h2⟩ := sub_get hj
    obtain ⟨o'', h3, _⟩ := hi.obs q (List.mem_of_getElem? h1)
    rw [getO_of h3] at h2
    subst h2
    rw [live_ren] at hl'
    rw [pickM_at h1] at hbj
    exact hr.sep i q o o'' hio h3 (fun e => hni (e ▸ List.mem_of_getElem? h1)) hl hl' b hb hbj
  have on : On m X h.length w (joinM m m1 h.length ids.length) X1 (mergeO h.length ids ids g h).length w1 := ⟨by omega, hold, hf.on.xx, hf.on.ww⟩
  refine ⟨Rel.mk' (fun i o hio => ?_) (fun i j o o' hio hjo hne hl hl' b hb => ?_) hr1.lt (fun i o hio => ?_), ⟨on, hf.size, hf.os, hf.tape, hf.output, fun b hb hm => hf.old b hb (fun k => hm (sub_mine hi k)), fun b hb => ?_, fun b o hx => ?_⟩, hback⟩
  · rcases cases_ i o hio with ⟨h1, h2, h3⟩ | ⟨j, o', h1, rfl, h3, h4⟩
    · cases hl : o.live with
      | false => cases o with | no => trivial | box _ _ => cases hl | gr _ _ _ _ => cases hl | mp _ _ _ _ _ => cases hl | po _ _ => cases hl | it _ _ => cases hl | dg _ _ _ _ => cases hl
      | true => exact (hr.ob i o h2).keep on (lt_of_get h2) (fun b hb => by obtain ⟨k1, k2⟩ := hfar i o b h1 h2 hl hb; exact hf.old b k2 k1)
    · refine (hr1.ob j o' h1).ren h3 (fun l hl k hk => hback k ?_)
      have hob := hr1.ob j o' h1
      cases o' with
      | box tid ls =>
        obtain ⟨b, vs, _, _, ha⟩ := hob
        obtain ⟨q, hq⟩ := List.mem_iff_getElem?.1 (show l ∈ ls from hl)
        obtain ⟨u, _, hu⟩ := ha.get hq
        cases l with
        | g i => simp [refs] at hk; subst hk; exact hu.1
        | m i => simp [refs] at hk; subst hk; exact hu.1
        | p i off => simp [refs] at hk; subst hk; exact hu.1
        | e i sz x off => simp [refs] at hk; subst hk; exact hu.1
        | f f cs =>
          simp only [refs] at hk
          obtain ⟨c, hc, rfl⟩ := List.mem_map.1 hk
          obtain ⟨us, _, h6⟩ := hu
          obtain ⟨q', hq'⟩ := List.mem_iff_getElem?.1 hc
          obtain ⟨u', _, h7, _⟩ := h6.get hq'
          exact h7
        | d _ _ => simp [refs] at hk
        | b _ _ => simp [refs] at hk
        | n => simp [refs] at hk
        | q _ => simp [refs] at hk
        | pn => simp [refs] at hk
        | u => simp [refs] at hk
        | w p i s => simp [refs] at hk
        | y i k => simp [refs] at hk; subst hk; exact hu.1
      | gr e t xs sh => cases hl
      | mp mt kt vt x po =>
        cases po with
        | none => cases hl
        | some p =>
          obtain ⟨q, hole⟩ := p
          obtain ⟨_, _, _, _, _, h9, _⟩ := hob
          have hl' : l = .g q := by simpa [obL] using hl
          subst hl'
          have : k = q := by simpa [refs] using hk
          subst this
          exact h9
      | po e t => cases hl
      | dg e t xs fx => cases hl
      | it q y =>
        obtain ⟨b, r, _, _, h9, _⟩ := hob
        have hl' : l = .m q := by simpa [obL] using hl
        subst hl'
        have : k = q := by simpa [refs] using hk
        subst this
        exact h9
      | no => cases hl
  · rcases cases_ i o hio with ⟨h1, h2, h3⟩ | ⟨i1, o1, h1, rfl, h3, h4⟩ <;> rcases cases_ j o' hjo with ⟨k1, k2, k3⟩ | ⟨j1, o2, k1, rfl, k3, k4⟩
    · rw [h3] at hb
      rw [k3]
      exact hr.sep i j o o' h2 k2 hne hl hl' b hb
    · rw [h3] at hb
      rw [k3]
      rw [live_ren] at hl'
      intro hb'
      obtain ⟨q1, q2⟩ := hfar i o b h1 h2 hl hb
      rcases hf.mine b ⟨j1, o2, k1, hl', hb'⟩ with q3 | q3
      · exact q1 q3
      · omega
    · rw [h3] at hb
      rw [k3]
      rw [live_ren] at hl
      intro hb'
      obtain ⟨q1, q2⟩ := hfar j o' b k1 k2 hl' hb'
      rcases hf.mine b ⟨i1, o1, h1, hl, hb⟩ with q3 | q3
      · exact q1 q3
      · omega
    · rw [h3] at hb
      rw [k3]
      rw [live_ren] at hl hl'
      refine hr1.sep i1 j1 o1 o2 h1 k1 (fun e => hne ?_) hl hl' b hb
      rw [← h4, ← k4, e]
  · rcases cases_ i o hio with ⟨h1, h2, h3⟩ | ⟨j, o', h1, rfl, h3, h4⟩
    · rw [h3]
      refine (hr.seen h2).less (fun hl b hb p hp => ?_)
      obtain ⟨q1, q2⟩ := hfar i o b h1 h2 hl hb
      rcases hf.new b p hp with q3 | q3 | q3
      · exact q3
      · exact absurd q3 q1
      · omega
    · rw [h3, seen_ren]
      exact hr1.seen h1
  · obtain ⟨i, o, hio, hl, hbi⟩ := hb
    rcases cases_ i o hio with ⟨h1, h2, h3⟩ | ⟨j, o', h1, rfl, h3, h4⟩
    · rw [h3] at hbi
      exact .inl ⟨i, o, h2, hl, hbi⟩
    · rw [h3] at hbi
      rw [live_ren] at hl
      rcases hf.mine b ⟨j, o', h1, hl, hbi⟩ with q3 | q3
      · exact .inl (sub_mine hi q3)
      · exact .inr q3
  · rcases hf.new b o hx with q3 | q3 | q3
    · exact .inl q3
    · exact .inr (.inl (sub_mine hi q3))
    · exact .inr (.inr q3)
end
end Go.Proofs.Ytfojcadooepgpaa.Rx
