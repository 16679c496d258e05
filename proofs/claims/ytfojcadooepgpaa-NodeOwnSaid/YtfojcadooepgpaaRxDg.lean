/- A plain evaluator over the translated code: objects that are numbered ahead of their making. Under no condition. -/
import Derived.Test.YtfojcadooepgpaaRxDe
set_option linter.unusedVariables false
set_option linter.unusedSimpArgs false
set_option linter.unusedSectionVars false
namespace Go.Proofs.Ytfojcadooepgpaa.Rx
open Go Go.RowKit

/-- What stands at a number whose object is not yet made. -/
def hole : Value := .bool false
section
variable {T : Tab} {m m' : Nat → Value} {X : Nat → Nat → Prop} {n : Nat} {w : World} {P : Program} {h : Hp T} {r : Nat}
theorem fill_ne (hh : m r = hole) (hm : ∀ i, i ≠ r → m' i = m i) {i : Nat} {u : Value} (h1 : m i = u) (h2 : u ≠ hole) : m' i = u :=
  (hm i (fun e => h2 (by rw [← h1, e, hh]))).trans h1
theorem LfR.fill (hh : m r = hole) (hm : ∀ i, i ≠ r → m' i = m i) {l : Lf T} {v : Value} (h : LfR m X n w l v) : LfR m' X n w l v := by
  cases l with
  | d t x => exact h
  | b p i => exact h
  | n => exact h
  | g i => obtain ⟨h1, h2, A, l, c, h3⟩ := h; subst h3; exact ⟨h1, (fill_ne hh hm h2.symm (by simp [hole])).symm, A, l, c, rfl⟩
  | m i => obtain ⟨h1, h2, q, h3⟩ := h; subst h3; exact ⟨h1, (fill_ne hh hm h2.symm (by simp [hole])).symm, q, rfl⟩
  | p i off => obtain ⟨h1, b, h2, h3⟩ := h; exact ⟨h1, b, fill_ne hh hm h2 (by simp [hole]), h3⟩
  | e i sz x off => obtain ⟨h1, b, l, c, h2, h3⟩ := h; exact ⟨h1, b, l, c, fill_ne hh hm h2 (by simp [hole]), h3⟩
  | q ds => exact h
  | pn => exact h
  | f f cs =>
    obtain ⟨us, h1, h2⟩ := h
    refine ⟨us, h1, h2.imp (fun c u hc => ?_)⟩
    obtain ⟨h3, b, h4, h5⟩ := hc
    exact ⟨h3, b, fill_ne hh hm h4 (by simp [hole]), h5⟩
  | u => exact h
  | w p i s => exact h
  | y i k =>
    refine ⟨h.1, ?_⟩
    have h2 := h.2
    have hne : i ≠ r := by
      rintro rfl
      rw [hh] at h2
      cases k with
      | hd => obtain ⟨hs, e, _⟩ := h2; cases e
      | el sz x off => obtain ⟨hs, e, _⟩ := h2; cases e
      | row x => obtain ⟨hs, e, _⟩ := h2; cases e
      | cell x sz y off => obtain ⟨hs, e, _⟩ := h2; cases e
    rw [hm i hne]
    exact h2
theorem VR.fill (hh : m r = hole) (hm : ∀ i, i ≠ r → m' i = m i) {a : V T} {v : Value} (h : VR m X n w a v) : VR m' X n w a v := by
  obtain ⟨us, h1, h2⟩ := h
  exact ⟨us, h1.imp (fun _ _ h => h.fill hh hm), h2⟩
theorem AR.fill (hh : m r = hole) (hm : ∀ i, i ≠ r → m' i = m i) {a : AV T} {v : Value} (h : AR m X n w a v) : AR m' X n w a v := by
  cases a with
  | v a => exact VR.fill hh hm h
  | t vs => obtain ⟨us, h1, h2⟩ := h; exact ⟨us, h1.imp (fun _ _ h => h.fill hh hm), h2⟩
theorem ObR.fill (hh : m r = hole) (hm : ∀ i, i ≠ r → m' i = m i) {i : Nat} (hi : i ≠ r) {o : Ob T} (h : ObR m X n w i o) : ObR m' X n w i o := by
  cases o with
  | box tid ls => obtain ⟨b, vs, h1, h2, h3⟩ := h; exact ⟨b, vs, (hm i hi).trans h1, h2, h3.imp (fun _ _ q => q.fill hh hm)⟩
  | gr e t xs sh => obtain ⟨vs, h1, h2⟩ := h; exact ⟨vs, by rw [hm i hi]; exact h1, h2⟩
  | mp mt k v x po =>
    obtain ⟨q, es, h1, h2, h3, h4⟩ := h
    refine ⟨q, es, (hm i hi).trans h1, h2, h3, ?_⟩
    cases po with
    | none => trivial
    | some p =>
      obtain ⟨j, ho⟩ := p
      obtain ⟨h5, hs, h6, h7⟩ := h4
      exact ⟨h5, hs, fill_ne hh hm h6 (by simp [hole]), h7⟩
  | po e t => obtain ⟨hs, h1, h2, h3⟩ := h; exact ⟨hs, (hm i hi).trans h1, h2, h3⟩
  | it j y => obtain ⟨b, q, h1, h2, h3, h4⟩ := h; exact ⟨b, q, (hm i hi).trans h1, h2, h3, fill_ne hh hm h4 (by simp [hole])⟩
  | no => trivial
  | dg e t xs fx => obtain ⟨hd, hs, vs, h1, h2⟩ := h; exact ⟨hd, hs, vs, (hm i hi).trans h1, h2⟩
/-- The object comes to its number. -/
theorem Rel.fill {H : Hp T} {tid : TypeId} {ls : List (Lf T)} (hr : Rel T m X (H ++ [.box tid ls]) w) (hb : ∀ (i : Nat) (o : Ob T), H[i]? = some o → ∀ l ∈ obL o, ∀ j ∈ refs l, j < H.length) (hrl : r < H.length) (hh : m r = hole) (hm : ∀ i, i ≠ r → m' i = m i) (hmr : m' r = m H.length) (hls : ∀ l ∈ ls, refs l = []) :
    Rel T m' X (setO H r (.box tid ls)) w := by
  have f0 := hr.drop hb
  have hat : (H ++ [Ob.box tid ls])[H.length]? = some (.box tid ls) := by simp
  have key : ∀ {i : Nat} {o : Ob T}, (setO H r (.box tid ls))[i]? = some o → (i = r ∧ o = .box tid ls) ∨ (i ≠ r ∧ H[i]? = some o) := by
    intro i o ho
    by_cases e : i = r
    · subst e; rw [setO_same _ hrl] at ho; cases ho; exact .inl ⟨rfl, rfl⟩
    · rw [setO_other _ _ e] at ho; exact .inr ⟨e, ho⟩
  refine ⟨?_, ?_, hr.lt, ?_, ?_, ?_⟩
  · intro i o ho
    rw [setO_len]
    rcases key ho with ⟨rfl, rfl⟩ | ⟨e, h2⟩
    · have h3 := (hr.ob _ _ hat).ren (f := fun i => i) (n' := H.length) (m' := m') (j := i) hmr (fun l hl k hk => by rw [hls l hl] at hk; cases hk)
      rwa [renO_id] at h3
    · exact (f0.ob i o h2).fill hh hm e
  · intro i j o o' ho ho' hne hl hl' b hb1 hb2
    rcases key ho with ⟨rfl, rfl⟩ | ⟨e, h2⟩
    · rcases key ho' with ⟨rfl, _⟩ | ⟨e', h2'⟩
      · exact hne rfl
      · rw [hmr] at hb1
        rw [hm j e'] at hb2
        exact hr.sep _ j _ o' hat (get_up h2') (by have := lt_of_get h2'; omega) rfl hl' b hb1 hb2
    · rw [hm i e] at hb1
      rcases key ho' with ⟨rfl, rfl⟩ | ⟨e', h2'⟩
      · rw [hmr] at hb2
        exact hr.sep i _ o _ (get_up h2) hat (by have := lt_of_get h2; omega) hl rfl b hb1 hb2
      · rw [hm j e'] at hb2
        exact f0.sep i j o o' h2 h2' hne hl hl' b hb1 hb2
  · intro i o ho hp b hb1
    rcases key ho with ⟨rfl, h3⟩ | ⟨e, h2⟩
    · rw [hmr] at hb1
      exact hr.box _ _ _ hat b hb1
    · rw [hm i e] at hb1
      exact f0.pv i o h2 hp b hb1
  · intro i e t xs sh ho b hb1
    rcases key ho with ⟨rfl, h3⟩ | ⟨e', h2⟩
    · cases h3
    · rw [hm i e'] at hb1
      exact f0.gr i _ _ _ _ h2 b hb1
  · intro i e t ho hs hs1
    rcases key ho with ⟨rfl, h3⟩ | ⟨e', h2⟩
    · cases h3
    · rw [hm i e'] at hs1
      exact f0.po i _ _ h2 hs hs1
theorem Fr.fill {h0 : Hp T} {m0 : Nat → Value} {X0 : Nat → Nat → Prop} {w0 : World} {H : Hp T} {tid : TypeId} {ls : List (Lf T)} (hf : Fr T m0 X0 h0 w0 m X (H ++ [.box tid ls]) w) (hrl : r < H.length) (hr0 : h0.length ≤ r) (hm : ∀ i, i ≠ r → m' i = m i) (hmr : m' r = m H.length) :
    Fr T m0 X0 h0 w0 m' X (setO H r (.box tid ls)) w := by
  refine ⟨⟨by rw [setO_len]; omega, fun i hi => (hm i (by omega)).trans (hf.on.mm i hi), hf.on.xx, hf.on.ww⟩, hf.size, hf.os, hf.tape, hf.output, hf.old, ?_, hf.new⟩
  rintro b ⟨i, o, q1, q2, q3⟩
  by_cases e : i = r
  · subst e
    rw [hmr] at q3
    exact hf.mine b ⟨H.length, .box tid ls, by simp, rfl, q3⟩
  · rw [setO_other _ _ e] at q1
    rw [hm i e] at q3
    exact hf.mine b ⟨i, o, get_up q1, q2, q3⟩
theorem Slots.fill {recs : List (Rec T)} {env0 : Env T} {listed : Array Bool} {a : Act} (hh : m r = hole) (hm : ∀ i, i ≠ r → m' i = m i) (h : Slots recs env0 listed m X n w a) : Slots recs env0 listed m' X n w a :=
  fun t => ⟨fun k q h1 h2 h3 => ((h t).1 k q h1 h2 h3).fill hh hm, fun h1 v h2 => ((h t).2 h1 v h2).fill hh hm⟩

theorem On.at {m m' : Nat → Value} {X X' : Nat → Nat → Prop} {n n' k k' : Nat} {w w' : World} (h : On m X n w m' X' n' w') (e1 : n = k) (e2 : n' = k') : On m X k w m' X' k' w' := by
  subst e1 e2
  exact h
/-! ### objects that are hidden -/
def hide (f : Nat → Bool) : Nat → Hp T → Hp T
  | _, [] => []
  | i, x :: r => (bif f i then .no else x) :: hide f (i + 1) r
theorem hide_len (f : Nat → Bool) : ∀ (i : Nat) (h : Hp T), (hide f i h).length = h.length
  | _, [] => rfl
  | i, x :: r => by simp only [hide, List.length_cons, hide_len f (i + 1) r]
theorem hide_get (f : Nat → Bool) : ∀ (i : Nat) (h : Hp T) (j : Nat), (hide f i h)[j]? = (h[j]?).map fun x => bif f (i + j) then .no else x
  | _, [], j => by simp [hide]
  | i, x :: r, 0 => by simp [hide]
  | i, x :: r, j + 1 => by
    simp only [hide, List.getElem?_cons_succ]
    rw [hide_get f (i + 1) r j, show i + 1 + j = i + (j + 1) from by omega]
theorem hide_at {f : Nat → Bool} {h : Hp T} {j : Nat} (hj : f j = false) : (hide f 0 h)[j]? = h[j]? := by
  rw [hide_get, Nat.zero_add, hj]
  cases h[j]? <;> rfl
theorem hide_no {h : Hp T} : hide (fun _ => false) 0 h = h := by
  apply List.ext_getElem?
  intro j
  exact hide_at rfl
theorem hide_set {f : Nat → Bool} {h : Hp T} {i : Nat} {o : Ob T} (hi : f i = false) : hide f 0 (setO h i o) = setO (hide f 0 h) i o := by
  apply List.ext_getElem?
  intro j
  by_cases e : j = i
  · subst e
    rw [hide_at hi]
    rcases Nat.lt_or_ge j h.length with hl | hl
    · rw [setO_same _ hl, setO_same _ (by rw [hide_len]; exact hl)]
    · rw [List.getElem?_eq_none (by rw [setO_len]; exact hl), List.getElem?_eq_none (by rw [setO_len, hide_len]; exact hl)]
  · rw [hide_get, setO_other _ _ e, setO_other _ _ e, hide_get]
theorem hide_app {f : Nat → Bool} {h g : Hp T} (hf : ∀ x, h.length ≤ x → f x = false) : hide f 0 (h ++ g) = hide f 0 h ++ g := by
  apply List.ext_getElem?
  intro j
  rcases Nat.lt_or_ge j h.length with hl | hl
  · rw [hide_get, List.getElem?_append_left hl, List.getElem?_append_left (by rw [hide_len]; exact hl), hide_get]
  · rw [hide_at (hf j hl), List.getElem?_append_right hl, List.getElem?_append_right (by rw [hide_len]; exact hl), hide_len]
theorem hide_merge {f : Nat → Bool} {k : Nat} {ids : List Nat} : ∀ (r : List Nat) (g h : Hp T), (∀ x ∈ r, f x = false) → (∀ x, h.length ≤ x → f x = false) → hide f 0 (mergeO k ids r g h) = mergeO k ids r g (hide f 0 h)
  | [], g, h, _, hf => by
    have e : ∀ h : Hp T, mergeO k ids [] g h = h ++ g.map (renO (backN k ids)) := fun h => by cases g <;> rfl
    rw [e, e, hide_app hf]
  | i :: r, [], h, _, hf => by
    simp only [mergeO]
    rw [hide_app hf]
  | i :: r, o :: g, h, hr, hf => by
    simp only [mergeO]
    rw [hide_merge r g _ (fun x hx => hr x (List.mem_cons_of_mem _ hx)) (by rw [setO_len]; exact hf), hide_set (hr i List.mem_cons_self)]
/-- The object comes forth. -/
theorem hide_show {f f' : Nat → Bool} {h : Hp T} {i : Nat} {o : Ob T} (ho : h[i]? = some o) (hi : f' i = false) (hf : ∀ x, x ≠ i → f' x = f x) : hide f' 0 h = setO (hide f 0 h) i o := by
  apply List.ext_getElem?
  intro j
  by_cases e : j = i
  · subst e
    rw [hide_at hi, setO_same _ (by rw [hide_len]; exact lt_of_get ho), ho]
  · rw [setO_other _ _ e, hide_get, hide_get, Nat.zero_add, hf j e]

/-! ### allocs that are numbered ahead -/
theorem faOk_ok {ids anc : List Nat} : ∀ {fas : List (Option (Ob T) × Nat)} {j : Nat}, faOk ids anc j fas = true → ∀ i id, faAt fas i = some id → id ∈ ids → j + i ∈ anc
  | [], j, _, i, id, h, _ => by simp [faAt, nth] at h
  | (some b, id0) :: r, j, ho, i, id, h, hm => by
    simp only [faOk, Bool.and_eq_true, Bool.or_eq_true, Bool.not_eq_true'] at ho
    cases i with
    | zero =>
      simp only [faAt, nth, Option.some.injEq] at h
      subst h
      rcases ho.1 with h2 | h2
      · rw [memN_iff.2 hm] at h2; cases h2
      · exact memN_iff.1 h2
    | succ i =>
      have := faOk_ok ho.2 i id (by simpa [faAt, nth] using h) hm
      rwa [show j + 1 + i = j + (i + 1) from by omega] at this
  | (none, _) :: r, j, ho, i, id, h, hm => by
    simp only [faOk] at ho
    cases i with
    | zero => simp [faAt, nth] at h
    | succ i =>
      have := faOk_ok ho i id (by simpa [faAt, nth] using h) hm
      rwa [show j + 1 + i = j + (i + 1) from by omega] at this
theorem unbound_ok : ∀ {es : List Edge}, unbound es = true → ∀ e ∈ es, Region.binds .any e = false
  | [], _, e, he => by cases he
  | e' :: r, h, e, he => by
    simp only [unbound, Bool.and_eq_true, Bool.not_eq_true'] at h
    rcases List.mem_cons.1 he with rfl | he
    · exact h.1
    · exact unbound_ok h.2 e he
/-- What is told of them. -/
structure FaOk (P : Program) (ops : Array Oper) (fas : List (Option (Ob T) × Nat)) (hB h0 : Hp T) : Prop where
  at_ : ∀ i id, faAt fas i = some id → ∃ (o : Oper) (e : TypeId) (v : V T), ops[i]? = some o ∧ o.guard = none ∧ o.op = .alloc e ∧ zeroOf P e = some v ∧ h0[id]? = some (.box e v.2) ∧ hB.length ≤ id
  inj : ∀ i i' id, faAt fas i = some id → faAt fas i' = some id → i = i'
  all : ∀ id, hB.length ≤ id → id < h0.length → ∃ i, faAt fas i = some id
  low : ∀ x, x < hB.length → h0[x]? = hB[x]?
  len : hB.length ≤ h0.length
theorem faB_ok {o : Oper} {b : Ob T} (h : faB P o = some b) : ∃ (e : TypeId) (v : V T), o.guard = none ∧ o.op = .alloc e ∧ zeroOf P e = some v ∧ b = .box e v.2 := by
  unfold faB at h
  split at h
  · rename_i hg
    split at h
    · rename_i e he
      cases hu : unbound o.after.toList with
      | false => rw [hu] at h; cases h
      | true =>
        rw [hu] at h
        simp only [cond_true] at h
        split at h
        · rename_i v hv
          cases h
          exact ⟨e, v, hg, he, hv, rfl⟩
        · cases h
    · cases h
  · cases h
theorem faL_ok : ∀ (l : List Oper) (n : Nat), (∀ i id, faAt (faL (T := T) P n l) i = some id → ∃ (o : Oper) (e : TypeId) (v : V T), l[i]? = some o ∧ o.guard = none ∧ o.op = .alloc e ∧ zeroOf P e = some v ∧ n ≤ id ∧ (faH (faL (T := T) P n l))[id - n]? = some (.box e v.2)) ∧
    (∀ i i' id, faAt (faL (T := T) P n l) i = some id → faAt (faL (T := T) P n l) i' = some id → i = i') ∧ ∀ id, n ≤ id → id < n + (faH (faL (T := T) P n l)).length → ∃ i, faAt (faL (T := T) P n l) i = some id
  | [], n => ⟨fun i id h => by simp [faL, faAt, nth] at h, fun i i' id h => by simp [faL, faAt, nth] at h, fun id h1 h2 => by simp [faL, faH] at h2; omega⟩
  | o :: l, n => by
    cases hb : (faB P o : Option (Ob T)) with
    | none =>
      obtain ⟨p1, p2, p3⟩ := faL_ok l n
      have e : faL (T := T) P n (o :: l) = (none, 0) :: faL P n l := by simp only [faL, hb]
      rw [e]
      have hs : ∀ i id, faAt ((none, 0) :: faL (T := T) P n l) i = some id → ∃ i', i = i' + 1 ∧ faAt (faL (T := T) P n l) i' = some id := by
        intro i id h
        cases i with
        | zero => simp [faAt, nth] at h
        | succ i => exact ⟨i, rfl, by simpa [faAt, nth] using h⟩
      refine ⟨fun i id h => ?_, fun i i' id h h' => ?_, fun id h1 h2 => ?_⟩
      · obtain ⟨i', rfl, h⟩ := hs i id h
        obtain ⟨o', e', v, q1, q2, q3, q4, q5, q6⟩ := p1 i' id h
        exact ⟨o', e', v, by simpa using q1, q2, q3, q4, q5, by simpa [faH] using q6⟩
      · obtain ⟨j, rfl, h⟩ := hs i id h
        obtain ⟨j', rfl, h'⟩ := hs i' id h'
        rw [p2 j j' id h h']
      · obtain ⟨i, hi⟩ := p3 id h1 (by simpa [faH] using h2)
        exact ⟨i + 1, by simpa [faAt, nth] using hi⟩
    | some b =>
      obtain ⟨p1, p2, p3⟩ := faL_ok l (n + 1)
      obtain ⟨e0, v0, g1, g2, g3, g4⟩ := faB_ok hb
      have e : faL (T := T) P n (o :: l) = (some b, n) :: faL P (n + 1) l := by simp only [faL, hb]
      rw [e]
      have hs : ∀ i id, faAt ((some b, n) :: faL (T := T) P (n + 1) l) i = some id → (i = 0 ∧ id = n) ∨ ∃ i', i = i' + 1 ∧ faAt (faL (T := T) P (n + 1) l) i' = some id := by
        intro i id h
        cases i with
        | zero => simp only [faAt, nth, Option.some.injEq] at h; exact .inl ⟨rfl, h.symm⟩
        | succ i => exact .inr ⟨i, rfl, by simpa [faAt, nth] using h⟩
      refine ⟨fun i id h => ?_, fun i i' id h h' => ?_, fun id h1 h2 => ?_⟩
      · rcases hs i id h with ⟨rfl, rfl⟩ | ⟨i', rfl, h⟩
        · exact ⟨o, e0, v0, rfl, g1, g2, g3, Nat.le_refl _, by simp [faH, g4]⟩
        · obtain ⟨o', e', v, q1, q2, q3, q4, q5, q6⟩ := p1 i' id h
          refine ⟨o', e', v, by simpa using q1, q2, q3, q4, by omega, ?_⟩
          have : id - n = (id - (n + 1)) + 1 := by omega
          rw [this]
          simpa [faH] using q6
      · rcases hs i id h with ⟨rfl, rfl⟩ | ⟨j, rfl, h⟩
        · rcases hs i' id h' with ⟨rfl, _⟩ | ⟨j', rfl, h'⟩
          · rfl
          · obtain ⟨_, _, _, _, _, _, _, q5, _⟩ := p1 j' _ h'
            omega
        · rcases hs i' id h' with ⟨rfl, rfl⟩ | ⟨j', rfl, h'⟩
          · obtain ⟨_, _, _, _, _, _, _, q5, _⟩ := p1 j _ h
            omega
          · rw [p2 j j' id h h']
      · rcases Nat.eq_or_lt_of_le h1 with rfl | hlt
        · exact ⟨0, by simp [faAt, nth]⟩
        · obtain ⟨i, hi⟩ := p3 id hlt (by simp only [faH, List.length_cons] at h2; omega)
          exact ⟨i + 1, by simpa [faAt, nth] using hi⟩
theorem faOf_ok (P : Program) (ops : Array Oper) (hB : Hp T) : FaOk P ops (faOf (T := T) P ops hB.length) hB (hB ++ faH (faOf (T := T) P ops hB.length)) := by
  unfold faOf
  cases anyCall ops.toList with
  | false =>
    simp only [cond_false]
    exact ⟨fun i id h => by simp [faAt, nth] at h, fun i i' id h => by simp [faAt, nth] at h, fun id h1 h2 => by simp [faH] at h2; omega, fun x hx => by rw [List.getElem?_append_left hx], by simp [faH]⟩
  | true =>
    simp only [cond_true]
    obtain ⟨p1, p2, p3⟩ := faL_ok (T := T) (P := P) ops.toList hB.length
    refine ⟨fun i id h => ?_, p2, fun id h1 h2 => ?_, fun x hx => by rw [List.getElem?_append_left hx], by simp⟩
    · obtain ⟨o, e, v, q1, q2, q3, q4, q5, q6⟩ := p1 i id h
      exact ⟨o, e, v, by rw [← Array.getElem?_toList]; exact q1, q2, q3, q4, by rw [List.getElem?_append_right q5]; exact q6, q5⟩
    · exact p3 id h1 (by simpa using h2)
/-- A zero's leaves name nothing. -/
theorem ofLf_refs {v : Value} {l : Lf T} (h : ofLf v = some l) : refs l = [] := by
  unfold ofLf at h
  split at h <;> first | (cases h; rfl) | skip
  cases hb : v.oneCell' with
  | true => rw [hb] at h; cases h; rfl
  | false => rw [hb] at h; cases h
theorem ofLfs_refs : ∀ {vs : List Value} {ls : List (Lf T)}, ofLfs vs = some ls → ∀ l ∈ ls, refs l = []
  | [], ls, h, l, hl => by cases h; cases hl
  | v :: r, ls, h, l, hl => by
    simp only [ofLfs] at h
    split at h
    · rename_i l0 h0
      split at h
      · rename_i ls0 h1
        cases h
        rcases List.mem_cons.1 hl with rfl | hl
        · exact ofLf_refs h0
        · exact ofLfs_refs h1 l hl
      · cases h
    · cases h
theorem zero_refs {e : TypeId} {v : V T} (h : zeroOf P e = some v) : ∀ l ∈ v.2, refs l = [] := by
  unfold zeroOf at h
  split at h
  · split at h
    · rename_i u hu
      unfold ofVal at h
      split at h
      · split at h
        · rename_i ls hls
          cases h
          exact ofLfs_refs hls
        · cases h
      · split at h
        · rename_i l0 h0
          cases h
          intro l hl
          rw [List.mem_singleton.1 hl]
          exact ofLf_refs h0
        · cases h
    · cases h
  · cases h
theorem renL_none {f : Nat → Nat} {l : Lf T} (h : refs l = []) : renL f l = l := by
  cases l with
  | g i => cases h
  | m i => cases h
  | p i off => cases h
  | e i s x o => cases h
  | f g cs => simp only [refs, List.map_eq_nil_iff] at h; subst h; rfl
  | y i k => cases h
  | _ => rfl
theorem box_ren {f : Nat → Nat} {e : TypeId} {v : V T} (h : zeroOf P e = some v) : renO f (.box e v.2 : Ob T) = .box e v.2 := by
  simp only [renO]
  congr 1
  rw [List.map_congr_left (fun l hl => renL_none (zero_refs h l hl))]
  simp
variable {tb : List (FuncId × Fx)} {Fn : (key : Nat) → List (DL T) → Option (HL T.S (fxAt tb key).tout)}
theorem ans_alloc {o : Oper} {e : TypeId} {v : V T} (ho : o.op = .alloc e) (hz : zeroOf P e = some v) : ans P tb Fn o [] ([] : Hp T) = some (one (.p 0 0), [.box e v.2]) := by
  have h3 : opF P o.op ([] : Env T) ([] : Hp T) = sure (one (.p 0 0)) [.box e v.2] := by rw [ho]; simp only [opF, hz]; rfl
  have h4 : opTr P o ([] : Env T) ([] : Hp T) .done = .ite True instDecidableTrue (.done (one (.p 0 0)) [.box e v.2]) .fail := by unfold opTr; rw [h3]; rfl
  unfold ans evOp
  rw [h4, ho]
  simp only [isPick, isCal, splitOn, dn]
  rfl
end
end Go.Proofs.Ytfojcadooepgpaa.Rx
