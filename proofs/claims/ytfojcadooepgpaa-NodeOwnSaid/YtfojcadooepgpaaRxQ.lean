/- A plain evaluator over the translated code: slices of one's own and data. Under no condition. -/
import Derived.Test.YtfojcadooepgpaaRxP
import Derived.Maps.AppendAt
set_option linter.unusedVariables false
set_option linter.unusedSimpArgs false
namespace Go.Proofs.Ytfojcadooepgpaa.Rx
open Go Go.RowKit

section
variable {T : Tab}
theorem asT_some {d : DL T} {t : Ty} {y : den T.S t} (h : asT d t = some y) : d = ⟨t, y⟩ := by
  unfold asT at h
  split at h
  · rename_i e _
    obtain ⟨t', x⟩ := d
    cases e
    cases h
    rfl
  · cases h
theorem asRow_some {d : DL T} {e : TypeId} {t : Ty} {y : List (den T.S t)} (h : asRow d e t = some y) : d = ⟨.sl e t, y⟩ := asT_some h
theorem asT_self {t : Ty} (y : den T.S t) : asT (⟨t, y⟩ : DL T) t = some y := by
  unfold asT
  split
  · rfl
  · rename_i h _; exact absurd rfl h
theorem toHL_toDL : ∀ {ts : List Ty} {ds : List (DL T)} {h : HL T.S ts}, toHL ts ds = some h → toDL T ts h = ds
  | [], [], h, _ => rfl
  | [], _ :: _, h, e => by simp [toHL] at e
  | t :: ts, [], h, e => by simp [toHL] at e
  | t :: ts, d :: ds, h, e => by
    simp only [toHL] at e
    split at e
    · rename_i x hx
      split at e
      · rename_i r hr
        cases e
        simp only [toDL]
        rw [asT_some hx, toHL_toDL hr]
      · cases e
    · cases e
theorem toDL_toHL : ∀ (ts : List Ty) (h : HL T.S ts), toHL ts (toDL T ts h) = some h
  | [], _ => rfl
  | t :: ts, h => by
    simp only [toDL, toHL, asT_self, toDL_toHL ts h.2]
    rfl
theorem toDL_len : ∀ (ts : List Ty) (h : HL T.S ts), (toDL T ts h).length = ts.length
  | [], _ => rfl
  | t :: ts, h => by simp [toDL, toDL_len ts h.2]
theorem lv_len (t : Ty) (x : den T.S t) : (lv T t x).length = (flat T t).length := by
  cases t <;> first | rfl | exact toDL_len _ _
theorem unlv_lv {t : Ty} {ds : List (DL T)} {x : den T.S t} (h : unlv t ds = some x) : lv T t x = ds := by
  cases t with
  | st n =>
    simp only [unlv] at h
    split at h
    · rename_i hl hh
      cases h
      show toDL T (T.fs n) (T.out n (T.pk n hl)) = ds
      rw [T.out_pk]
      exact toHL_toDL hh
    · cases h
  | int k => match ds, h with | [d], h => rw [asT_some h]; rfl
  | bool => match ds, h with | [d], h => rw [asT_some h]; rfl
  | str => match ds, h with | [d], h => rw [asT_some h]; rfl
  | sl e t => match ds, h with | [d], h => rw [asT_some h]; rfl
  | mp k v => match ds, h with | [d], h => rw [asT_some h]; rfl
  | it => match ds, h with | [d], h => rw [asT_some h]; rfl

variable {m m' : Nat → Value} {X X' : Nat → Nat → Prop} {n n' : Nat} {w w' : World} {P : Program} {h h' : Hp T}
/-- These cells are those of these elements. -/
def CellsOf (T : Tab) (w : World) (X : Nat → Nat → Prop) (t : Ty) (xs : List (den T.S t)) (vs : List Value) : Prop :=
  vs.length = xs.length * (flat T t).length ∧ ∀ (k : Nat) x (j : Nat) d, xs[k]? = some x → (lv T t x)[j]? = some d → ∃ v, vs[k * (flat T t).length + j]? = some v ∧ RD T w X d.1 d.2 v
theorem div_mod {q a s : Nat} (hs : 0 < s) (hq : q < a * s) : q / s < a ∧ q % s < s ∧ q / s * s + q % s = q :=
  ⟨(Nat.div_lt_iff_lt_mul hs).2 hq, Nat.mod_lt _ hs, by rw [Nat.mul_comm]; exact Nat.div_add_mod q s⟩
/-- Any cell among these. -/
theorem CellsOf.any {t : Ty} {xs : List (den T.S t)} {vs : List Value} (hc : CellsOf T w X t xs vs) (hs : 0 < (flat T t).length) {q : Nat} {u : Value} (hu : vs[q]? = some u) : ∃ d : DL T, RD T w X d.1 d.2 u := by
  have hq : q < xs.length * (flat T t).length := by rw [← hc.1]; exact (List.getElem?_eq_some_iff.1 hu).1
  obtain ⟨h1, h2, h3⟩ := div_mod hs hq
  have hd : q % (flat T t).length < (lv T t xs[q / (flat T t).length]).length := by rw [lv_len]; exact h2
  obtain ⟨v, hv, hr⟩ := hc.2 (q / (flat T t).length) _ (q % (flat T t).length) _ (List.getElem?_eq_getElem h1) (List.getElem?_eq_getElem hd)
  rw [h3, hu] at hv
  cases hv
  exact ⟨_, hr⟩
theorem CellsOf.ones {t : Ty} {xs : List (den T.S t)} {vs : List Value} (hc : CellsOf T w X t xs vs) (hs : 0 < (flat T t).length) : ∀ u ∈ vs, u.oneCell' = true := by
  intro u hu
  obtain ⟨q, hq⟩ := List.mem_iff_getElem?.1 hu
  obtain ⟨d, hr⟩ := hc.any hs hq
  exact hr.one
theorem CellsOf.mono (hw : ∀ b o, X b o → w'.cell? ⟨b, o, none⟩ = w.cell? ⟨b, o, none⟩) (hX : ∀ b o, X b o → X' b o) {t : Ty} {xs : List (den T.S t)} {vs : List Value} (hc : CellsOf T w X t xs vs) : CellsOf T w' X' t xs vs :=
  ⟨hc.1, fun k x j d hk hd => by obtain ⟨v, h1, h2⟩ := hc.2 k x j d hk hd; exact ⟨v, h1, RD.mono hw hX h2⟩⟩
theorem CellsOf.append {t : Ty} {xs ys : List (den T.S t)} {vs us : List Value} (h1 : CellsOf T w X t xs vs) (h2 : CellsOf T w X t ys us) : CellsOf T w X t (xs ++ ys) (vs ++ us) := by
  refine ⟨by rw [List.length_append, List.length_append, h1.1, h2.1, Nat.add_mul], fun k x j d hk hd => ?_⟩
  have hj : j < (flat T t).length := by rw [← lv_len t x]; exact (List.getElem?_eq_some_iff.1 hd).1
  by_cases hlt : k < xs.length
  · rw [List.getElem?_append_left hlt] at hk
    obtain ⟨v, h3, h4⟩ := h1.2 k x j d hk hd
    exact ⟨v, by rw [List.getElem?_append_left (List.getElem?_eq_some_iff.1 h3).1]; exact h3, h4⟩
  · rw [List.getElem?_append_right (by omega)] at hk
    obtain ⟨v, h3, h4⟩ := h2.2 _ x j d hk hd
    refine ⟨v, ?_, h4⟩
    have e : k * (flat T t).length + j = vs.length + ((k - xs.length) * (flat T t).length + j) := by
      rw [h1.1, ← Nat.add_assoc, ← Nat.add_mul]
      congr 2
      omega
    rw [e, List.getElem?_append_right (by omega), Nat.add_sub_cancel_left]
    exact h3
theorem CellsOf.nil (t : Ty) : CellsOf T w X t [] [] := ⟨by simp, fun k x j d hk => by simp at hk⟩

/-! ### a slice of one's own becomes data -/
def updM (m : Nat → Value) (i : Nat) (v : Value) : Nat → Value := fun j => if j = i then v else m j
theorem updM_same (m : Nat → Value) (i : Nat) (v : Value) : updM m i v i = v := by simp [updM]
theorem updM_other (m : Nat → Value) {i j : Nat} (v : Value) (h : j ≠ i) : updM m i v j = m j := by simp [updM, h]
theorem gr_cells (hr : Rel T m X h w) {i : Nat} {e : TypeId} {t : Ty} {xs : List (den T.S t)} {sh : Bool} (ho : h[i]? = some (.gr e t xs sh)) : ∃ vs, w.ownsRow 0 e (flat T t).length (m i) xs.length vs ∧ CellsOf T w X t xs vs := by
  obtain ⟨vs, h1, h2⟩ := hr.ob i _ ho
  exact ⟨vs, h1, h1.1, h2⟩
theorem share_ok (hr : Rel T m X h w) {i : Nat} {e : TypeId} {t : Ty} {xs : List (den T.S t)} {sh : Bool} (ho : h[i]? = some (.gr e t xs sh)) :
    ∃ X', Rel T m X' (setO h i (.gr e t xs true)) w ∧ RD T w X' (.sl e t) xs (m i) ∧ Fr T m X h w m X' (setO h i (.gr e t xs true)) w := by
  obtain ⟨vs, hown, hc⟩ := gr_cells hr ho
  have hlt := lt_of_get ho
  have hlen := setO_len h i (.gr e t xs true)
  let X' : Nat → Nat → Prop := fun b o => X b o ∨ (Blk (m i) b ∧ o < xs.length * (flat T t).length)
  have on : On m X h.length w m X' (setO h i (.gr e t xs true)).length w := ⟨by rw [hlen]; exact Nat.le_refl _, fun _ _ => rfl, fun _ _ hx => .inl hx, fun _ _ _ => rfl⟩
  have hkeep : ∀ j o', j ≠ i → (setO h i (.gr e t xs true))[j]? = some o' → h[j]? = some o' := fun j o' hne hj => by rwa [setO_other _ _ hne] at hj
  have hsep : ∀ j o' b, j ≠ i → h[j]? = some o' → o'.live = true → Blk (m i) b → ¬ Blk (m j) b := fun j o' b hne hj hl hb => hr.sep i j _ _ ho hj (Ne.symm hne) rfl hl b hb
  refine ⟨X', hr.upd on (setO_same _ hlt) (fun j o' hne hj => .inr ⟨hkeep j o' hne hj, fun _ _ _ => rfl⟩) ?_ (fun _ b hb j o' hne hj hl => hsep j o' b hne (hkeep j o' hne hj) hl hb) ?_ ?_ ?_, ?_, ?_⟩
  · refine ⟨vs, hown, fun k x j d hk hd => ?_⟩
    obtain ⟨v, h1, h2⟩ := hc.2 k x j d hk hd
    exact ⟨v, h1, RD.mono on.ww on.xx h2⟩
  · intro b o hx
    rcases hx with hx | ⟨hb, _⟩
    · exact hr.lt b o hx
    · exact mine_lt hr ⟨i, _, ho, rfl, hb⟩
  · intro j o' hne hj hl b hb o hx
    rcases hx with hx | ⟨hb', _⟩
    · exact hx
    · exact absurd hb (hsep j o' b hne (hkeep j o' hne hj) hl hb')
  · intro b hb o hx
    rcases hx with hx | ⟨_, hx⟩
    · exact ⟨rfl, (hr.gr i e t xs sh ho b hb o hx).2⟩
    · exact ⟨rfl, hx⟩
  · rcases hown.2 with ⟨h1, h2⟩ | ⟨g, cap, cur, h1, _, hg, hcap, _, hsz, htake⟩
    · rw [h1]
      have h0 : xs = [] := List.eq_nil_of_length_eq_zero h2
      subst h0
      exact .nil e t none 0
    · rw [h1]
      refine RD.mk hcap (.inr ⟨g, 0, rfl, fun k j => (vs[k * (flat T t).length + j]?).getD undef, fun k x j d hk hd => ?_⟩)
      obtain ⟨v, h3, h4⟩ := hc.2 k x j d hk hd
      have hlt' : k * (flat T t).length + j < xs.length * (flat T t).length := by rw [← hc.1]; exact (List.getElem?_eq_some_iff.1 h3).1
      have := hown.cells (g := g) (by rw [h1]; rfl) _ _ h3
      rw [Addr.add_mid] at this
      simp only [h3, Option.getD_some]
      exact ⟨this, .inr ⟨by rw [h1]; rfl, by simpa using hlt'⟩, RD.mono on.ww on.xx h4⟩
  · refine Fr.upd on (Nat.le_refl _) rfl rfl rfl (fun _ _ _ => rfl) (fun j o' hne hj => .inr (hkeep j o' hne hj)) (fun o0 _ _ b hb => .inl ⟨i, _, ho, rfl, hb⟩) (fun b o hx => ?_)
    rcases hx with hx | ⟨hb, _⟩
    · exact .inl hx
    · exact .inr (.inl ⟨i, _, ho, rfl, hb⟩)
theorem get_push (h : Hp T) (o : Ob T) : (h ++ [o])[h.length]? = some o := by simp
theorem get_push_old {h : Hp T} {o o' : Ob T} {j : Nat} (hne : j ≠ h.length) (hj : (h ++ [o])[j]? = some o') : h[j]? = some o' := by
  have hlt : j < h.length + 1 := by simpa using lt_of_get hj
  rwa [List.getElem?_append_left (by omega)] at hj
/-- A nil slice becomes one of one's own. -/
theorem nil_ok (hr : Rel T m X h w) (e : TypeId) (t : Ty) :
    Rel T (updM m h.length (.slice none 0 0)) X (h ++ [.gr e t [] false]) w ∧ Fr T m X h w (updM m h.length (.slice none 0 0)) X (h ++ [.gr e t [] false]) w := by
  have on : On m X h.length w (updM m h.length (.slice none 0 0)) X (h ++ [Ob.gr e t ([] : List (den T.S t)) false]).length w :=
    ⟨by simp, fun i hi => updM_other m _ (by omega), fun _ _ hx => hx, fun _ _ _ => rfl⟩
  refine ⟨hr.upd on (get_push h _) (fun j o' hne hj => .inr ⟨get_push_old hne hj, fun _ _ _ => rfl⟩) ?_ (fun _ b hb => ?_) hr.lt (fun _ _ _ _ _ _ _ _ hx => hx) (fun b hb => ?_),
    Fr.upd (i0 := h.length) on (Nat.le_refl _) rfl rfl rfl (fun _ _ _ => rfl) (fun j o' hne hj => .inr (get_push_old hne hj)) (fun o0 _ _ b hb => ?_) (fun _ _ hx => .inl hx)⟩
  · rw [ObR, updM_same]
    exact ⟨[], World.ownsRow_nil _ _ _ _, fun k x j d hk => by simp at hk⟩
  · rw [updM_same] at hb; cases hb
  · rw [updM_same] at hb; cases hb
  · rw [updM_same] at hb; cases hb
/-! ### slices whose elements' rows are one's own -/
theorem row_rd {e : TypeId} {t : Ty} {xs : List (den T.S t)} {v : Value} (hx : ∀ b o, X b o → X' b o) (hr : RowR T w X e t xs v) (hb : ∀ b, blk v = some b → ∀ o, X' b o) : RD T w X' (.sl e t) xs v := by
  obtain ⟨vs, hown, hc⟩ := hr
  have hown' := hown
  rcases hown.2 with ⟨h1, h2⟩ | ⟨g, cap, cur, h1, _, hg, hcap, _, hsz, htake⟩
  · rw [h1]
    obtain rfl : xs = [] := List.eq_nil_of_length_eq_zero h2
    exact .nil e t none 0
  · subst h1
    refine RD.mk hcap (.inr ⟨g, 0, rfl, fun k j => (vs[k * (flat T t).length + j]?).getD undef, fun k x j d hk hd => ?_⟩)
    obtain ⟨v, h3, h4⟩ := hc k x j d hk hd
    have := hown.cells (g := g) rfl _ _ h3
    rw [Addr.add_mid] at this
    simp only [h3, Option.getD_some]
    exact ⟨this, hb g rfl _, RD.mono (fun _ _ _ => rfl) hx h4⟩
theorem celly_rd {hd : Option Value} {d : DL T} {v : Value} (hx : ∀ b o, X b o → X' b o) (hr : CellY T w X hd d v) (hb : hd = some v → ∀ b, blk v = some b → ∀ o, X' b o) : RD T w X' d.1 d.2 v := by
  obtain ⟨t, x⟩ := d
  cases t with
  | sl e t => exact row_rd hx hr.2 (hb hr.1)
  | int k => exact RD.mono (fun _ _ _ => rfl) hx hr
  | bool => exact RD.mono (fun _ _ _ => rfl) hx hr
  | str => exact RD.mono (fun _ _ _ => rfl) hx hr
  | st k => exact RD.mono (fun _ _ _ => rfl) hx hr
  | mp k v => exact RD.mono (fun _ _ _ => rfl) hx hr
  | it => exact RD.mono (fun _ _ _ => rfl) hx hr
theorem head_rd {e : TypeId} {t : Ty} {xs : List (den T.S t)} {fx : Bool} {hdv : Value} {hs vs : List Value} (hh : HeadR w e (flat T t).length fx hdv xs.length vs)
    (hc : ∀ (k : Nat) x (j : Nat) d, xs[k]? = some x → (lv T t x)[j]? = some d → ∃ v, vs[k * (flat T t).length + j]? = some v ∧ CellY T w X hs[k]? d v) (hx : ∀ b o, X b o → X' b o) (hb : ∀ u ∈ hdv :: hs, ∀ b, blk u = some b → ∀ o, X' b o) : RD T w X' (.sl e t) xs hdv := by
  have nil : hdv = .slice none 0 0 → xs.length = 0 → RD T w X' (.sl e t) xs hdv := by
    intro h1 h2
    rw [h1]
    obtain rfl : xs = [] := List.eq_nil_of_length_eq_zero h2
    exact .nil e t none 0
  have go : ∀ {g cap : Nat}, hdv = .slice (some ⟨g, 0, none⟩) xs.length cap → xs.length ≤ cap → RD T w X' (.sl e t) xs hdv := by
    intro g cap h1 hcap
    subst h1
    obtain ⟨_, hcell⟩ := hh.cells
    refine RD.mk hcap (.inr ⟨g, 0, rfl, fun k j => (vs[k * (flat T t).length + j]?).getD undef, fun k x j d hk hd => ?_⟩)
    obtain ⟨v, h3, h4⟩ := hc k x j d hk hd
    have := hcell _ _ h3
    simp only [h3, Option.getD_some, Nat.zero_add]
    exact ⟨this, hb _ List.mem_cons_self g rfl _, celly_rd hx h4 (fun e1 => hb v (List.mem_cons_of_mem _ (List.mem_of_getElem? e1)))⟩
  cases fx with
  | false =>
    rcases hh.2 with ⟨h1, h2⟩ | ⟨g, cap, cur, h1, _, _, hcap, _⟩
    · exact nil h1 h2
    · exact go h1 hcap
  | true =>
    rcases hh.2 with ⟨h1, h2⟩ | ⟨g, cap, cur, h1, _, hcap, _⟩
    · exact nil h1 h2
    · exact go h1 hcap
theorem blk_tuple {hs : Array Value} {u : Value} (hu : u ∈ hs.toList) {b : Nat} (hb : blk u = some b) : Blk (.tuple hs) b := ⟨u, hu, hb⟩
/-- It becomes data. -/
theorem freeze_ok (hr : Rel T m X h w) {i : Nat} {e : TypeId} {t : Ty} {xs : List (den T.S t)} {fx : Bool} (ho : h[i]? = some (.dg e t xs fx)) :
    ∃ X', Rel T m X' (setO h i .no) w ∧ (∀ v, YR (m i) .hd v → RD T w X' (.sl e t) xs v) ∧ (∀ (x : Int) v (e2 : TypeId) (t2 : Ty) (ys : List (den T.S t2)), YR (m i) (.row x) v → rowD (lv T t (rd (dz T t) xs x)) = some ⟨.sl e2 t2, ys⟩ → RD T w X' (.sl e2 t2) ys v) ∧ Fr T m X h w m X' (setO h i .no) w := by
  obtain ⟨hdv, hs, vs, q1, q2, q3, q4, q5, q6⟩ := hr.ob i _ ho
  have hlt := lt_of_get ho
  have hlen := setO_len h i .no
  let X' : Nat → Nat → Prop := fun b o => X b o ∨ Blk (m i) b
  have on : On m X h.length w m X' (setO h i .no).length w := ⟨by rw [hlen]; exact Nat.le_refl _, fun _ _ => rfl, fun _ _ hx => .inl hx, fun _ _ _ => rfl⟩
  have hkeep : ∀ j o', j ≠ i → (setO h i .no)[j]? = some o' → h[j]? = some o' := fun j o' hne hj => by rwa [setO_other _ _ hne] at hj
  refine ⟨X', hr.upd on (setO_same _ hlt) (fun j o' hne hj => .inr ⟨hkeep j o' hne hj, fun _ _ _ => rfl⟩) trivial (fun hl => by cases hl) ?_ ?_ trivial, ?_, ?_, ?_⟩
  · intro b o hx
    rcases hx with hx | hb
    · exact hr.lt b o hx
    · exact mine_lt hr ⟨i, _, ho, rfl, hb⟩
  · intro j o' hne hj hl b hb o hx
    rcases hx with hx | hb'
    · exact hx
    · exact absurd hb (hr.sep i j _ _ ho (hkeep j o' hne hj) (Ne.symm hne) rfl hl b hb')
  · rintro v ⟨hs', e1, e2, _⟩
    rw [q1] at e1
    cases e1
    have e3 : hdv = v := by simpa using e2
    subst e3
    exact head_rd q2 q5 (fun _ _ hx => .inl hx) (fun u hu b hub o => .inr (by rw [q1]; exact blk_tuple (by simpa using hu) hub))
  · intro x v e2 t2 ys hy hd
    have hrow := (dg_row hr ho hy hd).2
    obtain ⟨hs', e1, _, e3, _⟩ := hy
    exact row_rd (fun _ _ hx => .inl hx) hrow (fun b hb o => .inr (by rw [e1]; exact blk_tuple (Array.mem_toList_iff.2 (Array.mem_of_getElem? e3)) hb))
  · refine Fr.upd (i0 := i) on (Nat.le_refl _) rfl rfl rfl (fun _ _ _ => rfl) (fun j o' hne hj => .inr (hkeep j o' hne hj)) (fun o0 ho0 hl b hb => by rw [setO_same _ hlt] at ho0; cases ho0; cases hl) (fun b o hx => ?_)
    rcases hx with hx | hb
    · exact .inl hx
    · exact .inr (.inl ⟨i, _, ho, rfl, hb⟩)
/-- A nil slice becomes such a one. -/
theorem dgnil_ok (hr : Rel T m X h w) (e : TypeId) {t : Ty} (h1 : oneS (flat T t) = true) :
    Rel T (updM m h.length (.tuple #[.slice none 0 0])) X (h ++ [.dg e t [] false]) w ∧ Fr T m X h w (updM m h.length (.tuple #[.slice none 0 0])) X (h ++ [.dg e t [] false]) w := by
  have on : On m X h.length w (updM m h.length (.tuple #[.slice none 0 0])) X (h ++ [Ob.dg e t ([] : List (den T.S t)) false]).length w :=
    ⟨by simp, fun i hi => updM_other m _ (by omega), fun _ _ hx => hx, fun _ _ _ => rfl⟩
  have nb : ∀ b, ¬ Blk (.tuple #[.slice none 0 0]) b := by
    rintro b ⟨u, hu, hub⟩
    have : u = .slice none 0 0 := by simpa using hu
    rw [this] at hub
    cases hub
  refine ⟨hr.upd on (get_push h _) (fun j o' hne hj => .inr ⟨get_push_old hne hj, fun _ _ _ => rfl⟩) ?_ (fun _ b hb => ?_) hr.lt (fun _ _ _ _ _ _ _ _ hx => hx) (fun b hb => ?_),
    Fr.upd (i0 := h.length) on (Nat.le_refl _) rfl rfl rfl (fun _ _ _ => rfl) (fun j o' hne hj => .inr (get_push_old hne hj)) (fun o0 _ _ b hb => ?_) (fun _ _ hx => .inl hx)⟩
  · rw [ObR, updM_same]
    exact ⟨.slice none 0 0, [], [], rfl, World.ownsRow_nil _ _ _ _, rfl, h1, fun k x j d hk => by simp at hk, by simp⟩
  · rw [updM_same] at hb; exact absurd hb (nb b)
  · rw [updM_same] at hb; exact absurd hb (nb b)
  · rw [updM_same] at hb; exact absurd hb (nb b)
theorem co_ok (hr : Rel T m X h w) {s : Sp} {l l' : Lf T} (hc : coL s l h = some (l', h')) {v : Value} (hl : LfR m X h.length w l v) :
    ∃ m' X', Rel T m' X' h' w ∧ LfR m' X' h'.length w l' v ∧ Fr T m X h w m' X' h' w := by
  unfold coL at hc
  cases s with
  | k => cases hc; exact ⟨m, X, hr, hl, Fr.refl⟩
  | d t =>
    simp only at hc
    split at hc
    · split at hc
      · cases hc; exact ⟨m, X, hr, hl, Fr.refl⟩
      · cases hc
    · split at hc
      · cases hc
        refine ⟨m, X, hr, ?_, Fr.refl⟩
        rw [show v = _ from hl]
        exact RD.bool _
      · cases hc
    · split at hc
      · cases hc
        refine ⟨m, X, hr, ?_, Fr.refl⟩
        rw [show v = _ from hl]
        exact RD.nil _ _ _ _
      · cases hc
    · rename_i i
      split at hc
      · rename_i e t' xs sh ho
        rw [nth_eq] at ho
        split at hc
        · cases hc
          obtain ⟨X', h1, h2, h3⟩ := share_ok hr ho
          refine ⟨m, X', h1, ?_, h3⟩
          rw [hl.2.1]
          exact h2
        · cases hc
      · cases hc
    · rename_i i
      split at hc
      · rename_i e t' xs fx ho
        rw [nth_eq] at ho
        split at hc
        · cases hc
          obtain ⟨X', h1, h2, _, h3⟩ := freeze_ok hr ho
          exact ⟨m, X', h1, h2 v hl.2, h3⟩
        · cases hc
      · cases hc
    · rename_i i x
      split at hc
      · rename_i e t' xs fx ho
        rw [nth_eq] at ho
        split at hc
        · rename_i e2 t2 ys hd
          split at hc
          · cases hc
            obtain ⟨X', h1, _, h2, h3⟩ := freeze_ok hr ho
            exact ⟨m, X', h1, h2 _ v _ _ _ hl.2 hd, h3⟩
          · cases hc
        · cases hc
      · cases hc
    · cases hc
  | oo e t =>
    simp only at hc
    split at hc
    · cases h1 : oneS (flat T t) with
      | false => rw [h1] at hc; cases hc
      | true =>
        rw [h1] at hc
        cases hc
        obtain ⟨h2, h3⟩ := dgnil_ok hr e h1
        refine ⟨_, X, h2, ?_, h3⟩
        rw [show v = _ from hl]
        exact ⟨by simp, by rw [updM_same]; exact ⟨#[.slice none 0 0], rfl, rfl, none, 0, 0, rfl⟩⟩
    · cases hc; exact ⟨m, X, hr, hl, Fr.refl⟩
    · cases hc
  | o e t =>
    simp only at hc
    split at hc
    · cases hc
      obtain ⟨h1, h2⟩ := nil_ok hr e t
      refine ⟨_, X, h1, ?_, h2⟩
      rw [show v = _ from hl]
      exact ⟨by simp, (updM_same _ _ _).symm, none, 0, 0, rfl⟩
    · cases hc; exact ⟨m, X, hr, hl, Fr.refl⟩
    · cases hc
theorem cos_ok : ∀ {ss : List Sp} {ls ls' : List (Lf T)} {h h' : Hp T} {m : Nat → Value} {X : Nat → Nat → Prop}, Rel T m X h w → coLs ss ls h = some (ls', h') → ∀ {us : List Value}, All2 (LfR m X h.length w) ls us →
    ∃ m' X', Rel T m' X' h' w ∧ All2 (LfR m' X' h'.length w) ls' us ∧ Fr T m X h w m' X' h' w
  | [], [], ls', h, h', m, X, hr, hc, us, hl => by cases hc; exact ⟨m, X, hr, hl, Fr.refl⟩
  | s :: ss, l :: ls, ls', h, h', m, X, hr, hc, us, hl => by
    simp only [coLs] at hc
    split at hc
    · rename_i z hz
      split at hc
      · rename_i z' hz'
        cases hc
        match us, hl with
        | u :: us, hl =>
          obtain ⟨m1, X1, h1, h2, h3⟩ := co_ok hr hz hl.1
          obtain ⟨m2, X2, h4, h5, h6⟩ := cos_ok h1 hz' (hl.2.imp (fun _ _ h => h.on h3.on))
          exact ⟨m2, X2, h4, ⟨h2.on h6.on, h5⟩, h3.trans h6⟩
      · cases hc
    · cases hc
  | [], _ :: _, _, _, _, _, _, _, hc, _, _ => by simp [coLs] at hc
  | _ :: _, [], _, _, _, _, _, _, hc, _, _ => by simp [coLs] at hc
theorem dats_ok : ∀ {ts : List Ty} {ls : List (Lf T)} {ds : List (DL T)} {h h' : Hp T} {m : Nat → Value} {X : Nat → Nat → Prop}, Rel T m X h w → datLs ts ls h = some (ds, h') → ∀ {us : List Value}, All2 (LfR m X h.length w) ls us →
    ∃ m' X', Rel T m' X' h' w ∧ All2 (fun d u => RD T w X' d.1 d.2 u) ds us ∧ Fr T m X h w m' X' h' w
  | [], [], ds, h, h', m, X, hr, hc, us, hl => by
    cases hc
    match us, hl with
    | [], _ => exact ⟨m, X, hr, trivial, Fr.refl⟩
  | t :: ts, l :: ls, ds, h, h', m, X, hr, hc, us, hl => by
    simp only [datLs] at hc
    split at hc
    · rename_i t' x h1 hz
      split at hc
      · rename_i z' hz'
        cases hc
        match us, hl with
        | u :: us, hl =>
          obtain ⟨m1, X1, h1, h2, h3⟩ := co_ok hr hz hl.1
          obtain ⟨m2, X2, h4, h5, h6⟩ := dats_ok h1 hz' (hl.2.imp (fun _ _ h => h.on h3.on))
          exact ⟨m2, X2, h4, ⟨RD.mono h6.on.ww h6.on.xx h2, h5⟩, h3.trans h6⟩
      · cases hc
    · cases hc
  | [], _ :: _, _, _, _, _, _, _, hc, _, _ => by simp [datLs] at hc
  | _ :: _, [], _, _, _, _, _, _, hc, _, _ => by simp [datLs] at hc
theorem elt_ok (hr : Rel T m X h w) {t : Ty} {ls : List (Lf T)} {x : den T.S t} (hc : eltOf t ls h = some (x, h')) {us : List Value} (hl : All2 (LfR m X h.length w) ls us) :
    ∃ m' X', Rel T m' X' h' w ∧ CellsOf T w X' t [x] us ∧ Fr T m X h w m' X' h' w := by
  unfold eltOf at hc
  split at hc
  · rename_i z hz
    split at hc
    · rename_i x' hx
      cases hc
      obtain ⟨m', X', h1, h2, h3⟩ := dats_ok hr hz hl
      have hlv := unlv_lv hx
      refine ⟨m', X', h1, ⟨?_, fun k y j d hk hd => ?_⟩, h3⟩
      · rw [← h2.len, ← hlv, lv_len]; simp
      · have : k = 0 ∧ y = x := by
          cases k with
          | zero => simp at hk; exact ⟨rfl, hk.symm⟩
          | succ k => simp at hk
        obtain ⟨rfl, rfl⟩ := this
        rw [hlv] at hd
        obtain ⟨u, hu, hq⟩ := h2.get hd
        exact ⟨u, by simpa using hu, hq⟩
    · cases hc
  · cases hc
theorem elts_ok : ∀ {t : Ty} {lss : List (List (Lf T))} {xs : List (den T.S t)} {h h' : Hp T} {m : Nat → Value} {X : Nat → Nat → Prop}, Rel T m X h w → eltsOf t lss h = some (xs, h') → ∀ {uss : List (List Value)}, All2 (fun ls us => All2 (LfR m X h.length w) ls us) lss uss →
    ∃ m' X', Rel T m' X' h' w ∧ CellsOf T w X' t xs uss.flatten ∧ Fr T m X h w m' X' h' w
  | t, [], xs, h, h', m, X, hr, hc, uss, hl => by
    cases hc
    match uss, hl with
    | [], _ => exact ⟨m, X, hr, CellsOf.nil t, Fr.refl⟩
  | t, ls :: lss, xs, h, h', m, X, hr, hc, uss, hl => by
    simp only [eltsOf] at hc
    split at hc
    · rename_i z hz
      split at hc
      · rename_i z' hz'
        cases hc
        match uss, hl with
        | us :: uss, hl =>
          obtain ⟨m1, X1, h1, h2, h3⟩ := elt_ok hr hz hl.1
          obtain ⟨m2, X2, h4, h5, h6⟩ := elts_ok h1 hz' (hl.2.imp (fun _ _ h => h.imp (fun _ _ h => h.on h3.on)))
          refine ⟨m2, X2, h4, ?_, h3.trans h6⟩
          exact (h2.mono h6.on.ww h6.on.xx).append h5
      · cases hc
    · cases hc
end
end Go.Proofs.Ytfojcadooepgpaa.Rx
