/- A plain evaluator over the translated code: regions that draw their order: any order will do. Under no condition. -/
import Derived.Test.YtfojcadooepgpaaRxL
import Derived.Test.YtfojcadooepgpaaRxDd
set_option linter.unusedVariables false
set_option linter.unusedSimpArgs false
set_option linter.unusedSectionVars false
namespace Go.Proofs.Ytfojcadooepgpaa.Rx
open Go Go.RowKit

section
variable {T : Tab} {m m' : Nat → Value} {X X' : Nat → Nat → Prop} {n n' : Nat} {w w' : World} {P : Program} {h h' : Hp T}
theorem AR.toNew {v : AV T} {rv : Value} {ids roots : List Nat} {k : Nat} (hi : Ids k h ids roots) (hv : AR m X h.length w v rv) (hroots : ∀ l ∈ (match v with | .v a => a.2 | .t vs => vs.flatMap fun (q : V T) => q.2), ∀ i ∈ refs l, i ∈ ids) : AR (pickM m ids) X ids.length w (renA (idxN ids) v) rv := by
  cases v with
  | v a => exact VR.toNew hi hv hroots
  | t vs =>
    obtain ⟨us, h1, h2⟩ := hv
    exact ⟨us, map_new hi h1 (fun v hv l hl => hroots l (List.mem_flatMap.2 ⟨v, hv, hl⟩)), h2⟩
theorem Rel.mask (hr : Rel T m X h w) : Rel T m X (maskH h) w := by
  have key : ∀ {i : Nat} {o : Ob T}, (maskH h)[i]? = some o → o = .no := by
    intro i o ho
    unfold maskH at ho
    rw [List.getElem?_map] at ho
    cases hx : h[i]? with
    | none => rw [hx] at ho; cases ho
    | some _ => rw [hx] at ho; cases ho; rfl
  refine ⟨?_, ?_, hr.lt, ?_, ?_, ?_⟩
  · intro i o ho
    have := key ho
    subst this
    trivial
  · intro i j o o' ho _ _ hl
    have := key ho
    subst this
    cases hl
  · intro i o ho hp
    rw [key ho] at hp
    cases hp
  · intro i e t xs sh ho
    cases key ho
  · intro i e t ho
    cases key ho
theorem maskH_len (h : Hp T) : (maskH h).length = h.length := by simp [maskH]
theorem maskB_len (rts : List Nat) : ∀ (i : Nat) (h : Hp T), (maskB rts i h).length = h.length
  | _, [] => rfl
  | i, x :: r => by simp only [maskB, List.length_cons, maskB_len rts (i + 1) r]
theorem maskB_get (rts : List Nat) : ∀ (i : Nat) (h : Hp T) (j : Nat), (maskB rts i h)[j]? = (h[j]?).map fun x => bif memN rts (i + j) then x else .no
  | _, [], j => by simp [maskB]
  | i, x :: r, 0 => by simp [maskB]
  | i, x :: r, j + 1 => by
    simp only [maskB, List.getElem?_cons_succ]
    rw [maskB_get rts (i + 1) r j, show i + 1 + j = i + (j + 1) from by omega]
theorem Rel.maskB (hr : Rel T m X h w) (rts : List Nat) : Rel T m X (maskB rts 0 h) w := by
  have key : ∀ {i : Nat} {o : Ob T}, (Rx.maskB rts 0 h)[i]? = some o → o = .no ∨ h[i]? = some o := by
    intro i o ho
    rw [maskB_get] at ho
    cases hx : h[i]? with
    | none => rw [hx] at ho; cases ho
    | some z =>
      rw [hx] at ho
      simp only [Option.map_some, Option.some.injEq] at ho
      cases hb : memN rts (0 + i) with
      | true => rw [hb] at ho; exact .inr (by rw [← ho]; rfl)
      | false => rw [hb] at ho; exact .inl ho.symm
  refine ⟨?_, ?_, hr.lt, ?_, ?_, ?_⟩
  · intro i o ho
    rw [maskB_len]
    rcases key ho with rfl | h2
    · trivial
    · exact hr.ob i o h2
  · intro i j o o' ho ho' hne hl hl'
    rcases key ho with rfl | h2
    · cases hl
    · rcases key ho' with rfl | h3
      · cases hl'
      · exact hr.sep i j o o' h2 h3 hne hl hl'
  · intro i o ho hp
    rcases key ho with h2 | h2
    · rw [h2] at hp; cases hp
    · exact hr.pv i o h2 hp
  · intro i e t xs sh ho
    rcases key ho with h2 | h2
    · cases h2
    · exact hr.gr i e t xs sh h2
  · intro i e t ho
    rcases key ho with h2 | h2
    · cases h2
    · exact hr.po i e t h2
theorem Rel.hD (hr : Rel T m X h w) (o : Oper) (rts : List Nat) : Rel T m X (hD o rts h) w := by
  unfold Rx.hD
  cases pureOp o.op with
  | true => exact hr.mask
  | false => cases loadOp o.op with
    | true => exact hr.maskB rts
    | false => exact hr
theorem hD_len (o : Oper) (rts : List Nat) (h : Hp T) : (hD o rts h).length = h.length := by
  unfold hD
  cases pureOp o.op with
  | true => exact maskH_len h
  | false => cases loadOp o.op with
    | true => exact maskB_len rts 0 h
    | false => rfl
theorem allN_congr {f g : Nat → Bool} : ∀ {l : List Nat}, (∀ i ∈ l, f i = g i) → allN f l = allN g l
  | [], _ => rfl
  | x :: r, h => by simp only [allN]; rw [h x List.mem_cons_self, allN_congr (fun i hi => h i (List.mem_cons_of_mem _ hi))]
theorem okIds_congr {h h' : Hp T} {ids roots : List Nat} (hg : ∀ i ∈ ids, h[i]? = h'[i]?) : okIds 0 h ids roots = okIds 0 h' ids roots := by
  unfold okIds
  refine congrArg (nodupN ids && ·) (congrArg (preN 0 ids && ·) (congrArg (allN (memN ids) roots && ·) (allN_congr fun i hi => ?_)))
  simp only [nth_eq, hg i hi]
theorem sub_congr {h h' : Hp T} {ids : List Nat} (hg : ∀ i ∈ ids, h[i]? = h'[i]?) : sub h ids = sub h' ids := by
  unfold sub
  exact List.map_congr_left fun i hi => by unfold getO; rw [nth_eq, nth_eq, hg i hi]
theorem look_pick {f : Nat → Nat} {env : Env T} : ∀ {ts : List Nat} {t : Nat} {v : AV T}, look (renE f (pickE env ts)) t = some v → ∃ v0, look env t = some v0 ∧ t ∈ ts ∧ v = renA f v0 ∧ (t, v0) ∈ pickE env ts
  | [], t, v, h => by cases h
  | s :: ts, t, v, h => by
    simp only [pickE] at h ⊢
    split at h
    · rename_i v1 hv1
      simp only [renE, List.map_cons, look] at h
      cases hb : Nat.beq s t with
      | true =>
        rw [hb] at h
        cases h
        have := Nat.eq_of_beq_eq_true hb
        subst this
        exact ⟨v1, hv1, List.mem_cons_self, rfl, List.mem_cons_self⟩
      | false =>
        rw [hb] at h
        obtain ⟨v0, q1, q2, q3, q4⟩ := look_pick (show look (renE f (pickE env ts)) t = some v from h)
        exact ⟨v0, q1, List.mem_cons_of_mem _ q2, q3, List.mem_cons_of_mem _ q4⟩
    · obtain ⟨v0, q1, q2, q3, q4⟩ := look_pick h
      exact ⟨v0, q1, List.mem_cons_of_mem _ q2, q3, q4⟩
theorem quiet_O {ids : List Nat} {op : Op} (h : quietOp ids op = true) : quietO op = true ∧ (∀ t x lo hi mx, op = .slice t x lo hi mx → ids = []) ∧ ∀ t x i ok, op = .lookup t x i ok → ids.length ≤ 1 := by
  refine ⟨?_, ?_, ?_⟩
  · unfold quietOp at h
    cases op <;> first | rfl | (simp [pureOp, readOp] at h; done) | skip
    rename_i c
    simp only [pureOp, readOp, quietO] at h ⊢
    revert h
    generalize c.callee = cal
    intro h
    cases cal <;> simp_all
    rename_i b
    cases b <;> simp_all
  · rintro t x lo hi mx rfl
    simp only [quietOp, pureOp, readOp, Bool.false_or] at h
    split at h
    · rfl
    · cases h
  · rintro t x i ok rfl
    simp only [quietOp, pureOp, readOp, Bool.false_or] at h
    split at h
    · cases h
    · rename_i h2
      match ids, h2 with
      | [], _ => simp
      | [_], _ => simp
      | a :: b :: r, h2 => exact absurd rfl (h2 a b r)

theorem soft_nil {ops : Array Oper} {o : Oper} {ids : List Nat} (h : softOp ops o ids = true) : ids = [] := by
  unfold softOp at h
  split at h
  · rfl
  · cases h
theorem softV_ok {v v2 : AV T} {rv : Value} (hr : Rel T m X h w) (ha : AR m X h.length w v rv) (hs : softV v h = some v2) : ∃ m2 X2 g2, Rel T m2 X2 g2 w ∧ Fr T m X h w m2 X2 g2 w ∧ ∀ m n, AR m X2 n w v2 rv := by
  unfold softV at hs
  split at hs
  · rename_i i
    split at hs
    · rename_i e t xs sh ho
      split at hs
      · rename_i z hz
        cases hs
        obtain ⟨m2, X2, q1, q2, q3⟩ := co_ok hr hz (AR_one.1 ha)
        have hd : ∃ t x, z.1 = .d t x := by
          simp only [coL, ho] at hz
          split at hz
          · cases hz; exact ⟨_, _, rfl⟩
          · cases hz
        obtain ⟨t', x', e1⟩ := hd
        rw [e1] at q2 ⊢
        exact ⟨m2, X2, z.2, q1, q3, fun m n => AR_one.2 q2⟩
      · cases hs
    · cases hs
  · cases hs
theorem renO_id (o : Ob T) : renO (fun i => i) o = o := by
  have hl : ∀ l : Lf T, renL (fun i => i) l = l := by
    intro l
    cases l <;> simp [renL]
  cases o with
  | box t ls => simp only [renO]; congr 1; rw [List.map_congr_left (fun l _ => hl l)]; simp
  | gr e t xs sh => rfl
  | mp mt k v x po => cases po <;> rfl
  | po e t => rfl
  | it i y => rfl
  | no => rfl
  | dg e t xs fx => rfl
theorem Rel.bound (hr : Rel T m X h w) : ∀ (i : Nat) (o : Ob T), h[i]? = some o → ∀ l ∈ obL o, ∀ j ∈ refs l, j < h.length := by
  intro i o ho l hl j hj
  have h1 := hr.ob i o ho
  cases o with
  | box tid ls =>
    obtain ⟨b, vs, _, _, ha⟩ := h1
    obtain ⟨k, hk⟩ := List.mem_iff_getElem?.1 (show l ∈ ls from hl)
    obtain ⟨u, _, hu⟩ := ha.get hk
    exact hu.lt j hj
  | gr e t xs sh => cases hl
  | mp mt k v x po =>
    cases po with
    | none => cases hl
    | some p =>
      obtain ⟨q, hole⟩ := p
      obtain ⟨_, _, _, _, _, h3, _⟩ := h1
      rw [List.mem_singleton.1 (show l ∈ [Lf.g q] from hl)] at hj
      rw [List.mem_singleton.1 (show j ∈ [q] from hj)]
      exact h3
  | po e t => cases hl
  | it i y =>
    obtain ⟨b, r, _, _, h3, _⟩ := h1
    rw [List.mem_singleton.1 (show l ∈ [Lf.m i] from hl)] at hj
    rw [List.mem_singleton.1 (show j ∈ [i] from hj)]
    exact h3
  | no => cases hl
  | dg e t xs fx => cases hl
theorem get_up {h g : Hp T} {i : Nat} {o : Ob T} (hi : h[i]? = some o) : (h ++ g)[i]? = some o := by
  rw [List.getElem?_append_left (lt_of_get hi)]
  exact hi
theorem Rel.drop {g : Hp T} (hr : Rel T m X (h ++ g) w) (hb : ∀ (i : Nat) (o : Ob T), h[i]? = some o → ∀ l ∈ obL o, ∀ j ∈ refs l, j < h.length) : Rel T m X h w := by
  refine ⟨fun i o ho => ?_, fun i j o o' hi hj => hr.sep i j o o' (get_up hi) (get_up hj), hr.lt, fun i o ho => hr.pv i o (get_up ho), fun i e t xs sh ho => hr.gr i e t xs sh (get_up ho), fun i e t ho => hr.po i e t (get_up ho)⟩
  have h1 := (hr.ob i o (get_up ho)).ren (f := fun i => i) (n' := h.length) (m' := m) (j := i) rfl (fun l hl k hk => ⟨hb i o ho l hl k hk, rfl⟩)
  rwa [renO_id] at h1
theorem Fr.drop {g : Hp T} {h0 : Hp T} {m0 : Nat → Value} {X0 : Nat → Nat → Prop} {w0 : World} (hf : Fr T m0 X0 h0 w0 m X (h ++ g) w) (hl : h0.length ≤ h.length) : Fr T m0 X0 h0 w0 m X h w := by
  exact ⟨⟨hl, hf.on.mm, hf.on.xx, hf.on.ww⟩, hf.size, hf.os, hf.tape, hf.output, hf.old, fun b ⟨i, o, q1, q2, q3⟩ => hf.mine b ⟨i, o, get_up q1, q2, q3⟩, hf.new⟩
theorem merge_nil {k : Nat} {g h : Hp T} : mergeO k [] [] g h = h ++ g.map (renO (backN k [])) := by cases g <;> rfl

variable {tb : List (FuncId × Fx)} {Fn : (key : Nat) → List (DL T) → Option (HL T.S (fxAt tb key).tout)} {N : Nat} {ops : Array Oper} {fas : List (Option (Ob T) × Nat)} {env0 : Env T} {h0 : Hp T}
/-- What the slots hold as some operations are done. -/
def Slots (recs : List (Rec T)) (env0 : Env T) (listed : Array Bool) (m : Nat → Value) (X : Nat → Nat → Prop) (n : Nat) (w : World) (a : Act) : Prop :=
  ∀ t, (∀ k r, recs[k]? = some r → r.lg.dst = some t → lst listed k → AR m X n w r.v (a.tmps.getD t undef)) ∧
    ((∀ k r, recs[k]? = some r → r.lg.dst = some t → ¬ lst listed k) → ∀ v, look env0 t = some v → AR m X n w v (a.tmps.getD t undef))
theorem Slots.on {recs : List (Rec T)} {listed : Array Bool} {a : Act} (ho : On m X n w m' X' n' w') (h : Slots recs env0 listed m X n w a) : Slots recs env0 listed m' X' n' w' a :=
  fun t => ⟨fun k r h1 h2 h3 => ((h t).1 k r h1 h2 h3).on ho, fun h1 v h2 => ((h t).2 h1 v h2).on ho⟩
variable {recs : List (Rec T)} {env : Env T}
theorem Slots.put (hw : WF P tb Fn N ops fas env0 h0 recs env h) {listed : Array Bool} {i : Nat} {r : Rec T} {o : Oper} (hr : recs[i]? = some r) (hd : r.lg.dst = o.dst) (hok : okDst N o.dst = true) (hi : i < listed.size) {a : Act} (hN : N ≤ a.tmps.size) (hs : Slots recs env0 listed m X n w a) {rv : Value} (hv : AR m X n w r.v rv) :
    Slots recs env0 (listed.setIfInBounds i true) m X n w (a.put o.dst rv) := by
  intro t
  have same : o.dst = some t → (a.put o.dst rv).tmps.getD t undef = rv := by
    intro e
    rw [e] at hok ⊢
    have hlt : t < N := Nat.le_of_ble_eq_true (show Nat.ble (t + 1) N = true from hok)
    simp only [Act.put]
    rw [getD_set _ _ _ _ _ (fun _ => Nat.lt_of_lt_of_le hlt hN), if_pos rfl]
  have other : o.dst ≠ some t → (a.put o.dst rv).tmps.getD t undef = a.tmps.getD t undef := by
    intro e
    cases hdst : o.dst with
    | none => rfl
    | some d =>
      have hne : d ≠ t := fun e' => e (by rw [hdst, e'])
      simp only [Act.put]
      rw [getD_set _ _ _ _ _ (fun e' => absurd e' hne), if_neg hne]
  constructor
  · intro k r' hk hdk hl
    rcases (lst_set hi).1 hl with rfl | hl
    · rw [hr] at hk
      cases hk
      rw [same (by rw [← hd, hdk])]
      exact hv
    · by_cases e : o.dst = some t
      · have hki : k = i := by
          rcases Nat.lt_trichotomy k i with hlt | heq | hgt
          · exact absurd (by rw [hd]; exact e) ((pair_of (hw.pair k i r' r hlt hk hr)).1 t hdk)
          · exact heq
          · exact absurd hdk ((pair_of (hw.pair i k r r' hgt hr hk)).1 t (by rw [hd]; exact e))
        subst hki
        rw [hr] at hk
        cases hk
        rw [same e]
        exact hv
      · rw [other e]
        exact (hs t).1 k r' hk hdk hl
  · intro hno v hl
    have hne : o.dst ≠ some t := fun e => hno i r hr (by rw [hd]; exact e) ((lst_set hi).2 (.inl rfl))
    rw [other hne]
    exact (hs t).2 (fun k r' hk hdk hl' => hno k r' hk hdk ((lst_set hi).2 (.inr hl'))) v hl
end
end Go.Proofs.Ytfojcadooepgpaa.Rx
