/- A plain evaluator over the translated code: regions that draw their order: the region's law. Under no condition. -/
import Derived.Test.YtfojcadooepgpaaRxDg
set_option linter.unusedVariables false
set_option linter.unusedSimpArgs false
set_option linter.unusedSectionVars false
namespace Go.Proofs.Ytfojcadooepgpaa.Rx
open Go Go.RowKit

section
variable {T : Tab} {P : Program} {tb : List (FuncId × Fx)} {Fn : (key : Nat) → List (DL T) → Option (HL T.S (fxAt tb key).tout)} {N : Nat} {ops : Array Oper} {fas : List (Option (Ob T) × Nat)} {env0 : Env T} {h0 hB : Hp T}
variable {recs : List (Rec T)} {env : Env T} {h : Hp T} {m0 : Nat → Value} {X0 : Nat → Nat → Prop} {w0 : World} {df : List Deferred}
/-- Is this the number of an alloc that is not done? -/
noncomputable def un (fas : List (Option (Ob T) × Nat)) (listed : Array Bool) (x : Nat) : Bool := @decide (∃ j, faAt fas j = some x ∧ ¬ lst listed j) (Classical.propDecidable _)
theorem un_iff {fas : List (Option (Ob T) × Nat)} {listed : Array Bool} {x : Nat} : un fas listed x = true ↔ ∃ j, faAt fas j = some x ∧ ¬ lst listed j := by unfold un; exact @decide_eq_true_iff _ (Classical.propDecidable _)
theorem un_no {fas : List (Option (Ob T) × Nat)} {listed : Array Bool} {x : Nat} (h : ∀ j, faAt fas j = some x → lst listed j) : un fas listed x = false := by
  cases hb : un fas listed x with
  | false => rfl
  | true => obtain ⟨j, h1, h2⟩ := un_iff.1 hb; exact absurd (h j h1) h2
theorem un_eq {listed listed' : Array Bool} {x : Nat} (h : ∀ j, faAt fas j = some x → (lst listed j ↔ lst listed' j)) : un fas listed x = un fas listed' x := by
  rw [Bool.eq_iff_iff, un_iff, un_iff]
  constructor
  · rintro ⟨j, h1, h2⟩; exact ⟨j, h1, fun h3 => h2 ((h j h1).2 h3)⟩
  · rintro ⟨j, h1, h2⟩; exact ⟨j, h1, fun h3 => h2 ((h j h1).1 h3)⟩
/-- What holds as some operations are done. -/
structure Inv (ops : Array Oper) (N : Nat) (fas : List (Option (Ob T) × Nat)) (env0 : Env T) (hB : Hp T) (recs : List (Rec T)) (h : Hp T) (m0 : Nat → Value) (X0 : Nat → Nat → Prop) (w0 : World) (df : List Deferred) (listed : Array Bool) (a : Act) (w : World) : Prop where
  size : listed.size = ops.size
  dir : ∀ k o, ops[k]? = some o → lst listed k → ∀ e ∈ o.after.toList, Region.binds .any e = true → lst listed e.on
  ex : ∃ c m X, c ≤ recs.length ∧ (∀ k r, recs[k]? = some r → r.lg.kind = some true → (lst listed k ↔ k < c)) ∧ Rel T m X (hide (un fas listed) 0 (hAt recs h c)) w ∧ Fr T m0 X0 hB w0 m X (hide (un fas listed) 0 (hAt recs h c)) w ∧ Slots recs env0 listed m X (hAt recs h c).length w a ∧ ∀ j id, faAt fas j = some id → ¬ lst listed j → m id = hole
  tmps : N ≤ a.tmps.size
  defs : a.defers = df
variable (hw : WF P tb Fn N ops fas env0 h0 recs env h) (hlen : recs.length = ops.size) (hfa : FaOk P ops fas hB h0)
include hw hlen
theorem Inv.slot {listed : Array Bool} {m : Nat → Value} {X : Nat → Nat → Prop} {n : Nat} {w : World} {a : Act} (hdir : ∀ k o, ops[k]? = some o → lst listed k → ∀ e ∈ o.after.toList, Region.binds .any e = true → lst listed e.on) (hs : Slots recs env0 listed m X n w a)
    {i : Nat} {r : Rec T} {o : Oper} (hr : recs[i]? = some r) (h1 : One P tb Fn N ops fas env0 recs i o r) (hni : ¬ lst listed i) (hanc : ∀ k ∈ r.lg.anc, lst listed k) {t : Nat} (ht : t ∈ r.lg.reads) {v : AV T} (hl : look r.env t = some v) : AR m X n w v (a.tmps.getD t undef) := by
  rcases h1.env t v hl with ⟨k, rk, q1, q2, q3, q4⟩ | ⟨q1, v0, q2, q3⟩
  · have := hanc k ((pair_of (hw.pair k i rk r q1 q2 hr)).2.1 t q3 ht)
    exact q4 _ _ _ _ _ ((hs t).1 k rk q2 q3 this)
  · refine q3 _ _ _ _ _ ((hs t).2 (fun k rk hk hdk hlk => ?_) v0 q2)
    rcases Nat.lt_trichotomy k i with hlt | heq | hgt
    · exact q1 k rk hlt hk hdk
    · subst heq; exact hni hlk
    · exact hni (hw.down hdir k rk hk hlk i ((pair_of (hw.pair i k r rk hgt hr hk)).2.2.1 t hdk ht))
theorem WF.grow : ∀ {c : Nat}, c ≤ recs.length → h0.length ≤ (hAt recs h c).length
  | 0, _ => by rw [hw.zero]; exact Nat.le_refl _
  | c + 1, hc => by
    obtain ⟨s1, _⟩ := hw.step (List.getElem?_eq_getElem (show c < recs.length by omega))
    exact Nat.le_trans (WF.grow (by omega)) s1
include hfa
/-- What is numbered ahead and not yet made stands there as it was laid. -/
theorem WF.laid {listed : Array Bool} (hdown : ∀ k rk, recs[k]? = some rk → lst listed k → ∀ j ∈ rk.lg.anc, lst listed j) {j id : Nat} (hj : faAt fas j = some id) (hnj : ¬ lst listed j) : ∀ {c : Nat}, c ≤ recs.length → (∀ k rk, k < c → recs[k]? = some rk → rk.lg.kind = some true → lst listed k) → (hAt recs h c)[id]? = h0[id]?
  | 0, _, _ => by rw [hw.zero]
  | c + 1, hc, hl => by
    obtain ⟨rk, hrk⟩ : ∃ rk, recs[c]? = some rk := ⟨_, List.getElem?_eq_getElem (show c < recs.length by omega)⟩
    obtain ⟨_, s2⟩ := hw.step hrk
    have ih := WF.laid hdown hj hnj (c := c) (by omega) (fun k rk hk => hl k rk (by omega))
    rw [← ih]
    obtain ⟨o, e, v, _, _, _, _, q1, _⟩ := hfa.at_ j id hj
    refine s2 id (fun hk hm => ?_) (Nat.lt_of_lt_of_le (lt_of_get q1) (WF.grow hw hlen (by omega)))
    have hlc := hl c rk (by omega) hrk hk
    obtain ⟨o', ho', h1⟩ := hw.one c rk hrk
    have hd := h1.done
    unfold DoneF at hd
    split at hd
    · rw [hd.2.1] at hk; cases hk
    · have hd1 := hd.1
      unfold Done at hd1
      rw [hk] at hd1
      obtain ⟨_, d2, d3, _⟩ := hd1
      rcases hd.2 with h2 | h2
      · rw [h2] at hk; cases hk
      · have hmi : id ∈ rk.ids := by
          rw [d3] at hm
          unfold lidD at hm
          cases hp : pureOp o'.op with
          | true => rw [hp] at hm; cases hm
          | false =>
            rw [hp] at hm
            cases hlo : loadOp o'.op with
            | true => rw [hlo] at hm; exact (okIds_ok d2).roots id hm
            | false => rw [hlo] at hm; exact hm
        have := faOk_ok h2 j id hj hmi
        rw [Nat.zero_add] at this
        exact hnj (hdown c rk hrk hlc j this)
theorem Inv.step (htb : TbOk P tb) (hS : ∀ key, Snd P tb key (Fn key)) {listed : Array Bool} {a : Act} {w : World} (hi : Inv ops N fas env0 hB recs h m0 X0 w0 df listed a w) {i : Nat} (hready : i ∈ Region.ready .any ops listed) {K : Act → World → Prop} {Q : Exit → Act → World → Prop}
    (hK : ∀ a' w', Inv ops N fas env0 hB recs h m0 X0 w0 df (listed.setIfInBounds i true) a' w' → K a' w') : wpOp P ops Q i K a w := by
  obtain ⟨hnl, o, ho, hall⟩ := mem_ready.1 hready
  have hio : i < ops.size := (Array.getElem?_eq_some_iff.1 ho).1
  have hils : i < listed.size := by rw [hi.size]; exact hio
  have hni : ¬ lst listed i := by
    unfold lst
    intro hc
    rw [Array.getD_eq_getD_getElem?, Array.getElem?_eq_getElem hils] at hc hnl
    simp at hc hnl
    rw [hc] at hnl
    cases hnl
  obtain ⟨r, hr⟩ : ∃ r, recs[i]? = some r := ⟨recs[i], List.getElem?_eq_getElem (by omega)⟩
  obtain ⟨o', ho', h1⟩ := hw.one i r hr
  rw [ho] at ho'
  cases ho'
  have hafter : ∀ e ∈ o.after.toList, Region.binds .any e = true → lst listed e.on := fun e he hb => hall e (by simpa using he) hb
  have hdown := hw.down hi.dir
  have hanc : ∀ k ∈ r.lg.anc, lst listed k := by
    intro k hk
    obtain ⟨e, e1, e2, e3⟩ := h1.anc k hk
    rcases e3 with rfl | ⟨r2, f1, f2⟩
    · exact hafter e e1 e2
    · exact hdown e.on r2 f1 (hafter e e1 e2) k f2
  obtain ⟨c, m, X, hc, hcl, hrel, hfr, hs, hho⟩ := hi.ex
  have hHl : (hide (un fas listed) 0 (hAt recs h c)).length = (hAt recs h c).length := hide_len _ _ _
  have hfb : ∀ x, (hAt recs h c).length ≤ x → un fas listed x = false := by
    intro x hx
    refine un_no fun j hj => ?_
    obtain ⟨o, e, v, _, _, _, _, q1, _⟩ := hfa.at_ j x hj
    have := lt_of_get q1
    have := WF.grow hw hlen hc
    omega
  have slot : ∀ t ∈ r.lg.reads, ∀ v, look r.env t = some v → AR m X (hAt recs h c).length w v (a.tmps.getD t undef) := fun t ht v hl => Inv.slot hw hlen hi.dir hs hr h1 hni hanc ht hl
  -- the guard
  have guard : ∀ b, Says ops o r.env b → Region.wanted o (yielded ops a.tmps) = b := by
    intro b hb
    unfold Says at hb
    unfold Region.wanted
    cases hg : o.guard with
    | none => rw [hg] at hb; exact hb.symm
    | some gw =>
      obtain ⟨gi, want⟩ := gw
      rw [hg] at hb
      obtain ⟨og, d, v, k1, k2, k3, k4⟩ := hb
      have hdr : d ∈ r.lg.reads := by
        rw [h1.reads]
        refine List.mem_append_left _ ?_
        unfold gslot
        rw [hg]
        have : nth ops.toList gi = some og := by rw [nth_eq, Array.getElem?_toList]; exact k1
        simp only [this, k2]
        exact List.mem_cons_self
      have h2 := k4 _ _ _ _ _ (slot d hdr v k3)
      have h3 : yielded ops a.tmps gi = boolOf (a.tmps.getD d undef) := by
        unfold yielded
        rw [k1, Option.bind_some, k2, Option.bind_some, Array.getD_eq_getD_getElem?]
        cases hx : a.tmps[d]? with
        | none => rfl
        | some u => cases u <;> rfl
      show (yielded ops a.tmps gi == some want) = b
      rw [h3]
      exact h2
  -- onward
  have hdir' : ∀ k o, ops[k]? = some o → lst (listed.setIfInBounds i true) k → ∀ e ∈ o.after.toList, Region.binds .any e = true → lst (listed.setIfInBounds i true) e.on := by
    intro k o2 hk hl e he hb
    rcases (lst_set hils).1 hl with rfl | hl
    · rw [ho] at hk
      cases hk
      exact (lst_set hils).2 (.inr (hafter e he hb))
    · exact (lst_set hils).2 (.inr (hi.dir k o2 hk hl e he hb))
  have onward : ∀ {c' : Nat} {m' X' w' rv}, c' ≤ recs.length → (∀ k rk, recs[k]? = some rk → rk.lg.kind = some true → (lst (listed.setIfInBounds i true) k ↔ k < c')) → Rel T m' X' (hide (un fas (listed.setIfInBounds i true)) 0 (hAt recs h c')) w' → Fr T m0 X0 hB w0 m' X' (hide (un fas (listed.setIfInBounds i true)) 0 (hAt recs h c')) w' → Slots recs env0 listed m' X' (hAt recs h c').length w' a → (∀ j id, faAt fas j = some id → ¬ lst (listed.setIfInBounds i true) j → m' id = hole) → AR m' X' (hAt recs h c').length w' r.v rv → K (a.put o.dst rv) w' := by
    intro c' m' X' w' rv p1 p2 p3 p4 p6 p7 p5
    obtain ⟨k1, k2⟩ := put_size a o.dst rv
    exact hK _ _ ⟨by simpa using hi.size, hdir', ⟨c', m', X', p1, p2, p3, p4, p6.put hw hr h1.dst h1.okd hils hi.tmps p5, p7⟩, by rw [k1]; exact hi.tmps, k2.trans hi.defs⟩
  have same : r.lg.kind ≠ some true → ∀ k rk, recs[k]? = some rk → rk.lg.kind = some true → (lst (listed.setIfInBounds i true) k ↔ k < c) := by
    intro hk k rk hrk hkk
    rw [lst_set hils]
    constructor
    · rintro (rfl | hl)
      · rw [hr] at hrk; cases hrk; exact absurd hkk hk
      · exact (hcl k rk hrk hkk).1 hl
    · exact fun hl => .inr ((hcl k rk hrk hkk).2 hl)
  have hdone := h1.done
  unfold DoneF at hdone
  unfold wpOp
  simp only [ho]
  split at hdone
  · -- an alloc that was numbered ahead
    rename_i id hid
    obtain ⟨hg, hkd, _, _, hv⟩ := hdone
    obtain ⟨o2, e, v, q1, q2, q3, q4, q5, q6⟩ := hfa.at_ i id hid
    rw [ho] at q1
    cases q1
    have hw1 : Region.wanted o (yielded ops a.tmps) = true := by unfold Region.wanted; rw [hg]
    rw [if_pos hw1]
    refine .inl ?_
    have hids : Ids 0 (hide (un fas listed) 0 (hAt recs h c)) [] [] := okIds_ok rfl
    have hrs := sub_ok hrel hids
    have hen : EnvR (pickM m []) X 0 w ([] : Env T) a := fun t v hv => by cases hv
    refine ans_ok htb hS hrs (fun x => hen.or x) (ans_alloc q3 q4) (fun rv m1 X1 w1 e1 e2 e3 => ?_)
    obtain ⟨f1, f2, f3⟩ := merge_ok hrel hids e2 e3
    rw [merge_nil] at f1 f2 f3
    simp only [List.map_cons, List.map_nil] at f1 f2 f3
    rw [box_ren q4] at f1 f2 f3
    have hidl : id < (hAt recs h c).length := Nat.lt_of_lt_of_le (lt_of_get q5) (WF.grow hw hlen hc)
    have hidH : id < (hide (un fas listed) 0 (hAt recs h c)).length := by rw [hHl]; exact hidl
    have hlaid : (hAt recs h c)[id]? = some (.box e v.2) := by
      rw [WF.laid hw hlen hfa hdown hid hni hc (fun k rk hk hrk hkk => (hcl k rk hrk hkk).2 hk), q5]
    let mj := joinM m m1 (hide (un fas listed) 0 (hAt recs h c)).length ([] : List Nat).length
    let m' : Nat → Value := fun x => if x = id then mj (hide (un fas listed) 0 (hAt recs h c)).length else mj x
    have hmm : ∀ x, x ≠ id → m' x = mj x := fun x hx => by simp only [m']; rw [if_neg hx]
    have hmr : m' id = mj (hide (un fas listed) 0 (hAt recs h c)).length := by simp only [m']; rw [if_pos trivial]
    have hmo : ∀ x, x < (hide (un fas listed) 0 (hAt recs h c)).length → mj x = m x := f2.on.mm
    have hh : mj id = hole := (hmo id hidH).trans (hho i id hid hni)
    have hshow : hide (un fas (listed.setIfInBounds i true)) 0 (hAt recs h c) = setO (hide (un fas listed) 0 (hAt recs h c)) id (.box e v.2) := by
      refine hide_show hlaid (un_no fun j hj => ?_) (fun x hx => un_eq fun j hj => ?_)
      · rw [hfa.inj j i id hj hid]; exact (lst_set hils).2 (.inl rfl)
      · rw [lst_set hils]
        constructor
        · rintro (rfl | h2)
          · rw [hid] at hj; cases hj; exact absurd rfl hx
          · exact h2
        · exact .inr
    have g1 := Rel.fill f1 hrel.bound hidH hh hmm hmr (zero_refs q4)
    have g2 := Fr.fill (hfr.trans f2) hidH q6 hmm hmr
    have g3 : Slots recs env0 listed m' X1 (hAt recs h c).length w1 a := by
      have := hs.on ((f2.drop (Nat.le_refl _)).on.at hHl hHl)
      exact this.fill hh hmm
    refine onward hc (same (by rw [hkd]; simp)) (by rw [hshow]; exact g1) (by rw [hshow]; exact g2) g3 (fun j id' hj hnl' => ?_) ?_
    · have hne : id' ≠ id := by
        rintro rfl
        exact hnl' ((lst_set hils).2 (.inl (hfa.inj j i id' hj hid)))
      rw [hmm id' hne]
      obtain ⟨_, _, _, _, _, _, _, q7, _⟩ := hfa.at_ j id' hj
      rw [hmo id' (by rw [hHl]; exact Nat.lt_of_lt_of_le (lt_of_get q7) (WF.grow hw hlen hc))]
      exact hho j id' hj (fun h2 => hnl' ((lst_set hils).2 (.inr h2)))
    · rw [hv]
      refine AR_one.2 ?_
      obtain ⟨_, b, h2, h3⟩ := AR_one.1 e1
      refine ⟨hidl, b, hmr.trans ?_, h3⟩
      have := (f3 0 (by simp)).2
      simp only [backN, nth, List.length_nil, Nat.sub_zero, Nat.add_zero] at this
      exact this.trans h2
  · rename_i hid
    obtain ⟨hdone, hfo⟩ := hdone
    unfold Done at hdone
    have hun : un fas (listed.setIfInBounds i true) = un fas listed := by
      funext x
      refine un_eq fun j hj => ?_
      rw [lst_set hils]
      constructor
      · rintro (rfl | h2)
        · rw [hid] at hj; cases hj
        · exact h2
      · exact .inr
    have hho' : ∀ j id, faAt fas j = some id → ¬ lst (listed.setIfInBounds i true) j → m id = hole := fun j id hj hnl' => hho j id hj (fun h2 => hnl' ((lst_set hils).2 (.inr h2)))
    have hidl : ∀ j id, faAt fas j = some id → id < (hAt recs h c).length := by
      intro j id hj
      obtain ⟨_, _, _, _, _, _, _, q7, _⟩ := hfa.at_ j id hj
      exact Nat.lt_of_lt_of_le (lt_of_get q7) (WF.grow hw hlen hc)
    -- what it meets is there
    have hfx : r.lg.kind ≠ none → ∀ x ∈ r.ids, un fas listed x = false := by
      intro hk x hx
      refine un_no fun j hj => ?_
      rcases hfo with h2 | h2
      · exact absurd h2 hk
      · have := faOk_ok h2 j x hj hx
        rw [Nat.zero_add] at this
        exact hanc j this
    cases hk : r.lg.kind with
    | none =>
      rw [hk] at hdone
      rw [if_neg (by rw [guard false hdone.1]; simp)]
      refine onward hc (same (by rw [hk]; simp)) (by rw [hun]; exact hrel) (by rw [hun]; exact hfr) hs hho' ?_
      rw [hdone.2]
      exact ⟨[], trivial, rfl⟩
    | some q =>
      replace hfx := hfx (by rw [hk]; simp)
      rw [hk] at hdone
      obtain ⟨d1, d2, d3, d4, d5, d6, d7, d8⟩ := hdone
      rw [if_pos (guard true d1)]
      refine .inl ?_
      -- its inputs, in any memory that is the same where it looks
      have envOk : ∀ (H : Hp T), H.length = (hAt recs h c).length → Ids 0 H r.ids (rootsD r.env o) → ∀ (n' : Nat), n' = r.ids.length → EnvR (pickM m r.ids) X n' w (inE o r.env r.ids) a := by
        intro H hHl hids n' hn' t v hv
        subst hn'
        obtain ⟨v0, q1, q2, rfl, q4⟩ := look_pick hv
        have hv0 := slot t (by rw [h1.reads]; exact List.mem_append_right _ q2) v0 q1
        rw [← hHl] at hv0
        refine hv0.toNew hids (fun l hl j hj => hids.roots j (List.mem_flatMap.2 ⟨l, ?_, hj⟩))
        exact List.mem_flatMap.2 ⟨(t, v0), q4, hl⟩
      cases hso : softOp ops o r.ids with
      | true =>
        have hnil := soft_nil hso
        rw [hso] at d6 d8
        simp only [cond_true, Bool.true_or, Bool.not_true] at d6 d8
        subst d6
        have hids : Ids 0 (hD o (rootsD r.env o) (hide (un fas listed) 0 (hAt recs h c))) r.ids (rootsD r.env o) := okIds_ok (by rw [okIds_congr (h' := hD o (rootsD r.env o) r.h) (fun x hx => by rw [hnil] at hx; cases hx)]; exact d2)
        have hsub : sub (hD o (rootsD r.env o) (hide (un fas listed) 0 (hAt recs h c))) r.ids = sub (hD o (rootsD r.env o) r.h) r.ids := sub_congr fun x hx => by rw [hnil] at hx; cases hx
        have hrs := sub_ok (hrel.hD o (rootsD r.env o)) hids
        rw [hsub] at hrs
        have hen := envOk _ (by rw [hD_len, hHl]) hids _ (sub_len (hD o (rootsD r.env o) r.h) r.ids)
        refine ans_ok htb hS hrs (fun x => hen.or x) d7 (fun rv m1 X1 w1 e1 e2 e3 => ?_)
        obtain ⟨m2, X2, g2, q1, q2, q3⟩ := softV_ok e2 e1 d8
        have e4 := e3.trans q2
        rw [hnil] at e4
        obtain ⟨f1, f2, _⟩ := merge_ok hrel (ids := []) (roots := []) (okIds_ok rfl) q1 e4
        rw [merge_nil] at f1 f2
        have f2' := f2.drop (Nat.le_refl _)
        refine onward hc (same (by rw [hk]; simp)) (by rw [hun]; exact f1.drop hrel.bound) (by rw [hun]; exact hfr.trans f2') ?_ (fun j id hj hnl' => ?_) (q3 _ _)
        · exact hs.on (f2'.on.at hHl hHl)
        · exact (f2'.on.mm id (by rw [hHl]; exact hidl j id hj)).trans (hho' j id hj hnl')
      | false =>
      rw [hso] at d6 d8
      simp only [cond_false, Bool.false_or, Option.some.injEq] at d6 d8
      replace d8 := d8.symm
      cases q with
      | false =>
        have hq : quietOp r.ids o.op = true := by simpa using d6.symm
        have hids0 := okIds_ok d2
        have hag : ∀ x ∈ r.ids, x < (hAt recs h c).length ∧ (hD o (rootsD r.env o) (hide (un fas listed) 0 (hAt recs h c)))[x]? = (hD o (rootsD r.env o) r.h)[x]? := by
          intro x hx
          obtain ⟨ob, hob, _⟩ := hids0.obs x hx
          have hxl : x < r.h.length := by have := lt_of_get hob; rwa [hD_len] at this
          obtain ⟨g1, g2⟩ := hw.agree hr hk hc hcl hanc hni hdown (x := x) (by rw [d4]; exact hx) hxl
          have g1' : x < (hide (un fas listed) 0 (hAt recs h c)).length := by rw [hHl]; exact g1
          have hat : (hide (un fas listed) 0 (hAt recs h c))[x]? = (hAt recs h c)[x]? := hide_at (hfx x hx)
          refine ⟨g1, ?_⟩
          unfold Rx.hD
          cases hp : pureOp o.op with
          | true =>
            simp only [cond_true, maskH, List.getElem?_map, List.getElem?_eq_getElem g1', List.getElem?_eq_getElem hxl, Option.map_some]
          | false =>
            cases hlo : loadOp o.op with
            | false =>
              simp only [cond_false]
              rw [hat]
              exact g2 (by rw [d3]; unfold lidD; rw [hp, hlo]; exact hx)
            | true =>
              simp only [cond_false, cond_true]
              rw [maskB_get, maskB_get]
              cases hm : memN (rootsD r.env o) (0 + x) with
              | true =>
                have hmem := memN_iff.1 hm
                rw [Nat.zero_add] at hmem
                rw [hat, g2 (by rw [d3]; unfold lidD; rw [hp, hlo]; exact hmem)]
              | false =>
                rw [List.getElem?_eq_getElem g1', List.getElem?_eq_getElem hxl]
                rfl
        have hids : Ids 0 (hD o (rootsD r.env o) (hide (un fas listed) 0 (hAt recs h c))) r.ids (rootsD r.env o) := okIds_ok (by rw [okIds_congr (fun x hx => (hag x hx).2)]; exact d2)
        have hsub : sub (hD o (rootsD r.env o) (hide (un fas listed) 0 (hAt recs h c))) r.ids = sub (hD o (rootsD r.env o) r.h) r.ids := sub_congr fun x hx => (hag x hx).2
        have hrs := sub_ok (hrel.hD o (rootsD r.env o)) hids
        rw [hsub] at hrs
        have hen := envOk _ (by rw [hD_len, hHl]) hids _ (sub_len (hD o (rootsD r.env o) r.h) r.ids)
        obtain ⟨hq1, hq2⟩ := quiet_O hq
        obtain ⟨rv, e1, e2⟩ := ans_calm hrs (fun x => hen.or x) d7 hq1 ⟨fun t x lo hi mx he => by rw [hq2.1 t x lo hi mx he]; rfl, fun t x i ok he => by rw [sub_len]; exact hq2.2 t x i ok he⟩
        have hback : AR m X (hAt recs h c).length w r.v rv := by
          rw [d8]
          refine e2.back (fun j hj => ?_)
          rw [sub_len] at hj
          have hg : r.ids[j]? = some r.ids[j] := List.getElem?_eq_getElem hj
          rw [backN_lt hg, pickM_at hg]
          exact ⟨(hag _ (List.getElem_mem hj)).1, rfl⟩
        unfold Oper.wp
        rw [e1]
        exact onward hc (same (by rw [hk]; simp)) (by rw [hun]; exact hrel) (by rw [hun]; exact hfr) hs hho' hback
      | true =>
        have hq : quietOp r.ids o.op = false := by simpa using d6.symm
        have hp : pureOp o.op = false := by
          cases hp : pureOp o.op with
          | false => rfl
          | true => simp [quietOp, hp] at hq
        have hil : i < recs.length := by omega
        -- the boundary is here
        have hci : c ≤ i := by
          rcases Nat.lt_or_ge i c with hlt | hge
          · exact absurd ((hcl i r hr hk).2 hlt) hni
          · exact hge
        have hb : ∀ k rk, recs[k]? = some rk → rk.lg.kind = some true → k < i → lst listed k := by
          intro k rk hrk hkk hlt
          have := (pair_of (hw.pair k i rk r hlt hrk hr)).2.2.2
          unfold okKinds at this
          rw [hkk, hk] at this
          exact hanc k (memN_iff.1 this)
        have hH : hAt recs h i = hAt recs h c := hw.flat hci (by omega) (fun k rk h1' h2' hrk hkk => by
          have := (hcl k rk hrk hkk).1 (hb k rk hrk hkk h2')
          omega)
        have hrh : hAt recs h c = r.h := by rw [← hH]; exact hw.at hr
        have hDo : hD o (rootsD r.env o) r.h = r.h := by unfold Rx.hD; rw [hp, loud_load hq]; rfl
        rw [hDo] at d2 d7
        have hgx : ∀ x ∈ r.ids, (hide (un fas listed) 0 (hAt recs h c))[x]? = r.h[x]? := fun x hx => by rw [hide_at (hfx x hx), hrh]
        have hids : Ids 0 (hide (un fas listed) 0 (hAt recs h c)) r.ids (rootsD r.env o) := okIds_ok (by rw [okIds_congr hgx]; exact d2)
        have hsub : sub (hide (un fas listed) 0 (hAt recs h c)) r.ids = sub r.h r.ids := sub_congr hgx
        have hrs := sub_ok hrel hids
        rw [hsub] at hrs
        have hen := envOk _ hHl hids _ (sub_len r.h r.ids)
        refine ans_ok htb hS hrs (fun x => hen.or x) d7 (fun rv m1 X1 w1 e1 e2 e3 => ?_)
        rw [← hsub] at e3
        obtain ⟨f1, f2, f3⟩ := merge_ok hrel hids e2 e3
        have hnext : hAt recs h (i + 1) = mergeO r.h.length r.ids r.ids r.g' r.h := by
          rw [hw.heap i r hr]
          unfold aft
          rw [hk]
        have hnextH : hide (un fas (listed.setIfInBounds i true)) 0 (hAt recs h (i + 1)) = mergeO (hide (un fas listed) 0 (hAt recs h c)).length r.ids r.ids r.g' (hide (un fas listed) 0 (hAt recs h c)) := by
          rw [hun, hnext, hHl, hide_merge r.ids r.g' r.h hfx (by rw [← hrh]; exact hfb), hrh]
        have hnl : (hAt recs h (i + 1)).length = (mergeO (hide (un fas listed) 0 (hAt recs h c)).length r.ids r.ids r.g' (hide (un fas listed) 0 (hAt recs h c))).length := by
          rw [← hnextH, hide_len]
        refine onward (c' := i + 1) (by omega) (fun k rk hrk hkk => ?_) (by rw [hnextH]; exact f1) (by rw [hnextH]; exact hfr.trans f2) ?_ (fun j id hj hnl' => ?_) ?_
        · rw [lst_set hils]
          constructor
          · rintro (rfl | hl)
            · omega
            · have := (hcl k rk hrk hkk).1 hl
              omega
          · intro hlt
            rcases Nat.lt_or_ge k i with hlt' | hge
            · exact .inr (hb k rk hrk hkk hlt')
            · exact .inl (by omega)
        · exact hs.on (f2.on.at hHl hnl.symm)
        · exact (f2.on.mm id (by rw [hHl]; exact hidl j id hj)).trans (hho' j id hj hnl')
        · rw [d8, hnl]
          refine e1.back (fun j hj => ?_)
          have h9 : r.h.length = (hide (un fas listed) 0 (hAt recs h c)).length := by rw [hHl, hrh]
          rw [h9]
          exact f3 j hj
theorem wp_orders (htb : TbOk P tb) (hS : ∀ key, Snd P tb key (Fn key)) {Q : Exit → Act → World → Prop}
    (hQ : ∀ m X a w, Rel T m X h w → EnvR m X h.length w env a → Fr T m0 X0 hB w0 m X h w → N ≤ a.tmps.size → a.defers = df → Q .normal a w) : ∀ (fuel : Nat) (listed : Array Bool) (a : Act) (w : World), listed.toList.count false = fuel → Inv ops N fas env0 hB recs h m0 X0 w0 df listed a w → wpAny P .any ops Q fuel listed a w := by
  have all : ∀ {listed : Array Bool} {a : Act} {w : World}, Inv ops N fas env0 hB recs h m0 X0 w0 df listed a w → (∀ k, k < ops.size → lst listed k) → Q .normal a w := by
    intro listed a w hi hall
    obtain ⟨c, m, X, hc, hcl, hrel, hfr, hs, _⟩ := hi.ex
    have hnu : un fas listed = fun _ => false := by
      funext x
      refine un_no fun j hj => ?_
      obtain ⟨o, _, _, q1, _⟩ := hfa.at_ j x hj
      exact hall j (Array.getElem?_eq_some_iff.1 q1).1
    rw [hnu, hide_no] at hrel hfr
    have hH : hAt recs h recs.length = hAt recs h c := hw.flat hc (Nat.le_refl _) (fun k rk h1 h2 hrk hkk => by
      have := (hcl k rk hrk hkk).1 (hall k (by omega))
      omega)
    have hh : hAt recs h recs.length = h := by unfold hAt; rw [List.getElem?_eq_none (Nat.le_refl _)]
    rw [← hH, hh] at hrel hfr hs
    refine hQ m X a w hrel (fun t v hl => ?_) hfr hi.tmps hi.defs
    rcases hw.env t v hl with ⟨k, rk, q1, q2, q3, q4⟩ | ⟨q1, v0, q2, q3⟩
    · exact q4 _ _ _ _ _ ((hs t).1 k rk q2 q3 (hall k (by omega)))
    · exact q3 _ _ _ _ _ ((hs t).2 (fun k rk hk hdk _ => q1 k rk (List.getElem?_eq_some_iff.1 hk).1 hk hdk) v0 q2)
  have none_ready : ∀ {listed : Array Bool} {a : Act} {w : World}, Inv ops N fas env0 hB recs h m0 X0 w0 df listed a w → Region.ready .any ops listed = [] → ∀ k, k < ops.size → lst listed k := by
    intro listed a w hi hr k
    induction k using Nat.strongRecOn with
    | _ k ih =>
      intro hk
      cases hb : listed.getD k false with
      | true => exact hb
      | false =>
        exfalso
        have hkl : k < listed.size := by rw [hi.size]; exact hk
        obtain ⟨r, hrk⟩ : ∃ r, recs[k]? = some r := ⟨recs[k], List.getElem?_eq_getElem (by omega)⟩
        obtain ⟨o, ho, h1⟩ := hw.one k r hrk
        have : k ∈ Region.ready .any ops listed := by
          refine mem_ready.2 ⟨?_, o, ho, fun e he hbi => ?_⟩
          · rw [Array.getD_eq_getD_getElem?, Array.getElem?_eq_getElem hkl] at hb ⊢
            simpa using hb
          · have hlt := h1.lt e (by simpa using he) hbi
            exact ih e.on hlt (by omega)
        rw [hr] at this
        cases this
  intro fuel
  induction fuel with
  | zero =>
    intro listed a w hcount hi
    have hall : ∀ k, k < ops.size → lst listed k := by
      intro k hk
      have hkl : k < listed.size := by rw [hi.size]; exact hk
      have h1 := List.count_eq_zero.1 hcount
      unfold lst
      rw [Array.getD_eq_getD_getElem?, Array.getElem?_eq_getElem hkl]
      simp only [Option.getD_some]
      cases hb : listed[k] with
      | true => rfl
      | false => exact absurd (by rw [← hb]; simp) h1
    refine ⟨?_, all hi hall⟩
    cases hr : Region.ready .any ops listed with
    | nil => rfl
    | cons i l =>
      exfalso
      obtain ⟨hnl, o, ho, _⟩ := mem_ready.1 (show i ∈ Region.ready .any ops listed by rw [hr]; exact List.mem_cons_self)
      have hio : i < ops.size := (Array.getElem?_eq_some_iff.1 ho).1
      have hils : i < listed.size := by rw [hi.size]; exact hio
      have := hall i hio
      unfold lst at this
      rw [Array.getD_eq_getD_getElem?, Array.getElem?_eq_getElem hils] at this hnl
      simp at this hnl
      rw [this] at hnl
      cases hnl
  | succ fuel ih =>
    intro listed a w hcount hi
    refine ⟨fun hr => all hi (none_ready hi hr), fun i hir => ?_⟩
    refine Inv.step hw hlen hfa htb hS hi hir (fun a' w' hi' => ih _ a' w' ?_ hi')
    obtain ⟨hnl, o, ho, _⟩ := mem_ready.1 hir
    have hio : i < ops.size := (Array.getElem?_eq_some_iff.1 ho).1
    have hils : i < listed.size := by rw [hi.size]; exact hio
    rw [Array.getD_eq_getD_getElem?, Array.getElem?_eq_getElem hils] at hnl
    simp only [Option.getD_some] at hnl
    rw [Array.toList_setIfInBounds, List.count_set (by simpa using hils)]
    simp only [Array.getElem_toList, hnl, hcount]
    simp
end
end Go.Proofs.Ytfojcadooepgpaa.Rx
