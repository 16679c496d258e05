/- A plain evaluator over the translated code: regions that draw their order: the region's law. Under no condition. -/
import Derived.Test.YtckafnfidjfhjaaRxDe
set_option linter.unusedVariables false
set_option linter.unusedSimpArgs false
set_option linter.unusedSectionVars false
namespace Go.Proofs.Ytckafnfidjfhjaa.Rx
open Go Go.RowKit

section
variable {T : Tab} {P : Program} {tb : List (FuncId × Fx)} {Fn : (key : Nat) → List (DL T) → Option (HL T.S (fxAt tb key).tout)} {N : Nat} {ops : Array Oper} {env0 : Env T} {h0 : Hp T}
variable {recs : List (Rec T)} {env : Env T} {h : Hp T} {m0 : Nat → Value} {X0 : Nat → Nat → Prop} {w0 : World} {df : List Deferred}
/-- What holds as some operations are done. -/
structure Inv (ops : Array Oper) (N : Nat) (env0 : Env T) (h0 : Hp T) (recs : List (Rec T)) (h : Hp T) (m0 : Nat → Value) (X0 : Nat → Nat → Prop) (w0 : World) (df : List Deferred) (listed : Array Bool) (a : Act) (w : World) : Prop where
  size : listed.size = ops.size
  dir : ∀ k o, ops[k]? = some o → lst listed k → ∀ e ∈ o.after.toList, Region.binds .any e = true → lst listed e.on
  ex : ∃ c m X, c ≤ recs.length ∧ (∀ k r, recs[k]? = some r → r.lg.kind = some true → (lst listed k ↔ k < c)) ∧ Rel T m X (hAt recs h c) w ∧ Fr T m0 X0 h0 w0 m X (hAt recs h c) w ∧ Slots recs env0 listed m X (hAt recs h c).length w a
  tmps : N ≤ a.tmps.size
  defs : a.defers = df
variable (hw : WF P tb Fn N ops env0 h0 recs env h) (hlen : recs.length = ops.size)
include hw hlen
theorem Inv.slot {listed : Array Bool} {m : Nat → Value} {X : Nat → Nat → Prop} {n : Nat} {w : World} {a : Act} (hdir : ∀ k o, ops[k]? = some o → lst listed k → ∀ e ∈ o.after.toList, Region.binds .any e = true → lst listed e.on) (hs : Slots recs env0 listed m X n w a)
    {i : Nat} {r : Rec T} {o : Oper} (hr : recs[i]? = some r) (h1 : One P tb Fn N ops env0 recs i o r) (hni : ¬ lst listed i) (hanc : ∀ k ∈ r.lg.anc, lst listed k) {t : Nat} (ht : t ∈ r.lg.reads) {v : AV T} (hl : look r.env t = some v) : AR m X n w v (a.tmps.getD t undef) := by
  rcases h1.env t v hl with ⟨k, rk, q1, q2, q3, q4⟩ | ⟨q1, v0, q2, q3⟩
  · have := hanc k ((pair_of (hw.pair k i rk r q1 q2 hr)).2.1 t q3 ht)
    exact q4 _ _ _ _ _ ((hs t).1 k rk q2 q3 this)
  · refine q3 _ _ _ _ _ ((hs t).2 (fun k rk hk hdk hlk => ?_) v0 q2)
    rcases Nat.lt_trichotomy k i with hlt | heq | hgt
    · exact q1 k rk hlt hk hdk
    · subst heq; exact hni hlk
    · exact hni (hw.down hdir k rk hk hlk i ((pair_of (hw.pair i k r rk hgt hr hk)).2.2.1 t hdk ht))
theorem Inv.step (htb : TbOk P tb) (hS : ∀ key, Snd P tb key (Fn key)) {listed : Array Bool} {a : Act} {w : World} (hi : Inv ops N env0 h0 recs h m0 X0 w0 df listed a w) {i : Nat} (hready : i ∈ Region.ready .any ops listed) {K : Act → World → Prop} {Q : Exit → Act → World → Prop}
    (hK : ∀ a' w', Inv ops N env0 h0 recs h m0 X0 w0 df (listed.setIfInBounds i true) a' w' → K a' w') : wpOp P ops Q i K a w := by
  obtain ⟨hnl, o, ho, hall⟩ := mem_ready.1 hready
  have hio : i < ops.size := (Array.getElem?_eq_some_iff.1 ho).1
  have hils : i < listed.size := by rw [hi.size]; exact hio
  have hni : ¬ lst listed i := by
    unfold lst
    intro hc
    rw [Array.getD_eq_getD_getElem?, Array.getElem?_eq_getElem hils] at hc hnl
    simp at hc hnl
    rw [hc] at hnl
    cases hnl
  obtain ⟨r, hr⟩ : ∃ r, recs[i]? = some r := ⟨recs[i], List.getElem?_eq_getElem (by omega)⟩
  obtain ⟨o', ho', h1⟩ := hw.one i r hr
  rw [ho] at ho'
  cases ho'
  have hafter : ∀ e ∈ o.after.toList, Region.binds .any e = true → lst listed e.on := fun e he hb => hall e (by simpa using he) hb
  have hdown := hw.down hi.dir
  have hanc : ∀ k ∈ r.lg.anc, lst listed k := by
    intro k hk
    obtain ⟨e, e1, e2, e3⟩ := h1.anc k hk
    rcases e3 with rfl | ⟨r2, f1, f2⟩
    · exact hafter e e1 e2
    · exact hdown e.on r2 f1 (hafter e e1 e2) k f2
  obtain ⟨c, m, X, hc, hcl, hrel, hfr, hs⟩ := hi.ex
  have slot : ∀ t ∈ r.lg.reads, ∀ v, look r.env t = some v → AR m X (hAt recs h c).length w v (a.tmps.getD t undef) := fun t ht v hl => Inv.slot hw hlen hi.dir hs hr h1 hni hanc ht hl
  -- the guard
  have guard : ∀ b, Says ops o r.env b → Region.wanted o (yielded ops a.tmps) = b := by
    intro b hb
    unfold Says at hb
    unfold Region.wanted
    cases hg : o.guard with
    | none => rw [hg] at hb; exact hb.symm
    | some gw =>
      obtain ⟨gi, want⟩ := gw
      rw [hg] at hb
      obtain ⟨og, d, v, k1, k2, k3, k4⟩ := hb
      have hdr : d ∈ r.lg.reads := by
        rw [h1.reads]
        refine List.mem_append_left _ ?_
        unfold gslot
        rw [hg]
        have : nth ops.toList gi = some og := by rw [nth_eq, Array.getElem?_toList]; exact k1
        simp only [this, k2]
        exact List.mem_cons_self
      have h2 := k4 _ _ _ _ _ (slot d hdr v k3)
      have h3 : yielded ops a.tmps gi = boolOf (a.tmps.getD d undef) := by
        unfold yielded
        rw [k1, Option.bind_some, k2, Option.bind_some, Array.getD_eq_getD_getElem?]
        cases hx : a.tmps[d]? with
        | none => rfl
        | some u => cases u <;> rfl
      show (yielded ops a.tmps gi == some want) = b
      rw [h3]
      exact h2
  -- onward
  have hdir' : ∀ k o, ops[k]? = some o → lst (listed.setIfInBounds i true) k → ∀ e ∈ o.after.toList, Region.binds .any e = true → lst (listed.setIfInBounds i true) e.on := by
    intro k o2 hk hl e he hb
    rcases (lst_set hils).1 hl with rfl | hl
    · rw [ho] at hk
      cases hk
      exact (lst_set hils).2 (.inr (hafter e he hb))
    · exact (lst_set hils).2 (.inr (hi.dir k o2 hk hl e he hb))
  have onward : ∀ {c' : Nat} {m' X' w' rv}, c' ≤ recs.length → (∀ k rk, recs[k]? = some rk → rk.lg.kind = some true → (lst (listed.setIfInBounds i true) k ↔ k < c')) → Rel T m' X' (hAt recs h c') w' → Fr T m X (hAt recs h c) w m' X' (hAt recs h c') w' → AR m' X' (hAt recs h c').length w' r.v rv → K (a.put o.dst rv) w' := by
    intro c' m' X' w' rv p1 p2 p3 p4 p5
    obtain ⟨k1, k2⟩ := put_size a o.dst rv
    exact hK _ _ ⟨by simpa using hi.size, hdir', ⟨c', m', X', p1, p2, p3, hfr.trans p4, (hs.on p4.on).put hw hr h1.dst h1.okd hils hi.tmps p5⟩, by rw [k1]; exact hi.tmps, k2.trans hi.defs⟩
  have same : r.lg.kind ≠ some true → ∀ k rk, recs[k]? = some rk → rk.lg.kind = some true → (lst (listed.setIfInBounds i true) k ↔ k < c) := by
    intro hk k rk hrk hkk
    rw [lst_set hils]
    constructor
    · rintro (rfl | hl)
      · rw [hr] at hrk; cases hrk; exact absurd hkk hk
      · exact (hcl k rk hrk hkk).1 hl
    · exact fun hl => .inr ((hcl k rk hrk hkk).2 hl)
  have hdone := h1.done
  unfold Done at hdone
  unfold wpOp
  simp only [ho]
  cases hk : r.lg.kind with
  | none =>
    rw [hk] at hdone
    rw [if_neg (by rw [guard false hdone.1]; simp)]
    refine onward hc (same (by rw [hk]; simp)) hrel Fr.refl ?_
    rw [hdone.2]
    exact ⟨[], trivial, rfl⟩
  | some q =>
    rw [hk] at hdone
    obtain ⟨d1, d2, d3, d4, d5, d6, d7, d8⟩ := hdone
    rw [if_pos (guard true d1)]
    refine .inl ?_
    -- its inputs, in any memory that is the same where it looks
    have envOk : ∀ (H : Hp T), H.length = (hAt recs h c).length → Ids 0 H r.ids (rootsD r.env o) → ∀ (n' : Nat), n' = r.ids.length → EnvR (pickM m r.ids) X n' w (inE o r.env r.ids) a := by
      intro H hHl hids n' hn' t v hv
      subst hn'
      obtain ⟨v0, q1, q2, rfl, q4⟩ := look_pick hv
      have hv0 := slot t (by rw [h1.reads]; exact List.mem_append_right _ q2) v0 q1
      rw [← hHl] at hv0
      refine hv0.toNew hids (fun l hl j hj => hids.roots j (List.mem_flatMap.2 ⟨l, ?_, hj⟩))
      exact List.mem_flatMap.2 ⟨(t, v0), q4, hl⟩
    cases hso : softOp ops o r.ids with
    | true =>
      have hnil := soft_nil hso
      rw [hso] at d6 d8
      simp only [cond_true, Bool.true_or, Bool.not_true] at d6 d8
      subst d6
      have hids : Ids 0 (hD o (rootsD r.env o) (hAt recs h c)) r.ids (rootsD r.env o) := okIds_ok (by rw [okIds_congr (h' := hD o (rootsD r.env o) r.h) (fun x hx => by rw [hnil] at hx; cases hx)]; exact d2)
      have hsub : sub (hD o (rootsD r.env o) (hAt recs h c)) r.ids = sub (hD o (rootsD r.env o) r.h) r.ids := sub_congr fun x hx => by rw [hnil] at hx; cases hx
      have hrs := sub_ok (hrel.hD o (rootsD r.env o)) hids
      rw [hsub] at hrs
      have hen := envOk _ (hD_len o _ _) hids _ (sub_len (hD o (rootsD r.env o) r.h) r.ids)
      refine ans_ok htb hS hrs (fun x => hen.or x) d7 (fun rv m1 X1 w1 e1 e2 e3 => ?_)
      obtain ⟨m2, X2, g2, q1, q2, q3⟩ := softV_ok e2 e1 d8
      have e4 := e3.trans q2
      rw [hnil] at e4
      obtain ⟨f1, f2, _⟩ := merge_ok hrel (ids := []) (roots := []) (okIds_ok rfl) q1 e4
      rw [merge_nil] at f1 f2
      exact onward hc (same (by rw [hk]; simp)) (f1.drop hrel.bound) (f2.drop (Nat.le_refl _)) (q3 _ _)
    | false =>
    rw [hso] at d6 d8
    simp only [cond_false, Bool.false_or, Option.some.injEq] at d6 d8
    replace d8 := d8.symm
    cases q with
    | false =>
      have hq : quietOp r.ids o.op = true := by simpa using d6.symm
      have hids0 := okIds_ok d2
      have hag : ∀ x ∈ r.ids, x < (hAt recs h c).length ∧ (hD o (rootsD r.env o) (hAt recs h c))[x]? = (hD o (rootsD r.env o) r.h)[x]? := by
        intro x hx
        obtain ⟨ob, hob, _⟩ := hids0.obs x hx
        have hxl : x < r.h.length := by have := lt_of_get hob; rwa [hD_len] at this
        obtain ⟨g1, g2⟩ := hw.agree hr hk hc hcl hanc hni hdown (x := x) (by rw [d4]; exact hx) hxl
        refine ⟨g1, ?_⟩
        unfold Rx.hD
        cases hp : pureOp o.op with
        | true =>
          simp only [cond_true, maskH, List.getElem?_map, List.getElem?_eq_getElem g1, List.getElem?_eq_getElem hxl, Option.map_some]
        | false =>
          cases hlo : loadOp o.op with
          | false =>
            simp only [cond_false]
            exact g2 (by rw [d3]; unfold lidD; rw [hp, hlo]; exact hx)
          | true =>
            simp only [cond_false, cond_true]
            rw [maskB_get, maskB_get]
            cases hm : memN (rootsD r.env o) (0 + x) with
            | true =>
              have hmem := memN_iff.1 hm
              rw [Nat.zero_add] at hmem
              rw [g2 (by rw [d3]; unfold lidD; rw [hp, hlo]; exact hmem)]
            | false =>
              rw [List.getElem?_eq_getElem g1, List.getElem?_eq_getElem hxl]
              rfl
      have hids : Ids 0 (hD o (rootsD r.env o) (hAt recs h c)) r.ids (rootsD r.env o) := okIds_ok (by rw [okIds_congr (fun x hx => (hag x hx).2)]; exact d2)
      have hsub : sub (hD o (rootsD r.env o) (hAt recs h c)) r.ids = sub (hD o (rootsD r.env o) r.h) r.ids := sub_congr fun x hx => (hag x hx).2
      have hrs := sub_ok (hrel.hD o (rootsD r.env o)) hids
      rw [hsub] at hrs
      have hen := envOk _ (hD_len o _ _) hids _ (sub_len (hD o (rootsD r.env o) r.h) r.ids)
      obtain ⟨hq1, hq2⟩ := quiet_O hq
      obtain ⟨rv, e1, e2⟩ := ans_calm hrs (fun x => hen.or x) d7 hq1 ⟨fun t x lo hi mx he => by rw [hq2.1 t x lo hi mx he]; rfl, fun t x i ok he => by rw [sub_len]; exact hq2.2 t x i ok he⟩
      have hback : AR m X (hAt recs h c).length w r.v rv := by
        rw [d8]
        refine e2.back (fun j hj => ?_)
        rw [sub_len] at hj
        have hg : r.ids[j]? = some r.ids[j] := List.getElem?_eq_getElem hj
        rw [backN_lt hg, pickM_at hg]
        exact ⟨(hag _ (List.getElem_mem hj)).1, rfl⟩
      unfold Oper.wp
      rw [e1]
      exact onward hc (same (by rw [hk]; simp)) hrel Fr.refl hback
    | true =>
      have hq : quietOp r.ids o.op = false := by simpa using d6.symm
      have hp : pureOp o.op = false := by
        cases hp : pureOp o.op with
        | false => rfl
        | true => simp [quietOp, hp] at hq
      have hil : i < recs.length := by omega
      -- the boundary is here
      have hci : c ≤ i := by
        rcases Nat.lt_or_ge i c with hlt | hge
        · exact absurd ((hcl i r hr hk).2 hlt) hni
        · exact hge
      have hb : ∀ k rk, recs[k]? = some rk → rk.lg.kind = some true → k < i → lst listed k := by
        intro k rk hrk hkk hlt
        have := (pair_of (hw.pair k i rk r hlt hrk hr)).2.2.2
        unfold okKinds at this
        rw [hkk, hk] at this
        exact hanc k (memN_iff.1 this)
      have hH : hAt recs h i = hAt recs h c := hw.flat hci (by omega) (fun k rk h1' h2' hrk hkk => by
        have := (hcl k rk hrk hkk).1 (hb k rk hrk hkk h2')
        omega)
      have hrh : hAt recs h c = r.h := by rw [← hH]; exact hw.at hr
      have hDo : hD o (rootsD r.env o) r.h = r.h := by unfold Rx.hD; rw [hp, loud_load hq]; rfl
      rw [hDo] at d2 d7
      have hids := okIds_ok d2
      have hrel' : Rel T m X r.h w := by rw [← hrh]; exact hrel
      have hrs := sub_ok hrel' hids
      have hen := envOk r.h (by rw [hrh]) hids _ (sub_len r.h r.ids)
      refine ans_ok htb hS hrs (fun x => hen.or x) d7 (fun rv m1 X1 w1 e1 e2 e3 => ?_)
      obtain ⟨f1, f2, f3⟩ := merge_ok hrel' hids e2 e3
      have hnext : hAt recs h (i + 1) = mergeO r.h.length r.ids r.ids r.g' r.h := by
        rw [hw.heap i r hr]
        unfold aft
        rw [hk]
      rw [← hnext] at f1 f2 f3
      have f2' : Fr T m X (hAt recs h c) w (joinM m m1 r.h.length r.ids.length) X1 (hAt recs h (i + 1)) w1 := by rw [hrh]; exact f2
      refine onward (c' := i + 1) (by omega) (fun k rk hrk hkk => ?_) f1 f2' ?_
      · rw [lst_set hils]
        constructor
        · rintro (rfl | hl)
          · omega
          · have := (hcl k rk hrk hkk).1 hl
            omega
        · intro hlt
          rcases Nat.lt_or_ge k i with hlt' | hge
          · exact .inr (hb k rk hrk hkk hlt')
          · exact .inl (by omega)
      · rw [d8]
        exact e1.back f3
theorem wp_orders (htb : TbOk P tb) (hS : ∀ key, Snd P tb key (Fn key)) {Q : Exit → Act → World → Prop}
    (hQ : ∀ m X a w, Rel T m X h w → EnvR m X h.length w env a → Fr T m0 X0 h0 w0 m X h w → N ≤ a.tmps.size → a.defers = df → Q .normal a w) : ∀ (fuel : Nat) (listed : Array Bool) (a : Act) (w : World), listed.toList.count false = fuel → Inv ops N env0 h0 recs h m0 X0 w0 df listed a w → wpAny P .any ops Q fuel listed a w := by
  have all : ∀ {listed : Array Bool} {a : Act} {w : World}, Inv ops N env0 h0 recs h m0 X0 w0 df listed a w → (∀ k, k < ops.size → lst listed k) → Q .normal a w := by
    intro listed a w hi hall
    obtain ⟨c, m, X, hc, hcl, hrel, hfr, hs⟩ := hi.ex
    have hH : hAt recs h recs.length = hAt recs h c := hw.flat hc (Nat.le_refl _) (fun k rk h1 h2 hrk hkk => by
      have := (hcl k rk hrk hkk).1 (hall k (by omega))
      omega)
    have hh : hAt recs h recs.length = h := by unfold hAt; rw [List.getElem?_eq_none (Nat.le_refl _)]
    rw [← hH, hh] at hrel hfr hs
    refine hQ m X a w hrel (fun t v hl => ?_) hfr hi.tmps hi.defs
    rcases hw.env t v hl with ⟨k, rk, q1, q2, q3, q4⟩ | ⟨q1, v0, q2, q3⟩
    · exact q4 _ _ _ _ _ ((hs t).1 k rk q2 q3 (hall k (by omega)))
    · exact q3 _ _ _ _ _ ((hs t).2 (fun k rk hk hdk _ => q1 k rk (List.getElem?_eq_some_iff.1 hk).1 hk hdk) v0 q2)
  have none_ready : ∀ {listed : Array Bool} {a : Act} {w : World}, Inv ops N env0 h0 recs h m0 X0 w0 df listed a w → Region.ready .any ops listed = [] → ∀ k, k < ops.size → lst listed k := by
    intro listed a w hi hr k
    induction k using Nat.strongRecOn with
    | _ k ih =>
      intro hk
      cases hb : listed.getD k false with
      | true => exact hb
      | false =>
        exfalso
        have hkl : k < listed.size := by rw [hi.size]; exact hk
        obtain ⟨r, hrk⟩ : ∃ r, recs[k]? = some r := ⟨recs[k], List.getElem?_eq_getElem (by omega)⟩
        obtain ⟨o, ho, h1⟩ := hw.one k r hrk
        have : k ∈ Region.ready .any ops listed := by
          refine mem_ready.2 ⟨?_, o, ho, fun e he hbi => ?_⟩
          · rw [Array.getD_eq_getD_getElem?, Array.getElem?_eq_getElem hkl] at hb ⊢
            simpa using hb
          · have hlt := h1.lt e (by simpa using he) hbi
            exact ih e.on hlt (by omega)
        rw [hr] at this
        cases this
  intro fuel
  induction fuel with
  | zero =>
    intro listed a w hcount hi
    have hall : ∀ k, k < ops.size → lst listed k := by
      intro k hk
      have hkl : k < listed.size := by rw [hi.size]; exact hk
      have h1 := List.count_eq_zero.1 hcount
      unfold lst
      rw [Array.getD_eq_getD_getElem?, Array.getElem?_eq_getElem hkl]
      simp only [Option.getD_some]
      cases hb : listed[k] with
      | true => rfl
      | false => exact absurd (by rw [← hb]; simp) h1
    refine ⟨?_, all hi hall⟩
    cases hr : Region.ready .any ops listed with
    | nil => rfl
    | cons i l =>
      exfalso
      obtain ⟨hnl, o, ho, _⟩ := mem_ready.1 (show i ∈ Region.ready .any ops listed by rw [hr]; exact List.mem_cons_self)
      have hio : i < ops.size := (Array.getElem?_eq_some_iff.1 ho).1
      have hils : i < listed.size := by rw [hi.size]; exact hio
      have := hall i hio
      unfold lst at this
      rw [Array.getD_eq_getD_getElem?, Array.getElem?_eq_getElem hils] at this hnl
      simp at this hnl
      rw [this] at hnl
      cases hnl
  | succ fuel ih =>
    intro listed a w hcount hi
    refine ⟨fun hr => all hi (none_ready hi hr), fun i hir => ?_⟩
    refine Inv.step hw hlen htb hS hi hir (fun a' w' hi' => ih _ a' w' ?_ hi')
    obtain ⟨hnl, o, ho, _⟩ := mem_ready.1 hir
    have hio : i < ops.size := (Array.getElem?_eq_some_iff.1 ho).1
    have hils : i < listed.size := by rw [hi.size]; exact hio
    rw [Array.getD_eq_getD_getElem?, Array.getElem?_eq_getElem hils] at hnl
    simp only [Option.getD_some] at hnl
    rw [Array.toList_setIfInBounds, List.count_set (by simpa using hils)]
    simp only [Array.getElem_toList, hnl, hcount]
    simp
end
end Go.Proofs.Ytckafnfidjfhjaa.Rx
