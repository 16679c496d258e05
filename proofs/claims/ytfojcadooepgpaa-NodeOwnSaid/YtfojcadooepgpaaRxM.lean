/- A plain evaluator over the translated code: cuts, bodies, functions: what they answer is what the machine's calls bring. Under no condition. -/
import Derived.Test.YtfojcadooepgpaaRxDf
set_option linter.unusedVariables false
set_option linter.unusedSimpArgs false
namespace Go.Proofs.Ytfojcadooepgpaa.Rx
open Go Go.RowKit

section
variable {T : Tab} {m m' : Nat → Value} {X X' : Nat → Nat → Prop} {n n' : Nat} {w w' : World} {P : Program} {h h' : Hp T}

/-! ### cuts -/
theorem coEnv_ok {env : Env T} {a : Act} : ∀ {ts : List (Nat × List Sp)} {env' : Env T} {h h' : Hp T} {m : Nat → Value} {X : Nat → Nat → Prop}, Rel T m X h w → EnvR m X h.length w env a → coEnv env ts h = some (env', h') →
    ∃ m' X', Rel T m' X' h' w ∧ (∀ x ∈ env', AR m' X' h'.length w x.2 (a.tmps.getD x.1 undef)) ∧ Fr T m X h w m' X' h' w
  | [], env', h, h', m, X, hr, he, hc => by cases hc; exact ⟨m, X, hr, (fun x hx => by cases hx), Fr.refl⟩
  | t :: ts, env', h, h', m, X, hr, he, hc => by
    simp only [coEnv] at hc
    split at hc
    · rename_i v hv
      split at hc
      · rename_i z hz
        split at hc
        · rename_i z' hz'
          cases hc
          obtain ⟨cs, h1, h2⟩ := he _ _ hv
          obtain ⟨m1, X1, q1, q2, q3⟩ := cos_ok hr hz h1
          obtain ⟨m2, X2, q4, q5, q6⟩ := coEnv_ok q1 (he.on q3.on) hz'
          refine ⟨m2, X2, q4, fun x hx => ?_, q3.trans q6⟩
          rcases List.mem_cons.1 hx with rfl | hx
          · exact ⟨cs, q2.imp (fun _ _ h => h.on q6.on), h2⟩
          · exact q5 x hx
        · cases hc
      · cases hc
    · cases hc
theorem box_retell (hr : Rel T m X h w) {n : Nat} {tid : TypeId} {ls ls' : List (Lf T)} {s : List Sp} {h1 : Hp T} (ho : h[n]? = some (.box tid ls)) (hc : coLs s ls h = some (ls', h1)) {tid' : TypeId} {ls2 : List (Lf T)} (ho1 : h1[n]? = some (.box tid' ls2)) :
    ∃ m' X', Rel T m' X' (setO h1 n (.box tid ls')) w ∧ Fr T m X h w m' X' (setO h1 n (.box tid ls')) w := by
  obtain ⟨b, vs, hm, hh, ha⟩ := hr.ob n _ ho
  obtain ⟨m1, X1, q1, q2, q3⟩ := cos_ok hr hc ha
  have hm1 : m1 n = .pointer (some ⟨b, 0, none⟩) := (q3.on.mm n (lt_of_get ho)).trans hm
  have hkeep : ∀ j o', j ≠ n → (setO h1 n (.box tid ls'))[j]? = some o' → h1[j]? = some o' := fun j o' hne hj => by rwa [setO_other _ _ hne] at hj
  have on : On m1 X1 h1.length w m1 X1 (setO h1 n (.box tid ls')).length w := ⟨by rw [setO_len]; exact Nat.le_refl _, fun _ _ => rfl, fun _ _ h => h, fun _ _ _ => rfl⟩
  refine ⟨m1, X1, q1.upd on (setO_same _ (lt_of_get ho1)) (fun j o' hne hj => .inr ⟨hkeep j o' hne hj, fun _ _ _ => rfl⟩) ⟨b, vs, hm1, hh, q2.imp (fun _ _ h => h.on on)⟩
    (fun _ b' hb j o' hne hj hl => q1.sep n j _ _ ho1 (hkeep j o' hne hj) (Ne.symm hne) rfl hl b' hb) q1.lt (fun _ _ _ _ _ _ _ _ hx => hx) (q1.box n _ _ ho1), q3.trans (Fr.upd (i0 := n) on (Nat.le_refl _) rfl rfl rfl (fun _ _ _ => rfl) (fun j o' hne hj => .inr (hkeep j o' hne hj)) (fun o0 _ _ b' hb => .inl ⟨n, _, ho1, rfl, hb⟩) (fun _ _ hx => .inl hx))⟩
theorem coObs_ok : ∀ {ss : List (List Sp)} {n : Nat} {h h' : Hp T} {m : Nat → Value} {X : Nat → Nat → Prop}, Rel T m X h w → coObs n ss h = some h' → ∃ m' X', Rel T m' X' h' w ∧ Fr T m X h w m' X' h' w
  | [], n, h, h', m, X, hr, hc => by cases hc; exact ⟨m, X, hr, Fr.refl⟩
  | s :: ss, n, h, h', m, X, hr, hc => by
    simp only [coObs] at hc
    split at hc
    · rename_i tid ls ho
      rw [nth_eq] at ho
      split at hc
      · rename_i z hz
        split at hc
        · rename_i tid' ls2 ho1
          rw [nth_eq] at ho1
          obtain ⟨m1, X1, q1, q2⟩ := box_retell hr ho hz ho1
          obtain ⟨m2, X2, q3, q4⟩ := coObs_ok q1 hc
          exact ⟨m2, X2, q3, q2.trans q4⟩
        · cases hc
      · cases hc
    · exact coObs_ok hr hc
    · cases hc; exact ⟨m, X, hr, Fr.refl⟩
variable {m0 : Nat → Value} {X0 : Nat → Nat → Prop} {h0 : Hp T} {w0 : World}
theorem restrict_ok {k : Nat} (hk : h0.length = k) {c : Cut} {env env' : Env T} (hc : restrict k c env h = some (env', h')) (hr : Rel T m X h w) {a : Act} (he : EnvR m X h.length w env a) (hf : Fr T m0 X0 h0 w0 m X h w) :
    ∃ m' X', Rel T m' X' h' w ∧ EnvR m' X' h'.length w env' a ∧ Fr T m0 X0 h0 w0 m' X' h' w := by
  unfold restrict at hc
  split at hc
  · rename_i env1 h1 hco
    simp only at hc
    generalize hmv : moveP k h1 = h9 at hc
    generalize hids : reach h9 1000 (rng k ++ (envL env1).flatMap refs) [] = ids at hc
    cases hok : okIds k h9 ids (rng k ++ (envL env1).flatMap refs) with
    | false => rw [hok] at hc; cases hc
    | true =>
      rw [hok] at hc
      simp only [cond_true] at hc
      have hi := okIds_ok hok
      obtain ⟨m1, X1, q1', q2', q3'⟩ := coEnv_ok hr he hco
      obtain ⟨m9, s1, s2⟩ := moveP_ok q1' k
      rw [hmv] at s1 s2
      have q1 := s1
      have q2 := fun x hx => AR.on s2.on (q2' x hx)
      have q3 := q3'.trans s2
      split at hc
      · rename_i h2 hob
        cases hc
        obtain ⟨m2, X2, r1, r2⟩ := coObs_ok (sub_ok q1 hi) hob
        refine ⟨m2, X2, r1, ?_, (sub_fr (hf.trans q3) (by rw [hk]; exact hi)).trans r2⟩
        have hall : ∀ x ∈ env1.map (fun x => (x.1, renA (idxN ids) x.2)), AR m2 X2 h'.length w x.2 (a.tmps.getD x.1 undef) := by
          intro x hx
          obtain ⟨x', hx', rfl⟩ := List.mem_map.1 hx
          refine (((q2 x' hx').toNew hi (fun l hl i hm => hi.roots i (List.mem_append_right _ (List.mem_flatMap.2 ⟨l, ?_, hm⟩)))).on (by have := r2.on; rwa [sub_len] at this))
          exact List.mem_flatMap.2 ⟨x', hx', hl⟩
        intro t v hv
        have : ∀ {e : Env T}, (∀ x ∈ e, AR m2 X2 h'.length w x.2 (a.tmps.getD x.1 undef)) → ∀ v, look e t = some v → AR m2 X2 h'.length w v (a.tmps.getD t undef) := by
          intro e
          induction e with
          | nil => intro _ v hv; cases hv
          | cons x e ih =>
            intro hx v hv
            simp only [look] at hv
            cases hb : Nat.beq x.1 t with
            | true =>
              rw [hb] at hv
              cases hv
              have := Nat.eq_of_beq_eq_true hb
              rw [← this]
              exact hx x List.mem_cons_self
            | false =>
              rw [hb] at hv
              exact ih (fun y hy => hx y (List.mem_cons_of_mem _ hy)) v hv
        exact this hall v hv
      · cases hc
  · cases hc

/-! ### bodies -/
variable {tb : List (FuncId × Fx)} {Fn : (key : Nat) → List (DL T) → Option (HL T.S (fxAt tb key).tout)} {fn : Func} {fx : Fx} {Φ : St T → Option (HL T.S fx.tout)} {y : HL T.S fx.tout}
/-- From a state on the machine comes to a return. -/
def Goes (P : Program) (fn : Func) (fx : Fx) (y : HL T.S fx.tout) (m0 : Nat → Value) (X0 : Nat → Nat → Prop) (h0 : Hp T) (w0 : World) (todo : List It) (env : Env T) (h : Hp T) : Prop :=
  ∀ m X a w, Rel T m X h w → EnvR m X h.length w env a → Fr T m0 X0 h0 w0 m X h w → fn.ntmps ≤ a.tmps.size → a.defers = [] → Fin P (EndQ P fn fx y m0 X0 h0 w0) (items todo) a w
theorem cut_ok (hl0 : h0.length = fx.hin.length) (hΦ : ∀ s, Φ s = some y → Goes P fn fx y m0 X0 h0 w0 s.todo s.env s.h) {key : Nat} {todo : List It} {env : Env T} {I : Nat → Ent T} (hd : dn I fx.fin Φ (cutTr fx key todo env h) = some y) : Goes P fn fx y m0 X0 h0 w0 todo env h := by
  intro m X a w hr he hf hN ha
  unfold cutTr at hd
  split at hd
  · rename_i c hc
    split at hd
    · rename_i env' h' hre
      obtain ⟨m1, X1, q1, q2, q3⟩ := restrict_ok hl0 hre hr he hf
      exact hΦ _ hd m1 X1 a w q1 q2 q3 hN ha
    · cases hd
  · cases hd
theorem region_ok (htb : TbOk P tb) (hS : ∀ key, Snd P tb key (Fn key)) {id : Nat} {ops : Array Oper} {k : List It} {env : Env T} {K : Env T → Hp T → Tr T} (hd : dn (fun key => (fxAt tb key).ent (Fn key)) fx.fin Φ (evOps P tb fn.ntmps ops ops.toList env h K) = some y)
    (hK : ∀ env' h', dn (fun key => (fxAt tb key).ent (Fn key)) fx.fin Φ (K env' h') = some y → Goes P fn fx y m0 X0 h0 w0 k env' h') : Goes P fn fx y m0 X0 h0 w0 (.c (.region id ops false) :: k) env h := by
  intro m X a w hr he hf hN ha
  refine Fin.code (wp_region_list ?_)
  refine evOps_ok htb hS ops.toList env h m X a w hd hr he hN (fun env' h' m' X' a' w' q1 q2 q3 q4 q5 q6 => ⟨rfl, ?_⟩)
  exact hK env' h' q1 m' X' a' w' q2 q3 (hf.trans q4) q5 (q6.trans ha)
theorem dn_condL {R : Type} {I : Nat → Ent T} {fin : AV T → Hp T → Option R} {Ψ : St T → Option R} {r : R} {n : Nat} {l : Lf T} {a b : Tr T} (hd : dn I fin Ψ (condL l a b) = some r) {v : Value} (hv : LfR m X n w l v) : (v = .bool true ∧ dn I fin Ψ a = some r) ∨ (v = .bool false ∧ dn I fin Ψ b = some r) := by
  unfold condL at hd
  split at hd
  · rename_i p i s
    obtain ⟨c, rfl, hc⟩ := hv
    rcases dn_ite hd with ⟨h1, h2⟩ | ⟨h1, h2⟩
    · simp only [dn] at h2
      obtain ⟨h3, h4⟩ := anyO_some.1 h2
      cases c with
      | true => exact .inl ⟨rfl, h3⟩
      | false => exact .inr ⟨rfl, h4⟩
    · cases c <;> cases s
      · exact absurd (hc rfl) h1
      · exact .inr ⟨rfl, h2⟩
      · exact .inl ⟨rfl, h2⟩
      · exact absurd (hc rfl) h1
  · rcases dn_iteL hd with ⟨h1, h2⟩ | ⟨h1, h2⟩
    · exact .inl ⟨tru_ok h1 hv, h2⟩
    · exact .inr ⟨fls_ok h1 hv, h2⟩
theorem drawn_ok (htb : TbOk P tb) (hS : ∀ key, Snd P tb key (Fn key)) (hm : P.follows .mixedOrders = true) {id : Nat} {ops : Array Oper} {k : List It} {env : Env T} {K : Env T → Hp T → Tr T} (hd : dn (fun key => (fxAt tb key).ent (Fn key)) fx.fin Φ (evD P tb fn.ntmps ops (faOf P ops h.length) ops.toList env (h ++ faH (faOf P ops h.length)) [] K) = some y)
    (hK : ∀ env' h', dn (fun key => (fxAt tb key).ent (Fn key)) fx.fin Φ (K env' h') = some y → Goes P fn fx y m0 X0 h0 w0 k env' h') : Goes P fn fx y m0 X0 h0 w0 (.c (.region id ops true) :: k) env h := by
  intro m X a w hr he hf hN ha
  have hfa := faOf_ok P ops h
  generalize faOf P ops h.length = fas at hfa hd
  generalize h ++ faH fas = hX at hfa hd
  obtain ⟨recs, env', h', hlen, hwf, hd'⟩ := evD_trace (fun i id o h1 h2 => by obtain ⟨o', _, _, q1, q2, _⟩ := hfa.at_ i id h1; rw [h2] at q1; cases q1; exact q2) ops.toList [] env hX (fun j => by simp) WF.start hd
  refine Fin.code (wp_region_any hm ?_)
  have hr' := hr.drawn (w.drawn + 1)
  have he' : EnvR m X h.length { w with drawn := w.drawn + 1 } env a := he.on (On.drawn _)
  have hno : ∀ k, ¬ lst (Array.replicate ops.size false) k := by
    intro k hl
    unfold lst at hl
    rw [Array.getD_eq_getD_getElem?] at hl
    simp only [Array.getElem?_replicate] at hl
    split at hl <;> simp at hl
  let m1 : Nat → Value := fun i => if i < h.length then m i else hole
  have hm1 : ∀ i, i < h.length → m1 i = m i := fun i hi => by simp only [m1]; rw [if_pos hi]
  have hHl : (hide (un fas (Array.replicate ops.size false)) 0 hX).length = hX.length := hide_len _ _ _
  have on1 : On m X h.length { w with drawn := w.drawn + 1 } m1 X hX.length { w with drawn := w.drawn + 1 } := ⟨hfa.len, hm1, fun _ _ hx => hx, fun _ _ _ => rfl⟩
  have low : ∀ {i : Nat} {o : Ob T}, (hide (un fas (Array.replicate ops.size false)) 0 hX)[i]? = some o → (i < h.length ∧ h[i]? = some o) ∨ o = .no := by
    intro i o ho
    rcases Nat.lt_or_ge i h.length with hl | hl
    · left
      rw [hide_at (un_no fun j hj => ?_)] at ho
      · exact ⟨hl, by rw [← hfa.low i hl]; exact ho⟩
      · obtain ⟨_, _, _, _, _, _, _, _, q⟩ := hfa.at_ j i hj
        omega
    · right
      have hlX := lt_of_get ho
      rw [hHl] at hlX
      obtain ⟨j, hj⟩ := hfa.all i hl hlX
      rw [hide_get, Nat.zero_add, un_iff.2 ⟨j, hj, hno j⟩] at ho
      rw [List.getElem?_eq_getElem hlX] at ho
      simpa using ho.symm
  have hrel1 : Rel T m1 X (hide (un fas (Array.replicate ops.size false)) 0 hX) { w with drawn := w.drawn + 1 } := by
    refine ⟨?_, ?_, hr'.lt, ?_, ?_, ?_⟩
    · intro i o ho
      rw [hHl]
      rcases low ho with ⟨hl, h2⟩ | rfl
      · exact (hr'.ob i o h2).keep on1 hl (fun _ _ => rfl)
      · trivial
    · intro i j o o' ho ho' hne hl hl' b hb1 hb2
      rcases low ho with ⟨hli, h2⟩ | rfl
      · rcases low ho' with ⟨hlj, h3⟩ | rfl
        · rw [hm1 i hli] at hb1
          rw [hm1 j hlj] at hb2
          exact hr'.sep i j o o' h2 h3 hne hl hl' b hb1 hb2
        · cases hl'
      · cases hl
    · intro i o ho hp b hb1
      rcases low ho with ⟨hli, h2⟩ | h2
      · rw [hm1 i hli] at hb1; exact hr'.pv i o h2 hp b hb1
      · rw [h2] at hp; cases hp
    · intro i e t xs sh ho b hb1
      rcases low ho with ⟨hli, h2⟩ | h2
      · rw [hm1 i hli] at hb1; exact hr'.gr i e t xs sh h2 b hb1
      · cases h2
    · intro i e t ho hs hs1
      rcases low ho with ⟨hli, h2⟩ | h2
      · rw [hm1 i hli] at hs1; exact hr'.po i e t h2 hs hs1
      · cases h2
  have hfr1 : Fr T m X h { w with drawn := w.drawn + 1 } m1 X (hide (un fas (Array.replicate ops.size false)) 0 hX) { w with drawn := w.drawn + 1 } := by
    refine ⟨by rw [hHl]; exact on1, Nat.le_refl _, rfl, rfl, rfl, fun _ _ _ => rfl, ?_, fun _ _ hx => .inl hx⟩
    rintro b ⟨i, o, q1, q2, q3⟩
    rcases low q1 with ⟨hli, h2⟩ | rfl
    · rw [hm1 i hli] at q3
      exact .inl ⟨i, o, h2, q2, q3⟩
    · cases q2
  have hinv : Inv ops fn.ntmps fas env h recs h' m X { w with drawn := w.drawn + 1 } [] (Array.replicate ops.size false) a { w with drawn := w.drawn + 1 } := by
    refine ⟨by simp, fun k o hk hl => absurd hl (hno k), ⟨0, m1, X, Nat.zero_le _, fun k r _ _ => ⟨fun hl => absurd hl (hno k), fun hl => by omega⟩, ?_, ?_, ?_, ?_⟩, hN, ha⟩
    · rw [hwf.zero]; exact hrel1
    · rw [hwf.zero]; exact hfr1
    · intro t
      rw [hwf.zero]
      exact ⟨fun k r _ _ hl => absurd hl (hno k), fun _ v hv => (he' t v hv).on on1⟩
    · intro j id hj _
      obtain ⟨_, _, _, _, _, _, _, _, q⟩ := hfa.at_ j id hj
      simp only [m1]
      rw [if_neg (by omega)]
  refine wp_orders hwf (by simpa using hlen) hfa htb hS ?_ ops.size _ a _ (by simp) hinv
  intro m' X' a' w' q1 q2 q3 q4 q5
  exact ⟨rfl, hK env' h' hd' m' X' a' w' q1 q2 ((hf.trans (Fr.drawn _)).trans q3) q4 q5⟩
theorem preD_ok {a : Act} : ∀ (ts : List Nat) {env : Env T} {h : Hp T} {m : Nat → Value} {X : Nat → Nat → Prop}, Rel T m X h w → EnvR m X h.length w env a →
    ∃ m' X', Rel T m' X' (preD env h ts).2 w ∧ EnvR m' X' (preD env h ts).2.length w (preD env h ts).1 a ∧ Fr T m X h w m' X' (preD env h ts).2 w
  | [], env, h, m, X, hr, he => ⟨m, X, hr, he, Fr.refl⟩
  | t :: r, env, h, m, X, hr, he => by
    simp only [preD]
    split
    · rename_i i hl
      split
      · rename_i e ty _ _ ho
        split
        · rename_i z hz
          obtain ⟨m1, X1, q1, q2, q3⟩ := co_ok hr hz (AR_one.1 (he t _ hl))
          have he1 : EnvR m1 X1 z.2.length w ((t, one z.1) :: env) a := by
            intro t' v hv
            simp only [look] at hv
            cases hb : Nat.beq t t' with
            | true =>
              rw [hb] at hv
              cases hv
              have := Nat.eq_of_beq_eq_true hb
              subst this
              exact AR_one.2 q2
            | false =>
              rw [hb] at hv
              exact (he t' v hv).on q3.on
          obtain ⟨m2, X2, p1, p2, p3⟩ := preD_ok r q1 he1
          exact ⟨m2, X2, p1, p2, q3.trans p3⟩
        · exact preD_ok r hr he
      · exact preD_ok r hr he
    · exact preD_ok r hr he
theorem drawT_ok (htb : TbOk P tb) (hS : ∀ key, Snd P tb key (Fn key)) {id : Nat} {ops : Array Oper} {k : List It} {env : Env T} {K : Env T → Hp T → Tr T} (hd : dn (fun key => (fxAt tb key).ent (Fn key)) fx.fin Φ (drawT P tb fn.ntmps fx ops env h K) = some y)
    (hK : ∀ env' h', dn (fun key => (fxAt tb key).ent (Fn key)) fx.fin Φ (K env' h') = some y → Goes P fn fx y m0 X0 h0 w0 k env' h') : Goes P fn fx y m0 X0 h0 w0 (.c (.region id ops true) :: k) env h := by
  unfold drawT at hd
  cases hm : P.follows .mixedOrders with
  | false => rw [hm] at hd; cases hd
  | true =>
    rw [hm] at hd
    intro m X a w hr he hf hN ha
    obtain ⟨m1, X1, q1, q2, q3⟩ := preD_ok (preK fx ops) hr he
    exact drawn_ok htb hS hm hd hK m1 X1 a w q1 q2 (hf.trans q3) hN ha
theorem evT_ok (htb : TbOk P tb) (hS : ∀ key, Snd P tb key (Fn key)) (hl0 : h0.length = fx.hin.length) (hΦ : ∀ s, Φ s = some y → Goes P fn fx y m0 X0 h0 w0 s.todo s.env s.h) : ∀ (n : Nat) (todo : List It) (env : Env T) (h : Hp T),
    dn (fun key => (fxAt tb key).ent (Fn key)) fx.fin Φ (evT P tb fn fx n todo env h) = some y → Goes P fn fx y m0 X0 h0 w0 todo env h
  | 0, todo, env, h, hd => by cases hd
  | n + 1, [], env, h, hd => by
    intro m X a w hr he hf hN ha b cs
    exact ⟨a, w, [], evEnd_ok hl0 hd hr he hf ha, .one step_end⟩
  | n + 1, .bl id :: k, env, h, hd => by
    intro m X a w hr he hf hN ha
    exact Fin.step (fun b cs => step_inBlock) (evT_ok htb hS hl0 hΦ n k env h hd m X a w hr he hf hN ha)
  | n + 1, .lp c :: k, env, h, hd => by
    intro m X a w hr he hf hN ha
    exact Fin.step (fun b cs => step_inLoop) (cut_ok hl0 hΦ hd m X a w hr he hf hN ha)
  | n + 1, .c c :: k, env, h, hd => by
    intro m X a w hr he hf hN ha
    cases c with
    | skip => exact Fin.step (fun b cs => step_skip) (evT_ok htb hS hl0 hΦ n k env h hd m X a w hr he hf hN ha)
    | seq x z => exact Fin.step (fun b cs => step_seq) (evT_ok htb hS hl0 hΦ n (.c x :: .c z :: k) env h hd m X a w hr he hf hN ha)
    | cond x t e =>
      simp only [evT] at hd
      split at hd
      · rename_i l hl
        have hv := or1 (he.or x) hl
        rcases dn_condL hd hv with ⟨h1, h2⟩ | ⟨h1, h2⟩
        · exact Fin.step (fun b cs => step_cond h1) (evT_ok htb hS hl0 hΦ n (.c t :: k) env h h2 m X a w hr he hf hN ha)
        · exact Fin.step (fun b cs => step_cond h1) (evT_ok htb hS hl0 hΦ n (.c e :: k) env h h2 m X a w hr he hf hN ha)
      · cases hd
    | block id z => exact Fin.step (fun b cs => step_block) (evT_ok htb hS hl0 hΦ n (.c z :: .bl id :: k) env h hd m X a w hr he hf hN ha)
    | loop z => exact Fin.step (fun b cs => step_loop) (cut_ok hl0 hΦ hd m X a w hr he hf hN ha)
    | exit id =>
      simp only [evT] at hd
      split at hd
      · rename_i k' hk
        exact Fin.step (fun b cs => step_exit (popTo_ok hk)) (evT_ok htb hS hl0 hΦ n k' env h hd m X a w hr he hf hN ha)
      · cases hd
    | ret =>
      intro b cs
      exact ⟨a, w, _, evEnd_ok hl0 hd hr he hf ha, .one step_ret⟩
    | region id ops draw =>
      simp only [evT] at hd
      split at hd
      · exact cut_ok hl0 hΦ hd m X a w hr he hf hN ha
      · cases draw with
        | true =>
          exact drawT_ok htb hS hd (fun env' h' hd' => evT_ok htb hS hl0 hΦ n k env' h' hd') m X a w hr he hf hN ha
        | false => exact region_ok htb hS hd (fun env' h' hd' => evT_ok htb hS hl0 hΦ n k env' h' hd') m X a w hr he hf hN ha
    | rangeFunc _ _ _ _ => cases hd
    | scope _ => cases hd
    | label _ => cases hd
    | goto _ => cases hd
    | refuse _ => cases hd
theorem ev_ok (htb : TbOk P tb) (hS : ∀ key, Snd P tb key (Fn key)) (hl0 : h0.length = fx.hin.length) (hΦ : ∀ s, Φ s = some y → Goes P fn fx y m0 X0 h0 w0 s.todo s.env s.h) (s : St T)
    (hd : dn (fun key => (fxAt tb key).ent (Fn key)) fx.fin Φ (ev P tb fn fx s) = some y) : Goes P fn fx y m0 X0 h0 w0 s.todo s.env s.h := by
  obtain ⟨todo, env, h⟩ := s
  simp only [ev] at hd
  split at hd
  · rename_i id ops draw k
    cases draw with
    | true =>
      exact drawT_ok htb hS hd (fun env' h' hd' => evT_ok htb hS hl0 hΦ 10000 k env' h' hd')
    | false => exact region_ok htb hS hd (fun env' h' hd' => evT_ok htb hS hl0 hΦ 10000 k env' h' hd')
  · exact evT_ok htb hS hl0 hΦ 10000 _ env h hd
theorem go_ok (htb : TbOk P tb) (hS : ∀ key, Snd P tb key (Fn key)) (hl0 : h0.length = fx.hin.length) : ∀ (k : Nat) (s : St T), go P tb (fun key => (fxAt tb key).ent (Fn key)) fx.fin fn fx k s = some y → Goes P fn fx y m0 X0 h0 w0 s.todo s.env s.h
  | 0, s, hd => by cases hd
  | k + 1, s, hd => ev_ok htb hS hl0 (fun s' hs' => go_ok htb hS hl0 k s' hs') s hd
theorem fillO_len : ∀ {s : List OS} {xs ys : List (DL T)} {g : Hp T}, fillO s xs = some (g, ys) → g.length = s.length
  | [], xs, ys, g, hf => by cases hf; rfl
  | .box tid s :: ss, xs, ys, g, hf => by
    simp only [fillO] at hf
    split at hf
    · split at hf
      · rename_i z' hz'
        cases hf
        simp only [List.length_cons, fillO_len hz']
      · cases hf
    · cases hf
  | .gr e t sh :: ss, [], ys, g, hf => by simp [fillO] at hf
  | .gr e t sh :: ss, x :: xs, ys, g, hf => by
    simp only [fillO] at hf
    split at hf
    · split at hf
      · rename_i z' hz'
        cases hf
        simp only [List.length_cons, fillO_len hz']
      · cases hf
    · cases hf
  | .mp mt k v po :: ss, [], ys, g, hf => by simp [fillO] at hf
  | .mp mt k v po :: ss, x :: xs, ys, g, hf => by
    simp only [fillO] at hf
    split at hf
    · split at hf
      · rename_i z' hz'
        cases hf
        simp only [List.length_cons, fillO_len hz']
      · cases hf
    · cases hf
  | .it i :: ss, [], ys, g, hf => by simp [fillO] at hf
  | .it i :: ss, x :: xs, ys, g, hf => by
    simp only [fillO] at hf
    split at hf
    · split at hf
      · rename_i z' hz'
        cases hf
        simp only [List.length_cons, fillO_len hz']
      · cases hf
    · cases hf
  | .po e t :: ss, xs, ys, g, hf => by
    simp only [fillO] at hf
    split at hf
    · rename_i z' hz'
      cases hf
      simp only [List.length_cons, fillO_len hz']
    · cases hf
  | .no :: ss, xs, ys, g, hf => by
    simp only [fillO] at hf
    split at hf
    · rename_i z' hz'
      cases hf
      simp only [List.length_cons, fillO_len hz']
    · cases hf
  | .dg e t fx :: ss, [], ys, g, hf => by simp [fillO] at hf
  | .dg e t fx :: ss, x :: xs, ys, g, hf => by
    simp only [fillO] at hf
    split at hf
    · split at hf
      · rename_i z' hz'
        cases hf
        simp only [List.length_cons, fillO_len hz']
      · cases hf
    · cases hf
theorem flatO_len {s : List OS} {g : Hp T} {xs : List (DL T)} (hf : flatO s g = some xs) : g.length = s.length := fillO_len (flatO_fill hf [])
end
end Go.Proofs.Ytfojcadooepgpaa.Rx
