/- A plain evaluator over the translated code: bodies and functions: what they answer is what the machine's calls bring. Under no condition. -/
import Derived.Test.YtfojcadooepgpaaRxK
set_option linter.unusedVariables false
set_option linter.unusedSimpArgs false
namespace Go.Proofs.Ytfojcadooepgpaa.Rx
open Go Go.RowKit

section
variable {T : Tab} {m m' : Nat → Value} {X X' : Nat → Nat → Prop} {n n' : Nat} {w w' : World} {P : Program} {h h' : Hp T}

/-! ### the machine comes to a return -/
def Fin (P : Program) (Q : Act → World → Prop) (todo : List Item) (a : Act) (w : World) : Prop :=
  ∀ (b : Frame) (cs : List Frame), ∃ a' w' todo', Q a' w' ∧ Steps P (lone (b.at a todo) cs w) (lone { b.at a' todo' with mode := .returning } cs w')
theorem Fin.step {Q : Act → World → Prop} {t1 t2 : List Item} {a : Act} (hs : ∀ (b : Frame) (cs : List Frame), Go.step P (lone (b.at a t1) cs w) = .next (lone (b.at a t2) cs w)) (hf : Fin P Q t2 a w) : Fin P Q t1 a w :=
  fun b cs => let ⟨a', w', t', q, s⟩ := hf b cs; ⟨a', w', t', q, .head (hs b cs) s⟩
theorem Fin.code {Q : Act → World → Prop} {k : List Item} {a : Act} {c : Code} (hw : c.wp P (fun e a' w' => e = .normal ∧ Fin P Q k a' w') a w) : Fin P Q (.code c :: k) a w := by
  intro b cs
  obtain ⟨e, a1, w1, ⟨rfl, hf⟩, harr⟩ := hw b k cs
  obtain ⟨a', w', t', q, s⟩ := hf b cs
  exact ⟨a', w', t', q, Steps.trans harr s⟩
def items : List It → List Item
  | [] => []
  | .c c :: k => .code c :: items k
  | .bl id :: k => .inBlock id :: items k
  | .lp b :: k => .inLoop b :: items k
theorem popTo_ok {id : Nat} : ∀ {k k' : List It}, popTo id k = some k' → exitTo id (items k) = some (items k')
  | [], k', h => by cases h
  | .c c :: k, k', h => by simp only [items, exitTo]; exact popTo_ok h
  | .lp b :: k, k', h => by simp only [items, exitTo]; exact popTo_ok h
  | .bl i :: k, k', h => by
    simp only [popTo] at h
    simp only [items, exitTo]
    cases hb : Nat.beq i id with
    | true =>
      rw [hb] at h
      cases h
      have := Nat.eq_of_beq_eq_true hb
      simp [this]
    | false =>
      rw [hb] at h
      have hne : i ≠ id := Nat.ne_of_beq_eq_false hb
      rw [if_neg (by simpa using hne)]
      exact popTo_ok h

/-! ### ends -/
theorem loadVar_of {t : TypeId} {a : Addr} {rv : Value} (hl : (Instr.loadAt t (.pointer (some a))).run P w = .ok rv w) : (loadVar t a).run P w = .ok rv w := by
  simpa [Instr.loadAt, Instr.sureAddr] using hl
def resF (tmps : Array Value) : ResultVar → Sem Value
  | .tmp t => pure (tmps.getD t undef)
  | .cell a t => do loadVar t (← asAddr (tmps.getD a undef))
theorem results_eq (fn : Func) (tmps : Array Value) : results fn tmps = (do let vs ← fn.results.mapM (resF tmps); pure (if h : vs.size = 1 then vs[0] else .tuple vs)) := by
  unfold results
  congr 1
theorem resV_ok (hr : Rel T m X h w) {env : Env T} {a : Act} (he : EnvR m X h.length w env a) : ∀ {rs : List ResultVar} {vs : List (V T)}, resV P env h rs = some vs →
    ∃ us, All2 (VR m X h.length w) vs us ∧ (rs.mapM (resF a.tmps)).run P w = .ok us w
  | [], vs, hv => by cases hv; exact ⟨[], trivial, rfl⟩
  | .tmp t :: r, vs, hv => by
    simp only [resV] at hv
    split at hv
    · rename_i v hl
      split at hv
      · rename_i l hl'
        cases hv
        obtain ⟨us, h1, h2⟩ := resV_ok hr he hl'
        refine ⟨_ :: us, ⟨he t _ hl, h1⟩, ?_⟩
        simp only [List.mapM_cons, resF, Sem.run_bind, Sem.run_pure, Result.andThen_ok, h2]
      · cases hv
    · cases hv
  | .cell p t :: r, vs, hv => by
    simp only [resV] at hv
    split at hv
    · rename_i i off hl
      split at hv
      · rename_i tid ls ho
        rw [nth_eq] at ho
        split at hv
        · rename_i v hp
          split at hv
          · rename_i l hl'
            cases hv
            obtain ⟨us, h1, h2⟩ := resV_ok hr he hl'
            obtain ⟨_, b, hm, hval⟩ := AR_one.1 (he p _ hl)
            obtain ⟨b', vs', hm', hh, ha⟩ := hr.ob i _ ho
            rw [hm] at hm'
            cases hm'
            obtain ⟨rv, q1, q2⟩ := load_part (P := P) (b := b) (o := 0) hp (rangeAt_cells hh) ha
            rw [Nat.zero_add] at q1
            refine ⟨rv :: us, ⟨q2, h1⟩, ?_⟩
            have q3 := loadVar_of q1
            simp only [List.mapM_cons, resF, Sem.run_bind, hval, asAddr, Sem.run_pure, Result.andThen_ok, q3, h2]
          · cases hv
        · cases hv
      · cases hv
    · cases hv
theorem avOut_ok {vs : List (V T)} {us : List Value} (hv : All2 (VR m X n w) vs us) : AR m X n w (avOut vs) (if hs : us.toArray.size = 1 then us.toArray[0] else .tuple us.toArray) := by
  match vs, us, hv with
  | [], [], _ => exact ⟨[], trivial, by simp⟩
  | [v], [u], hv =>
    rw [dif_pos (by simp)]
    exact hv.1
  | v :: v' :: vs, u :: u' :: us, hv =>
    have : ¬ (u :: u' :: us).toArray.size = 1 := by simp
    rw [dif_neg this]
    exact ⟨_, hv, rfl⟩
  | [], _ :: _, hv => exact hv.elim
  | _ :: _, [], hv => exact hv.elim
  | [_], _ :: _ :: _, hv => exact hv.2.elim
  | _ :: _ :: _, [_], hv => exact hv.2.elim
theorem map_new {ids roots : List Nat} {m0 : Nat} (hi : Ids m0 h ids roots) : ∀ {vs : List (V T)} {us : List Value}, All2 (VR m X h.length w) vs us → (∀ v ∈ vs, ∀ l ∈ v.2, ∀ i ∈ refs l, i ∈ ids) → All2 (VR (pickM m ids) X ids.length w) (vs.map (renV (idxN ids))) us
  | [], [], _, _ => trivial
  | v :: vs, u :: us, hv, hro => ⟨hv.1.toNew hi (hro v List.mem_cons_self), map_new hi hv.2 (fun v' hv' => hro v' (List.mem_cons_of_mem _ hv'))⟩
  | [], _ :: _, hv, _ => hv.elim
  | _ :: _, [], hv, _ => hv.elim
theorem forget_len : ∀ (ss : List OS) (h : Hp T), (forget ss h).length = h.length
  | [], h => rfl
  | s :: ss, [] => rfl
  | s :: ss, o :: h => by cases s <;> simp [forget, forget_len ss h]
theorem forget_get : ∀ {ss : List OS} {h : Hp T} {j : Nat} {o : Ob T}, (forget ss h)[j]? = some o → o = .no ∨ h[j]? = some o
  | [], h, j, o, hj => .inr hj
  | s :: ss, [], j, o, hj => by cases hj
  | s :: ss, x :: h, 0, o, hj => by
    cases s <;> simp only [forget, List.getElem?_cons_zero, Option.some.injEq] at hj ⊢
    · exact .inr hj
    · exact .inr hj
    · exact .inr hj
    · exact .inr hj
    · exact .inr hj
    · exact .inl hj.symm
    · exact .inr hj
  | s :: ss, x :: h, j + 1, o, hj => by
    cases s <;> simp only [forget, List.getElem?_cons_succ] at hj ⊢ <;> exact forget_get hj
theorem forget_rel {ss : List OS} (hr : Rel T m X h w) : Rel T m X (forget ss h) w where
  ob := fun i o hi => by
    rw [forget_len]
    rcases forget_get hi with rfl | h2
    · trivial
    · exact hr.ob i o h2
  sep := fun i j o o' hi hj hne hl hl' => by
    rcases forget_get hi with rfl | h2
    · cases hl
    · rcases forget_get hj with rfl | h3
      · cases hl'
      · exact hr.sep i j o o' h2 h3 hne hl hl'
  lt := hr.lt
  pv := fun i o hi hp => by
    rcases forget_get hi with h2 | h2
    · rw [h2] at hp; cases hp
    · exact hr.pv i o h2 hp
  gr := fun i e t xs sh hi => by
    rcases forget_get hi with h2 | h2
    · cases h2
    · exact hr.gr i e t xs sh h2
  po := fun i e t hi => by
    rcases forget_get hi with h2 | h2
    · cases h2
    · exact hr.po i e t h2
theorem forget_fr {ss : List OS} {m0 : Nat → Value} {X0 : Nat → Nat → Prop} {h0 : Hp T} {w0 : World} (hf : Fr T m0 X0 h0 w0 m X h w) : Fr T m0 X0 h0 w0 m X (forget ss h) w where
  on := by rw [forget_len]; exact hf.on
  size := hf.size
  os := hf.os
  tape := hf.tape
  output := hf.output
  old := hf.old
  mine := fun b ⟨i, o, h1, h2, h3⟩ => by
    rcases forget_get h1 with rfl | h4
    · cases h2
    · exact hf.mine b ⟨i, o, h4, h2, h3⟩
  new := hf.new
variable {I : Nat → Ent T} {fn : Func} {fx : Fx} {Φ : St T → Option (HL T.S fx.tout)}
variable {m0 : Nat → Value} {X0 : Nat → Nat → Prop} {h0 : Hp T} {w0 : World}
/-- What holds at a return. -/
def EndQ (P : Program) (fn : Func) (fx : Fx) (y : HL T.S fx.tout) (m0 : Nat → Value) (X0 : Nat → Nat → Prop) (h0 : Hp T) (w0 : World) (a : Act) (w : World) : Prop :=
  a.defers = [] ∧ ∃ rv v g m' X', (results fn a.tmps).run P w = .ok rv w ∧ fx.fin v g = some y ∧ AR m' X' g.length w v rv ∧ Rel T m' X' g w ∧ Fr T m0 X0 h0 w0 m' X' g w
theorem evEnd_ok {y : HL T.S fx.tout} (hl0 : h0.length = fx.hin.length) {env : Env T} (hd : dn I fx.fin Φ (evEnd P fn fx env h) = some y) (hr : Rel T m X h w) {a : Act} (he : EnvR m X h.length w env a) (hf : Fr T m0 X0 h0 w0 m X h w) (ha : a.defers = []) : EndQ P fn fx y m0 X0 h0 w0 a w := by
  unfold evEnd at hd
  split at hd
  · rename_i vs hvs
    split at hd
    · rename_i vs' h1 hco
      simp only at hd
      generalize hmv : moveP fx.hin.length h1 = h9 at hd
      generalize hids : reach (forget (keepS (vs'.flatMap fun v => v.2.flatMap refs) 0 (fx.hout.take fx.hin.length)) h9) 1000 (rng fx.hin.length ++ vs'.flatMap fun v => v.2.flatMap refs) [] = ids at hd
      cases hok : okIds fx.hin.length (forget (keepS (vs'.flatMap fun v => v.2.flatMap refs) 0 (fx.hout.take fx.hin.length)) h9) ids (rng fx.hin.length ++ vs'.flatMap fun v => v.2.flatMap refs) with
      | false => rw [hok] at hd; cases hd
      | true =>
        rw [hok] at hd
        have hi := okIds_ok hok
        obtain ⟨us, q1, q2⟩ := resV_ok hr he hvs
        obtain ⟨m1, X1, r1', r2', r3'⟩ := coVs_ok hr hco q1
        obtain ⟨m2, s1, s2⟩ := moveP_ok r1' fx.hin.length
        rw [hmv] at s1 s2
        have r1 := s1
        have r2 := r2'.imp (fun _ _ h => VR.on s2.on h)
        have r3 := r3'.trans s2
        have hroots : ∀ v ∈ vs', ∀ l ∈ v.2, ∀ i ∈ refs l, i ∈ ids := fun v hv l hl i hm => hi.roots i (List.mem_append_right _ (List.mem_flatMap.2 ⟨v, hv, List.mem_flatMap.2 ⟨l, hl, hm⟩⟩))
        rw [← forget_len (keepS (vs'.flatMap fun v => v.2.flatMap refs) 0 (fx.hout.take fx.hin.length)) h9] at r2
        refine ⟨ha, (if hs : us.toArray.size = 1 then us.toArray[0] else .tuple us.toArray), _, _, _, X1, ?_, hd, ?_, sub_ok (forget_rel r1) hi, ?_⟩
        · rw [results_eq]
          simp only [Array.mapM_eq_mapM_toList, Sem.run_bind, Sem.run_map, q2, Result.andThen_ok, Sem.run_pure]
        · rw [sub_len]
          exact avOut_ok (map_new hi r2 hroots)
        · exact sub_fr (forget_fr (hf.trans r3)) (by rw [hl0]; exact hi)
    · cases hd
  · cases hd
end
end Go.Proofs.Ytfojcadooepgpaa.Rx
