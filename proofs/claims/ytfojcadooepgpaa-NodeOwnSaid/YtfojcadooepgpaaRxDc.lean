/- A plain evaluator over the translated code: regions that draw their order: the text's order, told step by step. Under no condition. -/
import Derived.Test.YtfojcadooepgpaaRxDb
set_option linter.unusedVariables false
set_option linter.unusedSimpArgs false
namespace Go.Proofs.Ytfojcadooepgpaa.Rx
open Go Go.RowKit

section
variable {T : Tab} {m m' : Nat → Value} {X X' : Nat → Nat → Prop} {n n' : Nat} {w w' : World} {P : Program}
variable {tb : List (FuncId × Fx)} {Fn : (key : Nat) → List (DL T) → Option (HL T.S (fxAt tb key).tout)}
/-- What is known of an operation in the text's order. -/
structure Rec (T : Tab) where
  lg : Lg
  env : Env T
  h : Hp T
  ids : List Nat
  v' : AV T
  g' : Hp T
  v : AV T
def aft (r : Rec T) : Hp T := match r.lg.kind with | some true => mergeO r.h.length r.ids r.ids r.g' r.h | _ => r.h
def hAt (recs : List (Rec T)) (h : Hp T) (i : Nat) : Hp T := match recs[i]? with | some r => r.h | none => h
/-- What stands for a value stands for the other. -/
def Stands (v v2 : AV T) : Prop := ∀ m X n w u, AR m X n w v u → AR m X n w v2 u
theorem Stands.refl (v : AV T) : Stands v v := fun _ _ _ _ _ h => h
theorem Stands.trans {a b c : AV T} (h : Stands a b) (k : Stands b c) : Stands a c := fun _ _ _ _ _ q => k _ _ _ _ _ (h _ _ _ _ _ q)
def EnvC (recs : List (Rec T)) (env0 : Env T) (i : Nat) (env : Env T) : Prop :=
  ∀ t v2, look env t = some v2 → (∃ k r, k < i ∧ recs[k]? = some r ∧ r.lg.dst = some t ∧ Stands r.v v2) ∨ ((∀ k r, k < i → recs[k]? = some r → r.lg.dst ≠ some t) ∧ ∃ v0, look env0 t = some v0 ∧ Stands v0 v2)
def boolOf : Value → Option Bool | .bool b => some b | _ => none
/-- The guard says so. -/
def Says (ops : Array Oper) (o : Oper) (env : Env T) (b : Bool) : Prop :=
  match o.guard with
  | none => b = true
  | some (gi, want) => ∃ og d v, ops[gi]? = some og ∧ og.dst = some d ∧ look env d = some v ∧ ∀ m X n w u, AR m X n w v u → (boolOf u == some want) = b
def Done (P : Program) (tb : List (FuncId × Fx)) (Fn : (key : Nat) → List (DL T) → Option (HL T.S (fxAt tb key).tout)) (ops : Array Oper) (o : Oper) (r : Rec T) : Prop :=
  match r.lg.kind with
  | none => Says ops o r.env false ∧ r.v = .t []
  | some b => Says ops o r.env true ∧ okIds 0 (hD o (rootsD r.env o) r.h) r.ids (rootsD r.env o) = true ∧ r.lg.ids = lidD o (rootsD r.env o) r.ids ∧ r.lg.all = r.ids ∧ r.lg.len = r.h.length ∧ b = !(softOp ops o r.ids || quietOp r.ids o.op) ∧
      ans P tb Fn o (inE o r.env r.ids) (sub (hD o (rootsD r.env o) r.h) r.ids) = some (r.v', r.g') ∧ (bif softOp ops o r.ids then softV r.v' r.g' else some (renA (backN r.h.length r.ids) r.v')) = some r.v
/-- An alloc that was numbered ahead, or any other. -/
def DoneF (P : Program) (tb : List (FuncId × Fx)) (Fn : (key : Nat) → List (DL T) → Option (HL T.S (fxAt tb key).tout)) (ops : Array Oper) (fas : List (Option (Ob T) × Nat)) (i : Nat) (o : Oper) (r : Rec T) : Prop :=
  match faAt fas i with
  | some id => o.guard = none ∧ r.lg.kind = some false ∧ r.lg.ids = [] ∧ r.lg.all = [] ∧ r.v = one (.p id 0)
  | none => Done P tb Fn ops o r ∧ (r.lg.kind = none ∨ faOk r.ids r.lg.anc 0 fas = true)
theorem DoneF.done {fas : List (Option (Ob T) × Nat)} {i : Nat} {o : Oper} {r : Rec T} {ops : Array Oper} (h : DoneF P tb Fn ops fas i o r) (hk : r.lg.kind ≠ some false) : Done P tb Fn ops o r := by
  unfold DoneF at h
  split at h
  · exact absurd h.2.1 hk
  · exact h.1
structure One (P : Program) (tb : List (FuncId × Fx)) (Fn : (key : Nat) → List (DL T) → Option (HL T.S (fxAt tb key).tout)) (N : Nat) (ops : Array Oper) (fas : List (Option (Ob T) × Nat)) (env0 : Env T) (recs : List (Rec T)) (i : Nat) (o : Oper) (r : Rec T) : Prop where
  dst : r.lg.dst = o.dst
  okd : okDst N o.dst = true
  reads : r.lg.reads = readsOf ops o
  lt : ∀ e ∈ o.after.toList, Region.binds .any e = true → e.on < i
  anc : ∀ k ∈ r.lg.anc, ∃ e ∈ o.after.toList, Region.binds .any e = true ∧ (k = e.on ∨ ∃ r2, recs[e.on]? = some r2 ∧ k ∈ r2.lg.anc)
  env : EnvC recs env0 i r.env
  done : DoneF P tb Fn ops fas i o r
structure WF (P : Program) (tb : List (FuncId × Fx)) (Fn : (key : Nat) → List (DL T) → Option (HL T.S (fxAt tb key).tout)) (N : Nat) (ops : Array Oper) (fas : List (Option (Ob T) × Nat)) (env0 : Env T) (h0 : Hp T) (recs : List (Rec T)) (env : Env T) (h : Hp T) : Prop where
  one : ∀ i r, recs[i]? = some r → ∃ o, ops[i]? = some o ∧ One P tb Fn N ops fas env0 recs i o r
  heap : ∀ i r, recs[i]? = some r → hAt recs h (i + 1) = aft r
  zero : hAt recs h 0 = h0
  env : EnvC recs env0 recs.length env
  pair : ∀ i k ri rk, i < k → recs[i]? = some ri → recs[k]? = some rk → okPair i ri.lg rk.lg = true
theorem get_app {α : Type} {l : List α} {x : α} {i : Nat} {a : α} (h : l[i]? = some a) : (l ++ [x])[i]? = some a := by
  rw [List.getElem?_append_left (List.getElem?_eq_some_iff.1 h).1]; exact h
theorem get_last {α : Type} {l : List α} {x a : α} {i : Nat} (h : (l ++ [x])[i]? = some a) : (i < l.length ∧ l[i]? = some a) ∨ (i = l.length ∧ a = x) := by
  rcases Nat.lt_or_ge i l.length with hi | hi
  · rw [List.getElem?_append_left hi] at h; exact .inl ⟨hi, h⟩
  · rw [List.getElem?_append_right hi] at h
    have : i - l.length < 1 := (List.getElem?_eq_some_iff.1 h).1
    have e : i = l.length := by omega
    subst e
    simp at h
    exact .inr ⟨rfl, h.symm⟩
theorem EnvC.app {recs : List (Rec T)} {env0 env : Env T} {i : Nat} (hi : i ≤ recs.length) (h : EnvC recs env0 i env) (r : Rec T) : EnvC (recs ++ [r]) env0 i env := by
  intro t v2 hl
  rcases h t v2 hl with ⟨k, r', h1, h2, h3⟩ | ⟨h1, h2⟩
  · exact .inl ⟨k, r', h1, get_app h2, h3⟩
  · refine .inr ⟨fun k r' hk hr => ?_, h2⟩
    rcases get_last hr with ⟨_, hr⟩ | ⟨rfl, _⟩
    · exact h1 k r' hk hr
    · omega
theorem mem_addN : ∀ {l acc : List Nat} {k : Nat}, k ∈ addN l acc → k ∈ l ∨ k ∈ acc
  | [], acc, k, h => .inr h
  | x :: r, acc, k, h => by
    simp only [addN] at h
    cases hb : memN acc x with
    | true =>
      rw [hb] at h
      rcases mem_addN h with h | h
      · exact .inl (List.mem_cons_of_mem _ h)
      · exact .inr h
    | false =>
      rw [hb] at h
      rcases mem_addN h with h | h
      · exact .inl (List.mem_cons_of_mem _ h)
      · rcases List.mem_cons.1 h with rfl | h
        · exact .inl List.mem_cons_self
        · exact .inr h
theorem mem_anc {lg : List Lg} : ∀ {es : List Edge} {acc : List Nat} {k : Nat}, k ∈ ancOf lg es acc → k ∈ acc ∨ ∃ e ∈ es, Region.binds .any e = true ∧ (k = e.on ∨ k ∈ ancA lg e.on)
  | [], acc, k, h => .inl h
  | e :: r, acc, k, h => by
    simp only [ancOf] at h
    cases hb : Region.binds .any e with
    | false =>
      rw [hb] at h
      rcases mem_anc h with h | ⟨e', h1, h2⟩
      · exact .inl h
      · exact .inr ⟨e', List.mem_cons_of_mem _ h1, h2⟩
    | true =>
      rw [hb] at h
      rcases mem_anc h with h | ⟨e', h1, h2⟩
      · rcases mem_addN h with h | h
        · rcases List.mem_cons.1 h with rfl | h
          · exact .inr ⟨e, List.mem_cons_self, hb, .inl rfl⟩
          · exact .inr ⟨e, List.mem_cons_self, hb, .inr h⟩
        · exact .inl h
      · exact .inr ⟨e', List.mem_cons_of_mem _ h1, h2⟩
theorem edges_lt {j : Nat} : ∀ {es : List Edge}, edgesLt j es = true → ∀ e ∈ es, Region.binds .any e = true → e.on < j
  | [], _, e, he, _ => by cases he
  | e' :: r, h, e, he, hb => by
    simp only [edgesLt, Bool.and_eq_true] at h
    rcases List.mem_cons.1 he with rfl | he
    · have := h.1
      rw [hb] at this
      exact Nat.lt_of_lt_of_le (Nat.lt_succ_self _) (Nat.le_of_ble_eq_true (show Nat.ble (e.on + 1) j = true by simpa [Nat.blt] using this))
    · exact edges_lt h.2 e he hb
theorem pairs_get {y : Lg} : ∀ {l : List Lg} {i0 : Nat}, okPairs y i0 l = true → ∀ i x, l[i]? = some x → okPair (i0 + i) x y = true
  | [], i0, _, i, x, h => by simp at h
  | a :: l, i0, ho, i, x, h => by
    simp only [okPairs, Bool.and_eq_true] at ho
    cases i with
    | zero => simp at h; subst h; exact ho.1
    | succ i =>
      have := pairs_get ho.2 i x (by simpa using h)
      rw [show i0 + 1 + i = i0 + (i + 1) by omega] at this
      exact this
variable {N : Nat} {ops : Array Oper} {fas : List (Option (Ob T) × Nat)} {env0 : Env T} {h0 : Hp T}
/-- One more. -/
theorem WF.snoc {recs : List (Rec T)} {env env1 : Env T} {h : Hp T} (hw : WF P tb Fn N ops fas env0 h0 recs env h) {o : Oper} (ho : ops[recs.length]? = some o) (hd : okDst N o.dst = true) (he : edgesLt recs.length o.after.toList = true) {r : Rec T} (hrh : r.h = h) (hre : r.env = env1)
    (h1 : r.lg.dst = o.dst) (h2 : r.lg.reads = readsOf ops o) (h3 : r.lg.anc = ancOf (recs.map (·.lg)) o.after.toList []) (henv : EnvC recs env0 recs.length env1) (hdone : DoneF P tb Fn ops fas recs.length o r) (hp : okPairs r.lg 0 (recs.map (·.lg)) = true) :
    WF P tb Fn N ops fas env0 h0 (recs ++ [r]) (put env1 o.dst r.v) (aft r) where
  one := by
    intro i r' hr'
    rcases get_last hr' with ⟨hi, hr'⟩ | ⟨rfl, rfl⟩
    · obtain ⟨o', q1, q2⟩ := hw.one i r' hr'
      refine ⟨o', q1, ⟨q2.dst, q2.okd, q2.reads, q2.lt, fun k hk => ?_, q2.env.app (by omega) r, q2.done⟩⟩
      obtain ⟨e, e1, e2, e3⟩ := q2.anc k hk
      refine ⟨e, e1, e2, e3.imp id ?_⟩
      rintro ⟨r2, f1, f2⟩
      exact ⟨r2, get_app f1, f2⟩
    · refine ⟨o, ho, ⟨h1, hd, h2, edges_lt he, fun k hk => ?_, by rw [hre]; exact henv.app (Nat.le_refl _) _, hdone⟩⟩
      rw [h3] at hk
      rcases mem_anc hk with hk | ⟨e, e1, e2, e3⟩
      · cases hk
      · refine ⟨e, e1, e2, e3.imp id (fun e4 => ?_)⟩
        unfold ancA at e4
        rw [nth_eq, List.getElem?_map] at e4
        cases hg : recs[e.on]? with
        | none => rw [hg] at e4; cases e4
        | some r2 =>
          rw [hg] at e4
          exact ⟨r2, get_app hg, e4⟩
  heap := by
    intro i r' hr'
    rcases get_last hr' with ⟨hi, hr'⟩ | ⟨rfl, rfl⟩
    · have := hw.heap i r' hr'
      unfold hAt at this ⊢
      rcases Nat.lt_or_ge (i + 1) recs.length with hlt | hge
      · rw [List.getElem?_append_left hlt]
        rw [List.getElem?_eq_getElem hlt] at this ⊢
        exact this
      · have e1 : i + 1 = recs.length := by omega
        rw [e1] at this ⊢
        rw [List.getElem?_eq_none (Nat.le_refl _)] at this
        simp only [List.getElem?_append_right (Nat.le_refl _), Nat.sub_self, List.getElem?_cons_zero]
        rw [hrh]
        exact this
    · unfold hAt
      rw [List.getElem?_eq_none (by simp)]
  zero := by
    have := hw.zero
    unfold hAt at this ⊢
    cases hl : recs with
    | nil =>
      rw [hl] at this
      simp at this ⊢
      rw [hrh]
      exact this
    | cons a l =>
      rw [hl] at this
      simpa using this
  env := by
    intro t v2 hl
    cases hdst : o.dst with
    | none =>
      rw [hdst] at hl
      rcases henv.app (Nat.le_refl _) r t v2 hl with ⟨k, r', q1, q2, q3⟩ | ⟨q1, q2⟩
      · exact .inl ⟨k, r', by simp; omega, q2, q3⟩
      · refine .inr ⟨fun k r' hk hr' => ?_, q2⟩
        rcases get_last hr' with ⟨hi, _⟩ | ⟨rfl, rfl⟩
        · exact q1 k r' hi hr'
        · rw [h1, hdst]; simp
    | some d =>
      rw [hdst] at hl
      simp only [put, look] at hl
      cases hb : Nat.beq d t with
      | true =>
        rw [hb] at hl
        cases hl
        have := Nat.eq_of_beq_eq_true hb
        subst this
        exact .inl ⟨recs.length, r, by simp, by simp, by rw [h1, hdst], Stands.refl _⟩
      | false =>
        rw [hb] at hl
        have hne : d ≠ t := Nat.ne_of_beq_eq_false hb
        rcases henv.app (Nat.le_refl _) r t v2 hl with ⟨k, r', q1, q2, q3⟩ | ⟨q1, q2⟩
        · exact .inl ⟨k, r', by simp; omega, q2, q3⟩
        · refine .inr ⟨fun k r' hk hr' => ?_, q2⟩
          rcases get_last hr' with ⟨hi, _⟩ | ⟨rfl, rfl⟩
          · exact q1 k r' hi hr'
          · rw [h1, hdst]; simpa using hne
  pair := by
    intro i k ri rk hik hi hk
    rcases get_last hk with ⟨hlt, hk⟩ | ⟨rfl, rfl⟩
    · rcases get_last hi with ⟨_, hi⟩ | ⟨rfl, _⟩
      · exact hw.pair i k ri rk hik hi hk
      · omega
    · rcases get_last hi with ⟨_, hi⟩ | ⟨rfl, _⟩
      · have := pairs_get hp i ri.lg (by rw [List.getElem?_map, hi]; rfl)
        rwa [Nat.zero_add] at this
      · omega

/-! ### the text's order -/
theorem stands_true {l : Lf T} (h : Tru l) : Stands (.v (false, [l])) (boolA true) := by
  intro m X n w u hu
  have := tru_ok h (AR_one.1 hu)
  subst this
  exact AR_one.2 (RD.bool true)
theorem stands_false {l : Lf T} (h : Fls l) : Stands (.v (false, [l])) (boolA false) := by
  intro m X n w u hu
  have := fls_ok h (AR_one.1 hu)
  subst this
  exact AR_one.2 (RD.bool false)
theorem EnvC.lit {recs : List (Rec T)} {i : Nat} {env : Env T} (h : EnvC recs env0 i env) {d : Tmp} {v v2 : AV T} (hl : look env d = some v) (hs : Stands v v2) : EnvC recs env0 i ((d, v2) :: env) := by
  intro t u hu
  simp only [look] at hu
  cases hb : Nat.beq d t with
  | true =>
    rw [hb] at hu
    cases hu
    have := Nat.eq_of_beq_eq_true hb
    subst this
    rcases h d v hl with ⟨k, r, q1, q2, q3, q4⟩ | ⟨q1, v0, q2, q3⟩
    · exact .inl ⟨k, r, q1, q2, q3, q4.trans hs⟩
    · exact .inr ⟨q1, v0, q2, q3.trans hs⟩
  | false =>
    rw [hb] at hu
    exact h t u hu
theorem bool_lit {b : Bool} {m : Nat → Value} {X : Nat → Nat → Prop} {n : Nat} {w : World} {u : Value} (h : AR m X n w (boolA b : AV T) u) : u = .bool b := RD.inv (AR_one.1 h)
theorem yield_at {env : Env T} {j : Nat} {d : Tmp} {l : Lf T} (hy : yieldOf ops env j = some (d, l)) : ∃ og, ops[j]? = some og ∧ og.dst = some d ∧ look env d = some (.v (false, [l])) := by
  unfold yieldOf at hy
  split at hy
  · rename_i o ho
    rw [nth_eq] at ho
    split at hy
    · rename_i d' hd
      split at hy
      · rename_i l' hl
        cases hy
        exact ⟨o, by rw [← Array.getElem?_toList]; exact ho, hd, hl⟩
      · cases hy
    · cases hy
  · cases hy
theorem left_at {env : Env T} {j : Nat} (hy : leftOf ops env j = true) : ∃ og d, ops[j]? = some og ∧ og.dst = some d ∧ look env d = some (.t []) := by
  unfold leftOf at hy
  split at hy
  · rename_i o ho
    rw [nth_eq] at ho
    split at hy
    · rename_i d' hd
      split at hy
      · rename_i hl
        exact ⟨o, d', by rw [← Array.getElem?_toList]; exact ho, hd, hl⟩
      · cases hy
    · cases hy
  · cases hy
theorem look_self {env : Env T} {d : Nat} {v : AV T} : look ((d, v) :: env) d = some v := by
  simp only [look]
  have : Nat.beq d d = true := by simp
  rw [this]
  rfl
variable {R : Type} {fin : AV T → Hp T → Option R} {Φ : St T → Option R} {y : R} {K : Env T → Hp T → Tr T}
theorem evD_trace (hfg : ∀ i id o, faAt fas i = some id → ops[i]? = some o → o.guard = none) : ∀ (l : List Oper) (recs : List (Rec T)) (env : Env T) (h : Hp T), (∀ j, l[j]? = ops.toList[recs.length + j]?) → WF P tb Fn N ops fas env0 h0 recs env h →
    dn (fun key => (fxAt tb key).ent (Fn key)) fin Φ (evD P tb N ops fas l env h (recs.map (·.lg)) K) = some y →
    ∃ recs' env' h', recs'.length = recs.length + l.length ∧ WF P tb Fn N ops fas env0 h0 recs' env' h' ∧ dn (fun key => (fxAt tb key).ent (Fn key)) fin Φ (K env' h') = some y
  | [], recs, env, h, hl, hw, hd => ⟨recs, env, h, rfl, hw, hd⟩
  | o :: l, recs, env, h, hl, hw, hd => by
    have ho : ops[recs.length]? = some o := by
      have := hl 0
      rw [List.getElem?_cons_zero, Nat.add_zero, Array.getElem?_toList] at this
      exact this.symm
    have hl' : ∀ (r : Rec T) j, l[j]? = ops.toList[(recs ++ [r]).length + j]? := by
      intro r j
      have := hl (j + 1)
      rw [List.getElem?_cons_succ] at this
      rw [this, List.length_append]
      congr 1
      simp
      omega
    simp only [evD] at hd
    rw [List.length_map] at hd
    cases hok : (okDst N o.dst && edgesLt recs.length o.after.toList) with
    | false => rw [hok] at hd; cases hd
    | true =>
      rw [hok] at hd
      simp only [cond_true] at hd
      simp only [Bool.and_eq_true] at hok
      -- done
      have done : ∀ env1, EnvC recs env0 recs.length env1 → Says ops o env1 true → faAt fas recs.length = none →
          dn (fun key => (fxAt tb key).ent (Fn key)) fin Φ (doD P tb ops fas o (recs.map (·.lg)) env1 h (fun v h' y => evD P tb N ops fas l (put env1 o.dst v) h' (recs.map (·.lg) ++ [y]) K)) = some y →
          ∃ recs' env' h', recs'.length = recs.length + (o :: l).length ∧ WF P tb Fn N ops fas env0 h0 recs' env' h' ∧ dn (fun key => (fxAt tb key).ent (Fn key)) fin Φ (K env' h') = some y := by
        intro env1 he1 hs hfa hd1
        unfold doD at hd1
        generalize hids : idsD env1 h o = ids at hd1
        cases hb : (okIds 0 (hD o (rootsD env1 o) h) ids (rootsD env1 o) && (okPairs (lgD ops o (recs.map (·.lg)) (rootsD env1 o) ids h.length) 0 (recs.map (·.lg)) && faOk ids (ancOf (recs.map (·.lg)) o.after.toList []) 0 fas)) with
        | false => rw [hb] at hd1; cases hd1
        | true =>
          rw [hb] at hd1
          simp only [cond_true] at hd1
          simp only [Bool.and_eq_true] at hb
          obtain ⟨v', g', v2, hans, hv2, hd2⟩ : ∃ v' g' v2, ans P tb Fn o (inE o env1 ids) (sub (hD o (rootsD env1 o) h) ids) = some (v', g') ∧ (bif softOp ops o ids then softV v' g' else some (renA (backN h.length ids) v')) = some v2 ∧
              dn (fun key => (fxAt tb key).ent (Fn key)) fin Φ (evD P tb N ops fas l (put env1 o.dst v2) (bif softOp ops o ids || quietOp ids o.op then h else mergeO h.length ids ids g' h) (recs.map (·.lg) ++ [lgD ops o (recs.map (·.lg)) (rootsD env1 o) ids h.length]) K) = some y := by
            cases hso : softOp ops o ids with
            | true =>
              rw [hso] at hd1
              simp only [cond_true] at hd1
              obtain ⟨v', g', hans, hd2⟩ := evOp_bind hd1
              split at hd2
              · rename_i v2 hv2
                exact ⟨v', g', v2, hans, hv2, hd2⟩
              · cases hd2
            | false =>
              rw [hso] at hd1
              simp only [cond_false] at hd1
              obtain ⟨v', g', hans, hd2⟩ := evOp_bind hd1
              exact ⟨v', g', _, hans, rfl, by simpa using hd2⟩
          let r : Rec T := ⟨lgD ops o (recs.map (·.lg)) (rootsD env1 o) ids h.length, env1, h, ids, v', g', v2⟩
          have hwf : WF P tb Fn N ops fas env0 h0 (recs ++ [r]) (put env1 o.dst r.v) (aft r) :=
            hw.snoc ho hok.1 hok.2 (r := r) rfl rfl rfl rfl rfl he1 (by unfold DoneF; rw [hfa]; exact ⟨⟨hs, hb.1, rfl, rfl, rfl, rfl, hans, hv2⟩, .inr hb.2.2⟩) hb.2.1
          have haft : aft r = bif softOp ops o ids || quietOp ids o.op then h else mergeO h.length ids ids g' h := by
            unfold aft
            simp only [r, lgD, lgOf]
            cases (softOp ops o ids || quietOp ids o.op) <;> rfl
          have hd3 : dn (fun key => (fxAt tb key).ent (Fn key)) fin Φ (evD P tb N ops fas l (put env1 o.dst r.v) (aft r) ((recs ++ [r]).map (·.lg)) K) = some y := by
            rw [haft, List.map_append]
            exact hd2
          obtain ⟨recs', env', h', q1, q2, q3⟩ := evD_trace hfg l (recs ++ [r]) _ _ (hl' r) hwf hd3
          exact ⟨recs', env', h', by rw [q1]; simp; omega, q2, q3⟩
      -- left out
      have left : ∀ env1, EnvC recs env0 recs.length env1 → Says ops o env1 false → faAt fas recs.length = none →
          dn (fun key => (fxAt tb key).ent (Fn key)) fin Φ (leftD ops o (recs.map (·.lg)) (fun y => evD P tb N ops fas l (put env1 o.dst (.t [])) h (recs.map (·.lg) ++ [y]) K)) = some y →
          ∃ recs' env' h', recs'.length = recs.length + (o :: l).length ∧ WF P tb Fn N ops fas env0 h0 recs' env' h' ∧ dn (fun key => (fxAt tb key).ent (Fn key)) fin Φ (K env' h') = some y := by
        intro env1 he1 hs hfa hd1
        unfold leftD at hd1
        cases hb : okPairs (lgOf ops o (recs.map (·.lg)) none [] [] 0) 0 (recs.map (·.lg)) with
        | false => rw [hb] at hd1; cases hd1
        | true =>
          rw [hb] at hd1
          simp only [cond_true] at hd1
          let r : Rec T := ⟨lgOf ops o (recs.map (·.lg)) none [] [] 0, env1, h, [], .t [], [], .t []⟩
          have hwf : WF P tb Fn N ops fas env0 h0 (recs ++ [r]) (put env1 o.dst r.v) (aft r) :=
            hw.snoc ho hok.1 hok.2 (r := r) rfl rfl rfl rfl rfl he1 (by unfold DoneF; rw [hfa]; exact ⟨⟨hs, rfl⟩, .inl rfl⟩) hb
          have hd3 : dn (fun key => (fxAt tb key).ent (Fn key)) fin Φ (evD P tb N ops fas l (put env1 o.dst r.v) (aft r) ((recs ++ [r]).map (·.lg)) K) = some y := by
            rw [List.map_append]
            exact hd1
          obtain ⟨recs', env', h', q1, q2, q3⟩ := evD_trace hfg l (recs ++ [r]) _ _ (hl' r) hwf hd3
          exact ⟨recs', env', h', by rw [q1]; simp; omega, q2, q3⟩
      split at hd
      · rename_i hg
        split at hd
        · rename_i id hfa
          unfold faD at hd
          cases hb : okPairs (lgOf ops o (recs.map (·.lg)) (some false) [] [] 0) 0 (recs.map (·.lg)) with
          | false => rw [hb] at hd; cases hd
          | true =>
            rw [hb] at hd
            simp only [cond_true] at hd
            let r : Rec T := ⟨lgOf ops o (recs.map (·.lg)) (some false) [] [] 0, env, h, [], .t [], [], one (.p id 0)⟩
            have hwf : WF P tb Fn N ops fas env0 h0 (recs ++ [r]) (put env o.dst r.v) (aft r) :=
              hw.snoc ho hok.1 hok.2 (r := r) rfl rfl rfl rfl rfl hw.env (by unfold DoneF; rw [hfa]; exact ⟨hg, rfl, rfl, rfl, rfl⟩) hb
            have hd3 : dn (fun key => (fxAt tb key).ent (Fn key)) fin Φ (evD P tb N ops fas l (put env o.dst r.v) (aft r) ((recs ++ [r]).map (·.lg)) K) = some y := by
              rw [List.map_append]
              exact hd
            obtain ⟨recs', env', h', q1, q2, q3⟩ := evD_trace hfg l (recs ++ [r]) _ _ (hl' r) hwf hd3
            exact ⟨recs', env', h', by rw [q1]; simp; omega, q2, q3⟩
        · rename_i hfa
          exact done env hw.env (by unfold Says; rw [hg]) hfa hd
      · rename_i j want hg
        have hfa : faAt fas recs.length = none := by
          cases hx : faAt fas recs.length with
          | none => rfl
          | some id => rw [hfg _ _ _ hx ho] at hg; cases hg
        have says : ∀ {env1 : Env T} {og : Oper} {d : Tmp} {b : Bool}, ops[j]? = some og → og.dst = some d → Says ops o ((d, boolA b) :: env1) (some b == some want) := by
          intro env1 og d b h1 h2
          unfold Says
          rw [hg]
          refine ⟨og, d, boolA b, h1, h2, look_self, fun m X n w u hu => ?_⟩
          rw [bool_lit hu]
          rfl
        split at hd
        · rename_i d lf hy
          obtain ⟨og, h1, h2, h3⟩ := yield_at hy
          cases want with
          | true =>
            simp only [cond_true] at hd
            rcases dn_iteL hd with ⟨h4, h5⟩ | ⟨h4, h5⟩
            · exact done _ (hw.env.lit h3 (stands_true h4)) (says (b := true) h1 h2) hfa h5
            · exact left _ (hw.env.lit h3 (stands_false h4)) (says (b := false) h1 h2) hfa h5
          | false =>
            simp only [cond_false] at hd
            rcases dn_iteL hd with ⟨h4, h5⟩ | ⟨h4, h5⟩
            · exact left _ (hw.env.lit h3 (stands_true h4)) (says (b := true) h1 h2) hfa h5
            · exact done _ (hw.env.lit h3 (stands_false h4)) (says (b := false) h1 h2) hfa h5
        · cases hlf : leftOf ops env j with
          | true =>
            rw [hlf] at hd
            obtain ⟨og, d, h1, h2, h3⟩ := left_at hlf
            refine left env hw.env ?_ hfa hd
            unfold Says
            rw [hg]
            refine ⟨og, d, .t [], h1, h2, h3, fun m X n w u hu => ?_⟩
            obtain ⟨us, k1, k2⟩ := hu
            rw [k2]
            rfl
          | false => rw [hlf] at hd; cases hd
theorem WF.start {env : Env T} {h : Hp T} : WF P tb Fn N ops fas env h [] env h where
  one := fun i r h => by simp at h
  heap := fun i r h => by simp at h
  zero := rfl
  env := fun t v2 hl => .inr ⟨fun k r hk => by simp at hk, v2, hl, Stands.refl _⟩
  pair := fun i k ri rk _ h => by simp at h
end
end Go.Proofs.Ytfojcadooepgpaa.Rx
