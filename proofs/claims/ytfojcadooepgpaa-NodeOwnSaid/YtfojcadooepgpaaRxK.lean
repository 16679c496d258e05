/- A plain evaluator over the translated code: calls, regions, bodies: what an answer says of the machine. Under no condition. -/
import Derived.Test.YtfojcadooepgpaaRxJ
set_option linter.unusedVariables false
set_option linter.unusedSimpArgs false
namespace Go.Proofs.Ytfojcadooepgpaa.Rx
open Go Go.RowKit

section
variable {T : Tab} {m m' : Nat → Value} {X X' : Nat → Nat → Prop} {n n' : Nat} {w w' : World} {P : Program} {h h' : Hp T}

/-! ### what is handed over, as data and back -/
theorem flatL_fill : ∀ {s : List Ls} {ls : List (Lf T)} {xs : List (DL T)}, flatL s ls = some xs → ∀ ys, fillL s (xs ++ ys) = some (ls, ys)
  | [], [], xs, hf, ys => by cases hf; rfl
  | [], _ :: _, xs, hf, ys => by simp [flatL] at hf
  | s :: ss, [], xs, hf, ys => by cases s <;> simp [flatL] at hf
  | s :: ss, l :: ls, xs, hf, ys => by
    unfold flatL at hf
    split at hf
    · rename_i he; cases he
    · rename_i t s' t' x r he1 he2
      cases he1
      cases he2
      split at hf
      · rename_i ht _
        split at hf
        · rename_i q hq
          cases hf
          have ih := flatL_fill hq ys
          simp only [fillL, List.cons_append]
          split
          · simp [ih]
          · rename_i hn _; exact absurd ht hn
        · cases hf
      · cases hf
    · rename_i i _ _ s' j r he1 he2
      cases he1
      cases he2
      cases hb : Nat.beq i j with
      | false => rw [hb] at hf; cases hf
      | true =>
        rw [hb] at hf
        have := Nat.eq_of_beq_eq_true hb
        subst this
        have ih := flatL_fill (show flatL ss ls = some xs from hf) ys
        simp [fillL, ih]
    · rename_i i s' j r he1 he2
      cases he1
      cases he2
      cases hb : Nat.beq i j with
      | false => rw [hb] at hf; cases hf
      | true =>
        rw [hb] at hf
        have := Nat.eq_of_beq_eq_true hb
        subst this
        have ih := flatL_fill (show flatL ss ls = some xs from hf) ys
        simp [fillL, ih]
    · rename_i i o s' j o' r he1 he2
      cases he1
      cases he2
      cases hb : (Nat.beq i j && Nat.beq o o') with
      | false => rw [hb] at hf; cases hf
      | true =>
        rw [hb] at hf
        simp only [Bool.and_eq_true] at hb
        have e1 := Nat.eq_of_beq_eq_true hb.1
        have e2 := Nat.eq_of_beq_eq_true hb.2
        subst e1
        subst e2
        have ih := flatL_fill (show flatL ss ls = some xs from hf) ys
        simp [fillL, ih]
    · rename_i s' r he1 he2
      cases he1
      cases he2
      have ih := flatL_fill hf ys
      simp [fillL, ih]
    · rename_i f cs s' g cs' r he1 he2
      cases he1
      cases he2
      cases hb : Nat.beq f g with
      | false => rw [hb] at hf; cases hf
      | true =>
        rw [hb] at hf
        simp only [cond_true] at hf
        have := Nat.eq_of_beq_eq_true hb
        subst this
        split at hf
        · rename_i e _
          subst e
          have ih := flatL_fill (show flatL ss ls = some xs from hf) ys
          simp [fillL, ih]
        · cases hf
    · rename_i i e t s' j r he1 he2
      cases he1
      cases he2
      cases hb : Nat.beq i j with
      | false => rw [hb] at hf; cases hf
      | true =>
        rw [hb] at hf
        have := Nat.eq_of_beq_eq_true hb
        subst this
        have ih := flatL_fill (show flatL ss ls = some xs from hf) ys
        simp [fillL, ih]
    · cases hf
theorem flatV_fill : ∀ {s : List (Bool × List Ls)} {vs : List (V T)} {xs : List (DL T)}, flatV s vs = some xs → ∀ ys, fillV s (xs ++ ys) = some (vs, ys)
  | [], [], xs, hf, ys => by cases hf; rfl
  | [], _ :: _, xs, hf, ys => by simp [flatV] at hf
  | s :: ss, [], xs, hf, ys => by simp [flatV] at hf
  | s :: ss, v :: vs, xs, hf, ys => by
    simp only [flatV] at hf
    split at hf
    · rename_i hb _
      split at hf
      · rename_i l hl
        split at hf
        · rename_i l' hl'
          cases hf
          have h1 := flatL_fill hl (l' ++ ys)
          have h2 := flatV_fill hl' ys
          simp only [fillV, List.append_assoc, h1, h2]
          rw [hb]
        · cases hf
      · cases hf
    · cases hf
theorem eqPo_map {A : Type} : ∀ {po : Option Nat} {po' : Option (Nat × Option A)}, eqPo po po' = true → po' = po.map (fun j => (j, none))
  | none, none, _ => rfl
  | some i, some (j, none), h => by
    have := Nat.eq_of_beq_eq_true h
    subst this
    rfl
  | none, some _, h => by cases h
  | some _, none, h => by cases h
  | some _, some (_, some _), h => by cases h
theorem flatO_fill : ∀ {s : List OS} {g : Hp T} {xs : List (DL T)}, flatO s g = some xs → ∀ ys, fillO s (xs ++ ys) = some (g, ys)
  | [], [], xs, hf, ys => by cases hf; rfl
  | [], _ :: _, xs, hf, ys => by simp [flatO] at hf
  | s :: ss, [], xs, hf, ys => by cases s <;> simp [flatO] at hf
  | s :: ss, o :: g, xs, hf, ys => by
    unfold flatO at hf
    split at hf
    · rename_i he; cases he
    · rename_i tid s' ss' tid' ls h0 he1 he2
      cases he1
      cases he2
      cases hb : Nat.beq tid tid' with
      | false => rw [hb] at hf; cases hf
      | true =>
        rw [hb] at hf
        simp only [cond_true] at hf
        have := Nat.eq_of_beq_eq_true hb
        subst this
        split at hf
        · rename_i l hl
          split at hf
          · rename_i l' hl'
            cases hf
            have h1 := flatL_fill hl (l' ++ ys)
            have h2 := flatO_fill hl' ys
            simp only [fillO, List.append_assoc, h1, h2]
          · cases hf
        · cases hf
    · rename_i e t sh ss' e' t' xs' sh' h0 he1 he2
      cases he1
      cases he2
      split at hf
      · rename_i ht _
        cases hb : (Nat.beq e e' && (sh == sh')) with
        | false => rw [hb] at hf; cases hf
        | true =>
          rw [hb] at hf
          simp only [cond_true] at hf
          simp only [Bool.and_eq_true, beq_iff_eq] at hb
          have e1 := Nat.eq_of_beq_eq_true hb.1
          have e2 := hb.2
          subst e1
          subst e2
          subst ht
          split at hf
          · rename_i l' hl'
            cases hf
            have h2 := flatO_fill hl' ys
            have h3 : asT (⟨.sl e t', xs'⟩ : DL T) (.sl e t') = some xs' := asT_self (t := .sl e t') xs'
            simp only [fillO, List.cons_append, h3, h2]
          · cases hf
      · cases hf
    · rename_i e t ss' e' t' h0 he1 he2
      cases he1
      cases he2
      split at hf
      · rename_i ht _
        cases hb : Nat.beq e e' with
        | false => rw [hb] at hf; cases hf
        | true =>
          rw [hb] at hf
          simp only [cond_true] at hf
          have e1 := Nat.eq_of_beq_eq_true hb
          subst e1
          subst ht
          have h2 := flatO_fill hf ys
          simp only [fillO, h2]
      · cases hf
    · rename_i mt k v po ss' mt' k' v' x po' h0 he1 he2
      cases he1
      cases he2
      split at hf
      · rename_i ht _
        cases hb : (Nat.beq mt mt' && eqPo po po') with
        | false => rw [hb] at hf; cases hf
        | true =>
          rw [hb] at hf
          simp only [cond_true] at hf
          simp only [Bool.and_eq_true] at hb
          have e1 := Nat.eq_of_beq_eq_true hb.1
          have e2 := eqPo_map hb.2
          subst e1
          subst e2
          cases ht
          split at hf
          · rename_i l' hl'
            cases hf
            have h2 := flatO_fill hl' ys
            have h3 : asT (⟨.mp k v, x⟩ : DL T) (.mp k v) = some x := asT_self (t := .mp k v) x
            simp only [fillO, List.cons_append, h3, h2]
          · cases hf
      · cases hf
    · rename_i i ss' j y h0 he1 he2
      cases he1
      cases he2
      cases hb : Nat.beq i j with
      | false => rw [hb] at hf; cases hf
      | true =>
        rw [hb] at hf
        simp only [cond_true] at hf
        have e1 := Nat.eq_of_beq_eq_true hb
        subst e1
        split at hf
        · rename_i l' hl'
          cases hf
          have h2 := flatO_fill hl' ys
          have h3 : asT (⟨.it, y⟩ : DL T) .it = some y := asT_self (t := .it) y
          simp only [fillO, List.cons_append, h3, h2]
        · cases hf
    · rename_i ss' h0 he1 he2
      cases he1
      cases he2
      have h2 := flatO_fill hf ys
      simp only [fillO, h2]
    · rename_i e t fx ss' e' t' xs0 fx' h0 he1 he2
      cases he1
      cases he2
      split at hf
      · rename_i ht _
        subst ht
        cases hb : (Nat.beq e e' && (fx == fx')) with
        | false => rw [hb] at hf; cases hf
        | true =>
          rw [hb] at hf
          simp only [cond_true] at hf
          simp only [Bool.and_eq_true] at hb
          have e1 := Nat.eq_of_beq_eq_true hb.1
          have e2 : fx = fx' := by simpa using hb.2
          subst e1
          subst e2
          split at hf
          · rename_i l' hl'
            cases hf
            have h2 := flatO_fill hl' ys
            have h3 := asT_self (T := T) (t := .sl e t') xs0
            simp only [fillO, List.cons_append, h3, h2]
          · cases hf
      · cases hf
    · cases hf
theorem avs_map : ∀ {as : List (AV T)} {vs : List (V T)}, avs as = some vs → as = vs.map .v
  | [], vs, ha => by cases ha; rfl
  | .v a :: r, vs, ha => by
    simp only [avs] at ha
    split at ha
    · rename_i l hl
      cases ha
      simp [avs_map hl]
    · cases ha
  | .t _ :: r, vs, ha => by simp [avs] at ha
theorem take_give {x : Fx} {as : List (AV T)} {g : Hp T} {ds : List (DL T)} (ht : x.take as g = some ds) : x.give ds = some (as, g) := by
  unfold Fx.take at ht
  split at ht
  · rename_i vs hvs
    split at ht
    · rename_i l hl
      split at ht
      · rename_i l' hl'
        cases ht
        have h1 := flatV_fill hl l'
        have h2 := flatO_fill hl' []
        rw [List.append_nil] at h2
        unfold Fx.give
        simp only [h1, h2, ← avs_map hvs]
      · cases ht
    · cases ht
  · cases ht
theorem avIn_out {v : AV T} {vs : List (V T)} (hv : avIn v = some vs) : avOut vs = v := by
  unfold avIn at hv
  split at hv
  · cases hv; rfl
  · cases hv
  · rename_i us hn
    cases hv
    unfold avOut
    split
    · exact absurd rfl (hn _)
    · rfl
theorem finL_back {out : List (Bool × List Ls)} {hout : List OS} {v : AV T} {g : Hp T} {l : List (DL T)} (hf : finL out hout v g = some l) (r : List (DL T)) : backL out hout (l ++ r) = some (v, g) := by
  unfold finL at hf
  split at hf
  · rename_i vs hvs
    split at hf
    · rename_i l1 hl
      split at hf
      · rename_i l' hl'
        cases hf
        have h1 := flatV_fill hl (l' ++ r)
        have h2 := flatO_fill hl' r
        unfold backL
        rw [List.append_assoc]
        simp only [h1, h2, avIn_out hvs]
      · cases hf
    · cases hf
  · cases hf
theorem fin_back {x : Fx} {v : AV T} {g : Hp T} {y : HL T.S x.tout} (hf : x.fin v g = some y) : x.back y = some (v, g) := by
  unfold Fx.fin at hf
  unfold Fx.back Fx.backK
  split at hf
  · rename_i hn
    split at hf
    · rename_i l hl
      have h0 := toHL_toDL hf
      have h1 := finL_back hl []
      rw [List.append_nil] at h1
      simp only [hn, h0, h1, goO]
    · cases hf
  · rename_i a hn
    split at hf
    · rename_i l hl
      have h0 := toHL_toDL hf
      have h1 := finL_back hl (zeros (tysV a.1 ++ tysO a.2))
      simp only [hn, h0, h1, goO]
      rfl
    · split at hf
      · rename_i l hl
        have h0 := toHL_toDL hf
        have h1 := finL_back hl []
        rw [List.append_nil] at h1
        have h2 : (zeros x.t1 ++ l).drop x.t1.length = l := List.drop_left' (by simp [zeros])
        simp only [hn, h0, h2, h1, goO]
        rfl
      · cases hf

/-! ### tests -/
def Tru : Lf T → Prop
  | .b p _ => p | .d .bool x => x = true | _ => False
def Fls : Lf T → Prop
  | .b p _ => ¬ p | .d .bool x => x = false | _ => False
theorem tru_ok {l : Lf T} {v : Value} (hl : Tru l) (hv : LfR m X n w l v) : v = .bool true := by
  cases l with
  | b p i =>
    have h1 : p := hl
    rw [show v = _ from hv]
    simp [h1]
  | d t x => cases t with
    | bool =>
      have h1 : x = true := hl
      subst h1
      exact RD.inv hv
    | int _ => exact hl.elim
    | str => exact hl.elim
    | sl _ _ => exact hl.elim
    | st _ => exact hl.elim
    | mp _ _ => exact hl.elim
    | it => exact hl.elim
  | _ => exact hl.elim
theorem fls_ok {l : Lf T} {v : Value} (hl : Fls l) (hv : LfR m X n w l v) : v = .bool false := by
  cases l with
  | b p i =>
    have h1 : ¬ p := hl
    rw [show v = _ from hv]
    simp [h1]
  | d t x => cases t with
    | bool =>
      have h1 : x = false := hl
      subst h1
      exact RD.inv hv
    | int _ => exact hl.elim
    | str => exact hl.elim
    | sl _ _ => exact hl.elim
    | st _ => exact hl.elim
    | mp _ _ => exact hl.elim
    | it => exact hl.elim
  | _ => exact hl.elim
variable {R : Type} {I : Nat → Ent T} {fin : AV T → Hp T → Option R} {Φ : St T → Option R} {r : R}
theorem dn_ite {p : Prop} {i : Decidable p} {a b : Tr T} (hd : dn I fin Φ (.ite p i a b) = some r) : (p ∧ dn I fin Φ a = some r) ∨ (¬ p ∧ dn I fin Φ b = some r) := by
  simp only [dn] at hd
  by_cases hp : p
  · rw [if_pos hp] at hd; exact .inl ⟨hp, hd⟩
  · rw [if_neg hp] at hd; exact .inr ⟨hp, hd⟩
theorem dn_iteL {l : Lf T} {a b : Tr T} (hd : dn I fin Φ (iteL l a b) = some r) : (Tru l ∧ dn I fin Φ a = some r) ∨ (Fls l ∧ dn I fin Φ b = some r) := by
  unfold iteL at hd
  split at hd
  · exact dn_ite hd
  · rename_i x
    rcases dn_ite hd with ⟨h1, h2⟩ | ⟨h1, h2⟩
    · exact .inl ⟨h1, h2⟩
    · refine .inr ⟨?_, h2⟩
      show x = false
      exact Bool.eq_false_iff.2 h1
  · cases hd

/-! ### calls -/
theorem LfR.lt {l : Lf T} {v : Value} (hl : LfR m X n w l v) : ∀ i ∈ refs l, i < n := by
  intro k hk
  cases l with
  | g i => simp [refs] at hk; subst hk; exact hl.1
  | m i => simp [refs] at hk; subst hk; exact hl.1
  | p i off => simp [refs] at hk; subst hk; exact hl.1
  | e i sz x off => simp [refs] at hk; subst hk; exact hl.1
  | f f cs =>
    simp only [refs] at hk
    obtain ⟨c, hc, rfl⟩ := List.mem_map.1 hk
    obtain ⟨us, _, h6⟩ := hl
    obtain ⟨q', hq'⟩ := List.mem_iff_getElem?.1 hc
    obtain ⟨u', _, h7, _⟩ := h6.get hq'
    exact h7
  | d _ _ => simp [refs] at hk
  | b _ _ => simp [refs] at hk
  | n => simp [refs] at hk
  | q _ => simp [refs] at hk
  | pn => simp [refs] at hk
  | u => simp [refs] at hk
  | w p i s => simp [refs] at hk
  | y i k => simp [refs] at hk; subst hk; exact hl.1
theorem VR.back {f : Nat → Nat} {a : V T} {v : Value} (hv : VR m X n w a v) (hf : ∀ i, i < n → f i < n' ∧ m' (f i) = m i) : VR m' X n' w (renV f a) v := by
  refine hv.ren (fun l hl i hi => hf i ?_)
  obtain ⟨us, h1, _⟩ := hv
  obtain ⟨q, hq⟩ := List.mem_iff_getElem?.1 hl
  obtain ⟨u, _, hu⟩ := h1.get hq
  exact hu.lt i hi
theorem AR.back {f : Nat → Nat} {a : AV T} {v : Value} (hv : AR m X n w a v) (hf : ∀ i, i < n → f i < n' ∧ m' (f i) = m i) : AR m' X n' w (renA f a) v := by
  cases a with
  | v a => exact VR.back hv hf
  | t vs =>
    obtain ⟨us, h1, h2⟩ := hv
    exact ⟨us, All2.map (h1.imp (fun _ _ h => VR.back h hf)), h2⟩
/-- The function is entered. -/
def Enter (P : Program) (f : FuncId) : Prop := ∀ args w, (callFunc f args).run P w = .ok (.enter f args) w
def TbOk (P : Program) (tb : List (FuncId × Fx)) : Prop := ∀ key row, nth tb key = some row → Enter P row.1
/-- What a function answers is what the machine's call brings. -/
def Snd (P : Program) (tb : List (FuncId × Fx)) (key : Nat) (Fn : List (DL T) → Option (HL T.S (fxAt tb key).tout)) : Prop :=
  ∀ row, nth tb key = some row → ∀ ds y, Fn ds = some y → ∀ as h v1 h1, (fxAt tb key).take as h = some ds → (fxAt tb key).back y = some (v1, h1) → ∀ m X w (rargs : List Value), Rel T m X h w → All2 (AR m X h.length w) as rargs →
    Calls P row.1 rargs.toArray w fun e w' => ∃ rv m' X', e = .returned rv ∧ AR m' X' h1.length w' v1 rv ∧ Rel T m' X' h1 w' ∧ Fr T m X h w m' X' h1 w'
theorem findFx_ok {f : FuncId} {vs : List (V T)} : ∀ {tb : List (FuncId × Fx)} {k key : Nat} {fx : Fx}, findFx f vs k tb = some (key, fx) → ∃ j, key = k + j ∧ tb[j]? = some (f, fx)
  | [], k, key, fx, hf => by cases hf
  | x :: tb, k, key, fx, hf => by
    simp only [findFx] at hf
    cases hb : (Nat.beq x.1 f && fitsV x.2.ins vs) with
    | true =>
      rw [hb] at hf
      cases hf
      simp only [Bool.and_eq_true] at hb
      have := Nat.eq_of_beq_eq_true hb.1
      exact ⟨0, rfl, by rw [← this]; rfl⟩
    | false =>
      rw [hb] at hf
      obtain ⟨j, h1, h2⟩ := findFx_ok (show findFx f vs (k + 1) tb = some (key, fx) from hf)
      exact ⟨j + 1, by omega, by simpa using h2⟩
theorem coVs_ok : ∀ {ss : List (Bool × List Ls)} {vs vs' : List (V T)} {h h' : Hp T} {m : Nat → Value} {X : Nat → Nat → Prop}, Rel T m X h w → coVs ss vs h = some (vs', h') → ∀ {us : List Value}, All2 (VR m X h.length w) vs us →
    ∃ m' X', Rel T m' X' h' w ∧ All2 (VR m' X' h'.length w) vs' us ∧ Fr T m X h w m' X' h' w
  | [], [], vs', h, h', m, X, hr, hc, us, hl => by
    cases hc
    match us, hl with
    | [], _ => exact ⟨m, X, hr, trivial, Fr.refl⟩
  | s :: ss, v :: vs, vs', h, h', m, X, hr, hc, us, hl => by
    simp only [coVs] at hc
    split at hc
    · rename_i z hz
      split at hc
      · rename_i z' hz'
        cases hc
        match us, hl with
        | u :: us, hl =>
          obtain ⟨cs, h1, h2⟩ := hl.1
          obtain ⟨m1, X1, q1, q2, q3⟩ := cos_ok hr hz h1
          obtain ⟨m2, X2, q4, q5, q6⟩ := coVs_ok q1 hz' (hl.2.imp (fun _ _ h => h.on q3.on))
          exact ⟨m2, X2, q4, ⟨⟨cs, q2.imp (fun _ _ h => h.on q6.on), h2⟩, q5⟩, q3.trans q6⟩
      · cases hc
    · cases hc
  | [], _ :: _, _, _, _, _, _, _, hc, _, _ => by simp [coVs] at hc
  | _ :: _, [], _, _, _, _, _, _, hc, _, _ => by simp [coVs] at hc
theorem opVs_ok {env : Env T} {a : Act} (hop : ∀ x, OR m X n w env a x) : ∀ {xs : List Operand} {vs : List (V T)}, opVs env xs = some vs → All2 (VR m X n w) vs (xs.map a.eval)
  | [], vs, hv => by cases hv; trivial
  | x :: r, vs, hv => by
    simp only [opVs] at hv
    split at hv
    · rename_i v hx
      split at hv
      · rename_i l hl
        cases hv
        exact ⟨orV (hop x) hx, opVs_ok hop hl⟩
      · cases hv
    · cases hv
theorem capV_ok : ∀ {cs : List (Nat × Nat)} {us : List Value}, All2 (fun c u => c.1 < n ∧ ∃ b, m c.1 = .pointer (some ⟨b, 0, none⟩) ∧ u = .pointer (some ⟨b, c.2, none⟩)) cs us → All2 (VR m X n w) (capV cs : List (V T)) us
  | [], [], _ => trivial
  | c :: cs, u :: us, h => ⟨VR_one.2 h.1, capV_ok h.2⟩
  | [], _ :: _, h => h.elim
  | _ :: _, [], h => h.elim
theorem VR.toNew {a : V T} {v : Value} {ids roots : List Nat} {m0 : Nat} (hi : Ids m0 h ids roots) (hv : VR m X n w a v) (hroots : ∀ l ∈ a.2, ∀ i ∈ refs l, i ∈ ids) : VR (pickM m ids) X ids.length w (renV (idxN ids) a) v :=
  hv.ren (fun l hl i hm => ids_f hi (hroots l hl i hm))
/-- Nothing of the state's own has turned. -/
theorem Rel.still (hr : Rel T m X h w) (hsz : w.heap.size ≤ w'.heap.size) (hold : ∀ b, b < w.heap.size → w'.heap[b]? = w.heap[b]?) : Rel T m X h w' := by
  have on : On m X h.length w m X h.length w' := ⟨Nat.le_refl _, fun _ _ => rfl, fun _ _ hx => hx, fun b o hx => World.cell?_of_block (hold b (hr.lt b o hx))⟩
  refine ⟨fun i o ho => ?_, hr.sep, fun b o hx => Nat.lt_of_lt_of_le (hr.lt b o hx) hsz, hr.pv, hr.gr, hr.po⟩
  cases hl : o.live with
  | false =>
    cases o with
    | no => trivial
    | _ => cases hl
  | true => exact (hr.ob i o ho).keep on (lt_of_get ho) (fun b hb => hold b (mine_lt hr ⟨i, o, ho, hl, hb⟩))
def Scal : Lf T → Prop
  | .d (.int _) _ => True | .d .bool _ => True | .d .str _ => True | _ => False
theorem Scal.move {f : Nat → Nat} {m2 : Nat → Value} {X2 : Nat → Nat → Prop} {n2 : Nat} {w2 : World} {l : Lf T} (hs : Scal l) {v : Value} (hv : LfR m2 X2 n2 w2 l v) : LfR m X n w (renL f l) v := by
  cases l with
  | d t x =>
    cases t with
    | int k => have := RD.inv (show RD T w2 X2 _ _ _ from hv); rw [show v = _ from this]; exact RD.int k x
    | bool => have := RD.inv (show RD T w2 X2 _ _ _ from hv); rw [show v = _ from this]; exact RD.bool x
    | str => have := RD.inv (show RD T w2 X2 _ _ _ from hv); rw [show v = _ from this]; exact RD.str x
    | _ => exact hs.elim
  | _ => exact hs.elim
theorem scalL_ok : ∀ {s : List Ls} {xs xs' : List (DL T)} {ls : List (Lf T)}, scalL s = true → fillL s xs = some (ls, xs') → ∀ l ∈ ls, Scal l
  | [], xs, xs', ls, _, hf, l, hl => by cases hf; cases hl
  | .d t :: s, xs, xs', ls, hs, hf, l, hl => by
    cases xs with
    | nil => simp [fillL] at hf
    | cons x r =>
      simp only [fillL] at hf
      split at hf
      · rename_i ht _
        split at hf
        · rename_i z hz
          cases hf
          have hs' : scalL s = true := by
            cases t with
            | int k => exact hs
            | bool => exact hs
            | str => exact hs
            | _ => cases hs
          rcases List.mem_cons.1 hl with rfl | hl
          · obtain ⟨t', y⟩ := x
            have e : t' = t := ht
            subst e
            cases t' with
            | int k => trivial
            | bool => trivial
            | str => trivial
            | _ => cases hs
          · exact scalL_ok hs' hz l hl
        · cases hf
      · cases hf
  | .g _ _ _ :: s, xs, xs', ls, hs, hf, l, hl => by cases hs
  | .m _ :: s, xs, xs', ls, hs, hf, l, hl => by cases hs
  | .p _ _ :: s, xs, xs', ls, hs, hf, l, hl => by cases hs
  | .pn :: s, xs, xs', ls, hs, hf, l, hl => by cases hs
  | .f _ _ :: s, xs, xs', ls, hs, hf, l, hl => by cases hs
theorem Scal.all {f : Nat → Nat} {m2 : Nat → Value} {X2 : Nat → Nat → Prop} {n2 : Nat} {w2 : World} : ∀ {ls : List (Lf T)} {us : List Value}, (∀ l ∈ ls, Scal l) → All2 (LfR m2 X2 n2 w2) ls us → All2 (LfR m X n w) (ls.map (renL f)) us
  | [], [], _, _ => trivial
  | l :: ls, u :: us, hs, h => ⟨(hs l List.mem_cons_self).move h.1, Scal.all (fun l' hl' => hs l' (List.mem_cons_of_mem _ hl')) h.2⟩
  | [], _ :: _, _, h => h.elim
  | _ :: _, [], _, h => h.elim
theorem scalV_ok : ∀ {ss : List (Bool × List Ls)} {xs xs' : List (DL T)} {vs : List (V T)}, scalV ss = true → fillV ss xs = some (vs, xs') → ∀ v ∈ vs, ∀ l ∈ v.2, Scal l
  | [], xs, xs', vs, _, hf, v, hv => by cases hf; cases hv
  | s :: ss, xs, xs', vs, hs, hf, v, hv => by
    simp only [scalV, Bool.and_eq_true] at hs
    simp only [fillV] at hf
    split at hf
    · rename_i z hz
      split at hf
      · rename_i z' hz'
        cases hf
        rcases List.mem_cons.1 hv with rfl | hv
        · exact scalL_ok hs.1 hz
        · exact scalV_ok hs.2 hz' v hv
      · cases hf
    · cases hf
theorem lent_ok {fx : Fx} {ids : List Nat} (hl : lent fx ids = true) {y : HL T.S fx.tout} {zz : AV T × Hp T} (hb : fx.back y = some zz) : ids = [] ∧ zz.2 = [] ∧ ∀ {f : Nat → Nat} {m2 : Nat → Value} {X2 : Nat → Nat → Prop} {n2 : Nat} {w2 : World} {v : Value}, AR m2 X2 n2 w2 zz.1 v → AR m X n w (renA f zz.1) v := by
  obtain ⟨ins, hin, out, hout, cuts, alt⟩ := fx
  unfold lent at hl
  simp only at hl
  split at hl
  · have hb2 : goO (fun v h => some (v, h)) (backL out [] (toDL T (Fx.tout ⟨ins, hin, out, [], cuts, none⟩) y)) = some zz := hb
    unfold backL at hb2
    split at hb2
    · rename_i z hz
      simp only [fillO, goO, Option.some.injEq] at hb2
      subst hb2
      refine ⟨rfl, rfl, fun {f m2 X2 n2 w2 v} hv => ?_⟩
      have hsc := scalV_ok hl hz
      dsimp only at hv ⊢
      unfold avOut at hv ⊢
      split at hv
      · rename_i v0 e0
        rw [e0] at hsc
        obtain ⟨us, h1, h2⟩ := hv
        exact ⟨us, Scal.all (hsc v0 List.mem_cons_self) h1, h2⟩
      · obtain ⟨us, h1, h2⟩ := hv
        refine ⟨us, ?_, h2⟩
        have : ∀ {vs : List (V T)} {us : List Value}, (∀ v ∈ vs, ∀ l ∈ v.2, Scal l) → All2 (VR m2 X2 n2 w2) vs us → All2 (VR m X n w) (vs.map (renV f)) us := by
          intro vs
          induction vs with
          | nil => intro us _ h; match us, h with | [], _ => trivial
          | cons v vs ih =>
            intro us hs h
            match us, h with
            | u :: us, h =>
              obtain ⟨cs, k1, k2⟩ := h.1
              exact ⟨⟨cs, Scal.all (hs v List.mem_cons_self) k1, k2⟩, ih (fun v' hv' => hs v' (List.mem_cons_of_mem _ hv')) h.2⟩
        exact this hsc h1
    · simp [goO] at hb2
  · cases hl
theorem call_ok {tb : List (FuncId × Fx)} (htb : TbOk P tb) {Fn : (key : Nat) → List (DL T) → Option (HL T.S (fxAt tb key).tout)} (hS : ∀ key, Snd P tb key (Fn key)) (hr : Rel T m X h w) {env : Env T} {a : Act} (hop : ∀ x, OR m X h.length w env a x) {o : Oper} {c : Call} (hc : isCal o.op = some c) {z : Cal T} (hz : calF tb c env h = some z) {K : AV T → Hp T → Tr T}
    (hd : dn (fun key => (fxAt tb key).ent (Fn key)) fin Φ (z.tr K) = some r) {next : Act → World → Prop} {Q : Exit → Act → World → Prop}
    (hn : ∀ v h' rv m' X' w', dn (fun key => (fxAt tb key).ent (Fn key)) fin Φ (K v h') = some r → AR m' X' h'.length w' v rv → Rel T m' X' h' w' → Fr T m X h w m' X' h' w' → next (a.put o.dst rv) w') : o.wp P a w next Q := by
  -- what is called
  have hop' : o.op = .call c := by
    unfold isCal at hc
    split at hc
    · rename_i c' he
      split at hc
      · cases hc; exact he
      · cases hc
    · cases hc
  unfold calF at hz
  split at hz
  · rename_i f hcal
    split at hz
    · rename_i l vs hl hvs
      split at hz
      · rename_i g hg
        have hlf : l = .f g.1 g.2 := by
          unfold fnOf at hg
          split at hg
          · cases hg; rfl
          · cases hg
        subst hlf
        obtain ⟨us, hfu, hus⟩ := or1 (hop f) hl
        unfold callF at hz
        split at hz
        · rename_i key fx hfx
          obtain ⟨j, hj, hrow⟩ := findFx_ok hfx
          have hkj : key = j := by omega
          subst hkj
          split at hz
          · rename_i vs' h1 hco
            simp only at hz
            generalize hids : reach h1 1000 (vs'.flatMap fun v => v.2.flatMap refs) [] = ids at hz
            cases hok : okIds 0 h1 ids (vs'.flatMap fun v => v.2.flatMap refs) with
            | false => rw [hok] at hz; cases hz
            | true =>
              rw [hok] at hz
              cases hz
              have hi := okIds_ok hok
              have hall := (opVs_ok hop hvs).append (capV_ok (X := X) (w := w) (T := T) hus)
              obtain ⟨m1, X1, q1, q2, q3⟩ := coVs_ok hr hco hall
              have hrun : (execOp a.eval o).run P w = .ok (.enter g.1 ((c.args.toList.map a.eval ++ us).toArray)) w := by
                have he := htb key (g.1, fx) (by rw [nth_eq]; exact hrow) ((c.args.toList.map a.eval ++ us).toArray) w
                have hargs : Array.map a.eval c.args ++ us.toArray = (c.args.toList.map a.eval ++ us).toArray := by apply Array.ext'; simp
                simp only [execOp, hop', resolve, hcal, hfu, Deferred.ofValue, Sem.run_bind, Sem.run_pure, Result.andThen_ok, invoke, Array.empty_append, hargs]
                exact he
              -- its answer
              have hsub : sub (bif lent fx ids then h else h1) ids = sub h1 ids := by
                cases hlt : lent fx ids with
                | false => rfl
                | true =>
                  have : ids = [] := by
                    unfold lent at hlt
                    split at hlt
                    · rfl
                    · cases hlt
                  rw [this]
                  rfl
              simp only [Cal.tr, dn, ent_eq] at hd
              rw [hsub] at hd
              split at hd
              · rename_i ds hds
                obtain ⟨y, hy, hd⟩ := Option.bind_eq_some_iff.1 hd
                split at hd
                · rename_i zz hback
                  have hroots : ∀ v ∈ vs', ∀ l ∈ v.2, ∀ i ∈ refs l, i ∈ ids := fun v hv l hl i hm => hi.roots i (List.mem_flatMap.2 ⟨v, hv, List.mem_flatMap.2 ⟨l, hl, hm⟩⟩)
                  have hargs2 : All2 (AR (pickM m1 ids) X1 (sub h1 ids).length w) (vs'.map fun v => AV.v (renV (idxN ids) v)) (c.args.toList.map a.eval ++ us) := by
                    rw [sub_len]
                    refine All2.map ?_
                    have : ∀ {vs : List (V T)} {rs : List Value}, All2 (VR m1 X1 h1.length w) vs rs → (∀ v ∈ vs, ∀ l ∈ v.2, ∀ i ∈ refs l, i ∈ ids) → All2 (fun v b => AR (pickM m1 ids) X1 ids.length w (AV.v (renV (idxN ids) v)) b) vs rs := by
                      intro vs
                      induction vs with
                      | nil => intro rs hv _; match rs, hv with | [], _ => trivial
                      | cons v vs ih =>
                        intro rs hv hro
                        match rs, hv with
                        | r :: rs, hv => exact ⟨hv.1.toNew hi (hro v List.mem_cons_self), ih hv.2 (fun v' hv' => hro v' (List.mem_cons_of_mem _ hv'))⟩
                    exact this q2 hroots
                  have hcalls := hS key (g.1, fx) (by rw [nth_eq]; exact hrow) ds y hy _ _ zz.1 zz.2 hds hback _ _ w _ (sub_ok q1 hi) hargs2
                  unfold Oper.wp
                  rw [hrun, Oper.upon_enter]
                  refine hcalls.mono ?_
                  rintro e w1 ⟨rv, m2, X2, rfl, a1, a2, a3⟩
                  cases hlt : lent fx ids with
                  | false =>
                    rw [hlt] at hd
                    obtain ⟨b1, b2, b3⟩ := merge_ok q1 hi a2 a3
                    exact hn _ _ rv _ X2 w1 hd (a1.back b3) b1 (q3.trans b2)
                  | true =>
                    have hfx : fxAt tb key = fx := by unfold fxAt; rw [show nth tb key = some (g.1, fx) by rw [nth_eq]; exact hrow]
                    obtain ⟨c1, c2, c3⟩ := lent_ok (m := m) (X := X) (n := h.length) (w := w1) (by rw [hfx]; exact hlt) hback
                    subst c1
                    rw [hlt, c2] at hd
                    rw [c2] at a3
                    have hold : ∀ b, b < w.heap.size → w1.heap[b]? = w.heap[b]? := fun b hb => a3.old b hb (by rintro ⟨i, o, k1, _⟩; simp [sub] at k1)
                    have hr1 := hr.still a3.size hold
                    have hh : mergeO h.length [] [] [] h = h := by simp [mergeO]
                    simp only [cond_true] at hd
                    rw [hh] at hd
                    exact hn _ _ rv m X w1 hd (c3 a1) hr1 ⟨⟨Nat.le_refl _, fun _ _ => rfl, fun _ _ hx => hx, fun b o hx => World.cell?_of_block (hold b (hr.lt b o hx))⟩, a3.size, a3.os, a3.tape, a3.output, fun b hb _ => hold b hb, fun b hb => .inl hb, fun b o hx => .inl hx⟩
                · cases hd
              · cases hd
          · cases hz
        · cases hz
      · cases hz
    · cases hz
  · cases hz

/-! ### an operation, a region -/
theorem split_dn {I : Nat → Ent T} {R : Type} {fin : AV T → Hp T → Option R} {Φ : St T → Option R} {r : R} {o : Oper} {env : Env T} {K : AV T → Hp T → Tr T} {i : Tmp} {k : IntKind} {x : Int} : ∀ (m s : Nat), dn I fin Φ (splitTr P o env h K i k x s m) = some r → ∃ s' : Nat, x = (s' : Int) ∧ dn I fin Φ (opTr P o ((i, one (int k (s' : Int))) :: env) h K) = some r
  | 0, s, hd => by cases hd
  | m + 1, s, hd => by
    rcases dn_ite hd with ⟨h1, h2⟩ | ⟨h1, h2⟩
    · exact ⟨s, h1, h2⟩
    · exact split_dn m (s + 1) h2
theorem splitOn_some {env : Env T} {op : Op} {q : Tmp × IntKind × Int × Nat} (hq : splitOn P env op = some q) : op1 env (.tmp q.1) = some (.d (.int q.2.1) q.2.2.1) := by
  unfold splitOn at hq
  split at hq
  · split at hq
    · rename_i n e l hu hl
      split at hq
      · rename_i a ha
        have := isInt_some ha
        subst this
        cases hb : Nat.ble n 16 with
        | false => rw [hb] at hq; cases hq
        | true => rw [hb] at hq; cases hq; exact hl
      · cases hq
    · cases hq
  · split at hq
    · rename_i n e l hu hl
      split at hq
      · rename_i a ha
        have := isInt_some ha
        subst this
        cases hb : Nat.ble n 16 with
        | false => rw [hb] at hq; cases hq
        | true => rw [hb] at hq; cases hq; exact hl
      · cases hq
    · cases hq
  · cases hq
theorem or_split {env : Env T} {a : Act} (hop : ∀ x, OR m X n w env a x) {i : Tmp} {k : IntKind} {x : Int} (hi : op1 env (.tmp i) = some (.d (.int k) x)) {s : Nat} (e : x = (s : Int)) : ∀ y, OR m X n w ((i, one (int k (s : Int))) :: env) a y := by
  intro y v hv
  cases y with
  | tmp j =>
    simp only [opd, look] at hv
    cases hb : Nat.beq i j with
    | true =>
      rw [hb] at hv
      have := Nat.eq_of_beq_eq_true hb
      subst this
      cases hv
      subst e
      exact AR_one.2 (or1 (hop _) hi)
    | false =>
      rw [hb] at hv
      exact hop (.tmp j) v hv
  | const c => exact hop (.const c) v hv
  | func f => exact hop (.func f) v hv
  | global g => exact hop (.global g) v hv
theorem opTr_ok {I : Nat → Ent T} {R : Type} {fin : AV T → Hp T → Option R} {Φ : St T → Option R} {r : R} (hr : Rel T m X h w) {env : Env T} {a : Act} (hop : ∀ x, OR m X h.length w env a x) {o : Oper} {K : AV T → Hp T → Tr T}
    (hd : dn I fin Φ (opTr P o env h K) = some r) {next : Act → World → Prop} {Q : Exit → Act → World → Prop}
    (hn : ∀ v h' rv m' X' w', dn I fin Φ (K v h') = some r → AR m' X' h'.length w' v rv → Rel T m' X' h' w' → Fr T m X h w m' X' h' w' → next (a.put o.dst rv) w') : o.wp P a w next Q := by
  unfold opTr at hd
  split at hd
  · rename_i z hz
    rcases dn_ite hd with ⟨h1, h2⟩ | ⟨h1, h2⟩
    · obtain ⟨rv, m', X', w', q1, q2, q3, q4⟩ := (opF_ok hr hop hz h1).out
      exact q1.wp (hn _ _ rv m' X' w' h2 q2 q3 q4)
    · cases h2
  · cases hd
theorem evOp_ok {tb : List (FuncId × Fx)} (htb : TbOk P tb) {Fn : (key : Nat) → List (DL T) → Option (HL T.S (fxAt tb key).tout)} (hS : ∀ key, Snd P tb key (Fn key)) (hr : Rel T m X h w) {env : Env T} {a : Act} (hop : ∀ x, OR m X h.length w env a x) {o : Oper} {K : AV T → Hp T → Tr T}
    (hd : dn (fun key => (fxAt tb key).ent (Fn key)) fin Φ (evOp P tb o env h K) = some r) {next : Act → World → Prop} {Q : Exit → Act → World → Prop}
    (hn : ∀ v h' rv m' X' w', dn (fun key => (fxAt tb key).ent (Fn key)) fin Φ (K v h') = some r → AR m' X' h'.length w' v rv → Rel T m' X' h' w' → Fr T m X h w m' X' h' w' → next (a.put o.dst rv) w') : o.wp P a w next Q := by
  unfold evOp at hd
  split at hd
  · rename_i x hx
    have he : o.op = .pick x.1 x.2.1 x.2.2 := by
      unfold isPick at hx
      split at hx
      · rename_i he; cases hx; exact he
      · cases hx
    split at hd
    · rename_i l u v hl hu hv
      have hc := or1 (hop _) hl
      rcases dn_iteL hd with ⟨h1, h2⟩ | ⟨h1, h2⟩
      · have hb := tru_ok h1 hc
        have : (execOp a.eval o).run P w = .ok (.value (a.eval x.2.1)) w := by simp [execOp, he, hb, asBool]
        unfold Oper.wp
        rw [this]
        exact hn _ _ _ m X w h2 (hop _ u hu) hr Fr.refl
      · have hb := fls_ok h1 hc
        have : (execOp a.eval o).run P w = .ok (.value (a.eval x.2.2)) w := by simp [execOp, he, hb, asBool]
        unfold Oper.wp
        rw [this]
        exact hn _ _ _ m X w h2 (hop _ v hv) hr Fr.refl
    · cases hd
  · split at hd
    · rename_i c hc
      split at hd
      · rename_i z hz
        exact call_ok htb hS hr hop hc hz hd hn
      · cases hd
    · split at hd
      · rename_i q hq
        obtain ⟨s', e, hd'⟩ := split_dn _ _ hd
        exact opTr_ok hr (or_split hop (splitOn_some hq) e) hd' hn
      · exact opTr_ok hr hop hd hn
theorem evOpN_ok {tb : List (FuncId × Fx)} (htb : TbOk P tb) {Fn : (key : Nat) → List (DL T) → Option (HL T.S (fxAt tb key).tout)} (hS : ∀ key, Snd P tb key (Fn key)) (hr : Rel T m X h w) {env : Env T} {a : Act} (hop : ∀ x, OR m X h.length w env a x) {o : Oper} {K : AV T → Hp T → Tr T}
    (hd : dn (fun key => (fxAt tb key).ent (Fn key)) fin Φ (evOpN P tb o env h K) = some r) {next : Act → World → Prop} {Q : Exit → Act → World → Prop}
    (hn : ∀ v h' rv m' X' w', dn (fun key => (fxAt tb key).ent (Fn key)) fin Φ (K v h') = some r → AR m' X' h'.length w' v rv → Rel T m' X' h' w' → Fr T m X h w m' X' h' w' → next (a.put o.dst rv) w') : o.wp P a w next Q := by
  unfold evOpN at hd
  split at hd
  · rename_i x hx
    have he : o.op = .next x false := by
      unfold isNext at hx
      split at hx
      · rename_i he; cases hx; exact he
      · cases hx
    split at hd
    · rename_i l hl
      obtain ⟨rv, v, h', w', q1, q2, q3, q4, q5⟩ := next_ok (P := P) hr (or1 (hop x) hl) hd o.type
      have : (execOp a.eval o).run P w = .ok (.value rv) w' := by simp only [execOp, he, Sem.run_bind, q1, Result.andThen_ok, Sem.run_pure]
      unfold Oper.wp
      rw [this]
      exact hn v h' rv m X w' q2 q3 q4 q5
    · cases hd
  · exact evOp_ok htb hS hr hop hd hn
theorem put_env {env : Env T} {a : Act} (he : EnvR m X n w env a) {dst : Option Tmp} {N : Nat} (hN : N ≤ a.tmps.size) (hd : okDst N dst = true) {v : AV T} {rv : Value} (hv : AR m X n w v rv) : EnvR m X n w (Rx.put env dst v) (a.put dst rv) := by
  cases dst with
  | none => exact he
  | some d =>
    have hlt : d < N := Nat.le_of_ble_eq_true (show Nat.ble (d + 1) N = true from hd)
    intro t u hu
    simp only [Rx.put, look] at hu
    simp only [Act.put]
    cases hb : Nat.beq d t with
    | true =>
      rw [hb] at hu
      cases hu
      have := Nat.eq_of_beq_eq_true hb
      subst this
      rw [getD_set _ _ _ _ _ (fun _ => Nat.lt_of_lt_of_le hlt hN), if_pos rfl]
      exact hv
    | false =>
      rw [hb] at hu
      have hne : d ≠ t := Nat.ne_of_beq_eq_false hb
      rw [getD_set _ _ _ _ _ (fun e => absurd e hne), if_neg hne]
      exact he t u hu
theorem put_size (a : Act) (dst : Option Tmp) (v : Value) : (a.put dst v).tmps.size = a.tmps.size ∧ (a.put dst v).defers = a.defers := by
  cases dst <;> simp [Act.put]
theorem yield_ok {env : Env T} {a : Act} (he : EnvR m X n w env a) {ops : Array Oper} {j : Nat} {d : Tmp} {l : Lf T} (hy : yieldOf ops env j = some (d, l)) : LfR m X n w l (a.tmps.getD d undef) ∧ ∀ b, a.tmps.getD d undef = .bool b → yielded ops a.tmps j = some b := by
  unfold yieldOf at hy
  split at hy
  · rename_i o ho
    rw [nth_eq] at ho
    split at hy
    · rename_i d' hd
      split at hy
      · rename_i l' hl
        cases hy
        have h1 := AR_one.1 (he _ _ hl)
        refine ⟨h1, fun b hb => ?_⟩
        have h2 : ops[j]? = some o := by rw [← Array.getElem?_toList]; exact ho
        have h3 : a.tmps[d]? = some (.bool b) := by
          rw [Array.getD_eq_getD_getElem?] at hb
          cases h4 : a.tmps[d]? with
          | none => rw [h4] at hb; cases hb
          | some u => rw [h4] at hb; simp at hb; rw [hb]
        simp only [yielded, h2, Option.bind_some, hd, h3]
      · cases hy
    · cases hy
  · cases hy
theorem left_not {env : Env T} {a : Act} (he : EnvR m X n w env a) {ops : Array Oper} {j : Nat} (hy : leftOf ops env j = true) : yielded ops a.tmps j = none := by
  unfold leftOf at hy
  split at hy
  · rename_i o ho
    rw [nth_eq] at ho
    split at hy
    · rename_i d hd
      split at hy
      · rename_i hl
        obtain ⟨us, h1, h2⟩ := he _ _ hl
        have h2' : ops[j]? = some o := by rw [← Array.getElem?_toList]; exact ho
        have h3 : ∀ b, a.tmps[d]? ≠ some (.bool b) := by
          intro b hb
          rw [Array.getD_eq_getD_getElem?, hb] at h2
          cases h2
        unfold yielded
        rw [h2', Option.bind_some, hd, Option.bind_some]
        split
        · rename_i b hb
          exact absurd hb (h3 b)
        · rfl
      · cases hy
    · cases hy
  · cases hy
theorem lit_env {env : Env T} {a : Act} (he : EnvR m X n w env a) {d : Tmp} {b : Bool} (hb : a.tmps.getD d undef = .bool b) : EnvR m X n w ((d, boolA b) :: env) a := by
  intro t u hu
  simp only [look] at hu
  cases hb' : Nat.beq d t with
  | true =>
    rw [hb'] at hu
    cases hu
    have := Nat.eq_of_beq_eq_true hb'
    subst this
    rw [hb]
    exact AR_one.2 (RD.bool b)
  | false =>
    rw [hb'] at hu
    exact he t u hu
theorem evOps_ok {tb : List (FuncId × Fx)} (htb : TbOk P tb) {Fn : (key : Nat) → List (DL T) → Option (HL T.S (fxAt tb key).tout)} (hS : ∀ key, Snd P tb key (Fn key)) {N : Nat} {ops : Array Oper} {K : Env T → Hp T → Tr T} {Q : Exit → Act → World → Prop} :
    ∀ (l : List Oper) (env : Env T) (h : Hp T) (m : Nat → Value) (X : Nat → Nat → Prop) (a : Act) (w : World), dn (fun key => (fxAt tb key).ent (Fn key)) fin Φ (evOps P tb N ops l env h K) = some r → Rel T m X h w → EnvR m X h.length w env a → N ≤ a.tmps.size →
    (∀ env' h' m' X' a' w', dn (fun key => (fxAt tb key).ent (Fn key)) fin Φ (K env' h') = some r → Rel T m' X' h' w' → EnvR m' X' h'.length w' env' a' → Fr T m X h w m' X' h' w' → N ≤ a'.tmps.size → a'.defers = a.defers → Q .normal a' w') →
    wpList P ops Q l a w
  | [], env, h, m, X, a, w, hd, hr, he, hN, hK => hK env h m X a w hd hr he Fr.refl hN rfl
  | o :: l, env, h, m, X, a, w, hd, hr, he, hN, hK => by
    simp only [evOps] at hd
    cases hok : okDst N o.dst with
    | false => rw [hok] at hd; cases hd
    | true =>
      rw [hok] at hd
      simp only [cond_true] at hd
      -- done
      have done : ∀ env1, EnvR m X h.length w env1 a → dn (fun key => (fxAt tb key).ent (Fn key)) fin Φ (evOpN P tb o env1 h (fun v h' => evOps P tb N ops l (Rx.put env1 o.dst v) h' K)) = some r → o.wp P a w (wpList P ops Q l) Q := by
        intro env1 he1 hd1
        refine evOpN_ok htb hS hr (fun x => he1.or x) hd1 (fun v h' rv m' X' w' hd2 hv hr2 hf => ?_)
        obtain ⟨k1, k2⟩ := put_size a o.dst rv
        refine evOps_ok htb hS l _ h' m' X' _ w' hd2 hr2 (put_env (he1.on hf.on) hN hok hv) (by rw [k1]; exact hN) (fun env' h'' m'' X'' a' w'' q1 q2 q3 q4 q5 q6 => ?_)
        exact hK env' h'' m'' X'' a' w'' q1 q2 q3 (hf.trans q4) q5 (q6.trans k2)
      -- left out
      have left : ∀ env1, EnvR m X h.length w env1 a → dn (fun key => (fxAt tb key).ent (Fn key)) fin Φ (evOps P tb N ops l (Rx.put env1 o.dst (.t [])) h K) = some r → wpList P ops Q l (a.put o.dst undef) w := by
        intro env1 he1 hd1
        obtain ⟨k1, k2⟩ := put_size a o.dst undef
        refine evOps_ok htb hS l _ h m X _ w hd1 hr (put_env he1 hN hok ⟨[], trivial, rfl⟩) (by rw [k1]; exact hN) (fun env' h'' m'' X'' a' w'' q1 q2 q3 q4 q5 q6 => ?_)
        exact hK env' h'' m'' X'' a' w'' q1 q2 q3 q4 q5 (q6.trans k2)
      unfold wpList
      split at hd
      · rename_i hg
        rw [if_pos (by simp [Region.wanted, hg])]
        exact .inl (done env he hd)
      · rename_i j want hg
        split at hd
        · rename_i d lf hy
          obtain ⟨h1, h2⟩ := yield_ok he hy
          cases want with
          | true =>
            simp only [cond_true] at hd
            rcases dn_iteL hd with ⟨h3, h4⟩ | ⟨h3, h4⟩
            · have hb := tru_ok h3 h1
              rw [if_pos (by simp [Region.wanted, hg, h2 _ hb])]
              exact .inl (done _ (lit_env he hb) h4)
            · have hb := fls_ok h3 h1
              rw [if_neg (by simp [Region.wanted, hg, h2 _ hb])]
              exact left _ (lit_env he hb) h4
          | false =>
            simp only [cond_false] at hd
            rcases dn_iteL hd with ⟨h3, h4⟩ | ⟨h3, h4⟩
            · have hb := tru_ok h3 h1
              rw [if_neg (by simp [Region.wanted, hg, h2 _ hb])]
              exact left _ (lit_env he hb) h4
            · have hb := fls_ok h3 h1
              rw [if_pos (by simp [Region.wanted, hg, h2 _ hb])]
              exact .inl (done _ (lit_env he hb) h4)
        · cases hlf : leftOf ops env j with
          | true =>
            rw [hlf] at hd
            rw [if_neg (by simp [Region.wanted, hg, left_not he hlf])]
            exact left env he hd
          | false => rw [hlf] at hd; cases hd
end
end Go.Proofs.Ytfojcadooepgpaa.Rx
