/- A plain evaluator over the translated code: structs are compared. Under no condition. -/
import Derived.Test.YtfojcadooepgpaaRxW
import Derived.Laws.StructEq
set_option linter.unusedVariables false
set_option linter.unusedSimpArgs false
namespace Go.Proofs.Ytfojcadooepgpaa.Rx
open Go Go.RowKit

section
variable {T : Tab} {m : Nat → Value} {X : Nat → Nat → Prop} {n : Nat} {w : World} {P : Program}
theorem dec_beq {α : Type} [BEq α] [LawfulBEq α] (a b : α) (i : Decidable (a = b)) : (a == b) = @decide (a = b) i := by
  by_cases h : a = b
  · simp [h]
  · simp [h]
theorem eqFs_ok {d : Nat} (hf : ∀ {t : TypeId} {x y : V T} {q : PD} {u v : Value}, eqV P d t x y = some q → VR m X n w x u → VR m X n w y v → (Op.equalIn d t u v).run P w = .ok (@decide q.p q.i) w) {ls rs : List (Lf T)} {us vs : List Value} (h1 : All2 (LfR m X n w) ls us) (h2 : All2 (LfR m X n w) rs vs) :
    ∀ {fl : List Field} {q : PD}, eqFs P (eqV P d) ls rs fl = some q → (Op.eqFields d us.toArray vs.toArray fl).run P w = .ok (@decide q.p q.i) w
  | [], q, h => by cases h; rfl
  | fd :: r, q, h => by
    simp only [eqFs] at h
    cases hb : (fd.name == "_") with
    | true => rw [hb] at h; cases h
    | false =>
      rw [hb] at h
      simp only [cond_false] at h
      have hne : fd.name ≠ "_" := by simpa using hb
      split at h
      · rename_i a b ha hb'
        split at h
        · rename_i p q' hp hq
          cases h
          obtain ⟨u, q1, q2⟩ := part_ok (P := P) ha h1
          obtain ⟨v, q3, q4⟩ := part_ok (P := P) hb' h2
          have h5 := hf hp q2 q4
          have h6 := eqFs_ok hf h1 h2 hq
          unfold Op.eqFields
          rw [if_pos hne]
          simp only [Sem.run_bind, q1, q3, h5, Result.andThen_ok]
          obtain ⟨p, ip⟩ := p
          obtain ⟨q', iq⟩ := q'
          by_cases hpp : p
          · have e1 : @decide p ip = true := by simp [hpp]
            simp only [e1, Bool.not_true, Bool.false_eq_true, if_false, h6]
            congr 1
            simp [hpp]
          · have e1 : @decide p ip = false := by simp [hpp]
            simp only [e1, Bool.not_false, if_true, Sem.run_pure]
            congr 1
            simp [hpp]
        · cases h
      · cases h
theorem eqV_ok : ∀ (d : Nat) {t : TypeId} {x y : V T} {q : PD} {u v : Value}, eqV P d t x y = some q → VR m X n w x u → VR m X n w y v → (Op.equalIn d t u v).run P w = .ok (@decide q.p q.i) w
  | 0, t, x, y, q, u, v, h, hx, hy => by cases h
  | d + 1, t, x, y, q, u, v, h, hx, hy => by
    unfold eqV at h
    split at h
    · rename_i fs hu
      cases hb : ((!(P.stoodInHeld t)) && (x.1 && y.1)) with
      | false => rw [hb] at h; cases h
      | true =>
        rw [hb] at h
        simp only [cond_true] at h
        simp only [Bool.and_eq_true, Bool.not_eq_true'] at hb
        obtain ⟨us, q1, q2⟩ := hx
        obtain ⟨vs, q3, q4⟩ := hy
        rw [if_pos hb.2.1] at q2
        rw [if_pos hb.2.2] at q4
        subst q2
        subst q4
        have hfo : P.fieldsOf t = fs := by simp [Program.fieldsOf, hu]
        rw [run_equalIn_struct w d t _ _ (by rw [hfo]; exact hu) hb.1, hfo]
        exact eqFs_ok (fun h1 h2 h3 => eqV_ok d h1 h2 h3) q1 q3 h
    · rename_i k hu
      split at h
      · rename_i l r
        split at h
        · rename_i a b ha hb
          have := isInt_some ha
          subst this
          have := isInt_some hb
          subst this
          rw [lf_int (VR_one.1 hx), lf_int (VR_one.1 hy)]
          simp only [eqLf, isInt] at h
          split at h
          · rename_i hk _
            cases h
            simp only at hk
            rw [hk]
            rw [run_equalIn_int w d t b.1 k a.2 b.2 hu]
            congr 1 <;> exact dec_beq _ _ _
          · cases h
        · cases h
      · cases h
    · rename_i hu
      split at h
      · rename_i l r
        split at h
        · rename_i a b ha hb
          have := isStr_some ha
          subst this
          have := isStr_some hb
          subst this
          rw [lf_str (VR_one.1 hx), lf_str (VR_one.1 hy)]
          simp only [eqLf, isInt, isStr] at h
          cases h
          rw [run_equalIn_string w d t a b hu, beqL]
          first | done | rfl
        · cases h
      · cases h
    · rename_i hu
      split at h
      · rename_i l r
        split at h
        · rename_i a b ha hb
          have e1 := asB_some ha (VR_one.1 hx)
          have e2 := asB_some hb (VR_one.1 hy)
          rw [e1, e2]
          have hq : eqLf l r = some (⟨a = b, instDecidableEqBool a b⟩ : PD) := by
            have hi : ∀ {l : Lf T} {a : Bool}, asB l = some a → isInt l = none ∧ isStr l = none := by
              intro l a hl
              unfold asB at hl
              split at hl <;> cases hl <;> exact ⟨rfl, rfl⟩
            unfold eqLf
            rw [(hi ha).1, (hi ha).2]
            simp only [ha, hb]
          rw [hq] at h
          cases h
          rw [run_equalIn_bool' w d t a b hu]
          congr 1 <;> exact dec_beq _ _ _
        · cases h
      · cases h
    · cases h
theorem eqF_ok {op : BinOp} {t : TypeId} {x y : V T} {c : CL T} (h : eqF P op t x y = some c) {u v : Value} (hx : VR m X n w x u) (hy : VR m X n w y v) (xo yo : Operand) :
    ∃ rv, (do eqGuard op t xo yo u v; binOp op t u v : Sem Value).run P w = .ok rv w ∧ LfR m X n w c.l rv := by
  unfold eqF at h
  cases hb : (P.eqGuardType P.depth t || !(x.1 && y.1)) with
  | true => rw [hb] at h; cases h
  | false =>
    rw [hb] at h
    simp only [cond_false] at h
    simp only [Bool.or_eq_false_iff, Bool.not_eq_false', Bool.and_eq_true] at hb
    split at h
    · rename_i q hq
      have h1 := eqV_ok 10000 hq hx hy
      obtain ⟨us, q1, q2⟩ := hx
      obtain ⟨vs, q3, q4⟩ := hy
      rw [if_pos hb.2.1] at q2
      rw [if_pos hb.2.2] at q4
      subst q2
      subst q4
      simp only [Sem.run_bind, run_eqGuard_agg w op t xo yo _ _ hb.1, Result.andThen_ok]
      split at h
      · cases h
        exact ⟨_, by rw [run_eql_struct, h1]; rfl, rfl⟩
      · cases h
        refine ⟨_, by rw [run_neq_struct, h1]; rfl, ?_⟩
        show Value.bool _ = Value.bool _
        obtain ⟨p, ip⟩ := q
        by_cases hp : p <;> simp [hp]
      · cases h
    · cases h
end
end Go.Proofs.Ytfojcadooepgpaa.Rx
