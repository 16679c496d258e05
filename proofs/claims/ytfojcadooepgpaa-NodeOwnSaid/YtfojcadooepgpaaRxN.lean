/- A plain evaluator over the translated code: what a function answers is what the machine's call brings. Under no condition. -/
import Derived.Test.YtfojcadooepgpaaRxM
set_option linter.unusedVariables false
set_option linter.unusedSimpArgs false
namespace Go.Proofs.Ytfojcadooepgpaa.Rx
open Go Go.RowKit

section
variable {T : Tab} {P : Program} {tb : List (FuncId × Fx)} {m : Nat → Value} {X : Nat → Nat → Prop} {n : Nat} {w : World}
theorem enum_ok : ∀ {as : List (AV T)} {rs : List Value} (k : Nat), All2 (AR m X n w) as rs → ∀ t v, look (enum k as) t = some v → ∃ j r, t = k + j ∧ rs[j]? = some r ∧ AR m X n w v r
  | [], _, k, _, t, v, hl => by cases hl
  | a :: as, [], k, h, t, v, hl => h.elim
  | a :: as, r :: rs, k, h, t, v, hl => by
    simp only [enum, look] at hl
    cases hb : Nat.beq k t with
    | true =>
      rw [hb] at hl
      cases hl
      exact ⟨0, r, (Nat.eq_of_beq_eq_true hb).symm, rfl, h.1⟩
    | false =>
      rw [hb] at hl
      obtain ⟨j, r', h1, h2, h3⟩ := enum_ok (k + 1) h.2 t v hl
      exact ⟨j + 1, r', by omega, h2, h3⟩
/-- The functions have bodies. -/
def hasBody (P : Program) (f : FuncId) : Bool := match P.funcs[f]? with | some fn => fn.body.isSome && !(fn.name == "runtime.NumGoroutine") | none => false
theorem enter_of {f : FuncId} (h : hasBody P f = true) : Enter P f := by
  unfold hasBody at h
  split at h
  · rename_i fn hf
    simp only [Bool.and_eq_true, Bool.not_eq_true'] at h
    intro args w
    obtain ⟨c, hc⟩ := Option.isSome_iff_exists.1 h.1
    have hp : (program : Sem Program).run P w = .ok P w := rfl
    unfold callFunc
    rw [Sem.run_bind, hp]
    simp [hf, h.2, hc]
    rintro e
    rw [e] at h
    cases h.2
  · cases h
def tbAll (P : Program) : List (FuncId × Fx) → Bool | [] => true | x :: r => bif hasBody P x.1 then tbAll P r else false
theorem tbAll_ok : ∀ {tb : List (FuncId × Fx)}, tbAll P tb = true → ∀ key row, nth tb key = some row → hasBody P row.1 = true
  | [], _, key, row, h => by cases key <;> cases h
  | x :: r, ha, key, row, h => by
    simp only [tbAll] at ha
    cases hb : hasBody P x.1 with
    | false => rw [hb] at ha; cases ha
    | true =>
      rw [hb] at ha
      cases key with
      | zero => cases h; exact hb
      | succ key => exact tbAll_ok ha key row h
theorem tbOk_of (h : tbAll P tb = true) : TbOk P tb := fun key row hr => enter_of (tbAll_ok h key row hr)
theorem body_ok (htb : TbOk P tb) {Fn : (key : Nat) → List (DL T) → Option (HL T.S (fxAt tb key).tout)} (hS : ∀ key, Snd P tb key (Fn key)) (key : Nat) : Snd P tb key (body P tb (fun key => (fxAt tb key).ent (Fn key)) key) := by
  intro row hrow ds y hy as h v1 h1 ht hbk m X w rargs hr hargs
  unfold body at hy
  split at hy
  · rename_i fn hfn
    have hf : P.funcs[row.1]? = some fn := by
      unfold fnAt at hfn
      rw [hrow] at hfn
      exact hfn
    split at hy
    · rename_i c hc
      split at hy
      · rename_i s hs
        have hst : s = ⟨[.c c], enum 0 as, h⟩ := by
          unfold start at hs
          rw [take_give ht] at hs
          cases hs
          rfl
        subst hst
        obtain ⟨k, hk⟩ := (lim_some (go_inc (ent_self Fn) _)).1 hy
        have hl0 : h.length = (fxAt tb key).hin.length := by
          unfold Fx.take at ht
          split at ht
          · split at ht
            · split at ht
              · rename_i l' hl'
                exact flatO_len hl'
              · cases ht
            · cases ht
          · cases ht
        let a : Act := { tmps := rargs.toArray ++ Array.replicate (fn.ntmps - rargs.toArray.size) undef, defers := [] }
        have henv : EnvR m X h.length w (enum 0 as) a := by
          intro t v hv
          obtain ⟨j, r, rfl, h2, h3⟩ := enum_ok 0 hargs t v hv
          have hj : j < rargs.length := (List.getElem?_eq_some_iff.1 h2).1
          have : a.tmps.getD (0 + j) undef = r := by
            rw [Nat.zero_add, Array.getD_eq_getD_getElem?]
            simp only [a]
            rw [Array.getElem?_append_left (by simpa using hj)]
            simp [h2]
          rw [this]
          exact h3
        have hN : fn.ntmps ≤ a.tmps.size := by simp [a]; omega
        have hgo := go_ok (m0 := m) (X0 := X) (h0 := h) (w0 := w) htb hS hl0 k _ hk m X a w hr henv Fr.refl hN rfl
        intro cs
        obtain ⟨a', w', todo', ⟨hd, rv, v, g, m', X', q1, q2, q3, q4, q5⟩, hsteps⟩ := hgo { (default : Frame) with fn := row.1, kind := .normal } cs
        have henter : Frame.enter P row.1 rargs.toArray .normal = ({ (default : Frame) with fn := row.1, kind := .normal } : Frame).at a [.code c] := by
          simp [Frame.enter, Frame.at, hf, hc, a]
        have hvb := fin_back q2
        rw [hbk] at hvb
        cases hvb
        rw [henter]
        exact ⟨.returned rv, w', _, ⟨rv, m', X', rfl, q3, q4, q5⟩, hsteps, rfl, rfl, hd, rfl, fn, hf, q1⟩
      · cases hy
    · cases hy
  · cases hy
variable {G : Giv T tb}
theorem Fk_ok (htb : TbOk P tb) (hG : ∀ key g, G key = some g → Snd P tb key g) : ∀ n key, Snd P tb key (Fk P tb G n key)
  | 0, key => by intro row hrow ds y hy; cases hy
  | n + 1, key => by
    intro row hrow ds y hy
    simp only [Fk] at hy
    split at hy
    · rename_i g hg
      exact hG key g hg row hrow ds y hy
    · exact body_ok htb (Fk_ok htb hG n) key row hrow ds y hy
/-- ████ What a function answers is what the machine's call brings. ████ -/
theorem F_ok (htb : TbOk P tb) (hG : ∀ key g, G key = some g → Snd P tb key g) (key : Nat) : Snd P tb key (F P tb G key) := by
  intro row hrow ds y hy
  obtain ⟨n, hn⟩ := (lim_some (Fk_inc key ds)).1 hy
  exact Fk_ok htb hG n key row hrow ds y hn
end
end Go.Proofs.Ytfojcadooepgpaa.Rx
