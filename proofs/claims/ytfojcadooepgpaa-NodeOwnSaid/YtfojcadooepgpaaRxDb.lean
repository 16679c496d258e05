/- A plain evaluator over the translated code: one operation's answer, apart from what follows. Under no condition. -/
import Derived.Test.YtfojcadooepgpaaRxK
import Derived.Test.YtfojcadooepgpaaRxDa
set_option linter.unusedVariables false
set_option linter.unusedSimpArgs false
namespace Go.Proofs.Ytfojcadooepgpaa.Rx
open Go Go.RowKit

section
variable {T : Tab} {m m' : Nat → Value} {X X' : Nat → Nat → Prop} {n n' : Nat} {w w' : World} {P : Program} {h h' : Hp T}
variable {tb : List (FuncId × Fx)} {Fn : (key : Nat) → List (DL T) → Option (HL T.S (fxAt tb key).tout)} {R : Type} {fin : AV T → Hp T → Option R} {Φ : St T → Option R} {r : R}
/-- What an operation answers: a value, a memory. -/
noncomputable def ans (P : Program) (tb : List (FuncId × Fx)) (Fn : (key : Nat) → List (DL T) → Option (HL T.S (fxAt tb key).tout)) (o : Oper) (env : Env T) (h : Hp T) : Option (AV T × Hp T) :=
  dn (fun key => (fxAt tb key).ent (Fn key)) (fun v g => some (v, g)) (fun _ => none) (evOp P tb o env h .done)
theorem dn_tru {I : Nat → Ent T} {l : Lf T} {a b : Tr T} (ht : Tru l) : dn I fin Φ (iteL l a b) = dn I fin Φ a := by
  cases l with
  | b p i => exact if_pos ht
  | d t x => cases t with
    | bool => exact if_pos ht
    | int _ => exact ht.elim
    | str => exact ht.elim
    | sl _ _ => exact ht.elim
    | st _ => exact ht.elim
    | mp _ _ => exact ht.elim
    | it => exact ht.elim
  | _ => exact ht.elim
theorem dn_fls {I : Nat → Ent T} {l : Lf T} {a b : Tr T} (ht : Fls l) : dn I fin Φ (iteL l a b) = dn I fin Φ b := by
  cases l with
  | b p i => exact if_neg ht
  | d t x => cases t with
    | bool =>
      have h1 : x = false := ht
      exact if_neg (by rw [h1]; simp)
    | int _ => exact ht.elim
    | str => exact ht.elim
    | sl _ _ => exact ht.elim
    | st _ => exact ht.elim
    | mp _ _ => exact ht.elim
    | it => exact ht.elim
  | _ => exact ht.elim
theorem opTr_bind {I : Nat → Ent T} {o : Oper} {env : Env T} {K : AV T → Hp T → Tr T} (hd : dn I fin Φ (opTr P o env h K) = some r) :
    ∃ v g, dn I (fun v g => some (v, g)) (fun _ => none) (opTr P o env h .done) = some (v, g) ∧ dn I fin Φ (K v g) = some r := by
  unfold opTr at hd ⊢
  split at hd
  · rename_i z hz
    rcases dn_ite hd with ⟨h1, h2⟩ | ⟨h1, h2⟩
    · refine ⟨z.v, z.h, ?_, h2⟩
      simp only [dn]
      rw [if_pos h1]
    · cases h2
  · cases hd
theorem split_bind {I : Nat → Ent T} {o : Oper} {env : Env T} {K : AV T → Hp T → Tr T} {i : Tmp} {k : IntKind} {x : Int} : ∀ (m s : Nat), dn I fin Φ (splitTr P o env h K i k x s m) = some r →
    ∃ v g, dn I (fun v g => some (v, g)) (fun _ => none) (splitTr P o env h .done i k x s m) = some (v, g) ∧ dn I fin Φ (K v g) = some r
  | 0, s, hd => by cases hd
  | m + 1, s, hd => by
    unfold splitTr at hd ⊢
    rcases dn_ite hd with ⟨h1, h2⟩ | ⟨h1, h2⟩
    · obtain ⟨v, g, q1, q2⟩ := opTr_bind h2
      refine ⟨v, g, ?_, q2⟩
      simp only [dn]
      rw [if_pos h1]
      exact q1
    · obtain ⟨v, g, q1, q2⟩ := split_bind m (s + 1) h2
      refine ⟨v, g, ?_, q2⟩
      simp only [dn]
      rw [if_neg h1]
      exact q1
theorem evOp_bind {o : Oper} {env : Env T} {K : AV T → Hp T → Tr T} (hd : dn (fun key => (fxAt tb key).ent (Fn key)) fin Φ (evOp P tb o env h K) = some r) :
    ∃ v g, ans P tb Fn o env h = some (v, g) ∧ dn (fun key => (fxAt tb key).ent (Fn key)) fin Φ (K v g) = some r := by
  unfold ans
  unfold evOp at hd ⊢
  split at hd
  · rename_i x hx
    split at hd
    · rename_i l u v hl hu hv
      rcases dn_iteL hd with ⟨h1, h2⟩ | ⟨h1, h2⟩
      · exact ⟨u, h, by simp only [dn_tru h1]; rfl, h2⟩
      · exact ⟨v, h, by simp only [dn_fls h1]; rfl, h2⟩
    · cases hd
  · split at hd
    · rename_i c hc
      split at hd
      · rename_i z hz
        simp only [Cal.tr, dn, ent_eq] at hd ⊢
        split at hd
        · rename_i ds hds
          obtain ⟨y, hy, hd⟩ := Option.bind_eq_some_iff.1 hd
          split at hd
          · rename_i zz hb
            refine ⟨_, _, ?_, hd⟩
            simp only [hds, hy, Option.bind_some, hb]
          · cases hd
        · cases hd
      · cases hd
    · split at hd
      · exact split_bind _ _ hd
      · exact opTr_bind hd
theorem ans_ok (htb : TbOk P tb) (hS : ∀ key, Snd P tb key (Fn key)) (hr : Rel T m X h w) {env : Env T} {a : Act} (hop : ∀ x, OR m X h.length w env a x) {o : Oper} {v : AV T} {g : Hp T} (ha : ans P tb Fn o env h = some (v, g)) {next : Act → World → Prop} {Q : Exit → Act → World → Prop}
    (hn : ∀ rv m' X' w', AR m' X' g.length w' v rv → Rel T m' X' g w' → Fr T m X h w m' X' g w' → next (a.put o.dst rv) w') : o.wp P a w next Q := by
  refine evOp_ok htb hS hr hop ha (fun v' h' rv m' X' w' he h1 h2 h3 => ?_)
  cases he
  exact hn rv m' X' w' h1 h2 h3
theorem opTr_calm {I : Nat → Ent T} (hr : Rel T m X h w) {env : Env T} {a : Act} (hop : ∀ x, OR m X h.length w env a x) {o : Oper} {v : AV T} {g : Hp T} (ha : dn I (fun v g => some (v, g)) (fun _ => none) (opTr P o env h .done) = some (v, g)) (hq : quietO o.op = true) (hsl : (∀ t x lo hi mx, o.op = .slice t x lo hi mx → h = []) ∧ ∀ t x i ok, o.op = .lookup t x i ok → h.length ≤ 1) : Calm T P o a m X h.length w v := by
  unfold opTr at ha
  split at ha
  · rename_i z hz
    rcases dn_ite ha with ⟨h1, h2⟩ | ⟨h1, h2⟩
    · cases h2
      exact opF_calm hr hop hz h1 hq hsl
    · cases h2
  · cases ha
theorem ans_calm (hr : Rel T m X h w) {env : Env T} {a : Act} (hop : ∀ x, OR m X h.length w env a x) {o : Oper} {v : AV T} {g : Hp T} (ha : ans P tb Fn o env h = some (v, g)) (hq : quietO o.op = true) (hsl : (∀ t x lo hi mx, o.op = .slice t x lo hi mx → h = []) ∧ ∀ t x i ok, o.op = .lookup t x i ok → h.length ≤ 1) : Calm T P o a m X h.length w v := by
  unfold ans at ha
  unfold evOp at ha
  split at ha
  · rename_i x hx
    have he : o.op = .pick x.1 x.2.1 x.2.2 := by
      unfold isPick at hx
      split at hx
      · rename_i he; cases hx; exact he
      · cases hx
    split at ha
    · rename_i l u v' hl hu hv
      have hc := or1 (hop _) hl
      rcases dn_iteL ha with ⟨h1, h2⟩ | ⟨h1, h2⟩
      · cases h2
        have hb := tru_ok h1 hc
        exact ⟨a.eval x.2.1, by simp [execOp, he, hb, asBool], hop _ _ hu⟩
      · cases h2
        have hb := fls_ok h1 hc
        exact ⟨a.eval x.2.2, by simp [execOp, he, hb, asBool], hop _ _ hv⟩
    · cases ha
  · split at ha
    · rename_i c hc
      unfold isCal at hc
      split at hc
      · rename_i c' he
        split at hc
        · rename_i f hf
          rw [he] at hq
          simp [quietO, hf] at hq
        · cases hc
      · cases hc
    · split at ha
      · rename_i q hq'
        obtain ⟨s', e, hd⟩ := split_dn _ _ ha
        exact opTr_calm hr (or_split hop (splitOn_some hq') e) hd hq hsl
      · exact opTr_calm hr hop ha hq hsl
end
end Go.Proofs.Ytfojcadooepgpaa.Rx
