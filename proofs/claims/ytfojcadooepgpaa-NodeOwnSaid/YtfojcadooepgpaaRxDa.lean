/- A plain evaluator over the translated code: operations that turn nothing. Under no condition. -/
import Derived.Test.YtfojcadooepgpaaRxJ
set_option linter.unusedVariables false
set_option linter.unusedSimpArgs false
namespace Go.Proofs.Ytfojcadooepgpaa.Rx
open Go Go.RowKit

section
variable {T : Tab} {m m' : Nat → Value} {X X' : Nat → Nat → Prop} {n n' : Nat} {w w' : World} {P : Program} {h h' : Hp T}
/-- The operation yields a value, the world stays. -/
def Calm (T : Tab) (P : Program) (o : Oper) (a : Act) (m : Nat → Value) (X : Nat → Nat → Prop) (n : Nat) (w : World) (v : AV T) : Prop := ∃ rv, (execOp a.eval o).run P w = .ok (.value rv) w ∧ AR m X n w v rv
theorem calm_pure {o : Oper} {a : Act} {v : AV T} {rv : Value} (hx : (execOp a.eval o).run P w = .ok (.value rv) w) (ha : AR m X n w v rv) : Calm T P o a m X n w v := ⟨rv, hx, ha⟩
theorem calm_v {o : Oper} {a : Act} {v : AV T} {rv : Value} {s : Sem Value} (he : execOp a.eval o = (do pure (.value (← s)))) (hs : s.run P w = .ok rv w) (ha : AR m X n w v rv) : Calm T P o a m X n w v :=
  ⟨rv, by rw [he]; simp only [Sem.run_bind, hs, Result.andThen_ok, Sem.run_pure], ha⟩
def quietO : Op → Bool
  | .move _ | .assign _ | .pick .. | .load .. | .fieldAddr .. | .field .. | .indexAddr .. | .index .. | .extract .. | .binOp .. | .unOp .. | .nilCheck _ | .build .. | .makeFunc .. | .convert .. | .slice .. | .lookup .. => true
  | .call c => (match c.callee with | .builtin .len => true | .builtin .max => true | .builtin .min => true | _ => false)
  | _ => false
theorem co_calm {e : TypeId} {ty : Ty} {l : Lf T} {l' : Lf T} {h1 : Hp T} (hc : coL (.d (.sl e ty)) l ([] : Hp T) = some (l', h1)) {v : Value} (hv : LfR m X n w l v) : LfR m X n w l' v := by
  cases l with
  | d t' x =>
    simp only [coL] at hc
    split at hc
    · cases hc; exact hv
    · cases hc
  | n =>
    simp only [coL] at hc
    cases hc
    rw [show v = _ from hv]
    exact RD.nil _ _ _ _
  | g i => simp [coL, nth] at hc
  | y i k => cases k <;> simp [coL, nth] at hc
  | _ => simp [coL] at hc
theorem slice_calm (hn : h = []) {t : TypeId} {x : Lf T} {lo hi : Option (Option (Lf T))} {z : Res T} (hx : sliceF P t x lo hi h = some z) (hp : z.p) {v : Value} (hv : LfR m X h.length w x v) {vlo vhi : Option Value}
    (hlo : ∀ l, lo = some (some l) → ∃ u, vlo = some u ∧ LfR m X h.length w l u) (hlo' : lo = none → vlo = none) (hhi : ∀ l, hi = some (some l) → ∃ u, vhi = some u ∧ LfR m X h.length w l u) (hhi' : hi = none → vhi = none) :
    ∃ rv, (Instr.sliceAt t v vlo vhi none).run P w = .ok rv w ∧ AR m X h.length w z.v rv := by
  subst hn
  unfold sliceF at hx
  split at hx
  · rename_i hu
    split at hx
    · rename_i s hs
      have := isStr_some hs
      subst this
      rw [lf_str hv]
      split at hx
      · rename_i l u hl1 hu1
        cases hx
        obtain ⟨h0, h1, h2⟩ : 0 ≤ l ∧ l ≤ u ∧ u ≤ (s.size : Int) := hp
        refine ⟨.string (s.extract l.toNat u.toNat), ?_, AR_one.2 (RD.str _)⟩
        have hb := run_bounds (P := P) (isS := false) (len := s.size) (cap := s.size) (bound_some hl1 hlo hlo') (bound_some hu1 hhi hhi') h0 h1 h2 w
        rw [run_sliceAt_string w t _ _ _ _ hu]
        simp [Instr.slice, run_underlying hu, hb]
      · cases hx
    · cases hx
  · rename_i e hu
    split at hx
    · rename_i ty sz hty hsz
      cases hb : Nat.beq sz (flat T ty).length with
      | false => rw [hb] at hx; cases hx
      | true =>
        rw [hb] at hx
        simp only [cond_true] at hx
        have e1 := Nat.eq_of_beq_eq_true hb
        split at hx
        · rename_i t' xs h1 hco
          have r2 := co_calm hco hv
          split at hx
          · rename_i ys hys
            have hl2 : (fun d : DL T => LfR m X ([] : Hp T).length w (.d d.1 d.2) v) ⟨t', xs⟩ := r2
            rw [asRow_some hys] at hl2
            split at hx
            · rename_i l u hl1 hu1
              cases hx
              obtain ⟨h0, h3, h4⟩ : 0 ≤ l ∧ l ≤ u ∧ u ≤ (ys.length : Int) := hp
              have hsl : SlInv T w X ty ys v := RD.inv hl2
              obtain ⟨A, c, rfl, hc, h5⟩ := hsl
              have hb := run_bounds (P := P) (isS := true) (len := ys.length) (cap := c) (bound_some hl1 hlo hlo') (bound_some hu1 hhi hhi') h0 h3 (by omega) w
              obtain ⟨hu', he'⟩ := elem_of hu
              refine ⟨.slice (if c = l.toNat then A else A.map (·.add (l.toNat * sz))) (u.toNat - l.toNat) (c - l.toNat), ?_, AR_one.2 ?_⟩
              · rw [run_sliceAt_slice w t _ _ _ _ hu']
                simp [Instr.slice, run_underlying hu, hb, run_sizeOf' hsz]
              · have hlen : (subL ys l u).length = u.toNat - l.toNat := by
                  unfold subL
                  rw [List.length_drop, List.length_take]
                  omega
                have key : RD T w X (.sl e ty) (subL ys l u) (.slice (if c = l.toNat then A else A.map (·.add (l.toNat * sz))) (subL ys l u).length (c - l.toNat)) := by
                  refine RD.mk (by rw [hlen]; omega) ?_
                  by_cases hz : (subL ys l u).length = 0
                  · exact .inl hz
                  · rcases h5 with h5 | ⟨b, o, rfl, vs, h5⟩
                    · omega
                    · refine .inr ⟨b, o + l.toNat * sz, ?_, fun i j => vs (i + l.toNat) j, fun i x j d hi hd => ?_⟩
                      · rw [if_neg (by omega)]
                        simp [Addr.add_mid]
                      · unfold subL at hi
                        rw [List.getElem?_drop, List.getElem?_take] at hi
                        split at hi
                        · rw [Nat.add_comm l.toNat i] at hi
                          have := h5 _ x j d hi hd
                          rw [Nat.add_mul] at this
                          have e2 : o + l.toNat * sz + (i * (flat T ty).length + j) = o + (i * (flat T ty).length + l.toNat * (flat T ty).length + j) := by rw [e1]; omega
                          rw [e2]
                          exact this
                        · cases hi
                rw [hlen] at key
                exact key
            · cases hx
          · cases hx
        · cases hx
    · cases hx
  · cases hx

theorem slice3_calm (hn : h = []) {t : TypeId} {x : Lf T} {lo : Option (Option (Lf T))} {hi mx : Option (Lf T)} {z : Res T} (hx : slice3F P t x lo hi mx h = some z) (hp : z.p) {v : Value} (hv : LfR m X h.length w x v) {vlo : Option Value} {vhi vmx : Value}
    (hlo : ∀ l, lo = some (some l) → ∃ u, vlo = some u ∧ LfR m X h.length w l u) (hlo' : lo = none → vlo = none) (hhi : ∀ l, hi = some l → LfR m X h.length w l vhi) (hmx : ∀ l, mx = some l → LfR m X h.length w l vmx) :
    ∃ rv, (Instr.sliceAt t v vlo (some vhi) (some vmx)).run P w = .ok rv w ∧ AR m X h.length w z.v rv := by
  subst hn
  unfold slice3F at hx
  split at hx
  · unfold sliceYF at hx
    simp [nth] at hx
  split at hx
  · rename_i e hu
    split at hx
    · rename_i ty sz hty hsz
      cases hb : Nat.beq sz (flat T ty).length with
      | false => rw [hb] at hx; cases hx
      | true =>
        rw [hb] at hx
        simp only [cond_true] at hx
        have e1 := Nat.eq_of_beq_eq_true hb
        split at hx
        · rename_i t' xs h1 hco
          have r2 := co_calm hco hv
          split at hx
          · rename_i ys hys
            have hl2 : (fun d : DL T => LfR m X ([] : Hp T).length w (.d d.1 d.2) v) ⟨t', xs⟩ := r2
            rw [asRow_some hys] at hl2
            split at hx
            · rename_i l u q hl1 hu1 hq1
              cases hx
              obtain ⟨h0, h3, h6, h4⟩ : 0 ≤ l ∧ l ≤ u ∧ u ≤ q ∧ q ≤ (ys.length : Int) := hp
              obtain ⟨ku, eku⟩ := bound_one hu1 hhi
              obtain ⟨kq, ekq⟩ := bound_one hq1 hmx
              subst eku ekq
              have hsl : SlInv T w X ty ys v := RD.inv hl2
              obtain ⟨A, c, rfl, hc, h5⟩ := hsl
              have hb := run_bounds3 (P := P) (len := ys.length) (cap := c) (k := ku) (k' := kq) (bound_some hl1 hlo hlo') h0 h3 h6 (by omega) w
              obtain ⟨hu', he'⟩ := elem_of hu
              refine ⟨.slice (if q.toNat = l.toNat then A else A.map (·.add (l.toNat * sz))) (u.toNat - l.toNat) (q.toNat - l.toNat), ?_, AR_one.2 ?_⟩
              · rw [run_sliceAt_slice w t _ _ _ _ hu']
                simp [Instr.slice, run_underlying hu, hb, run_sizeOf' hsz]
              · have hlen : (subL ys l u).length = u.toNat - l.toNat := by
                  unfold subL
                  rw [List.length_drop, List.length_take]
                  omega
                have key : RD T w X (.sl e ty) (subL ys l u) (.slice (if q.toNat = l.toNat then A else A.map (·.add (l.toNat * sz))) (subL ys l u).length (q.toNat - l.toNat)) := by
                  refine RD.mk (by rw [hlen]; omega) ?_
                  by_cases hz : (subL ys l u).length = 0
                  · exact .inl hz
                  · rcases h5 with h5 | ⟨b, o, rfl, vs, h5⟩
                    · omega
                    · refine .inr ⟨b, o + l.toNat * sz, ?_, fun i j => vs (i + l.toNat) j, fun i x j d hi hd => ?_⟩
                      · rw [if_neg (by omega)]
                        simp [Addr.add_mid]
                      · unfold subL at hi
                        rw [List.getElem?_drop, List.getElem?_take] at hi
                        split at hi
                        · rw [Nat.add_comm l.toNat i] at hi
                          have := h5 _ x j d hi hd
                          rw [Nat.add_mul] at this
                          have e2 : o + l.toNat * sz + (i * (flat T ty).length + j) = o + (i * (flat T ty).length + l.toNat * (flat T ty).length + j) := by rw [e1]; omega
                          rw [e2]
                          exact this
                        · cases hi
                rw [hlen] at key
                exact key
            · cases hx
          · cases hx
        · cases hx
    · cases hx
  · cases hx

/- ### conversions -/
theorem built_calm (hr : Rel T m X h w) {env : Env T} {a : Act} (hop : ∀ x, OR m X h.length w env a x) {b : Builtin} {ts : Array TypeId} {ty : TypeId} {as : Array Operand} {consts : Array Bool} {z : Res T} (hb : b ≠ .append) (hb2 : b ≠ .delete) (hz : builtF P b ts.toList env as.toList h = some z) (hp : z.p) :
    ∃ rv, (builtin b ts ty consts (as.map a.eval)).run P w = .ok (.value rv) w ∧ AR m X h.length w z.v rv := by
  unfold builtF at hz
  split at hz
  · rename_i t x ht hx
    have e1 : ts = #[t] := by rw [← Array.toArray_toList (xs := ts), ht]
    have e2 : as = #[x] := by rw [← Array.toArray_toList (xs := as), hx]
    subst e1
    subst e2
    split at hz
    · rename_i v hv
      split at hz
      · rename_i k hk
        cases hz
        have hvr := orV (hop x) hv
        refine ⟨.int .i64 k, ?_, AR_one.2 (lf_mkInt _ _)⟩
        have : (Builtin.len_ #[t] ty #[a.eval x]).run P w = .ok (.int .i64 k) w := by
          unfold lenOf at hk
          split at hk
          · rename_i q e hu
            cases hk
            simp [Builtin.len_, run_underlying hu, goInt]
          · rename_i e hu
            split at hk
            · cases hk
              rename_i e' t' xs
              have hsl : SlInv T w X t' xs (a.eval x) := RD.inv (VR_one.1 hvr)
              obtain ⟨A, c, h1, _⟩ := hsl
              rw [h1]
              simp [Builtin.len_, run_underlying hu, goInt]
            · cases hk
              have h1 : a.eval x = .slice none 0 0 := VR_one.1 hvr
              rw [h1]
              simp [Builtin.len_, run_underlying hu, goInt]
            · rename_i i
              split at hk
              · rename_i e' t' xs sh ho
                rw [nth_eq] at ho
                cases hk
                have h1 := VR_one.1 hvr
                obtain ⟨vs, hown, _⟩ := gr_cells hr ho
                rw [h1.2.1]
                rcases hown.2 with ⟨h2, h3⟩ | ⟨g, cap, cur, h2, _⟩
                · rw [h2, h3]; simp [Builtin.len_, run_underlying hu, goInt]
                · rw [h2]; simp [Builtin.len_, run_underlying hu, goInt]
              · cases hk
            · rename_i i
              split at hk
              · rename_i e' t' xs fx ho
                rw [nth_eq] at ho
                cases hk
                obtain ⟨A, c, h1⟩ := len_head hr ho (VR_one.1 hvr).2
                rw [h1]
                simp [Builtin.len_, run_underlying hu, goInt]
              · cases hk
            · rename_i i x'
              split at hk
              · rename_i e' t' xs fx ho
                rw [nth_eq] at ho
                split at hk
                · rename_i e2 t2 ys hd
                  cases hk
                  obtain ⟨A, c, h1⟩ := len_row (dg_row hr ho (VR_one.1 hvr).2 hd).2
                  rw [h1]
                  simp [Builtin.len_, run_underlying hu, goInt]
                · cases hk
              · cases hk
            · cases hk
          · rename_i kt vt hu
            split at hk
            · rename_i i
              split at hk
              · rename_i mt k' v' x' po ho
                rw [nth_eq] at ho
                cases hk
                have h1 := VR_one.1 hvr
                obtain ⟨r, es, g1, g2, g3, _⟩ := hr.ob i _ ho
                have hsz : es.size = mlen x' := by unfold mlen; rw [g3.len]; simp
                have hg : (getObj r).run P w = .ok (.map es x'.ck) w := by simp [getObj, Sem.run, g2]
                rw [h1.2.1, g1]
                simp [Builtin.len_, run_underlying hu, goInt, hg, hsz]
              · cases hk
            · cases hk
          · rename_i hu
            split at hk
            · cases hk
              have h1 := lf_str (VR_one.1 hvr)
              rw [h1]
              simp [Builtin.len_, run_underlying hu, goInt]
            · cases hk
          · cases hk
        simp [builtin, this]
      · cases hz
    · cases hz
  · exact absurd rfl hb
  · exact absurd rfl hb2
  · rename_i x r hx
    have e2 : as = (x :: r).toArray := by rw [← Array.toArray_toList (xs := as), hx]
    subst e2
    split at hz
    · rename_i l hl
      split at hz
      · rename_i q hq
        have := isInt_some hq
        subst this
        split at hz
        · rename_i k hk
          cases hz
          have hv := lf_int (or1 (hop x) hl)
          have := fold_ok (P := P) (g := Builtin.max2) (fun k a b w => by simp [Builtin.max2, mx]) hop hk
          exact ⟨_, by simp [builtin, Builtin.max_, hv, this], AR_one.2 (lf_mkInt _ _)⟩
        · cases hz
      · cases hz
    · cases hz
  · rename_i x r hx
    have e2 : as = (x :: r).toArray := by rw [← Array.toArray_toList (xs := as), hx]
    subst e2
    split at hz
    · rename_i l hl
      split at hz
      · rename_i q hq
        have := isInt_some hq
        subst this
        split at hz
        · rename_i k hk
          cases hz
          have hv := lf_int (or1 (hop x) hl)
          have := fold_ok (P := P) (g := Builtin.min2) (fun k a b w => by simp [Builtin.min2, mn]) hop hk
          exact ⟨_, by simp [builtin, Builtin.min_, hv, this], AR_one.2 (lf_mkInt _ _)⟩
        · cases hz
      · cases hz
    · cases hz
  · cases hz

theorem opF_calm (hr : Rel T m X h w) {env : Env T} {a : Act} (hop : ∀ x, OR m X h.length w env a x) {o : Oper} {z : Res T} (hz : opF P o.op env h = some z) (hp : z.p) (hq : quietO o.op = true) (hsl : (∀ t x lo hi mx, o.op = .slice t x lo hi mx → h = []) ∧ ∀ t x i ok, o.op = .lookup t x i ok → h.length ≤ 1) : Calm T P o a m X h.length w z.v := by
  unfold opF at hz
  split at hz
  · rename_i x he
    split at hz
    · rename_i v hv
      cases hz
      exact calm_pure (by simp [execOp, he]) (hop x v hv)
    · cases hz
  · rename_i x he
    split at hz
    · rename_i v hv
      cases hz
      exact calm_pure (by simp [execOp, he]) (hop x v hv)
    · cases hz
  · rename_i e he
    rw [he] at hq
    cases hq
  · rename_i e x he
    rw [he] at hq
    cases hq
  · rename_i t parts he
    split at hz
    · rename_i pl zv l h1 h2 h3
      split at hz
      · rename_i ls h4
        cases hz
        obtain ⟨rv, q1, q2⟩ := build_ok (P := P) hop h1 h2 h3 h4
        exact calm_v (by simp only [execOp, he]) q1 q2
      · cases hz
    · cases hz
  · rename_i t len parts he
    rw [he] at hq
    cases hq
  · rename_i t x he
    split at hz
    · rename_i l hl
      split at hz
      · rename_i v hv
        cases hz
        obtain ⟨rv, q1, q2⟩ := load_ok hr hv (or1 (hop x) hl)
        exact calm_v (by simp only [execOp, he]) q1 q2
      · cases hz
    · cases hz
  · rename_i t x y he
    rw [he] at hq
    cases hq
  · rename_i x he
    split at hz
    · rename_i l hl
      split at hz
      · rename_i hn
        cases hz
        have hv := or1 (hop x) hl
        have : ∃ A, a.eval x = .pointer (some A) := by
          unfold isNil at hn
          split at hn <;> first | (cases hn; done) | skip
          · obtain ⟨_, q, _, h2⟩ := hv; exact ⟨_, h2⟩
          · obtain ⟨_, q, _, _, _, _, _, h2⟩ := hv; exact ⟨_, h2⟩
          · obtain ⟨q, p, h2, _⟩ := hv; exact ⟨_, h2⟩
        obtain ⟨A, hA⟩ := this
        exact calm_pure (rv := .pointer (some A)) (by simp [execOp, he, hA]) (AR_one.2 (by rw [← hA]; exact hv))
      · cases hz
    · cases hz
  · rename_i op t x y yt he
    split at hz
    · rename_i l r hl hr'
      split at hz
      · rename_i c hc
        cases hz
        obtain ⟨rv, q1, q2⟩ := bin_ok (P := P) hr hc hp (or1 (hop x) hl) (or1 (hop y) hr') x y
        exact calm_v (by simp only [execOp, he]) q1 (AR_one.2 q2)
      · cases hz
    · split at hz
      · rename_i a' b' ha' hb'
        split at hz
        · rename_i c hc
          cases hz
          obtain ⟨rv, q1, q2⟩ := eqF_ok (P := P) hc (orV (hop x) ha') (orV (hop y) hb') x y
          exact calm_v (by simp only [execOp, he]) q1 (AR_one.2 q2)
        · cases hz
      · cases hz
  · rename_i op t x he
    split at hz
    · rename_i l hl
      split at hz
      · rename_i r hr'
        cases hz
        obtain ⟨rv, q1, q2⟩ := un_ok (P := P) hr' (or1 (hop x) hl)
        exact calm_v (by simp only [execOp, he]) q1 (AR_one.2 q2)
      · cases hz
    · cases hz
  · rename_i s d x he
    split at hz
    · rename_i l hl
      split at hz
      · rename_i r hr'
        cases hz
        obtain ⟨rv, q1, q2⟩ := conv_ok hr hr' (or1 (hop x) hl)
        exact calm_v (by simp only [execOp, he]) q1 (AR_one.2 q2)
      · cases hz
    · cases hz
  · rename_i f first caps he
    split at hz
    · rename_i cs hf hc
      cases hz
      have e1 : first = #[] := by rw [← Array.toArray_toList (xs := first), hf]
      subst e1
      have hcs := capP_ok hop hc
      have hca : caps.map a.eval = (caps.toList.map a.eval).toArray := by apply Array.ext'; simp
      exact calm_pure (rv := .func (.func f) #[] (caps.map a.eval)) (by simp [execOp, he, Instr.makeFunc]) (AR_one.2 ⟨caps.toList.map a.eval, by rw [hca], hcs⟩)
    · cases hz
  · rename_i t x y he
    rw [he] at hq
    cases hq
  · rename_i t x lo hi he
    split at hz
    · rename_i l hl
      have hb : ∀ (q : Option Operand) (l' : Lf T), q.map (op1 env) = some (some l') → ∃ u, q.map a.eval = some u ∧ LfR m X h.length w l' u := by
        intro q l' hq
        cases q with
        | none => cases hq
        | some y =>
          simp only [Option.map_some, Option.some.injEq] at hq
          exact ⟨_, rfl, or1 (hop y) hq⟩
      have hb' : ∀ (q : Option Operand), q.map (op1 env) = none → q.map a.eval = none := fun q hq => by cases q <;> first | rfl | cases hq
      obtain ⟨rv, r1, r2⟩ := slice_calm (hsl.1 _ _ _ _ _ he) hz hp (or1 (hop x) hl) (hb lo) (hb' lo) (hb hi) (hb' hi)
      exact ⟨rv, by simp only [execOp, he, Option.map_none, Sem.run_bind, r1, Result.andThen_ok, Sem.run_pure], r2⟩
    · cases hz
  · rename_i t x lo hi mx he
    split at hz
    · rename_i l hl
      have hb : ∀ (q : Option Operand) (l' : Lf T), q.map (op1 env) = some (some l') → ∃ u, q.map a.eval = some u ∧ LfR m X h.length w l' u := by
        intro q l' hq
        cases q with
        | none => cases hq
        | some y =>
          simp only [Option.map_some, Option.some.injEq] at hq
          exact ⟨_, rfl, or1 (hop y) hq⟩
      have hb' : ∀ (q : Option Operand), q.map (op1 env) = none → q.map a.eval = none := fun q hq => by cases q <;> first | rfl | cases hq
      obtain ⟨rv, r1, r2⟩ := slice3_calm (hsl.1 _ _ _ _ _ he) hz hp (or1 (hop x) hl) (hb lo) (hb' lo) (fun l' hl' => or1 (hop hi) hl') (fun l' hl' => or1 (hop mx) hl')
      exact ⟨rv, by simp only [execOp, he, Option.map_some, Sem.run_bind, r1, Result.andThen_ok, Sem.run_pure], r2⟩
    · cases hz
  · rename_i s x f he
    split at hz
    · rename_i l hl
      split at hz
      · rename_i r hr'
        cases hz
        obtain ⟨rv, q1, q2⟩ := fieldA_ok (P := P) hr' (or1 (hop x) hl)
        exact calm_v (by simp only [execOp, he]) q1 (AR_one.2 q2)
      · cases hz
    · cases hz
  · rename_i s x f he
    split at hz
    · rename_i ls off ft hv hf
      split at hz
      · rename_i v hp'
        cases hz
        obtain ⟨us, h1, h2⟩ := orV (hop x) hv
        obtain ⟨fs, fd, hu, hfd, e1, e2⟩ := fieldOf_some hf
        subst e1
        subst e2
        obtain ⟨rv, q1, q2⟩ := part_ok (P := P) hp' h1
        have h3 : a.eval x = .agg us.toArray := by simpa using h2
        exact calm_v (s := Instr.field s (a.eval x) f) (by simp only [execOp, he]) (by simp [Instr.field, run_underlying hu, hfd, h3, asAgg, q1]) q2
      · cases hz
    · cases hz
  · rename_i t x i he
    split at hz
    · rename_i l j hl hj
      split at hz
      · rename_i q hq
        have := isInt_some hq
        subst this
        obtain ⟨rv, r1, r2, r3⟩ := index_ok (k := q.1) hr hz hp (or1 (hop x) hl)
        have hi := lf_int (or1 (hop i) hj)
        exact calm_v (s := Instr.indexAt t (a.eval x) (a.eval i)) (by simp only [execOp, he]) (by rw [hi]; exact r1) r2
      · cases hz
    · cases hz
  · rename_i t x i he
    split at hz
    · rename_i hu
      split at hz
      · rename_i l j hl hj
        split at hz
        · rename_i s q hs hq
          cases hz
          have := isStr_some hs
          subst this
          have := isInt_some hq
          subst this
          have hx := lf_str (or1 (hop x) hl)
          have hi := lf_int (or1 (hop i) hj)
          obtain ⟨p1, p2⟩ : 0 ≤ q.2 ∧ q.2 < (s.size : Int) := hp
          have hlt : q.2.toNat < s.size := by omega
          refine calm_v (s := Instr.index t (a.eval x) (a.eval i)) (rv := .int .u8 (bt s q.2)) (by simp only [execOp, he]) ?_ (AR_one.2 (lf_mkInt _ _))
          rw [hx, hi, run_index_string w t s q.1 q.2 hu, dif_pos ⟨p1, p2⟩]
          simp [bt, hlt]
        · cases hz
      · cases hz
    · rename_i n e hu
      split at hz
      · rename_i ls j hv hj
        split at hz
        · rename_i q hq
          split at hz
          · rename_i k sz hk hsz
            cases hb : Nat.blt k n with
            | false => rw [hb] at hz; cases hz
            | true =>
              rw [hb] at hz
              simp only [cond_true] at hz
              split at hz
              · rename_i v hp'
                cases hz
                have := isInt_some hq
                subst this
                have hi := lf_int (or1 (hop i) hj)
                obtain ⟨us, h1, h2⟩ := orV (hop x) hv
                obtain ⟨rv, q1, q2⟩ := part_ok (P := P) hp' h1
                have h3 : a.eval x = .agg us.toArray := by simpa using h2
                have hlt : k < n := Nat.le_of_ble_eq_true hb
                obtain ⟨inf, hinf, hsz'⟩ : ∃ inf, P.info? e = some inf ∧ inf.size = sz := by
                  unfold sizeOf at hsz
                  split at hsz
                  · rename_i inf hinf; exact ⟨inf, hinf, Option.some.inj hsz⟩
                  · cases hsz
                refine calm_v (s := Instr.index t (a.eval x) (a.eval i)) (rv := rv) (by simp only [execOp, he]) ?_ q2
                rw [h3, hi, hk]
                have h4 : (0 : Int) ≤ Int.ofNat k ∧ Int.ofNat k < (n : Int) := ⟨Int.natCast_nonneg k, Int.ofNat_lt.2 hlt⟩
                simp [Instr.index, asIntOf, run_underlying hu, Go.sizeOf, typeInfo, hinf, hsz', hlt, q1]
              · cases hz
          · cases hz
        · cases hz
      · cases hz
    · cases hz
  · rename_i t he
    rw [he] at hq
    cases hq
  · rename_i t y he
    rw [he] at hq
    cases hq
  · rename_i t x i ok he
    split at hz
    · rename_i l j hl hj
      cases hpl : pooled l h with
      | true =>
        rw [hpl] at hz
        simp only [cond_true] at hz
        cases ok with
        | true => cases hz
        | false =>
          simp only [cond_false] at hz
          exact absurd (hsl.2 _ _ _ _ he) (by have := lookP_two hz; omega)
      | false =>
      rw [hpl] at hz
      simp only [cond_false] at hz
      split at hz
      · rename_i v hv
        cases hz
        obtain ⟨rv, q1, q2⟩ := look_ok (P := P) hr hv (or1 (hop x) hl) (or1 (hop i) hj)
        exact calm_v (s := Instr.lookup t (a.eval x) (a.eval i) ok) (by simp only [execOp, he]) q1 q2
      · cases hz
    · cases hz
  · rename_i t x k y he
    rw [he] at hq
    cases hq
  · rename_i x he
    rw [he] at hq
    cases hq
  · rename_i t x he
    rw [he] at hq
    cases hq
  · rename_i x i he
    split at hz
    · rename_i vs hv
      split at hz
      · rename_i v hn
        cases hz
        obtain ⟨us, h1, h2⟩ := hop x _ hv
        obtain ⟨rv, q1, q2⟩ := nthV_ok (P := P) hn h1
        exact calm_v (s := Instr.extract (a.eval x) i) (by simp only [execOp, he]) (by rw [h2]; exact q1) q2
      · cases hz
    · cases hz
  · rename_i c he
    split at hz
    · rename_i b hb
      have hne : b ≠ .append := by
        rintro rfl
        rw [he] at hq
        simp [quietO, hb] at hq
      have hne2 : b ≠ .delete := by
        rintro rfl
        rw [he] at hq
        simp [quietO, hb] at hq
      obtain ⟨rv, r1, r2⟩ := built_calm (ty := o.type) (consts := c.args.map fun | .const _ => true | _ => false) hr hop hne hne2 hz hp
      exact ⟨rv, by simp only [execOp, he, resolve, hb, invoke, Sem.run_bind, Sem.run_pure, Result.andThen_ok]; exact r1, r2⟩
    · cases hz
  · cases hz
end
end Go.Proofs.Ytfojcadooepgpaa.Rx
