/- A plain evaluator over the translated code: every operation but calls and choices. Under no condition. -/
import Derived.Test.YtfojcadooepgpaaRxBp
set_option linter.unusedVariables false
set_option linter.unusedSimpArgs false
namespace Go.Proofs.Ytfojcadooepgpaa.Rx
open Go Go.RowKit

section
variable {T : Tab} {m m' : Nat → Value} {X X' : Nat → Nat → Prop} {n n' : Nat} {w w' : World} {P : Program} {h h' : Hp T}

/-! ### made slices -/
theorem zero_all {t : TypeId} {v : V T} (hz : zeroOf P t = some v) : ∃ i z, P.info? t = some i ∧ i.zero = some z ∧ ∀ m X n w, All2 (LfR m X n w) v.2 z.cells.toList := by
  unfold zeroOf at hz
  split at hz
  · rename_i i hi
    split at hz
    · rename_i z hz'
      refine ⟨i, z, hi, hz', fun m X n w => ?_⟩
      obtain ⟨_, _, us, h1, h2⟩ := ofVal_ok (m := m) (X := X) (n := n) (w := w) hz
      rw [h2]
      exact h1
    · cases hz
  · cases hz
theorem make_ok (hr : Rel T m X h w) {t : TypeId} {len cap : Int} {z : Res T} (hx : makeF P t len cap h = some z) (hp : z.p) :
    ∃ rv m' X' w', (Instr.makeSlice t (.int .i64 len) (.int .i64 cap)).run P w = .ok rv w' ∧ AR m' X' z.h.length w' z.v rv ∧ Rel T m' X' z.h w' ∧ Fr T m X h w m' X' z.h w' := by
  unfold makeF at hx
  split at hx
  · rename_i e hu
    split at hx
    · rename_i ty si zv hty hsi hzv
      obtain ⟨s, by_⟩ := si
      obtain ⟨i, zz, hi, hz, h1, h2, h3, h4, h5⟩ := rowI_some hsi
      cases hb : Nat.beq s (flat T ty).length with
      | false => simp only [hb, cond_false] at hx; cases hx
      | true =>
        simp only [hb, cond_true] at hx
        have e1 := Nat.eq_of_beq_eq_true hb
        split at hx
        · rename_i y hy
          cases hx
          obtain ⟨p1, p2, p3⟩ : 0 ≤ len ∧ len ≤ cap ∧ cap * (by_ : Int) ≤ (LIM : Int) := hp
          have hlim : (LIM : Int) = 140737488355328 := rfl
          rw [hlim] at p3
          have hc63 : cap ≤ 140737488355328 := by
            have : cap * 1 ≤ cap * (by_ : Int) := Int.mul_le_mul_of_nonneg_left (by omega) (by omega)
            omega
          have hrun := run_make (P := P) w t e i zz hu hi hz .i64 .i64 len cap p1 p2 (by rw [h2, Int.mul_comm]; omega) (by omega)
          obtain ⟨i2, zz2, hi2, hz2, hall⟩ := zero_all hzv
          rw [hi] at hi2
          cases hi2
          rw [hz] at hz2
          cases hz2
          have r0 : Rel T m (fun _ _ => False) ([] : Hp T) w := ⟨fun i o hi => by simp at hi, fun i j o o' hi => by simp at hi, fun _ _ hf => hf.elim, fun i o hi => by simp at hi, fun i e t x s hi => by simp at hi, fun i e t hi => by simp at hi⟩
          obtain ⟨m1, X1, q1, q2, q3⟩ := elt_ok r0 hy (hall m (fun _ _ => False) 0 w)
          have hX1 : ∀ b o, ¬ X1 b o := by
            intro b o hb
            rcases q3.new b o hb with h6 | ⟨j, o', hj, _⟩ | h6
            · exact h6
            · simp at hj
            · exact absurd (q1.lt b o hb) (by omega)
          have q4 : CellsOf T w X ty [y.1] zz.cells.toList := q2.mono (fun b o hb => absurd hb (hX1 b o)) (fun b o hb => absurd hb (hX1 b o))
          have hml : (List.replicate len.toNat y.1).length = len.toNat := by simp
          have hmade : ∀ q, q < cap.toNat * s → (madeCells zz.cells (cap.toNat * s)).toList[q]? = zz.cells.toList[q % s]? := by
            intro q hq
            have : q % s < zz.cells.size := by rw [h3]; exact Nat.mod_lt _ h4
            rw [Array.getElem?_toList, Array.getElem?_toList]
            simp [madeCells, hq, h3]
            rw [Array.getElem?_eq_getElem this, getElem!_pos zz.cells (q % s) this]
          have hle : len.toNat * s ≤ cap.toNat * s := Nat.mul_le_mul_right _ (by omega)
          have hcell : CellsOf T w X ty (List.replicate len.toNat y.1) ((madeCells zz.cells (cap.toNat * s)).toList.take (len.toNat * s)) := by
            refine ⟨?_, fun k x j d hk hd => ?_⟩
            · rw [List.length_take, Array.length_toList, size_madeCells, hml, ← e1]
              omega
            · have hk1 : k < len.toNat := by have := lt_of_get hk; simpa using this
              rw [List.getElem?_replicate, if_pos hk1] at hk
              cases hk
              have hj : j < (flat T ty).length := by rw [← lv_len ty y.1]; exact (List.getElem?_eq_some_iff.1 hd).1
              obtain ⟨v, hv, hq⟩ := q4.2 0 y.1 j d rfl hd
              refine ⟨v, ?_, hq⟩
              have hidx : k * (flat T ty).length + j < len.toNat * s := by
                have := Nat.mul_le_mul_right (flat T ty).length hk1
                rw [Nat.succ_mul] at this
                rw [e1]
                omega
              rw [List.getElem?_take, if_pos hidx, hmade _ (by omega)]
              have : (k * (flat T ty).length + j) % s = j := by rw [e1, Nat.mul_comm, Nat.mul_add_mod, Nat.mod_eq_of_lt hj]
              rw [this]
              simpa using hv
          have hown : (w.alloc (.cells (madeCells zz.cells (cap.toNat * s)) e)).ownsRow 0 e (flat T ty).length (.slice (some ⟨w.heap.size, 0, none⟩) len.toNat cap.toNat) (List.replicate len.toNat y.1).length ((madeCells zz.cells (cap.toNat * s)).toList.take (len.toNat * s)) := by
            rw [hml, ← e1]
            refine ⟨?_, .inr ⟨w.heap.size, cap.toNat, _, rfl, Nat.zero_le _, heap_alloc_new w _, by omega, ?_, size_madeCells _ _, rfl⟩⟩
            · rw [List.length_take, Array.length_toList, size_madeCells]
              omega
            · simp only [maxLen]; omega
          have hpr := push_row hr (e := e) (t := ty) (xs := List.replicate len.toNat y.1) (v := .slice (some ⟨w.heap.size, 0, none⟩) len.toNat cap.toNat) (row := none) (h1 := h) rfl (fun _ _ h => .inr h) (sh := false) (fun _ _ _ _ _ _ => by simp) (fun b hb => by cases hb) (grown_alloc w (.cells (madeCells zz.cells (cap.toNat * s)) e))
            (fun b hb => by cases hb; exact .inr rfl) (cell_alloc hr _) hown (hcell.mono (cell_alloc hr _) (fun _ _ h => h)) (fun b o hb => by cases hb)
          exact ⟨_, _, X, _, by rw [← h1]; exact hrun, AR_one.2 hpr.2.2, hpr.1, hpr.2.1⟩
        · cases hx
    · cases hx
  · cases hx

/-! ### builtins -/
theorem fold_ok {f : Int → Int → Int} {g : Value → Value → Sem Value} (hg : ∀ k a b w, (g (.int k a) (.int k b)).run P w = .ok (.int k (f a b)) w) {env : Env T} {a : Act} (hop : ∀ x, OR m X n w env a x) : ∀ {xs : List Operand} {k : IntKind} {i j : Int}, foldI f k i (opts env xs) = some j →
    ((xs.map a.eval).foldlM g (.int k i)).run P w = .ok (.int k j) w
  | [], k, i, j, hf => by cases hf; rfl
  | x :: r, k, i, j, hf => by
    simp only [opts, foldI] at hf
    cases hx : op1 env x with
    | none => rw [hx] at hf; simp [foldI] at hf
    | some l =>
      rw [hx] at hf
      simp only [foldI] at hf
      split at hf
      · rename_i b hb
        have := isInt_some hb
        subst this
        split at hf
        · rename_i hk _
          have hv := lf_int (or1 (hop x) hx)
          simp only [List.map_cons, List.foldlM_cons, hv, Sem.run_bind, ← hk, hg, Result.andThen_ok]
          exact fold_ok hg hop hf
        · cases hf
      · cases hf
/-- How long such a slice is, and a row of it. -/
theorem len_head (hr : Rel T m X h w) {i : Nat} {e : TypeId} {ty : Ty} {xs : List (den T.S ty)} {fx : Bool} (ho : h[i]? = some (.dg e ty xs fx)) {v : Value} (hy : YR (m i) .hd v) : ∃ A c, v = .slice A xs.length c := by
  obtain ⟨hdv, hs, vs, q1, q2, _⟩ := hr.ob i _ ho
  obtain rfl := yhd q1 hy
  cases fx with
  | false =>
    rcases q2.2 with ⟨h2, h3⟩ | ⟨g, cap, cur, h2, _⟩
    · exact ⟨_, _, by rw [h2, h3]⟩
    · exact ⟨_, _, h2⟩
  | true =>
    rcases q2.2 with ⟨h2, h3⟩ | ⟨g, cap, cur, h2, _⟩
    · exact ⟨_, _, by rw [h2, h3]⟩
    · exact ⟨_, _, h2⟩
theorem len_row {e : TypeId} {t : Ty} {ys : List (den T.S t)} {v : Value} (hy : RowR T w X e t ys v) : ∃ A c, v = .slice A ys.length c := by
  obtain ⟨vs, hown, _⟩ := hy
  rcases hown.2 with ⟨h2, h3⟩ | ⟨g, cap, cur, h2, _⟩
  · exact ⟨_, _, by rw [h2, h3]⟩
  · exact ⟨_, _, h2⟩
theorem built_ok (hr : Rel T m X h w) {env : Env T} {a : Act} (hop : ∀ x, OR m X h.length w env a x) {b : Builtin} {ts : Array TypeId} {ty : TypeId} {as : Array Operand} {consts : Array Bool} {z : Res T} (hz : builtF P b ts.toList env as.toList h = some z) (hp : z.p) :
    ∃ rv m' X' w', (builtin b ts ty consts (as.map a.eval)).run P w = .ok (.value rv) w' ∧ AR m' X' z.h.length w' z.v rv ∧ Rel T m' X' z.h w' ∧ Fr T m X h w m' X' z.h w' := by
  unfold builtF at hz
  split at hz
  · rename_i t x ht hx
    have e1 : ts = #[t] := by rw [← Array.toArray_toList (xs := ts), ht]
    have e2 : as = #[x] := by rw [← Array.toArray_toList (xs := as), hx]
    subst e1
    subst e2
    split at hz
    · rename_i v hv
      split at hz
      · rename_i k hk
        cases hz
        have hvr := orV (hop x) hv
        refine ⟨.int .i64 k, m, X, w, ?_, AR_one.2 (lf_mkInt _ _), hr, Fr.refl⟩
        have : (Builtin.len_ #[t] ty #[a.eval x]).run P w = .ok (.int .i64 k) w := by
          unfold lenOf at hk
          split at hk
          · rename_i q e hu
            cases hk
            simp [Builtin.len_, run_underlying hu, goInt]
          · rename_i e hu
            split at hk
            · cases hk
              rename_i e' t' xs
              have hsl : SlInv T w X t' xs (a.eval x) := RD.inv (VR_one.1 hvr)
              obtain ⟨A, c, h1, _⟩ := hsl
              rw [h1]
              simp [Builtin.len_, run_underlying hu, goInt]
            · cases hk
              have h1 : a.eval x = .slice none 0 0 := VR_one.1 hvr
              rw [h1]
              simp [Builtin.len_, run_underlying hu, goInt]
            · rename_i i
              split at hk
              · rename_i e' t' xs sh ho
                rw [nth_eq] at ho
                cases hk
                have h1 := VR_one.1 hvr
                obtain ⟨vs, hown, _⟩ := gr_cells hr ho
                rw [h1.2.1]
                rcases hown.2 with ⟨h2, h3⟩ | ⟨g, cap, cur, h2, _⟩
                · rw [h2, h3]; simp [Builtin.len_, run_underlying hu, goInt]
                · rw [h2]; simp [Builtin.len_, run_underlying hu, goInt]
              · cases hk
            · rename_i i
              split at hk
              · rename_i e' t' xs fx ho
                rw [nth_eq] at ho
                cases hk
                obtain ⟨A, c, h1⟩ := len_head hr ho (VR_one.1 hvr).2
                rw [h1]
                simp [Builtin.len_, run_underlying hu, goInt]
              · cases hk
            · rename_i i x'
              split at hk
              · rename_i e' t' xs fx ho
                rw [nth_eq] at ho
                split at hk
                · rename_i e2 t2 ys hd
                  cases hk
                  obtain ⟨A, c, h1⟩ := len_row (dg_row hr ho (VR_one.1 hvr).2 hd).2
                  rw [h1]
                  simp [Builtin.len_, run_underlying hu, goInt]
                · cases hk
              · cases hk
            · cases hk
          · rename_i kt vt hu
            split at hk
            · rename_i i
              split at hk
              · rename_i mt k' v' x' po ho
                rw [nth_eq] at ho
                cases hk
                have h1 := VR_one.1 hvr
                obtain ⟨r, es, g1, g2, g3, _⟩ := hr.ob i _ ho
                have hsz : es.size = mlen x' := by unfold mlen; rw [g3.len]; simp
                have hg : (getObj r).run P w = .ok (.map es x'.ck) w := by simp [getObj, Sem.run, g2]
                rw [h1.2.1, g1]
                simp [Builtin.len_, run_underlying hu, goInt, hg, hsz]
              · cases hk
            · cases hk
          · rename_i hu
            split at hk
            · cases hk
              have h1 := lf_str (VR_one.1 hvr)
              rw [h1]
              simp [Builtin.len_, run_underlying hu, goInt]
            · cases hk
          · cases hk
        simp [builtin, this]
      · cases hz
    · cases hz
  · rename_i t t2 s x ht hx
    have e1 : ts = #[t, t2] := by rw [← Array.toArray_toList (xs := ts), ht]
    have e2 : as = #[s, x] := by rw [← Array.toArray_toList (xs := as), hx]
    subst e1
    subst e2
    split at hz
    · rename_i l r hl hr'
      obtain ⟨rv, m', X', w', q1, q2, q3, q4⟩ := app_ok (ty := ty) hr hz hp (or1 (hop s) hl) (or1 (hop x) hr')
      exact ⟨rv, m', X', w', by simp [builtin, q1], q2, q3, q4⟩
    · cases hz
  · rename_i t rest x k ht hx
    have e2 : as = #[x, k] := by rw [← Array.toArray_toList (xs := as), hx]
    subst e2
    have hts : ts[0]? = some t := by rw [← Array.getElem?_toList, ht]; rfl
    split at hz
    · rename_i l r hl hr'
      cases hpl : pooled l h with
      | true =>
        rw [hpl] at hz
        simp only [cond_true] at hz
        obtain ⟨q0, w', q1, q2, q3⟩ := delP_ok (P := P) hr hz hp (or1 (hop x) hl) (or1 (hop k) hr') hts (ty := ty)
        rw [q0]
        exact ⟨.tuple #[], m, X, w', by simp [builtin, q1], ⟨[], trivial, rfl⟩, q2, q3⟩
      | false =>
      rw [hpl] at hz
      simp only [cond_false] at hz
      split at hz
      · rename_i h1 hd
        cases hz
        obtain ⟨w', q1, q2, q3⟩ := del_ok (P := P) hr hd (or1 (hop x) hl) (or1 (hop k) hr') hts (ty := ty)
        exact ⟨.tuple #[], m, X, w', by simp [builtin, q1], ⟨[], trivial, rfl⟩, q2, q3⟩
      · cases hz
    · cases hz
  · rename_i x r hx
    have e2 : as = (x :: r).toArray := by rw [← Array.toArray_toList (xs := as), hx]
    subst e2
    split at hz
    · rename_i l hl
      split at hz
      · rename_i q hq
        have := isInt_some hq
        subst this
        split at hz
        · rename_i k hk
          cases hz
          have hv := lf_int (or1 (hop x) hl)
          have := fold_ok (P := P) (g := Builtin.max2) (fun k a b w => by simp [Builtin.max2, mx]) hop hk
          exact ⟨_, m, X, w, by simp [builtin, Builtin.max_, hv, this], AR_one.2 (lf_mkInt _ _), hr, Fr.refl⟩
        · cases hz
      · cases hz
    · cases hz
  · rename_i x r hx
    have e2 : as = (x :: r).toArray := by rw [← Array.toArray_toList (xs := as), hx]
    subst e2
    split at hz
    · rename_i l hl
      split at hz
      · rename_i q hq
        have := isInt_some hq
        subst this
        split at hz
        · rename_i k hk
          cases hz
          have hv := lf_int (or1 (hop x) hl)
          have := fold_ok (P := P) (g := Builtin.min2) (fun k a b w => by simp [Builtin.min2, mn]) hop hk
          exact ⟨_, m, X, w, by simp [builtin, Builtin.min_, hv, this], AR_one.2 (lf_mkInt _ _), hr, Fr.refl⟩
        · cases hz
      · cases hz
    · cases hz
  · cases hz

/-! ### all of them -/
theorem sure_some {v : AV T} {z : Res T} (hs : sure v h = some z) : z.v = v ∧ z.h = h := by cases hs; exact ⟨rfl, rfl⟩
theorem good_v {o : Oper} {a : Act} (hr : Rel T m X h w) {v : AV T} {rv : Value} {s : Sem Value} (he : execOp a.eval o = (do pure (.value (← s)))) (hs : s.run P w = .ok rv w) (ha : AR m X h.length w v rv) : Good T P o a m X h w v h :=
  good_pure hr (by rw [he]; simp [hs]) ha
theorem capP_ok {env : Env T} {a : Act} (hop : ∀ x, OR m X n w env a x) : ∀ {xs : List Operand} {cs : List (Nat × Nat)}, capP env xs = some cs → All2 (fun c u => c.1 < n ∧ ∃ b, m c.1 = .pointer (some ⟨b, 0, none⟩) ∧ u = .pointer (some ⟨b, c.2, none⟩)) cs (xs.map a.eval)
  | [], cs, hc => by cases hc; trivial
  | x :: r, cs, hc => by
    simp only [capP] at hc
    split at hc
    · rename_i i o hx
      split at hc
      · rename_i l hl
        cases hc
        exact ⟨or1 (hop x) hx, capP_ok hop hl⟩
      · cases hc
    · cases hc
set_option maxHeartbeats 1000000 in
theorem opF_ok (hr : Rel T m X h w) {env : Env T} {a : Act} (hop : ∀ x, OR m X h.length w env a x) {o : Oper} {z : Res T} (hz : opF P o.op env h = some z) (hp : z.p) : Good T P o a m X h w z.v z.h := by
  unfold opF at hz
  split at hz
  · rename_i x he
    split at hz
    · rename_i v hv
      cases hz
      exact good_pure hr (by simp [execOp, he]) (hop x v hv)
    · cases hz
  · rename_i x he
    split at hz
    · rename_i v hv
      cases hz
      exact good_pure hr (by simp [execOp, he]) (hop x v hv)
    · cases hz
  · rename_i e he
    split at hz
    · rename_i v hv
      cases hz
      obtain ⟨i, zz, hi, hz', us, h1, h2⟩ := zero_ok (m := m) (X := X) (n := h.length) (w := w) hv
      obtain ⟨q1, q2, q3⟩ := push_box hr e h2
      exact ⟨_, _, X, _, .inl (by simp [execOp, he, Instr.alloc, zeroValue, typeInfo, hi, hz', newVar, newRow, h1]), AR_one.2 q3, q1, q2⟩
    · cases hz
  · rename_i e x he
    split at hz
    · rename_i v hv
      cases hz
      obtain ⟨us, h1, h2⟩ := (orV (hop x) hv).cells
      obtain ⟨q1, q2, q3⟩ := push_box hr e (nb_all h2)
      exact ⟨_, _, X, _, .inl (by simp [execOp, he, Instr.box, newVar, newRow, h1]), AR_one.2 q3, q1, q2⟩
    · cases hz
  · rename_i t parts he
    split at hz
    · rename_i pl zv l h1 h2 h3
      split at hz
      · rename_i ls h4
        cases hz
        obtain ⟨rv, q1, q2⟩ := build_ok (P := P) hop h1 h2 h3 h4
        exact good_v hr (by simp only [execOp, he]) q1 q2
      · cases hz
    · cases hz
  · rename_i t len parts he
    split at hz
    · rename_i e hu
      split at hz
      · rename_i ty si l h1 h2 h3
        cases hb : (Nat.beq si.1 (flat T ty).length && (Nat.beq l.length len && Nat.ble (len * si.1) 65536)) with
        | false => rw [hb] at hz; cases hz
        | true =>
          rw [hb] at hz
          simp only [cond_true] at hz
          simp only [Bool.and_eq_true] at hb
          split at hz
          · rename_i lss h4
            cases hb2 : allLen si.1 lss with
            | false => rw [hb2] at hz; cases hz
            | true =>
              rw [hb2] at hz
              simp only [cond_true] at hz
              split at hz
              · rename_i zy hzy
                cases hz
                obtain ⟨rv, m', X', w', q1, q2, q3, q4⟩ := litY_ok hr hop hu h2 h3 (Nat.eq_of_beq_eq_true hb.2.1) (Nat.le_of_ble_eq_true hb.2.2) h4 hb2 hzy
                exact ⟨rv, m', X', w', .inl (by simp only [execOp, he, Sem.run_bind, q1, Result.andThen_ok, Sem.run_pure]), q2, q3, q4⟩
              split at hz
              · rename_i xs h5
                cases hz
                obtain ⟨rv, m', X', w', q1, q2, q3, q4⟩ := lit_ok hr hop hu h2 (Nat.eq_of_beq_eq_true hb.1) h3 (Nat.eq_of_beq_eq_true hb.2.1) (Nat.le_of_ble_eq_true hb.2.2) h4 hb2 h5
                exact ⟨rv, m', X', w', .inl (by simp only [execOp, he, Sem.run_bind, q1, Result.andThen_ok, Sem.run_pure]), AR_one.2 (by simpa using q2), q3, q4⟩
              · cases hz
          · cases hz
      · cases hz
    · cases hz
  · rename_i t x he
    split at hz
    · rename_i l hl
      split at hz
      · rename_i v hv
        cases hz
        obtain ⟨rv, q1, q2⟩ := load_ok hr hv (or1 (hop x) hl)
        exact good_v hr (by simp only [execOp, he]) q1 q2
      · cases hz
    · cases hz
  · rename_i t x y he
    split at hz
    · rename_i l v hl hv
      split at hz
      · rename_i h1 hs
        cases hz
        obtain ⟨m', X', w', q1, q2, q3⟩ := store_ok hr hs (or1 (hop x) hl) (orV (hop y) hv)
        exact ⟨undef, m', X', w', .inr ⟨by simp only [execOp, he, Sem.run_bind, q1, Result.andThen_ok, Sem.run_pure], rfl⟩, ⟨[], trivial, rfl⟩, q2, q3⟩
      · cases hz
    · cases hz
  · rename_i x he
    split at hz
    · rename_i l hl
      split at hz
      · rename_i hn
        cases hz
        have hv := or1 (hop x) hl
        have : ∃ A, a.eval x = .pointer (some A) := by
          unfold isNil at hn
          split at hn <;> first | (cases hn; done) | skip
          · obtain ⟨_, q, _, h2⟩ := hv; exact ⟨_, h2⟩
          · obtain ⟨_, q, _, _, _, _, _, h2⟩ := hv; exact ⟨_, h2⟩
          · obtain ⟨q, p, h2, _⟩ := hv; exact ⟨_, h2⟩
        obtain ⟨A, hA⟩ := this
        exact good_pure hr (rv := .pointer (some A)) (by simp [execOp, he, hA]) (AR_one.2 (by rw [← hA]; exact hv))
      · cases hz
    · cases hz
  · rename_i op t x y yt he
    split at hz
    · rename_i l r hl hr'
      split at hz
      · rename_i c hc
        cases hz
        obtain ⟨rv, q1, q2⟩ := bin_ok (P := P) hr hc hp (or1 (hop x) hl) (or1 (hop y) hr') x y
        exact good_v hr (by simp only [execOp, he]) q1 (AR_one.2 q2)
      · cases hz
    · split at hz
      · rename_i a' b' ha' hb'
        split at hz
        · rename_i c hc
          cases hz
          obtain ⟨rv, q1, q2⟩ := eqF_ok (P := P) hc (orV (hop x) ha') (orV (hop y) hb') x y
          exact good_v hr (by simp only [execOp, he]) q1 (AR_one.2 q2)
        · cases hz
      · cases hz
  · rename_i op t x he
    split at hz
    · rename_i l hl
      split at hz
      · rename_i r hr'
        cases hz
        obtain ⟨rv, q1, q2⟩ := un_ok (P := P) hr' (or1 (hop x) hl)
        exact good_v hr (by simp only [execOp, he]) q1 (AR_one.2 q2)
      · cases hz
    · cases hz
  · rename_i s d x he
    split at hz
    · rename_i l hl
      split at hz
      · rename_i r hr'
        cases hz
        obtain ⟨rv, q1, q2⟩ := conv_ok hr hr' (or1 (hop x) hl)
        exact good_v hr (by simp only [execOp, he]) q1 (AR_one.2 q2)
      · cases hz
    · cases hz
  · rename_i f first caps he
    split at hz
    · rename_i cs hf hc
      cases hz
      have e1 : first = #[] := by rw [← Array.toArray_toList (xs := first), hf]
      subst e1
      have hcs := capP_ok hop hc
      have hca : caps.map a.eval = (caps.toList.map a.eval).toArray := by apply Array.ext'; simp
      exact good_pure hr (rv := .func (.func f) #[] (caps.map a.eval)) (by simp [execOp, he, Instr.makeFunc]) (AR_one.2 ⟨caps.toList.map a.eval, by rw [hca], hcs⟩)
    · cases hz
  · rename_i t x y he
    split at hz
    · rename_i l r hl hr'
      split at hz
      · rename_i q1 q2 h1 h2
        split at hz
        · rename_i k1 k2
          have := isInt_some h1
          subst this
          have := isInt_some h2
          subst this
          have hx := lf_int (or1 (hop x) hl)
          have hy := lf_int (or1 (hop y) hr')
          rw [k1] at hx
          rw [k2] at hy
          obtain ⟨rv, m', X', w', r1, r2, r3, r4⟩ := make_ok hr hz hp
          exact ⟨rv, m', X', w', .inl (by simp only [execOp, he, hx, hy, Sem.run_bind, r1, Result.andThen_ok, Sem.run_pure]), r2, r3, r4⟩
        · cases hz
      · cases hz
    · cases hz
  · rename_i t x lo hi he
    split at hz
    · rename_i l hl
      have hb : ∀ (q : Option Operand) (l' : Lf T), q.map (op1 env) = some (some l') → ∃ u, q.map a.eval = some u ∧ LfR m X h.length w l' u := by
        intro q l' hq
        cases q with
        | none => cases hq
        | some y =>
          simp only [Option.map_some, Option.some.injEq] at hq
          exact ⟨_, rfl, or1 (hop y) hq⟩
      have hb' : ∀ (q : Option Operand), q.map (op1 env) = none → q.map a.eval = none := fun q hq => by cases q <;> first | rfl | cases hq
      obtain ⟨rv, m', X', r1, r2, r3, r4⟩ := slice_ok hr hz hp (or1 (hop x) hl) (hb lo) (hb' lo) (hb hi) (hb' hi)
      exact ⟨rv, m', X', w, .inl (by simp only [execOp, he, Option.map_none, Sem.run_bind, r1, Result.andThen_ok, Sem.run_pure]), r2, r3, r4⟩
    · cases hz
  · rename_i t x lo hi mx he
    split at hz
    · rename_i l hl
      have hb : ∀ (q : Option Operand) (l' : Lf T), q.map (op1 env) = some (some l') → ∃ u, q.map a.eval = some u ∧ LfR m X h.length w l' u := by
        intro q l' hq
        cases q with
        | none => cases hq
        | some y =>
          simp only [Option.map_some, Option.some.injEq] at hq
          exact ⟨_, rfl, or1 (hop y) hq⟩
      have hb' : ∀ (q : Option Operand), q.map (op1 env) = none → q.map a.eval = none := fun q hq => by cases q <;> first | rfl | cases hq
      obtain ⟨rv, m', X', r1, r2, r3, r4⟩ := slice3_ok hr hz hp (or1 (hop x) hl) (hb lo) (hb' lo) (fun l' hl' => or1 (hop hi) hl') (fun l' hl' => or1 (hop mx) hl')
      exact ⟨rv, m', X', w, .inl (by simp only [execOp, he, Option.map_some, Sem.run_bind, r1, Result.andThen_ok, Sem.run_pure]), r2, r3, r4⟩
    · cases hz
  · rename_i s x f he
    split at hz
    · rename_i l hl
      split at hz
      · rename_i r hr'
        cases hz
        obtain ⟨rv, q1, q2⟩ := fieldA_ok (P := P) hr' (or1 (hop x) hl)
        exact good_v hr (by simp only [execOp, he]) q1 (AR_one.2 q2)
      · cases hz
    · cases hz
  · rename_i s x f he
    split at hz
    · rename_i ls off ft hv hf
      split at hz
      · rename_i v hp'
        cases hz
        obtain ⟨us, h1, h2⟩ := orV (hop x) hv
        obtain ⟨fs, fd, hu, hfd, e1, e2⟩ := fieldOf_some hf
        subst e1
        subst e2
        obtain ⟨rv, q1, q2⟩ := part_ok (P := P) hp' h1
        have h3 : a.eval x = .agg us.toArray := by simpa using h2
        exact good_v hr (s := Instr.field s (a.eval x) f) (by simp only [execOp, he]) (by simp [Instr.field, run_underlying hu, hfd, h3, asAgg, q1]) q2
      · cases hz
    · cases hz
  · rename_i t x i he
    split at hz
    · rename_i l j hl hj
      split at hz
      · rename_i q hq
        have := isInt_some hq
        subst this
        obtain ⟨rv, r1, r2, r3⟩ := index_ok (k := q.1) hr hz hp (or1 (hop x) hl)
        have hi := lf_int (or1 (hop i) hj)
        rw [r3]
        rw [r3] at *
        exact good_v hr (s := Instr.indexAt t (a.eval x) (a.eval i)) (by simp only [execOp, he]) (by rw [hi]; exact r1) r2
      · cases hz
    · cases hz
  · rename_i t x i he
    split at hz
    · rename_i hu
      split at hz
      · rename_i l j hl hj
        split at hz
        · rename_i s q hs hq
          cases hz
          have := isStr_some hs
          subst this
          have := isInt_some hq
          subst this
          have hx := lf_str (or1 (hop x) hl)
          have hi := lf_int (or1 (hop i) hj)
          obtain ⟨p1, p2⟩ : 0 ≤ q.2 ∧ q.2 < (s.size : Int) := hp
          have hlt : q.2.toNat < s.size := by omega
          refine good_v hr (s := Instr.index t (a.eval x) (a.eval i)) (rv := .int .u8 (bt s q.2)) (by simp only [execOp, he]) ?_ (AR_one.2 (lf_mkInt _ _))
          rw [hx, hi, run_index_string w t s q.1 q.2 hu, dif_pos ⟨p1, p2⟩]
          simp [bt, hlt]
        · cases hz
      · cases hz
    · rename_i n e hu
      split at hz
      · rename_i ls j hv hj
        split at hz
        · rename_i q hq
          split at hz
          · rename_i k sz hk hsz
            cases hb : Nat.blt k n with
            | false => rw [hb] at hz; cases hz
            | true =>
              rw [hb] at hz
              simp only [cond_true] at hz
              split at hz
              · rename_i v hp'
                cases hz
                have := isInt_some hq
                subst this
                have hi := lf_int (or1 (hop i) hj)
                obtain ⟨us, h1, h2⟩ := orV (hop x) hv
                obtain ⟨rv, q1, q2⟩ := part_ok (P := P) hp' h1
                have h3 : a.eval x = .agg us.toArray := by simpa using h2
                have hlt : k < n := Nat.le_of_ble_eq_true hb
                obtain ⟨inf, hinf, hsz'⟩ : ∃ inf, P.info? e = some inf ∧ inf.size = sz := by
                  unfold sizeOf at hsz
                  split at hsz
                  · rename_i inf hinf; exact ⟨inf, hinf, Option.some.inj hsz⟩
                  · cases hsz
                refine good_v hr (s := Instr.index t (a.eval x) (a.eval i)) (rv := rv) (by simp only [execOp, he]) ?_ q2
                rw [h3, hi, hk]
                have h4 : (0 : Int) ≤ Int.ofNat k ∧ Int.ofNat k < (n : Int) := ⟨Int.natCast_nonneg k, Int.ofNat_lt.2 hlt⟩
                simp [Instr.index, asIntOf, run_underlying hu, Go.sizeOf, typeInfo, hinf, hsz', hlt, q1]
              · cases hz
          · cases hz
        · cases hz
      · cases hz
    · cases hz
  · rename_i t he
    obtain ⟨rv, m', X', w', r1, r2, r3, r4⟩ := made_ok (P := P) hr hz none (fun v hv => by cases hv)
    exact ⟨rv, m', X', w', .inl (by simp only [execOp, he, Option.map_none, Sem.run_bind, r1, Result.andThen_ok, Sem.run_pure]), r2, r3, r4⟩
  · rename_i t y he
    split at hz
    · rename_i l hl
      split at hz
      · rename_i q hq
        have := isInt_some hq
        subst this
        have hy := lf_int (or1 (hop y) hl)
        obtain ⟨rv, m', X', w', r1, r2, r3, r4⟩ := made_ok (P := P) hr hz (some (a.eval y)) (fun v hv => by cases hv; exact ⟨_, _, hy⟩)
        exact ⟨rv, m', X', w', .inl (by simp only [execOp, he, Option.map_some, Sem.run_bind, r1, Result.andThen_ok, Sem.run_pure]), r2, r3, r4⟩
      · cases hz
    · cases hz
  · rename_i t x i ok he
    split at hz
    · rename_i l j hl hj
      cases hpl : pooled l h with
      | true =>
        rw [hpl] at hz
        simp only [cond_true] at hz
        cases ok with
        | true => cases hz
        | false =>
          simp only [cond_false] at hz
          obtain ⟨rv, m', q1, q2, q3, q4⟩ := lookP_ok (P := P) hr hz (or1 (hop x) hl) (or1 (hop i) hj)
          exact ⟨rv, m', X, w, .inl (by simp only [execOp, he, Sem.run_bind, q1, Result.andThen_ok, Sem.run_pure]), q2, q3, q4⟩
      | false =>
      rw [hpl] at hz
      simp only [cond_false] at hz
      split at hz
      · rename_i v hv
        cases hz
        obtain ⟨rv, q1, q2⟩ := look_ok (P := P) hr hv (or1 (hop x) hl) (or1 (hop i) hj)
        exact good_v hr (s := Instr.lookup t (a.eval x) (a.eval i) ok) (by simp only [execOp, he]) q1 q2
      · cases hz
    · cases hz
  · rename_i t x k y he
    split at hz
    · rename_i l j v hl hj hv
      cases hpl : pooled l h with
      | true =>
        rw [hpl] at hz
        simp only [cond_true] at hz
        obtain ⟨q0, m', X', w', q1, q2, q3⟩ := updP_ok (P := P) hr hz hp (or1 (hop x) hl) (or1 (hop k) hj) (orV (hop y) hv)
        rw [q0]
        exact ⟨undef, m', X', w', .inr ⟨by simp only [execOp, he, Sem.run_bind, q1, Result.andThen_ok, Sem.run_pure], rfl⟩, ⟨[], trivial, rfl⟩, q2, q3⟩
      | false =>
      rw [hpl] at hz
      simp only [cond_false] at hz
      split at hz
      · rename_i h1 hs
        cases hz
        obtain ⟨m', X', w', q1, q2, q3⟩ := upd_ok (P := P) hr hs (or1 (hop x) hl) (or1 (hop k) hj) (orV (hop y) hv)
        exact ⟨undef, m', X', w', .inr ⟨by simp only [execOp, he, Sem.run_bind, q1, Result.andThen_ok, Sem.run_pure], rfl⟩, ⟨[], trivial, rfl⟩, q2, q3⟩
      · cases hz
    · cases hz
  · rename_i x he
    split at hz
    · rename_i l hl
      obtain ⟨e1, rv, q1, q2⟩ := entry_ok (P := P) hr hz hp (or1 (hop x) hl)
      rw [e1]
      exact good_v hr (s := Instr.entry (a.eval x)) (by simp only [execOp, he]) q1 q2
    · cases hz
  · rename_i t x he
    split at hz
    · rename_i l hl
      obtain ⟨rv, m', X', w', r1, r2, r3, r4⟩ := range_ok (P := P) hr hz (or1 (hop x) hl)
      exact ⟨rv, m', X', w', .inl (by simp only [execOp, he, Sem.run_bind, r1, Result.andThen_ok, Sem.run_pure]), r2, r3, r4⟩
    · cases hz
  · rename_i x i he
    split at hz
    · rename_i vs hv
      split at hz
      · rename_i v hn
        cases hz
        obtain ⟨us, h1, h2⟩ := hop x _ hv
        obtain ⟨rv, q1, q2⟩ := nthV_ok (P := P) hn h1
        exact good_v hr (s := Instr.extract (a.eval x) i) (by simp only [execOp, he]) (by rw [h2]; exact q1) q2
      · cases hz
    · cases hz
  · rename_i c he
    split at hz
    · rename_i b hb
      obtain ⟨rv, m', X', w', r1, r2, r3, r4⟩ := built_ok (ty := o.type) (consts := c.args.map fun | .const _ => true | _ => false) hr hop hz hp
      exact ⟨rv, m', X', w', .inl (by simp only [execOp, he, resolve, hb, invoke, Sem.run_bind, Sem.run_pure, Result.andThen_ok]; exact r1), r2, r3, r4⟩
    · cases hz
  · cases hz
end
end Go.Proofs.Ytfojcadooepgpaa.Rx
