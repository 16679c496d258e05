/- A plain evaluator over the translated code: what the single operations do in the machine's memory. Under no condition. -/
import Derived.Test.YtfojcadooepgpaaRxS
import Derived.Laws.Tables
import Derived.Laws.Slices
import Derived.Laws.Strings
import Derived.Laws.Entries
import Derived.Great.BuildSlice
import Derived.Laws.AppendOwnNone
import Derived.Lib.ByteType
import Derived.IntWalk
set_option linter.unusedVariables false
set_option linter.unusedSimpArgs false
namespace Go.Proofs.Ytfojcadooepgpaa.Rx
open Go Go.RowKit

section
variable {T : Tab} {m : Nat → Value} {X : Nat → Nat → Prop} {n : Nat} {w : World} {P : Program}

theorem nth_eq {α : Type} : ∀ (l : List α) (i : Nat), nth l i = l[i]?
  | [], i => by simp [nth]
  | x :: l, 0 => rfl
  | x :: l, i + 1 => by simp [nth, nth_eq l i]

/-! ### operands -/
def OR (m : Nat → Value) (X : Nat → Nat → Prop) (n : Nat) (w : World) (env : Env T) (a : Act) (x : Operand) : Prop := ∀ v, opd env x = some v → AR m X n w v (a.eval x)
theorem AR_one {l : Lf T} {v : Value} : AR m X n w (one l) v ↔ LfR m X n w l v := by
  constructor
  · rintro ⟨us, h1, h2⟩
    simp only [Bool.false_eq_true, if_false] at h2
    subst h2
    exact h1.1
  · intro h
    exact ⟨[v], ⟨h, trivial⟩, by simp⟩
theorem VR_one {l : Lf T} {v : Value} : VR m X n w (false, [l]) v ↔ LfR m X n w l v := AR_one
theorem or1 {env : Env T} {a : Act} {x : Operand} (h : OR m X n w env a x) {l : Lf T} (hl : op1 env x = some l) : LfR m X n w l (a.eval x) := by
  unfold op1 at hl
  split at hl
  · rename_i l' he
    cases hl
    exact AR_one.1 (h _ he)
  · cases hl
theorem orV {env : Env T} {a : Act} {x : Operand} (h : OR m X n w env a x) {v : V T} (hv : opV env x = some v) : VR m X n w v (a.eval x) := by
  unfold opV at hv
  split at hv
  · rename_i a' he
    cases hv
    exact h _ he
  · cases hv
theorem ofLf_ok {v : Value} {l : Lf T} (h : ofLf v = some l) : LfR m X n w l v := by
  unfold ofLf at h
  split at h
  · cases h; exact RD.int _ _
  · cases h; exact RD.bool _
  · cases h; exact RD.str _
  · cases h; rfl
  · cases h; rfl
  · cases hv : v.oneCell' with
    | true => rw [hv] at h; cases h; exact hv
    | false => rw [hv] at h; cases h
theorem ofLfs_ok : ∀ {vs : List Value} {ls : List (Lf T)}, ofLfs vs = some ls → All2 (LfR m X n w) ls vs
  | [], ls, h => by cases h; trivial
  | v :: r, ls, h => by
    unfold ofLfs at h
    split at h
    · rename_i l hl
      split at h
      · rename_i ls' hls
        cases h
        exact ⟨ofLf_ok hl, ofLfs_ok hls⟩
      · cases h
    · cases h
theorem ofVal_ok {v : Value} {a : V T} (h : ofVal v = some a) : VR m X n w a v ∧ v.cells.toList.length = a.2.length ∧ ∃ us : List Value, All2 (LfR m X n w) a.2 us ∧ v.cells = us.toArray := by
  unfold ofVal at h
  split at h
  · rename_i cs
    split at h
    · rename_i ls hls
      cases h
      have := ofLfs_ok (m := m) (X := X) (n := n) (w := w) hls
      exact ⟨⟨cs.toList, this, by simp⟩, by simpa [Value.cells] using this.len.symm, cs.toList, this, by simp [Value.cells]⟩
    · cases h
  · rename_i hv
    split at h
    · rename_i l hl
      cases h
      have := ofLf_ok (m := m) (X := X) (n := n) (w := w) hl
      have hc : v.cells = #[v] := by
        cases v <;> first | rfl | exact (hv _ rfl).elim
      exact ⟨VR_one.2 this, by simp [hc], [v], ⟨this, trivial⟩, by simp [hc]⟩
    · cases h
/-- All slots are as told. -/
def EnvR (m : Nat → Value) (X : Nat → Nat → Prop) (n : Nat) (w : World) (env : Env T) (a : Act) : Prop := ∀ t v, look env t = some v → AR m X n w v (a.tmps.getD t undef)
theorem EnvR.or {env : Env T} {a : Act} (h : EnvR m X n w env a) (x : Operand) : OR m X n w env a x := by
  intro v hv
  cases x with
  | tmp t => exact h t v hv
  | const c =>
    simp only [opd] at hv
    split at hv
    · rename_i a' ha
      cases hv
      exact (ofVal_ok ha).1
    · cases hv
  | global g => cases hv
  | func f =>
    simp only [opd] at hv
    cases hv
    exact VR_one.2 ⟨[], rfl, trivial⟩
theorem EnvR.on {m' : Nat → Value} {X' : Nat → Nat → Prop} {n' : Nat} {w' : World} (ho : On m X n w m' X' n' w') {env : Env T} {a : Act} (h : EnvR m X n w env a) : EnvR m' X' n' w' env a :=
  fun t v hv => (h t v hv).on ho
theorem getD_set (xs : Array Value) (i j : Nat) (v d : Value) (hj : i = j → i < xs.size) : (xs.setIfInBounds i v).getD j d = if i = j then v else xs.getD j d := by
  simp only [Array.getD_eq_getD_getElem?, Array.getElem?_setIfInBounds]
  by_cases h : i = j
  · subst h; simp [hj rfl]
  · simp [h]

/-! ### what an operation gives -/
/-- The operation runs, to this value, in this memory. -/
def Ran (P : Program) (o : Oper) (a : Act) (w : World) (rv : Value) (w' : World) : Prop :=
  (execOp a.eval o).run P w = .ok (.value rv) w' ∨ ((execOp a.eval o).run P w = .ok .skip w' ∧ rv = undef)
theorem Ran.wp {o : Oper} {a : Act} {w w' : World} {rv : Value} (h : Ran P o a w rv w') {K : Act → World → Prop} {Q : Exit → Act → World → Prop} (hk : K (a.put o.dst rv) w') : o.wp P a w K Q := by
  unfold Oper.wp
  rcases h with h | ⟨h, rfl⟩
  · rw [h]; exact hk
  · rw [h]; exact hk
structure Good (T : Tab) (P : Program) (o : Oper) (a : Act) (m : Nat → Value) (X : Nat → Nat → Prop) (h : Hp T) (w : World) (v : AV T) (h' : Hp T) : Prop where
  out : ∃ rv m' X' w', Ran P o a w rv w' ∧ AR m' X' h'.length w' v rv ∧ Rel T m' X' h' w' ∧ Fr T m X h w m' X' h' w'
/-- Nothing turns. -/
theorem good_pure {o : Oper} {a : Act} {h : Hp T} {v : AV T} (hr : Rel T m X h w) {rv : Value} (hx : (execOp a.eval o).run P w = .ok (.value rv) w) (ha : AR m X h.length w v rv) : Good T P o a m X h w v h :=
  ⟨rv, m, X, w, .inl hx, ha, hr, Fr.refl⟩

/-! ### types -/
theorem sizeOf_eq {t : TypeId} {k : Nat} (h : sizeOf P t = some k) : (P.info? t).map (·.size) = some k := by
  unfold sizeOf at h
  split at h
  · rename_i i hi; cases h; simp [hi]
  · cases h
theorem run_sizeOf' {t : TypeId} {k : Nat} (h : sizeOf P t = some k) (w : World) : (Go.sizeOf t).run P w = .ok k w := by
  unfold sizeOf at h
  split at h
  · rename_i i hi; cases h; simp [Go.sizeOf, typeInfo, hi]
  · cases h
theorem run_aggOf {t : TypeId} {b : Bool} (h : aggOf P t = some b) (w : World) : (Go.isAgg t).run P w = .ok b w := by
  unfold aggOf at h
  split at h
  · rename_i fs hu; cases h; simp [Go.isAgg, run_underlying hu]
  · rename_i k e hu; cases h; simp [Go.isAgg, run_underlying hu]
  · rename_i d h1 h2 hu
    cases h
    unfold Go.isAgg
    rw [Sem.run_bind, run_underlying hu w]
    simp only [Result.andThen_ok]
    cases d <;> first | rfl | exact (h1 _ rfl).elim | exact (h2 _ _ rfl).elim
  · cases h
theorem elem_of {t e : TypeId} (h : P.underlying t = some (.slice e)) : P.underlying t = some (.slice (P.elem t)) ∧ P.elem t = e := by
  have : P.elem t = e := by simp [Program.elem, h]
  rw [this]; exact ⟨h, rfl⟩

/-! ### loads -/
theorem run_cells {b o : Nat} {us : List Value} (hr : w.rangeAt b o us) : (loadCells ⟨b, o, none⟩ us.length).run P w = .ok us.toArray w :=
  run_loadCells_list (P := P) w ⟨b, o, none⟩ us (fun j v hv => by rw [Addr.add_mid]; exact hr j v hv)
theorem load_at {t : TypeId} {b o k : Nat} {ag : Bool} {us : List Value} {ls : List (Lf T)} (hs : sizeOf P t = some k) (hg : aggOf P t = some ag) (hk : ls.length = k) (h1 : (ag || Nat.beq k 1) = true)
    (hr : w.rangeAt b o us) (hl : All2 (LfR m X n w) ls us) : ∃ rv, (Instr.loadAt t (.pointer (some ⟨b, o, none⟩))).run P w = .ok rv w ∧ VR m X n w (ag, ls) rv := by
  have hlen : us.length = k := by rw [← hl.len, hk]
  cases ag with
  | true =>
    refine ⟨.agg us.toArray, ?_, us, hl, by simp⟩
    have := run_cells (P := P) hr
    simp [Instr.loadAt, Instr.sureAddr, loadVar, run_aggOf hg, run_sizeOf' hs, ← hlen, this]
  | false =>
    have h1 : k = 1 := by simpa using h1
    subst h1
    obtain ⟨l, rfl⟩ := List.length_eq_one_iff.1 hk
    obtain ⟨u, rfl, hu⟩ := hl.one
    refine ⟨u, ?_, VR_one.2 hu⟩
    have hc := hr 0 u rfl
    simp only [Nat.add_zero] at hc
    simp [Instr.loadAt, Instr.sureAddr, loadVar, run_aggOf hg, hc]
theorem rangeAt_take_drop {b o : Nat} {us : List Value} (hr : w.rangeAt b o us) (i k : Nat) : w.rangeAt b (o + i) ((us.drop i).take k) := by
  intro j v hv
  rw [List.getElem?_take] at hv
  split at hv
  · rw [List.getElem?_drop] at hv
    have := hr (i + j) v hv
    rwa [Nat.add_assoc]
  · cases hv
theorem load_part {t : TypeId} {b o off : Nat} {us : List Value} {ls : List (Lf T)} {v : V T} (hp : partL P t ls off = some v)
    (hr : w.rangeAt b o us) (hl : All2 (LfR m X n w) ls us) : ∃ rv, (Instr.loadAt t (.pointer (some ⟨b, o + off, none⟩))).run P w = .ok rv w ∧ VR m X n w v rv := by
  unfold partL at hp
  split at hp
  · rename_i k ag hs hg
    cases hc : (Nat.ble (off + k) ls.length && (ag || Nat.beq k 1)) with
    | false => rw [hc] at hp; cases hp
    | true =>
      rw [hc] at hp
      cases hp
      simp only [Bool.and_eq_true] at hc
      have hle := Nat.le_of_ble_eq_true hc.1
      exact load_at hs hg (by simp; omega) hc.2 (rangeAt_take_drop hr off k) ((hl.drop off).take k)
  · cases hp
theorem rangeAt_cells {b : Nat} {tid : TypeId} {vs : List Value} {fr : Nat × Nat} (h : w.heap[b]? = some (.cells vs.toArray tid fr)) : w.rangeAt b 0 vs := by
  intro j v hv
  rw [cell_of_row w b (0 + j) _ _ _ h]
  simpa using hv
theorem lvL_ok {w : World} {ds : List (DL T)} {us : List Value} (h : All2 (fun d u => RD T w X d.1 d.2 u) ds us) : All2 (LfR m X n w) (lvL ds) us := All2.map h
/-- The cells of an element of a slice of one's own. -/
theorem own_elt {h : Hp T} (hr : Rel T m X h w) {i : Nat} {e : TypeId} {ty : Ty} {xs : List (den T.S ty)} {sh : Bool} (ho : h[i]? = some (.gr e ty xs sh)) {b l c : Nat} (hm : m i = .slice (some ⟨b, 0, none⟩) l c) {x : Int} (h0 : 0 ≤ x) (h1 : x < (l : Int)) :
    l = xs.length ∧ ∃ us, w.rangeAt b (x.toNat * (flat T ty).length) us ∧ All2 (fun d u => RD T w X d.1 d.2 u) (lv T ty (rd (dz T ty) xs x)) us := by
  obtain ⟨vs, hown, hrd⟩ := hr.ob i _ ho
  have hll : l = xs.length := by
    rcases hown.2 with ⟨h2, _⟩ | ⟨g, cap, cur, h2, _⟩
    · rw [hm] at h2; cases h2
    · rw [hm] at h2; cases h2; rfl
  refine ⟨hll, ?_⟩
  have hcell := hown.cells (g := b) (by rw [hm]; rfl)
  have hx : x.toNat < xs.length := by omega
  have hg : xs[x.toNat]? = some (rd (dz T ty) xs x) := by
    unfold rd
    rw [List.getD_eq_getElem?_getD, List.getElem?_eq_getElem hx]
    rfl
  refine ⟨(lv T ty (rd (dz T ty) xs x)).mapIdx (fun j _ => (vs[x.toNat * (flat T ty).length + j]?).getD undef), ?_, ?_⟩
  · intro j v hv
    rw [List.getElem?_mapIdx] at hv
    obtain ⟨d, hd, rfl⟩ := Option.map_eq_some_iff.1 hv
    obtain ⟨u, hu, _⟩ := hrd _ _ _ _ hg hd
    have := hcell _ _ hu
    rw [Addr.add_mid] at this
    rw [hu]
    simpa using this
  · refine All2.of (by simp) (fun j d u hd hu => ?_)
    rw [List.getElem?_mapIdx, hd] at hu
    simp only [Option.map_some, Option.some.injEq] at hu
    subst hu
    obtain ⟨v, hv, hq⟩ := hrd _ _ _ _ hg hd
    rw [hv]
    exact hq
theorem rd_at {ty : Ty} {xs : List (den T.S ty)} {x : Int} (hx : x.toNat < xs.length) : xs[x.toNat]? = some (rd (dz T ty) xs x) := by
  unfold rd
  rw [List.getD_eq_getElem?_getD, List.getElem?_eq_getElem hx]
  rfl
theorem HeadR.cells {e : TypeId} {size k : Nat} {fx : Bool} {xs : List Value} {b l c : Nat} (h : HeadR w e size fx (.slice (some ⟨b, 0, none⟩) l c) k xs) : l = k ∧ ∀ (q : Nat) u, xs[q]? = some u → w.cell? ⟨b, q, none⟩ = some u := by
  have fin : ∀ {cur : Array Value} {tid : TypeId} {fr : Nat × Nat}, w.heap[b]? = some (.cells cur tid fr) → cur.toList.take (k * size) = xs → ∀ (q : Nat) u, xs[q]? = some u → w.cell? ⟨b, q, none⟩ = some u := by
    intro cur tid fr hh ht q u hu
    rw [← ht, List.getElem?_take] at hu
    split at hu
    · have hcur : cur = cur.toList.toArray := by simp
      rw [hcur] at hh
      rw [cell_of_row w b q _ _ _ hh]
      simpa using hu
    · cases hu
  cases fx with
  | false =>
    rcases h.2 with ⟨h2, _⟩ | ⟨g, cap, cur, h2, _, h3, _, _, _, h4⟩
    · cases h2
    · cases h2; exact ⟨rfl, fin h3 h4⟩
  | true =>
    rcases h.2 with ⟨h2, _⟩ | ⟨g, cap, cur, h2, h3, _, _, h4⟩
    · cases h2
    · cases h2; exact ⟨rfl, fin h3 h4⟩
/-- The cells of an element. -/
theorem dg_elt {i : Nat} {e : TypeId} {ty : Ty} {xs : List (den T.S ty)} {fx : Bool} {hd : Value} {hs vs : List Value} (h1 : HeadR w e (flat T ty).length fx hd xs.length vs)
    (h5 : ∀ (k : Nat) x (j : Nat) d, xs[k]? = some x → (lv T ty x)[j]? = some d → ∃ v, vs[k * (flat T ty).length + j]? = some v ∧ CellY T w X hs[k]? d v) {b l c : Nat} (hm : hd = .slice (some ⟨b, 0, none⟩) l c) {x : Int} (h0 : 0 ≤ x) (hx : x < (l : Int)) :
    l = xs.length ∧ ∃ us, w.rangeAt b (x.toNat * (flat T ty).length) us ∧ All2 (fun d u => CellY T w X hs[x.toNat]? d u) (lv T ty (rd (dz T ty) xs x)) us := by
  subst hm
  obtain ⟨hl, hc⟩ := h1.cells
  refine ⟨hl, ?_⟩
  have hg := rd_at (T := T) (ty := ty) (xs := xs) (x := x) (by omega)
  refine ⟨(lv T ty (rd (dz T ty) xs x)).mapIdx (fun j _ => (vs[x.toNat * (flat T ty).length + j]?).getD undef), ?_, ?_⟩
  · intro j v hv
    rw [List.getElem?_mapIdx] at hv
    obtain ⟨d, hd, rfl⟩ := Option.map_eq_some_iff.1 hv
    obtain ⟨u, hu, _⟩ := h5 _ _ _ _ hg hd
    rw [hu]
    simpa using hc _ _ hu
  · refine All2.of (by simp) (fun j d u hd hu => ?_)
    rw [List.getElem?_mapIdx, hd] at hu
    simp only [Option.map_some, Option.some.injEq] at hu
    subst hu
    obtain ⟨v, hv, hq⟩ := h5 _ _ _ _ hg hd
    rw [hv]
    exact hq
theorem row_elt {e : TypeId} {t : Ty} {ys : List (den T.S t)} {b l c : Nat} (hr : RowR T w X e t ys (.slice (some ⟨b, 0, none⟩) l c)) {y : Int} (h0 : 0 ≤ y) (h1 : y < (l : Int)) :
    l = ys.length ∧ ∃ us, w.rangeAt b (y.toNat * (flat T t).length) us ∧ All2 (fun d u => RD T w X d.1 d.2 u) (lv T t (rd (dz T t) ys y)) us := by
  obtain ⟨vs, hown, hrd⟩ := hr
  have hown' : HeadR w e (flat T t).length false (.slice (some ⟨b, 0, none⟩) l c) ys.length vs := hown
  obtain ⟨hl, hc⟩ := hown'.cells
  refine ⟨hl, ?_⟩
  have hg := rd_at (T := T) (ty := t) (xs := ys) (x := y) (by omega)
  refine ⟨(lv T t (rd (dz T t) ys y)).mapIdx (fun j _ => (vs[y.toNat * (flat T t).length + j]?).getD undef), ?_, ?_⟩
  · intro j v hv
    rw [List.getElem?_mapIdx] at hv
    obtain ⟨d, hd, rfl⟩ := Option.map_eq_some_iff.1 hv
    obtain ⟨u, hu, _⟩ := hrd _ _ _ _ hg hd
    rw [hu]
    simpa using hc _ _ hu
  · refine All2.of (by simp) (fun j d u hd hu => ?_)
    rw [List.getElem?_mapIdx, hd] at hu
    simp only [Option.map_some, Option.some.injEq] at hu
    subst hu
    obtain ⟨v, hv, hq⟩ := hrd _ _ _ _ hg hd
    rw [hv]
    exact hq
theorem rowD_get : ∀ {ds : List (DL T)} {d : DL T}, rowD ds = some d → ∃ (j : Nat) (e : TypeId) (t : Ty) (xs : List (den T.S t)), ds[j]? = some d ∧ d = ⟨.sl e t, xs⟩
  | ⟨.sl e t, xs⟩ :: r, d, h => by cases h; exact ⟨0, e, t, xs, rfl, rfl⟩
  | ⟨.int k, x⟩ :: r, d, h => by obtain ⟨j, e, t, xs, h1, h2⟩ := rowD_get (ds := r) (show rowD r = some d from h); exact ⟨j + 1, e, t, xs, by simpa using h1, h2⟩
  | ⟨.bool, x⟩ :: r, d, h => by obtain ⟨j, e, t, xs, h1, h2⟩ := rowD_get (ds := r) (show rowD r = some d from h); exact ⟨j + 1, e, t, xs, by simpa using h1, h2⟩
  | ⟨.str, x⟩ :: r, d, h => by obtain ⟨j, e, t, xs, h1, h2⟩ := rowD_get (ds := r) (show rowD r = some d from h); exact ⟨j + 1, e, t, xs, by simpa using h1, h2⟩
  | ⟨.st n, x⟩ :: r, d, h => by obtain ⟨j, e, t, xs, h1, h2⟩ := rowD_get (ds := r) (show rowD r = some d from h); exact ⟨j + 1, e, t, xs, by simpa using h1, h2⟩
  | ⟨.mp k v, x⟩ :: r, d, h => by obtain ⟨j, e, t, xs, h1, h2⟩ := rowD_get (ds := r) (show rowD r = some d from h); exact ⟨j + 1, e, t, xs, by simpa using h1, h2⟩
  | ⟨.it, x⟩ :: r, d, h => by obtain ⟨j, e, t, xs, h1, h2⟩ := rowD_get (ds := r) (show rowD r = some d from h); exact ⟨j + 1, e, t, xs, by simpa using h1, h2⟩
/-- The row of an element: what its head stands for. -/
theorem dg_row {h : Hp T} (hr : Rel T m X h w) {i : Nat} {e : TypeId} {ty : Ty} {xs : List (den T.S ty)} {fx : Bool} (ho : h[i]? = some (.dg e ty xs fx)) {x : Int} {v : Value} (hy : YR (m i) (.row x) v) {e2 : TypeId} {t2 : Ty} {ys : List (den T.S t2)} (hd : rowD (lv T ty (rd (dz T ty) xs x)) = some ⟨.sl e2 t2, ys⟩) :
    x.toNat < xs.length ∧ RowR T w X e2 t2 ys v := by
  obtain ⟨hdv, hs, vs, q1, q2, q3, q4, q5, q6⟩ := hr.ob i _ ho
  obtain ⟨hs', e1, h0, e2', _⟩ := hy
  rw [q1] at e1
  cases e1
  have e3 : hs[x.toNat]? = some v := by simpa using e2'
  have hx : x.toNat < xs.length := by rw [← q3]; exact (List.getElem?_eq_some_iff.1 e3).1
  obtain ⟨j, _, _, _, hj, _⟩ := rowD_get hd
  obtain ⟨u, _, hu1, hu2⟩ := q5 _ _ _ _ (rd_at hx) hj
  rw [e3] at hu1
  cases hu1
  exact ⟨hx, hu2⟩
theorem yL_ok {i : Nat} {x : Int} (h0 : 0 ≤ x) (hi : i < n) {hdv : Value} {hs : List Value} (hm : m i = .tuple (hdv :: hs).toArray) {d : DL T} {u : Value} (hc : CellY T w X hs[x.toNat]? d u) : LfR m X n w (yL i x d) u := by
  obtain ⟨t, y⟩ := d
  cases t with
  | sl e t =>
    obtain ⟨h1, vs, h2, _⟩ := hc
    refine ⟨hi, _, hm, h0, by simpa using h1, ?_⟩
    rcases h2.2 with ⟨h3, _⟩ | ⟨g, cap, cur, h3, _⟩
    · exact ⟨_, _, _, h3⟩
    · exact ⟨_, _, _, h3⟩
  | int k => exact hc
  | bool => exact hc
  | str => exact hc
  | st k => exact hc
  | mp k v => exact hc
  | it => exact hc
theorem load_ok {h : Hp T} (hr : Rel T m X h w) {t : TypeId} {l : Lf T} {v : V T} (hl : loadF P t l h = some v) {pv : Value} (hp : LfR m X h.length w l pv) :
    ∃ rv, (Instr.loadAt t pv).run P w = .ok rv w ∧ VR m X h.length w v rv := by
  unfold loadF at hl
  split at hl
  · rename_i i off
    split at hl
    · rename_i tid ls ho
      rw [nth_eq] at ho
      obtain ⟨b, vs, hm, hh, ha⟩ := hr.ob i _ ho
      obtain ⟨_, b', hm', rfl⟩ := hp
      rw [hm] at hm'
      cases hm'
      have := load_part (b := b) (o := 0) hl (rangeAt_cells hh) ha
      simpa using this
    · cases hl
  · rename_i ds
    obtain ⟨b, o, rfl, hc⟩ := hp
    refine load_part (b := b) (o := o) (off := 0) (us := (lvL ds).mapIdx fun j _ => ((w.cell? ⟨b, o + j, none⟩).getD undef)) hl ?_ ?_
    · intro j v hv
      rw [List.getElem?_mapIdx] at hv
      obtain ⟨d, hd, rfl⟩ := Option.map_eq_some_iff.1 hv
      unfold lvL at hd
      rw [List.getElem?_map] at hd
      obtain ⟨d', hd', rfl⟩ := Option.map_eq_some_iff.1 hd
      obtain ⟨u, hu, _⟩ := hc j d' hd'
      simp [hu]
    · refine All2.of (by simp) (fun j d u hd hu => ?_)
      rw [List.getElem?_mapIdx, hd] at hu
      simp only [Option.map_some, Option.some.injEq] at hu
      subst hu
      unfold lvL at hd
      rw [List.getElem?_map] at hd
      obtain ⟨d', hd', rfl⟩ := Option.map_eq_some_iff.1 hd
      obtain ⟨u, hu, _, hq⟩ := hc j d' hd'
      rw [hu]
      exact hq
  · rename_i i sz x off
    split at hl
    · rename_i e ty xs sh ho
      rw [nth_eq] at ho
      cases hb : Nat.beq sz (flat T ty).length with
      | false => rw [hb] at hl; cases hl
      | true =>
        rw [hb] at hl
        have hsz := Nat.eq_of_beq_eq_true hb
        subst hsz
        obtain ⟨_, b, l, c, hm, h0, h1, rfl⟩ := hp
        obtain ⟨_, us, hu1, hu2⟩ := own_elt hr ho hm h0 h1
        exact load_part hl hu1 (lvL_ok hu2)
    · cases hl
  · rename_i i sz x off
    split at hl
    · rename_i e ty xs fx ho
      rw [nth_eq] at ho
      cases hb : Nat.beq sz (flat T ty).length with
      | false => rw [hb] at hl; cases hl
      | true =>
        rw [hb] at hl
        have hsz := Nat.eq_of_beq_eq_true hb
        subst hsz
        obtain ⟨hdv, hs, vs, q1, q2, q3, q4, q5, q6⟩ := hr.ob i _ ho
        obtain ⟨hi, hs', e1, b, l, c, e2, h0, h1, rfl⟩ := hp
        rw [q1] at e1
        cases e1
        have e3 : hdv = .slice (some ⟨b, 0, none⟩) l c := by simpa using e2
        obtain ⟨_, us, hu1, hu2⟩ := dg_elt (i := i) q2 q5 e3 h0 h1
        exact load_part hl hu1 (All2.map (hu2.imp (fun d u hc => yL_ok h0 hi q1 hc)))
    · cases hl
  · rename_i i x sz y off
    split at hl
    · rename_i e ty xs fx ho
      rw [nth_eq] at ho
      split at hl
      · rename_i e2 t2 ys hd
        cases hb : Nat.beq sz (flat T t2).length with
        | false => rw [hb] at hl; cases hl
        | true =>
          rw [hb] at hl
          have hsz := Nat.eq_of_beq_eq_true hb
          subst hsz
          obtain ⟨hi, hs', e1, h0, b, l, c, e3, h1, h2, rfl⟩ := hp
          obtain ⟨_, hrow⟩ := dg_row hr ho ⟨hs', e1, h0, e3, _, _, _, rfl⟩ hd
          obtain ⟨_, us, hu1, hu2⟩ := row_elt hrow h1 h2
          exact load_part hl hu1 (lvL_ok hu2)
      · cases hl
    · cases hl
  · cases hl
end
end Go.Proofs.Ytfojcadooepgpaa.Rx
