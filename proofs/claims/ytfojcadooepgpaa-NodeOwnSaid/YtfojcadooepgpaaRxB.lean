/- A plain evaluator over the translated code: maps. Under no condition. -/
import Derived.Test.YtfojcadooepgpaaRxX
import Derived.MapKept
import Derived.Maps.RangeRun
set_option linter.unusedVariables false
set_option linter.unusedSimpArgs false
namespace Go.Proofs.Ytfojcadooepgpaa.Rx
open Go Go.RowKit

section
variable {T : Tab} {m m' : Nat → Value} {X X' : Nat → Nat → Prop} {n n' : Nat} {w w' : World} {P : Program} {h h' : Hp T}

/-! ### draws -/
theorem On.drawn {n : Nat} (k : Nat) : On m X n w m X n { w with drawn := k } := ⟨Nat.le_refl _, fun _ _ => rfl, fun _ _ h => h, fun _ _ _ => rfl⟩
theorem Rel.drawn (hr : Rel T m X h w) (k : Nat) : Rel T m X h { w with drawn := k } where
  ob := by
    intro i o ho
    have h1 := hr.ob i o ho
    cases o with
    | box tid ls => obtain ⟨b, vs, q1, q2, q3⟩ := h1; exact ⟨b, vs, q1, q2, q3.imp (fun _ _ h => h.on (On.drawn k))⟩
    | gr e t xs sh =>
      obtain ⟨vs, q1, q2⟩ := h1
      refine ⟨vs, q1, fun k' x j d hk hj => ?_⟩
      obtain ⟨v, q3, q4⟩ := q2 k' x j d hk hj
      exact ⟨v, q3, RD.mono (w := w) (w' := { w with drawn := k }) (X := X) (X' := X) (fun _ _ _ => rfl) (fun _ _ h => h) q4⟩
    | mp mt kt v x po => obtain ⟨r, es, q1, q2, q3, q4⟩ := h1; exact ⟨r, es, q1, q2, q3.imp (fun _ _ q => q.mono (w := w) (w' := { w with drawn := k }) (X := X) (X' := X) (fun _ _ _ => rfl) (fun _ _ h => h)), q4⟩
    | po e t => exact h1
    | it j y => exact h1
    | no => trivial
    | dg e t xs fx =>
      obtain ⟨hd, hs, vs, q1, q2, q3, q4, q5, q6⟩ := h1
      refine ⟨hd, hs, vs, q1, (by cases fx <;> exact q2), q3, q4, fun k' x j d hk hj => ?_, q6⟩
      obtain ⟨v, q7, q8⟩ := q5 k' x j d hk hj
      exact ⟨v, q7, celly_keep (On.drawn (m := m) (n := 0) k) q8 (fun _ _ _ => rfl)⟩
  sep := hr.sep
  lt := hr.lt
  pv := hr.pv
  gr := hr.gr
  po := hr.po
theorem Fr.drawn (k : Nat) : Fr T m X h w m X h { w with drawn := k } := ⟨On.drawn k, Nat.le_refl _, rfl, rfl, rfl, fun _ _ _ => rfl, fun _ h => .inl h, fun _ _ h => .inl h⟩
/-! ### keys -/
theorem idxE_lt {K V : Type} {q : K → K → Bool} {k : K} : ∀ {l : List (Nat × K × V)} {j : Nat}, idxE q k l = some j → j < l.length
  | [], j, h => by cases h
  | e :: r, j, h => by
    unfold idxE at h
    cases hb : q k e.2.1 with
    | true => rw [hb] at h; cases h; simp
    | false =>
      rw [hb] at h
      obtain ⟨i, hi, rfl⟩ := Option.map_eq_some_iff.1 h
      have := idxE_lt hi
      simp
      omega
theorem getE_idx {K V : Type} {q : K → K → Bool} {k : K} : ∀ {l : List (Nat × K × V)}, getE q k l = (match idxE q k l with | none => none | some j => (l[j]?).map (·.2.2))
  | [] => rfl
  | e :: r => by
    unfold getE idxE
    cases hb : q k e.2.1 with
    | true => rfl
    | false =>
      simp only [cond_false]
      rw [getE_idx]
      cases idxE q k r <;> simp
theorem setE_none {K V : Type} {q : K → K → Bool} {k : K} {v : V} {c : Nat} : ∀ {l : List (Nat × K × V)}, idxE q k l = none → setE q k v c l = l ++ [(c, k, v)]
  | [], _ => rfl
  | e :: r, h => by
    unfold idxE at h
    unfold setE
    cases hb : q k e.2.1 with
    | true => rw [hb] at h; cases h
    | false =>
      rw [hb] at h
      simp only [cond_false] at h ⊢
      rw [setE_none (Option.map_eq_none_iff.1 h)]
      rfl
theorem setE_some {K V : Type} {q : K → K → Bool} {k : K} {v : V} {c : Nat} : ∀ {l : List (Nat × K × V)} {j : Nat}, idxE q k l = some j → setE q k v c l = l.modify j fun e => (e.1, k, v)
  | [], j, h => by cases h
  | e :: r, j, h => by
    unfold idxE at h
    unfold setE
    cases hb : q k e.2.1 with
    | true => rw [hb] at h; cases h; rfl
    | false =>
      rw [hb] at h
      obtain ⟨i, hi, rfl⟩ := Option.map_eq_some_iff.1 h
      simp only [cond_false]
      rw [setE_some hi]
      rfl
theorem delE_none {K V : Type} {q : K → K → Bool} {k : K} : ∀ {l : List (Nat × K × V)}, idxE q k l = none → delE q k l = l
  | [], _ => rfl
  | e :: r, h => by
    unfold idxE at h
    unfold delE
    cases hb : q k e.2.1 with
    | true => rw [hb] at h; cases h
    | false =>
      rw [hb] at h
      simp only [cond_false] at h ⊢
      rw [delE_none (Option.map_eq_none_iff.1 h)]
theorem delE_some {K V : Type} {q : K → K → Bool} {k : K} : ∀ {l : List (Nat × K × V)} {j : Nat}, idxE q k l = some j → delE q k l = l.eraseIdx j
  | [], j, h => by cases h
  | e :: r, j, h => by
    unfold idxE at h
    unfold delE
    cases hb : q k e.2.1 with
    | true => rw [hb] at h; cases h; rfl
    | false =>
      rw [hb] at h
      obtain ⟨i, hi, rfl⟩ := Option.map_eq_some_iff.1 h
      simp only [cond_false]
      rw [delE_some hi]
      rfl
def descOf : Ty → Option TypeDesc
  | .int k => some (.int k) | .str => some .string | _ => none
theorem mapTy_some {t : TypeId} {q : Ty × Ty × TypeId} (h : mapTy P t = some q) : ∃ kt d, P.underlying t = some (.map kt q.2.2) ∧ P.underlying kt = some d ∧ descOf q.1 = some d ∧ tyOf P 4 q.2.2 = some q.2.1 := by
  unfold mapTy at h
  split at h
  · rename_i kt vt hu
    split at h
    · rename_i k v hk hv
      cases hb : kOk k with
      | false => rw [hb] at h; cases h
      | true =>
        rw [hb] at h
        cases h
        unfold tyOf at hk
        split at hk
        · rename_i ki hki; cases hk; exact ⟨kt, _, hu, hki, rfl, hv⟩
        · cases hk; cases hb
        · rename_i hki; cases hk; exact ⟨kt, _, hu, hki, rfl, hv⟩
        · split at hk
          · cases hk; cases hb
          · cases hk
        · cases hk; cases hb
        · cases hk
    · cases h
  · cases h
theorem same_int (k : IntKind) (a b : Int) : Instr.sameNow (.int k) (.int k a) (.int k b) = some (keyI a b) := by
  show (if k = k then some (a == b) else none) = _
  rw [if_pos rfl]
  rfl
theorem beqBA (a b : ByteArray) : (a == b) = true ↔ a = b := by
  constructor
  · intro h
    obtain ⟨x⟩ := a
    obtain ⟨y⟩ := b
    have : (x == y) = true := h
    rw [eq_of_beq this]
  · rintro rfl
    obtain ⟨x⟩ := a
    show (x == x) = true
    simp
theorem same_str (a b : ByteArray) : Instr.sameNow .string (.string a) (.string b) = some (keyS a b) := by
  show some (a == b) = _
  congr 1
  rw [Bool.eq_iff_iff, beqBA]
  simp [keyS]
theorem key_same {k : Ty} {d : TypeDesc} (hd : descOf k = some d) {a b : den T.S k} {u v : Value} (hu : RD T w X k a u) (hv : RD T w' X' k b v) : Instr.sameNow d u v = some (keqT k a b) := by
  cases hu with
  | int kk n => cases hd; rw [show v = .int kk b from RD.inv hv]; exact same_int kk n b
  | str s => cases hd; rw [show v = .string b from RD.inv hv]; exact same_str s b
  | _ => cases hd
/-- Keys are looked for. -/
theorem find_ok {k v : Ty} {d : TypeDesc} (hd : descOf k = some d) {key : den T.S k} {kv : Value} (hk : RD T w X k key kv) : ∀ {l : List (Nat × den T.S k × den T.S v)} {es : List MapEntry}, All2 (EntR T w X k v) l es → ∀ i,
    Instr.findNow d kv es i = some (match idxE (keqT k) key l with | none => none | some j => (es[j]?).map fun e => (i + j, e.val))
  | [], [], _, i => rfl
  | e :: l, me :: es, h, i => by
    have ih := find_ok hd hk h.2 (i + 1)
    have same := key_same hd hk h.1.2.1
    unfold Instr.findNow idxE
    rw [same]
    cases hb : keqT k key e.2.1 with
    | true => simp
    | false =>
      simp only [cond_false]
      rw [ih]
      cases hj : idxE (keqT k) key l with
      | none => rfl
      | some j =>
        simp only [Option.map_some, List.getElem?_cons_succ]
        congr 2
        funext e'
        congr 1
        omega
  | [], _ :: _, h, _ => h.elim
  | _ :: _, [], h, _ => h.elim
theorem check_int {kt : TypeId} {k : IntKind} (hu : P.underlying kt = some (.int k)) (b : Bool) (n : Nat) (a : Int) : (Instr.checkKey b (n + 1) kt (.int k a)).run P w = .ok () w := by simp [Instr.checkKey, run_underlying hu]
theorem check_str {kt : TypeId} (hu : P.underlying kt = some .string) (b : Bool) (n : Nat) (a : ByteArray) : (Instr.checkKey b (n + 1) kt (.string a)).run P w = .ok () w := by simp [Instr.checkKey, run_underlying hu]
theorem run_check {kt : TypeId} {d : TypeDesc} {k : Ty} (hu : P.underlying kt = some d) (hd : descOf k = some d) {key : den T.S k} {kv : Value} (hk : RD T w' X k key kv) (b : Bool) : (Instr.checkKey b 10000 kt kv).run P w = .ok () w := by
  cases hk with
  | int kk n => cases hd; exact check_int hu b 9999 n
  | str s => cases hd; exact check_str hu b 9999 s
  | _ => cases hd
theorem run_find {kt : TypeId} {d : TypeDesc} {k v : Ty} (hu : P.underlying kt = some d) (hd : descOf k = some d) {key : den T.S k} {kv : Value} (hk : RD T w X k key kv) {l : List (Nat × den T.S k × den T.S v)} {es : List MapEntry} (h : All2 (EntR T w X k v) l es) :
    (Instr.findKey kt kv es).run P w = .ok (match idxE (keqT k) key l with | none => none | some j => (es[j]?).map fun e => (j, e.val)) w := by
  have := find_ok hd hk h 0
  simp only [Nat.zero_add] at this
  simp [Instr.findKey, run_underlying hu, this]
theorem keyOf_ok {k : Ty} {l : Lf T} {key : den T.S k} (hk : keyOfL k l = some key) {kv : Value} (hl : LfR m X n w l kv) : RD T w X k key kv := by
  unfold keyOfL at hk
  split at hk
  · rename_i t x
    have e := asT_some hk
    cases e
    exact hl
  · cases hk
/-- A map, and its memory. -/
structure IsMap (m : Nat → Value) (X : Nat → Nat → Prop) (h : Hp T) (w : World) (i : Nat) (k v : Ty) (x : MapD (den T.S k) (den T.S v)) (r : Nat) (es : Array MapEntry) : Prop where
  ob : ∃ mt po, h[i]? = some (.mp mt k v x po)
  at_ : m i = .map (some r)
  mem : w.heap[r]? = some (.map es x.ck)
  all : All2 (EntR T w X k v) x.es es.toList
theorem mapOf_ok (hr : Rel T m X h w) {l : Lf T} {k v : Ty} {x : Nat × MapD (den T.S k) (den T.S v)} (hx : mapOf h l k v = some x) {mv : Value} (hl : LfR m X n w l mv) : l = .m x.1 ∧ ∃ r es, mv = .map (some r) ∧ IsMap m X h w x.1 k v x.2 r es := by
  unfold mapOf at hx
  split at hx
  · rename_i i
    split at hx
    · rename_i mt k' v' y po ho
      rw [nth_eq] at ho
      split at hx
      · rename_i z hz
        cases hx
        have e := asT_some (d := (⟨.mp k' v', y⟩ : DL T)) (t := .mp k v) (y := z) hz
        cases e
        obtain ⟨r, es, h1, h2, h3, _⟩ := hr.ob i _ ho
        refine ⟨rfl, r, es, by rw [hl.2.1]; exact h1, ⟨mt, po, ho⟩, h1, h2, h3⟩
      · cases hx
    · cases hx
  · cases hx
theorem MVal.vr {v : Ty} {y : den T.S v} {val : Value} (hv : MValR T w X v y val) : VR m X n w (mval v y) val := by
  obtain ⟨us, h1, h2⟩ := hv
  exact ⟨us, lvL_ok h1, h2⟩
/-- An element's cells are a map's value. -/
theorem mval_of {v : Ty} {y : den T.S v} {us : List Value} (hc : CellsOf T w X v [y] us) {val : Value} (hs : if isSt v = true then val = .agg us.toArray else us = [val]) : MValR T w X v y val := by
  refine ⟨us, All2.of ?_ (fun j d u hd hu => ?_), hs⟩
  · rw [lv_len, hc.1]; simp
  · obtain ⟨u', h1, h2⟩ := hc.2 0 y j d rfl hd
    rw [Nat.zero_mul, Nat.zero_add, hu] at h1
    cases h1
    exact h2
theorem zero_val {e : TypeId} {v : Ty} {zv : V T} (hz : zeroOf P e = some zv) (hs : (zv.1 == isSt v) = true) {z : den T.S v × Hp T} (he : eltOf v zv.2 ([] : Hp T) = some z) : ∃ zz, (zeroValue e).run P w = .ok zz w ∧ MValR T w X v z.1 zz := by
  obtain ⟨i, zz, hi, hzz⟩ : ∃ i zz, P.info? e = some i ∧ i.zero = some zz ∧ ofVal zz = some zv := by
    unfold zeroOf at hz
    split at hz
    · rename_i i hi
      split at hz
      · rename_i zz hzz; exact ⟨i, zz, hi, hzz, hz⟩
      · cases hz
    · cases hz
  have r0 : Rel T (fun _ => Value.nilFunc) (fun _ _ => False) ([] : Hp T) w := ⟨fun i o hi => by simp at hi, fun i j o o' hi => by simp at hi, fun _ _ hf => hf.elim, fun i o hi => by simp at hi, fun i e t x s hi => by simp at hi, fun i e t hi => by simp at hi⟩
  obtain ⟨⟨us, h1, h2⟩, _⟩ := ofVal_ok (m := fun _ => Value.nilFunc) (X := fun _ _ => False) (n := 0) (w := w) hzz.2
  obtain ⟨m1, X1, q1, q2, q3⟩ := elt_ok r0 he h1
  have hX1 : ∀ b o, ¬ X1 b o := by
    intro b o hb
    rcases q3.new b o hb with h6 | ⟨j, o', hj, _⟩ | h6
    · exact h6
    · simp at hj
    · exact absurd (q1.lt b o hb) (by omega)
  have q4 : CellsOf T w X v [z.1] us := q2.mono (fun b o hb => absurd hb (hX1 b o)) (fun b o hb => absurd hb (hX1 b o))
  have e1 : zv.1 = isSt v := by simpa using hs
  rw [e1] at h2
  exact ⟨zz, by simp [zeroValue, typeInfo, hi, hzz.1], mval_of q4 h2⟩
theorem look_ok (hr : Rel T m X h w) {t : TypeId} {l ix : Lf T} {ok : Bool} {v : AV T} (hx : lookF P t l ix ok h = some v) {mv kv : Value} (hl : LfR m X h.length w l mv) (hk : LfR m X h.length w ix kv) :
    ∃ rv, (Instr.lookup t mv kv ok).run P w = .ok rv w ∧ AR m X h.length w v rv := by
  unfold lookF at hx
  split at hx
  · rename_i q hq
    obtain ⟨kt, d, hu, hd1, hd2, _⟩ := mapTy_some hq
    split at hx
    · rename_i x key zv h1 h2 h3
      cases hb : (zv.1 == isSt q.2.1) with
      | false => rw [hb] at hx; cases hx
      | true =>
        rw [hb] at hx
        simp only [cond_true] at hx
        split at hx
        · rename_i z hz
          cases hx
          obtain ⟨_, r, es, rfl, M⟩ := mapOf_ok hr h1 hl
          have hkey := keyOf_ok h2 hk
          obtain ⟨zz, hz1, hz2⟩ := zero_val (w := w) (X := X) h3 hb hz
          have hf := run_find (P := P) hd1 hd2 hkey M.all
          have hc := fun b => run_check (P := P) (w := w) hd1 hd2 hkey b
          have hm := M.mem
          -- what is found
          have val : ∃ val, MValR T w X q.2.1 (mget (keqT q.1) z.1 x.2 key) val ∧ (Instr.lookup t (.map (some r)) kv ok).run P w = .ok (if ok then .tuple #[val, .bool (mhas (keqT q.1) x.2 key)] else val) w := by
            unfold mget mhas
            rw [getE_idx]
            have hg : (getObj r).run P w = .ok (.map es x.2.ck) w := by simp [getObj, Sem.run, hm]
            cases hi : idxE (keqT q.1) key x.2.es with
            | none =>
              rw [hi] at hf
              exact ⟨zz, hz2, by simp [Instr.lookup, run_underlying hu, hg, hc, hf, hz1]⟩
            | some j =>
              rw [hi] at hf
              have hj := idxE_lt hi
              obtain ⟨me, hme, hent⟩ := M.all.get (List.getElem?_eq_getElem hj)
              dsimp only at hf
              rw [hme] at hf
              simp only [Option.map_some] at hf
              simp only [List.getElem?_eq_getElem hj, Option.map_some]
              exact ⟨me.val, hent.2.2, by simp [Instr.lookup, run_underlying hu, hg, hc, hf]⟩
          obtain ⟨val, hv, hrun⟩ := val
          refine ⟨_, hrun, ?_⟩
          cases ok with
          | true => exact ⟨[val, .bool _], ⟨MVal.vr hv, VR_one.2 (RD.bool _), trivial⟩, rfl⟩
          | false => exact MVal.vr hv
        · cases hx
    · cases hx
  · cases hx

/-! ### a map, or how far it is gone over, turns in its place -/
def stO (w : World) (r : Nat) (o : Obj) : World := { w with heap := w.heap.setIfInBounds r o }
theorem stO_same {r : Nat} {o o' : Obj} (hr : w.heap[r]? = some o') : (stO w r o).heap[r]? = some o := by
  have := (Array.getElem?_eq_some_iff.1 hr).1
  simp [stO, this]
theorem stO_other {r b : Nat} {o : Obj} (hb : b ≠ r) : (stO w r o).heap[b]? = w.heap[b]? := by simp [stO, Array.getElem?_setIfInBounds, Ne.symm hb]
def noCells : Obj → Bool
  | .map _ _ => true | .mapIter _ _ _ _ => true | _ => false
theorem stO_cell {r : Nat} {o o' : Obj} (hr : w.heap[r]? = some o') (h1 : noCells o' = true) (h2 : noCells o = true) (a : Addr) : (stO w r o).cell? a = w.cell? a := by
  unfold World.cell?
  by_cases hb : a.block = r
  · rw [hb, stO_same hr, hr]
    cases o' <;> simp_all [noCells] <;> cases o <;> simp_all [noCells]
  · rw [stO_other hb]
theorem turn_ok (hr : Rel T m X h w) {i r : Nat} {o o0 : Ob T} (ho : h[i]? = some o) (hbo : Blk (m i) r) (hlo : o.live = true) (hseen : SeenOk X (m i) o0) {b0 b1 : Obj} (hb0 : w.heap[r]? = some b0) (hn0 : noCells b0 = true) (hn1 : noCells b1 = true)
    (h0 : On m X h.length w m X h.length (stO w r b1) → ObR m X h.length (stO w r b1) i o0) :
    Rel T m X (setO h i o0) (stO w r b1) ∧ Fr T m X h w m X (setO h i o0) (stO w r b1) := by
  have hlt := lt_of_get ho
  have hlen := setO_len h i o0
  have on : On m X h.length w m X (setO h i o0).length (stO w r b1) := ⟨by rw [hlen]; exact Nat.le_refl _, fun _ _ => rfl, fun _ _ hx => hx, fun b p _ => stO_cell hb0 hn0 hn1 _⟩
  have hkeep : ∀ j o', j ≠ i → (setO h i o0)[j]? = some o' → h[j]? = some o' := fun j o' hne hj => by rwa [setO_other _ _ hne] at hj
  have hsep : ∀ j o' b, j ≠ i → h[j]? = some o' → o'.live = true → Blk (m i) b → ¬ Blk (m j) b := fun j o' b hne hj hl hb => hr.sep i j _ _ ho hj (Ne.symm hne) hlo hl b hb
  have hsz : (stO w r b1).heap.size = w.heap.size := by simp [stO]
  refine ⟨hr.upd on (setO_same _ hlt) (fun j o' hne hj => .inr ⟨hkeep j o' hne hj, fun b hb hl => stO_other (fun e => hsep j o' r hne (hkeep j o' hne hj) hl hbo (e ▸ hb))⟩) (by rw [hlen]; rw [hlen] at on; exact h0 on) (fun _ b hb j o' hne hj hl => hsep j o' b hne (hkeep j o' hne hj) hl hb) (fun b p hx => by rw [hsz]; exact hr.lt b p hx) (fun _ _ _ _ _ _ _ _ hx => hx) hseen, ?_⟩
  exact Fr.upd (i0 := i) on (Nat.le_of_eq hsz.symm) rfl rfl rfl (fun b _ hm => stO_other (fun e => hm ⟨i, o, ho, hlo, by rw [e]; exact hbo⟩)) (fun j o' hne hj => .inr (hkeep j o' hne hj)) (fun o' _ _ b hb => .inl ⟨i, o, ho, hlo, hb⟩) (fun _ _ hx => .inl hx)
theorem all2_modify {α β : Type} {R : α → β → Prop} {f : α → α} {g : β → β} : ∀ {l : List α} {r : List β} {j : Nat}, All2 R l r → (∀ a b, l[j]? = some a → r[j]? = some b → R (f a) (g b)) → All2 R (l.modify j f) (r.modify j g)
  | [], [], j, _, _ => by cases j <;> trivial
  | a :: l, b :: r, 0, h, hf => ⟨hf a b rfl rfl, h.2⟩
  | a :: l, b :: r, j + 1, h, hf => ⟨h.1, all2_modify h.2 (fun a b ha hb => hf a b (by simpa using ha) (by simpa using hb))⟩
  | [], _ :: _, _, h, _ => h.elim
  | _ :: _, [], _, h, _ => h.elim
theorem all2_erase {α β : Type} {R : α → β → Prop} : ∀ {l : List α} {r : List β} (j : Nat), All2 R l r → All2 R (l.eraseIdx j) (r.eraseIdx j)
  | [], [], j, _ => by cases j <;> trivial
  | a :: l, b :: r, 0, h => h.2
  | a :: l, b :: r, j + 1, h => ⟨h.1, all2_erase j h.2⟩
  | [], _ :: _, _, h => h.elim
  | _ :: _, [], _, h => h.elim
theorem bits_int (k : IntKind) (a b : Int) (h : keyI b a = true) : Instr.sameBits 10000 (.int k a) (.int k b) = true := by
  have e : b = a := of_decide_eq_true h
  subst e
  simp [Instr.sameBits]
theorem bits_str (a b : ByteArray) (h : keyS b a = true) : Instr.sameBits 10000 (.string a) (.string b) = true := by
  have e : b = a := of_decide_eq_true h
  subst e
  show (b == b) = true
  exact (beqBA b b).2 rfl
theorem same_bits {k : Ty} {d : TypeDesc} (hd : descOf k = some d) {a b : den T.S k} {u v : Value} (hu : RD T w X k a u) (hv : RD T w' X' k b v) (he : keqT k b a = true) : Instr.sameBits 10000 u v = true := by
  cases hu with
  | int kk n => rw [show v = .int kk b from RD.inv hv]; exact bits_int kk n b he
  | str s => rw [show v = .string b from RD.inv hv]; exact bits_str s b he
  | _ => cases hd
theorem idxE_eq {K V : Type} {q : K → K → Bool} {k : K} : ∀ {l : List (Nat × K × V)} {j : Nat} {e : Nat × K × V}, idxE q k l = some j → l[j]? = some e → q k e.2.1 = true
  | [], j, e, h, _ => by cases h
  | a :: r, j, e, h, he => by
    unfold idxE at h
    cases hb : q k a.2.1 with
    | true => rw [hb] at h; cases h; simp at he; subst he; exact hb
    | false =>
      rw [hb] at h
      obtain ⟨i, hi, rfl⟩ := Option.map_eq_some_iff.1 h
      exact idxE_eq hi (by simpa using he)
theorem upd_ok (hr : Rel T m X h w) {t : TypeId} {l ix : Lf T} {y : V T} (hx : updF P t l ix y h = some h') {mv kv yv : Value} (hl : LfR m X h.length w l mv) (hk : LfR m X h.length w ix kv) (hy : VR m X h.length w y yv) :
    ∃ m' X' w', (Instr.mapUpdate t mv kv yv).run P w = .ok () w' ∧ Rel T m' X' h' w' ∧ Fr T m X h w m' X' h' w' := by
  unfold updF at hx
  split at hx
  · rename_i q hq
    obtain ⟨kt, d, hu, hd1, hd2, _⟩ := mapTy_some hq
    split at hx
    · rename_i key h2
      cases hb : (y.1 == isSt q.2.1) with
      | false => rw [hb] at hx; cases hx
      | true =>
        rw [hb] at hx
        simp only [cond_true] at hx
        split at hx
        · rename_i z hz
          split at hx
          · rename_i x h1
            cases hnp : noPool z.2 x.1 with
            | false => rw [hnp] at hx; cases hx
            | true =>
            rw [hnp] at hx
            cases hx
            obtain ⟨us, g1, g2⟩ := hy
            have e1 : y.1 = isSt q.2.1 := by simpa using hb
            rw [e1] at g2
            obtain ⟨m1, X1, r1, r2, r3⟩ := elt_ok hr hz g1
            have hval := mval_of r2 g2
            have hl1 := hl.on r3.on
            have hkey := (keyOf_ok h2 hk).mono r3.on.ww r3.on.xx
            obtain ⟨el, r, es, rfl, M⟩ := mapOf_ok r1 h1 hl1
            obtain ⟨mt, po, hob⟩ := M.ob
            have hf := run_find (P := P) hd1 hd2 hkey M.all
            have hc := run_check (P := P) (w := w) hd1 hd2 hkey false
            have hm := M.mem
            have hg : (getObj r).run P w = .ok (.map es x.2.ck) w := by simp [getObj, Sem.run, hm]
            have hs : ∀ o, (setObj r o).run P w = .ok () (stO w r o) := fun o => by simp [setObj, Sem.run, hm, stO]
            have hbo : Blk (m1 x.1) r := by rw [M.at_]; rfl
            -- the new entries
            suffices h9 : ∃ es' ck', (Instr.mapUpdate t (.map (some r)) kv yv).run P w = .ok () (stO w r (.map es' ck')) ∧ ck' = (mset (keqT q.1) x.2 key z.1).ck ∧ ∀ w2, (∀ b o, X1 b o → w2.cell? ⟨b, o, none⟩ = w.cell? ⟨b, o, none⟩) → All2 (EntR T w2 X1 q.1 q.2.1) (mset (keqT q.1) x.2 key z.1).es es'.toList by
              obtain ⟨es', ck', q1, q2, q3⟩ := h9
              have tk := turn_ok r1 (o0 := .mp t q.1 q.2.1 (mset (keqT q.1) x.2 key z.1) none) hob hbo rfl trivial hm rfl (b1 := .map es' ck') rfl (fun on => ⟨r, es', M.at_, by rw [stO_same hm, q2], q3 _ on.ww, trivial⟩)
              exact ⟨m1, X1, _, q1, tk.1, r3.trans tk.2⟩
            cases hi : idxE (keqT q.1) key x.2.es with
            | none =>
              rw [hi] at hf
              have e2 : mset (keqT q.1) x.2 key z.1 = ⟨x.2.es ++ [(x.2.ck, key, z.1)], x.2.ck + 1⟩ := by
                unfold mset
                rw [setE_none hi, getE_idx, hi]
                rfl
              refine ⟨es.push { key := kv, val := yv, born := x.2.ck }, x.2.ck + 1, by simp [Instr.mapUpdate, run_underlying hu, hg, hc, hf, hs], by rw [e2], fun w2 hw2 => ?_⟩
              rw [e2, Array.toList_push]
              exact (M.all.imp (fun _ _ q => q.mono hw2 (fun _ _ h => h))).append ⟨⟨rfl, hkey.mono hw2 (fun _ _ h => h), hval.mono hw2 (fun _ _ h => h)⟩, trivial⟩
            | some j =>
              rw [hi] at hf
              have hj := idxE_lt hi
              obtain ⟨me, hme, hent⟩ := M.all.get (List.getElem?_eq_getElem hj)
              dsimp only at hf
              rw [hme] at hf
              simp only [Option.map_some] at hf
              have hsb := same_bits hd2 hent.2.1 hkey (idxE_eq hi (List.getElem?_eq_getElem hj))
              have hmk : es[j]? = some me := by rw [← Array.getElem?_toList]; exact hme
              have hkt : (Instr.keyThatStays me.key kv).run P w = .ok kv w := by simp [Instr.keyThatStays, hsb]
              have e2 : mset (keqT q.1) x.2 key z.1 = ⟨x.2.es.modify j fun e => (e.1, key, z.1), x.2.ck⟩ := by
                unfold mset
                rw [setE_some hi, getE_idx, hi]
                simp [List.getElem?_eq_getElem hj]
              refine ⟨es.modify j fun e => { e with key := kv, val := yv }, x.2.ck, by simp [Instr.mapUpdate, run_underlying hu, hg, hc, hf, hmk, hkt, hs], by rw [e2], fun w2 hw2 => ?_⟩
              rw [e2, Array.toList_modify]
              refine all2_modify (M.all.imp (fun _ _ q => q.mono hw2 (fun _ _ h => h))) (fun a b ha hb' => ?_)
              obtain ⟨b2, hb2, hab⟩ := M.all.get ha
              rw [hb'] at hb2
              cases hb2
              exact ⟨hab.1, hkey.mono hw2 (fun _ _ h => h), hval.mono hw2 (fun _ _ h => h)⟩
          · cases hx
        · cases hx
    · cases hx
  · cases hx
theorem del_ok (hr : Rel T m X h w) {t : TypeId} {l ix : Lf T} (hx : delF P t l ix h = some h') {mv kv : Value} (hl : LfR m X h.length w l mv) (hk : LfR m X h.length w ix kv) {ts : Array TypeId} (hts : ts[0]? = some t) {ty : TypeId} :
    ∃ w', (Builtin.delete_ ts ty #[mv, kv]).run P w = .ok (.tuple #[]) w' ∧ Rel T m X h' w' ∧ Fr T m X h w m X h' w' := by
  unfold delF at hx
  split at hx
  · rename_i q hq
    obtain ⟨kt, d, hu, hd1, hd2, _⟩ := mapTy_some hq
    split at hx
    · rename_i x key h1 h2
      cases hnp : noPool h x.1 with
      | false => rw [hnp] at hx; cases hx
      | true =>
      rw [hnp] at hx
      cases hx
      have hkey := keyOf_ok h2 hk
      obtain ⟨el, r, es, rfl, M⟩ := mapOf_ok hr h1 hl
      obtain ⟨mt, po, hob⟩ := M.ob
      have hf := run_find (P := P) hd1 hd2 hkey M.all
      have hc := fun b => run_check (P := P) (w := w) hd1 hd2 hkey b
      have hm := M.mem
      have hg : (getObj r).run P w = .ok (.map es x.2.ck) w := by simp [getObj, Sem.run, hm]
      have hs : ∀ o, (setObj r o).run P w = .ok () (stO w r o) := fun o => by simp [setObj, Sem.run, hm, stO]
      have hbo : Blk (m x.1) r := by rw [M.at_]; rfl
      suffices h9 : ∃ es', (Builtin.delete_ ts ty #[.map (some r), kv]).run P w = .ok (.tuple #[]) (stO w r (.map es' x.2.ck)) ∧ ∀ w2, (∀ b o, X b o → w2.cell? ⟨b, o, none⟩ = w.cell? ⟨b, o, none⟩) → All2 (EntR T w2 X q.1 q.2.1) (mdel (keqT q.1) x.2 key).es es'.toList by
        obtain ⟨es', q1, q3⟩ := h9
        have tk := turn_ok hr (o0 := .mp t q.1 q.2.1 (mdel (keqT q.1) x.2 key) none) hob hbo rfl trivial hm rfl (b1 := .map es' x.2.ck) rfl (fun on => ⟨r, es', M.at_, by rw [stO_same hm]; rfl, q3 _ on.ww, trivial⟩)
        exact ⟨_, q1, tk.1, tk.2⟩
      cases hi : idxE (keqT q.1) key x.2.es with
      | none =>
        rw [hi] at hf
        refine ⟨es, by simp [Builtin.delete_, hts, run_underlying hu, hg, hc, hf, hs], fun w2 hw2 => ?_⟩
        unfold mdel
        rw [delE_none hi]
        exact M.all.imp (fun _ _ q => q.mono hw2 (fun _ _ h => h))
      | some j =>
        rw [hi] at hf
        have hj := idxE_lt hi
        obtain ⟨me, hme, hent⟩ := M.all.get (List.getElem?_eq_getElem hj)
        dsimp only at hf
        rw [hme] at hf
        simp only [Option.map_some] at hf
        refine ⟨es.eraseIdxIfInBounds j, by simp [Builtin.delete_, hts, run_underlying hu, hg, hc, hf, hs], fun w2 hw2 => ?_⟩
        unfold mdel
        rw [delE_some hi, Array.toList_eraseIdxIfInBounds]
        exact all2_erase j (M.all.imp (fun _ _ q => q.mono hw2 (fun _ _ h => h)))
    · cases hx
  · cases hx
theorem range_ok (hr : Rel T m X h w) {t : TypeId} {l : Lf T} {z : Res T} (hx : rangeF P t l h = some z) {mv : Value} (hl : LfR m X h.length w l mv) :
    ∃ rv m' X' w', (Instr.range t mv).run P w = .ok rv w' ∧ AR m' X' z.h.length w' z.v rv ∧ Rel T m' X' z.h w' ∧ Fr T m X h w m' X' z.h w' := by
  unfold rangeF at hx
  split at hx
  · rename_i kt vt hu
    split at hx
    · rename_i i
      split at hx
      · rename_i mt k v x po ho
        rw [nth_eq] at ho
        cases hx
        obtain ⟨r, es, h1, h2, h3, _⟩ := hr.ob i _ ho
        have hlt := lt_of_get ho
        have hmv : mv = .map (some r) := by rw [hl.2.1, h1]
        subst hmv
        have hp := push_ok hr (h1 := h) rfl (fun _ _ h2 => .inr h2) (row := none) (fun _ _ _ _ _ _ => by simp) (fun b hb => by cases hb) (v := .pointer (some ⟨w.heap.size, 0, none⟩)) (o0 := .it i (mbeg x)) (grown_alloc w (.mapIter (some r) x.ck #[] x.ck))
          (fun b hb => by cases hb; exact .inr rfl) (cell_alloc hr _)
          (fun on => ⟨w.heap.size, r, updM_same _ _ _, heap_alloc_new w _, by omega, by rw [updM_other m _ (by omega)]; exact h1⟩) trivial
        have hg : (getObj r).run P w = .ok (.map es x.ck) w := by simp [getObj, Sem.run, h2]
        refine ⟨.pointer (some ⟨w.heap.size, 0, none⟩), _, X, w.alloc (.mapIter (some r) x.ck #[] x.ck), ?_, AR_one.2 ⟨by simp, w.heap.size, updM_same _ _ _, rfl⟩, hp.1, hp.2.1⟩
        simp [Instr.range, run_underlying hu, hg]
      · cases hx
    · cases hx
  · cases hx
theorem all2_filter {α β : Type} {R : α → β → Prop} {f : α → Bool} {g : β → Bool} : ∀ {l : List α} {r : List β}, All2 R l r → (∀ a b, R a b → f a = g b) → All2 R (l.filter f) (r.filter g)
  | [], [], _, _ => trivial
  | a :: l, b :: r, h, hf => by
    have ih := all2_filter h.2 hf
    have e := hf a b h.1
    rw [List.filter_cons, List.filter_cons, e]
    split
    · exact ⟨h.1, ih⟩
    · exact ih
  | [], _ :: _, h, _ => h.elim
  | _ :: _, [], h, _ => h.elim
theorem all2_find {α β : Type} {R : α → β → Prop} {f : α → Bool} {g : β → Bool} : ∀ {l : List α} {r : List β}, All2 R l r → (∀ a b, R a b → f a = g b) → ∀ {a : α}, l.find? f = some a → ∃ b, r.find? g = some b ∧ R a b
  | [], [], _, _, a, h => by cases h
  | x :: l, y :: r, h, hf, a, ha => by
    have e := hf x y h.1
    rw [List.find?_cons] at ha ⊢
    cases hx : f x with
    | true => rw [hx] at ha; cases ha; rw [← e, hx]; exact ⟨y, rfl, h.1⟩
    | false => rw [hx] at ha; rw [← e, hx]; exact all2_find h.2 hf ha
  | [], _ :: _, h, _, _, _ => h.elim
  | _ :: _, [], h, _, _, _ => h.elim
/-- How far a map is gone over, and its memory. -/
theorem it_ok (hr : Rel T m X h w) {j i : Nat} {y : ItD} (ho : h[j]? = some (.it i y)) {mt : TypeId} {k v : Ty} {x : MapD (den T.S k) (den T.S v)} {po : Option (Nat × Option (den T.S k))} (hm : h[i]? = some (.mp mt k v x po)) {iv : Value} (hl : LfR m X n w (.p j 0 : Lf T) iv) :
    ∃ b r es, iv = .pointer (some ⟨b, 0, none⟩) ∧ m j = .pointer (some ⟨b, 0, none⟩) ∧ w.heap[b]? = some (.mapIter (some r) y.since y.seen.toArray y.since) ∧ IsMap m X h w i k v x r es := by
  obtain ⟨b, r, h1, h2, h3, h4⟩ := hr.ob j _ ho
  obtain ⟨r', es, g1, g2, g3, _⟩ := hr.ob i _ hm
  rw [h4] at g1
  cases g1
  obtain ⟨_, b', q1, q2⟩ := hl
  rw [h1] at q1
  cases q1
  exact ⟨b, r, es, q2, h1, h2, ⟨mt, po, hm⟩, h4, g2, g3⟩
theorem entry_ok (hr : Rel T m X h w) {l : Lf T} {z : Res T} (hx : entryF l h = some z) (hp : z.p) {iv : Value} (hl : LfR m X h.length w l iv) : z.h = h ∧ ∃ rv, (Instr.entry iv).run P w = .ok rv w ∧ AR m X h.length w z.v rv := by
  unfold entryF at hx
  split at hx
  · rename_i j
    split at hx
    · rename_i i y ho
      split at hx
      · rename_i mt k v x po hm
        rw [nth_eq] at ho hm
        cases hx
        obtain ⟨b, r, es, rfl, _, hb, M⟩ := it_ok hr ho hm hl
        obtain ⟨hck, hcur⟩ : x.ck = y.since ∧ (curE x y).isSome = true := hp
        unfold curE at hcur
        cases hs : y.seen.getLast? with
        | none => rw [hs] at hcur; cases hcur
        | some s =>
          rw [hs] at hcur
          obtain ⟨e, he⟩ := Option.isSome_iff_exists.1 hcur
          obtain ⟨me, hme, hent⟩ := all2_find M.all (g := fun q => q.born == s) (fun a b hab => by rw [hab.1]) he
          have hmem := M.mem
          rw [hck] at hmem
          have hback : y.seen.toArray.back? = some s := by rw [← hs]; simp
          have hfind : es.find? (fun q => q.born == s) = some me := by rw [← Array.find?_toList]; exact hme
          have ecur : curE x y = some e := by unfold curE; rw [hs]; exact he
          refine ⟨rfl, .tuple #[me.key, me.val], ?_, [me.key, me.val], ⟨VR_one.2 ?_, MVal.vr ?_, trivial⟩, rfl⟩
          · simp [Instr.entry, getObj, Sem.run_bind, Sem.run, hb, hmem, hback, hfind, Result.andThen]
          · unfold ckey
            rw [ecur]
            exact hent.2.1
          · unfold cval
            rw [ecur]
            exact hent.2.2
      · cases hx
    · cases hx
  · cases hx
theorem next_ok {I : Nat → Ent T} {R : Type} {fin : AV T → Hp T → Option R} {Φ : St T → Option R} {res : R} (hr : Rel T m X h w) {l : Lf T} {K : AV T → Hp T → Tr T} {iv : Value} (hl : LfR m X h.length w l iv) (hd : dn I fin Φ (nextTr l h K) = some res) (ty : TypeId) :
    ∃ rv v h' w', (Instr.next iv false ty).run P w = .ok rv w' ∧ dn I fin Φ (K v h') = some res ∧ AR m X h'.length w' v rv ∧ Rel T m X h' w' ∧ Fr T m X h w m X h' w' := by
  unfold nextTr at hd
  split at hd
  · rename_i j
    split at hd
    · rename_i i y ho
      split at hd
      · rename_i mt k v x po hm
        rw [nth_eq] at ho hm
        simp only [dn] at hd
        by_cases hp : mcalm x y
        · rw [if_pos hp] at hd
          obtain ⟨b, r, es, rfl, hmj, hb, M⟩ := it_ok hr ho hm hl
          obtain ⟨hck, hlt⟩ := hp
          have hmem := M.mem
          have hold : ∀ q ∈ es.toList, q.born < y.since := by
            intro q hq
            obtain ⟨e, he, hent⟩ := M.all.mem_right q hq
            rw [hent.1]
            exact hlt e he
          have hleft : All2 (EntR T w X k v) (mleft x y) (Go.leftOf es y.seen.toArray).toList := by
            unfold mleft Go.leftOf
            rw [Array.toList_filter]
            refine all2_filter M.all (fun a b hab => ?_)
            rw [hab.1]
            simp
          rcases run_next_at (P := P) w ty b r y.since y.since y.seen.toArray es x.ck hb hmem hold (Nat.le_refl _) with ⟨h0, hrun⟩ | ⟨me, hme, w1, hw1, hrun⟩
          · have hz : (mleft x y).length = 0 := by rw [hleft.len]; simpa using h0
            rw [if_pos hz] at hd
            exact ⟨_, _, h, w, hrun, hd, ⟨[.bool false], ⟨VR_one.2 (RD.bool false), trivial⟩, rfl⟩, hr, Fr.refl⟩
          · obtain ⟨q, hq⟩ := List.mem_iff_getElem?.1 hme
            have hql : q < (mleft x y).length := by rw [hleft.len]; exact lt_of_get hq
            rw [if_neg (by omega)] at hd
            obtain ⟨_, hall⟩ := allO_some.1 hd
            have hd2 := hall q hql
            obtain ⟨me', hme', hent⟩ := hleft.get (List.getElem?_eq_getElem hql)
            rw [hq] at hme'
            cases hme'
            -- the world with a draw more
            obtain ⟨kd, rfl⟩ : ∃ kd, w1 = { w with drawn := kd } := by
              rcases hw1 with e | e
              · exact ⟨w.drawn, e⟩
              · exact ⟨_, e⟩
            have hr1 := hr.drawn kd
            have hb1 : ({ w with drawn := kd } : World).heap[b]? = some (.mapIter (some r) y.since y.seen.toArray y.since) := hb
            have e2 : (mleft x y)[q]? = some (mleft x y)[q] := List.getElem?_eq_getElem hql
            have hms : msee y (mleft x y) q = ⟨y.since, y.seen ++ [(mleft x y)[q].1]⟩ := by unfold msee; rw [e2]
            have tk := turn_ok hr1 (o0 := .it i (msee y (mleft x y) q)) ho (by rw [hmj]; rfl) rfl trivial hb1 rfl (b1 := .mapIter (some r) y.since (y.seen.toArray.push me.born) x.ck) rfl (fun on => by
              refine ⟨b, r, hmj, ?_, lt_of_get hm, M.at_⟩
              rw [stO_same hb1, hms, hent.1, hck]
              simp)
            have eset : Go.ChangeMaps.setBlock ({ w with drawn := kd } : World) b (.mapIter (some r) y.since (y.seen.toArray.push me.born) x.ck) = stO { w with drawn := kd } b (.mapIter (some r) y.since (y.seen.toArray.push me.born) x.ck) := rfl
            rw [eset] at hrun
            have on := ((Fr.drawn (T := T) (m := m) (X := X) (h := h) (w := w) kd).trans tk.2).on
            refine ⟨_, _, _, _, hrun, hd2, ⟨[.bool true, me.key, me.val], ⟨VR_one.2 (RD.bool true), VR_one.2 ?_, MVal.vr ?_, trivial⟩, rfl⟩, tk.1, (Fr.drawn kd).trans tk.2⟩
            · unfold lkey
              rw [e2]
              exact RD.mono on.ww on.xx hent.2.1
            · unfold lval
              rw [e2]
              exact hent.2.2.mono on.ww on.xx
        · rw [if_neg hp] at hd
          cases hd
      · cases hd
    · cases hd
  · cases hd
end
end Go.Proofs.Ytfojcadooepgpaa.Rx
