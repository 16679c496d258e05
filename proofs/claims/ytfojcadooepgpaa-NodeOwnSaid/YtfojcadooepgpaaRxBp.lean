/- A plain evaluator over the translated code: maps whose values are rows of a pool. Under no condition. -/
import Derived.Test.YtfojcadooepgpaaRxB
set_option linter.unusedVariables false
set_option linter.unusedSimpArgs false
namespace Go.Proofs.Ytfojcadooepgpaa.Rx
open Go Go.RowKit

section
variable {T : Tab} {P : Program} {m m' : Nat → Value} {X X' : Nat → Nat → Prop} {n n' : Nat} {w w' : World} {h h' : Hp T}

/-- A new object behind the others, in the same world; of its blocks none is another's. -/
theorem Rel.push (hr : Rel T m X h w) {h1 : Hp T} (hlen : h1.length = h.length) (hsub : ∀ (j : Nat) o', h1[j]? = some o' → o' = .no ∨ h[j]? = some o')
    {v : Value} {o0 : Ob T} (hsep : o0.live = true → ∀ b, Blk v b → ∀ (j : Nat) o', h1[j]? = some o' → o'.live = true → ¬ Blk (m j) b)
    (h0 : ObR (updM m h.length v) X (h.length + 1) w h.length o0) (hs : SeenOk X v o0) : Rel T (updM m h.length v) X (h1 ++ [o0]) w := by
  have hl1 : (h1 ++ [o0]).length = h.length + 1 := by simp [hlen]
  have on : On m X h.length w (updM m h.length v) X (h1 ++ [o0]).length w := ⟨by omega, fun i hi => updM_other m _ (by omega), fun _ _ hx => hx, fun _ _ _ => rfl⟩
  have hi0 : (h1 ++ [o0])[h.length]? = some o0 := by rw [← hlen]; exact get_push h1 o0
  have hk : ∀ (j : Nat) o', j ≠ h.length → (h1 ++ [o0])[j]? = some o' → h1[j]? = some o' := fun j o' hne hj => get_push_old (by omega) hj
  refine hr.upd on hi0 (fun j o' hne hj => ?_) (by rw [hl1]; exact h0) (fun hl b hb j o' hne hj hl' => ?_) hr.lt (fun _ _ _ _ _ _ _ _ hx => hx) (by rw [updM_same]; exact hs)
  · rcases hsub j o' (hk j o' hne hj) with h2 | h2
    · exact .inl h2
    · exact .inr ⟨h2, fun _ _ _ => rfl⟩
  · rw [updM_same] at hb
    rw [updM_other m _ hne]
    exact hsep hl b hb j o' (hk j o' hne hj) hl'
/-- In the same world nothing but the numbers turned. -/
theorem Fr.here (on : On m X h.length w m' X h'.length w) (hm : ∀ b, Mine m' h' b → Mine m h b) : Fr T m X h w m' X h' w :=
  ⟨on, Nat.le_refl _, rfl, rfl, rfl, fun _ _ _ => rfl, fun b hb => .inl (hm b hb), fun _ _ hx => .inl hx⟩

theorem mapP_ok (hr : Rel T m X h w) {l : Lf T} {k v : Ty} {p : PM T k v} (hx : mapP h l k v = some p) {mv : Value} (hl : LfR m X n w l mv) :
    l = .m p.i ∧ ∃ mt r es, mv = .map (some r) ∧ h[p.i]? = some (.mp mt k v p.x (some (p.j, p.hole))) ∧ m p.i = .map (some r) ∧ w.heap[r]? = some (.map es p.x.ck) ∧ All2 (EntR T w X k v) p.x.es es.toList ∧
      PoolOk T m h.length k v p.x es.toList (some (p.j, p.hole)) := by
  unfold mapP at hx
  split at hx
  · rename_i i
    split at hx
    · rename_i mt k' v' y po ho
      rw [nth_eq] at ho
      split at hx
      · rename_i z hole hz hk
        cases hx
        have e := asT_some (d := (⟨.mp k' v', y⟩ : DL T)) (t := .mp k v) (y := z) hz
        cases e
        have e2 : hole = po.2 := by
          unfold asKey at hk
          split at hk
          · cases hk; simp [*]
          · rename_i y2 e3
            rw [asT_self] at hk
            cases hk
            exact e3.symm
        subst e2
        obtain ⟨r, es, h1, h2, h3, h4⟩ := hr.ob i _ ho
        exact ⟨rfl, mt, r, es, by rw [hl.2.1]; exact h1, ho, h1, h2, h3, h4⟩
      · cases hx
    · cases hx
  · cases hx
theorem pooled_two {l : Lf T} {k v : Ty} {p : PM T k v} (hx : mapP h l k v = some p) : ∃ mt, h[p.i]? = some (.mp mt k v p.x (some (p.j, p.hole))) := by
  unfold mapP at hx
  split at hx
  · rename_i i
    split at hx
    · rename_i mt k' v' y po ho
      rw [nth_eq] at ho
      split at hx
      · rename_i z hole hz hk
        cases hx
        have e := asT_some (d := (⟨.mp k' v', y⟩ : DL T)) (t := .mp k v) (y := z) hz
        cases e
        have e2 : hole = po.2 := by
          unfold asKey at hk
          split at hk
          · cases hk; simp [*]
          · rename_i y2 e3
            rw [asT_self] at hk
            cases hk
            exact e3.symm
        subst e2
        exact ⟨mt, ho⟩
      · cases hx
    · cases hx
  · cases hx
theorem zero_nil {t : TypeId} (hz : zeroOf P t = some ((false, [.n]) : V T)) : (zeroValue t).run P w = .ok (.slice none 0 0) w := by
  unfold zeroOf at hz
  split at hz
  · rename_i i hi
    split at hz
    · rename_i zz hzz
      have : zz = .slice none 0 0 := by
        unfold ofVal at hz
        split at hz
        · split at hz
          · cases hz
          · cases hz
        · split at hz
          · rename_i l hl
            cases hz
            unfold ofLf at hl
            split at hl <;> first | rfl | cases hl | skip
            cases hb : zz.oneCell' <;> rw [hb] at hl <;> cases hl
          · cases hz
      subst this
      simp [zeroValue, typeInfo, hi, hzz]
    · cases hz
  · cases hz
theorem lookP_two {t : TypeId} {l ix : Lf T} {z : Res T} (hx : lookPF P t l ix h = some z) : 1 < h.length := by
  unfold lookPF at hx
  split at hx
  · split at hx
    · rename_i p key h1 h2 h3
      split at hx
      · rename_i e ty hhole ho
        rw [nth_eq] at ho
        obtain ⟨mt, hob⟩ := pooled_two h1
        have h4 := lt_of_get hob
        have h5 := lt_of_get ho
        by_cases he : p.i = p.j
        · rw [he, ho] at hob; cases hob
        · omega
      · cases hx
    · cases hx
  · cases hx
/-- The rows that stay. -/
def keepB (u x : Value) : Bool := match blk u with | none => true | some b => !(decide (blk x = some b))
theorem keepB_ne {u x : Value} {b : Nat} (hk : keepB u x = true) (hu : blk u = some b) : blk x ≠ some b := by
  unfold keepB at hk
  rw [hu] at hk
  simpa using hk
theorem keepB_of {u x : Value} (hk : ∀ b, blk u = some b → blk x ≠ some b) : keepB u x = true := by
  unfold keepB
  split
  · rfl
  · rename_i b hb
    simpa using hk b hb
theorem rd_one {w : World} {X : Nat → Nat → Prop} {e : TypeId} {ty : Ty} {xs : List (den T.S ty)} {val : Value} (hv : MValR T w X (.sl e ty) xs val) : RD T w X (.sl e ty) xs val := by
  obtain ⟨us, h1, h2⟩ := hv
  rw [if_neg (show ¬ isSt (.sl e ty) = true by simp [isSt])] at h2
  subst h2
  exact h1.1
theorem one_rd {w : World} {X : Nat → Nat → Prop} {e : TypeId} {ty : Ty} {xs : List (den T.S ty)} {val : Value} (hv : RD T w X (.sl e ty) xs val) : MValR T w X (.sl e ty) xs val :=
  ⟨[val], ⟨hv, trivial⟩, by rw [if_neg (show ¬ isSt (.sl e ty) = true by simp [isSt])]⟩
/-- A row of a pool is a slice of one's own. -/
theorem row_of {e : TypeId} {ty : Ty} {xs : List (den T.S ty)} {u : Value} (hrd : RD T w X (.sl e ty) xs u)
    (hu : u = .slice none 0 0 ∨ ∃ b len cap cur, u = .slice (some ⟨b, 0, none⟩) len cap ∧ w.heap[b]? = some (.cells cur e (0, 0)) ∧ len ≤ cap ∧ cap ≤ maxLen ∧ cur.size = cap * (flat T ty).length) :
    ∃ vs, w.ownsRow 0 e (flat T ty).length u xs.length vs ∧ (∀ (k : Nat) x (j : Nat) d, xs[k]? = some x → (lv T ty x)[j]? = some d → ∃ v, vs[k * (flat T ty).length + j]? = some v ∧ RD T w X d.1 d.2 v) := by
  have hsl : SlInv T w X ty xs u := RD.inv hrd
  obtain ⟨A, c, rfl, hc, h5⟩ := hsl
  rcases hu with hu | ⟨b, len, cap, cur, hu, hh, hlc, hcm, hsz⟩
  · injection hu with h7 h0 h8
    have : xs = [] := List.eq_nil_of_length_eq_zero h0
    subst this
    subst h7 h8
    exact ⟨[], World.ownsRow_nil _ _ _ _, fun k x j d hk => by simp at hk⟩
  · injection hu with h7 h0 h8
    subst h7 h8
    rw [← h0] at hlc
    have hle : xs.length * (flat T ty).length ≤ cur.size := by rw [hsz]; exact Nat.mul_le_mul_right _ hlc
    have hcl : cur.toList.length = cur.size := Array.length_toList
    refine ⟨cur.toList.take (xs.length * (flat T ty).length), ⟨by rw [List.length_take, hcl]; omega, .inr ⟨b, c, cur, rfl, Nat.zero_le _, hh, hlc, hcm, hsz, rfl⟩⟩, fun k x j d hk hd => ?_⟩
    have hkl := (List.getElem?_eq_some_iff.1 hk).1
    have hjl : j < (flat T ty).length := by rw [← lv_len ty x]; exact (List.getElem?_eq_some_iff.1 hd).1
    have hlt : k * (flat T ty).length + j < xs.length * (flat T ty).length := by
      have : (k + 1) * (flat T ty).length ≤ xs.length * (flat T ty).length := Nat.mul_le_mul_right _ hkl
      rw [Nat.succ_mul] at this
      omega
    rcases h5 with h5 | ⟨b', o', he, vs, h5⟩
    · omega
    · cases he
      obtain ⟨h6, _, h7⟩ := h5 k x j d hk hd
      refine ⟨vs k j, ?_, h7⟩
      rw [List.getElem?_take, if_pos hlt]
      simp only [World.cell?, hh, Nat.zero_add] at h6
      simpa using h6
theorem mp_ne_po {i j : Nat} {mt e : TypeId} {k v ty : Ty} {x : MapD (den T.S k) (den T.S v)} {po : Option (Nat × Option (den T.S k))} (hi : h[i]? = some (.mp mt k v x po)) (hj : h[j]? = some (.po e ty)) : i ≠ j := by
  rintro rfl
  rw [hi] at hj
  cases hj
theorem mp_ne_gr {i j : Nat} {mt e : TypeId} {k v ty : Ty} {x : MapD (den T.S k) (den T.S v)} {po : Option (Nat × Option (den T.S k))} {xs : List (den T.S ty)} {sh : Bool} (hi : h[i]? = some (.mp mt k v x po)) (hj : h[j]? = some (.gr e ty xs sh)) : i ≠ j := by
  rintro rfl
  rw [hi] at hj
  cases hj
theorem po_ne_gr {i j : Nat} {e e' : TypeId} {ty ty' : Ty} {xs : List (den T.S ty')} {sh : Bool} (hi : h[i]? = some (.po e ty)) (hj : h[j]? = some (.gr e' ty' xs sh)) : i ≠ j := by
  rintro rfl
  rw [hi] at hj
  cases hj
theorem setO_sub {h : Hp T} {i : Nat} : ∀ (j : Nat) o', (setO h i .no)[j]? = some o' → o' = .no ∨ (j ≠ i ∧ h[j]? = some o') := by
  intro j o' hj
  by_cases hne : j = i
  · subst hne
    have hlt : j < h.length := by have := lt_of_get hj; rwa [setO_len] at this
    rw [setO_same _ hlt] at hj
    cases hj
    exact .inl rfl
  · rw [setO_other _ _ hne] at hj
    exact .inr ⟨hne, hj⟩
theorem setO_app {h g : Hp T} {i : Nat} {o : Ob T} (hi : i < h.length) : setO (h ++ g) i o = setO h i o ++ g := by
  simp [setO, List.set_append_left _ _ hi]
theorem setO_swap {h : Hp T} {i j : Nat} {o o' : Ob T} (hij : i ≠ j) : setO (setO h i o) j o' = setO (setO h j o') i o := by
  simp [setO, List.set_comm _ _ hij]
theorem Mine.app {o0 : Ob T} {v : Value} {h1 : Hp T} (hlen : h1.length = h.length) (hsub : ∀ (j : Nat) o', h1[j]? = some o' → o' = .no ∨ h[j]? = some o') (hv : ∀ b, Blk v b → Mine m h b) {b : Nat} (hb : Mine (updM m h.length v) (h1 ++ [o0]) b) : Mine m h b := by
  obtain ⟨i, o, hi, hl, hbi⟩ := hb
  by_cases hne : i = h.length
  · subst hne
    rw [updM_same] at hbi
    exact hv b hbi
  · rw [updM_other m _ hne] at hbi
    rcases hsub i o (get_push_old (by omega) hi) with rfl | h2
    · cases hl
    · exact ⟨i, o, h2, hl, hbi⟩
theorem made_ok (hr : Rel T m X h w) {t : TypeId} {z : Res T} (hx : madeF P t h = some z) (r : Option Value) (hrs : ∀ v, r = some v → ∃ k n, v = .int k n) :
    ∃ rv m' X' w', (Instr.makeMap t r).run P w = .ok rv w' ∧ AR m' X' z.h.length w' z.v rv ∧ Rel T m' X' z.h w' ∧ Fr T m X h w m' X' z.h w' := by
  have hrun : ∀ {kt vt : TypeId}, P.underlying t = some (.map kt vt) → (Instr.makeMap t r).run P w = .ok (.map (some w.heap.size)) (w.alloc (.map #[] 0)) := by
    intro kt vt hu
    cases r with
    | none => simp [Instr.makeMap]
    | some v =>
      obtain ⟨k, n, rfl⟩ := hrs v rfl
      simp [Instr.makeMap, run_underlying hu, asInt, asIntOf]
  unfold madeF at hx
  split at hx
  · rename_i q hq
    obtain ⟨kt, d, hu, hd1, hd2, _⟩ := mapTy_some hq
    split at hx
    · rename_i e ty hq2
      cases hx
      have rel1 : Rel T (updM m h.length (.tuple #[])) X (h ++ [.po e ty]) w := hr.push (h1 := h) rfl (fun _ _ h2 => .inr h2) (fun _ b hb => by obtain ⟨u, hu, _⟩ := hb; simp at hu) ⟨#[], updM_same _ _ _, fun u hu => by simp at hu, by simp⟩ (fun hs hv u hu => by cases hv; simp at hu)
      have fr1 : Fr T m X h w (updM m h.length (.tuple #[])) X (h ++ [.po e ty]) w := Fr.here ⟨by simp, fun i hi => updM_other m _ (by omega), fun _ _ hx => hx, fun _ _ _ => rfl⟩ (fun b hb => Mine.app rfl (fun _ _ h2 => .inr h2) (fun b hb => by obtain ⟨u, hu, _⟩ := hb; simp at hu) hb)
      have hl1 : (h ++ [Ob.po e ty]).length = h.length + 1 := by simp
      have hp := push_ok rel1 (h1 := h ++ [.po e ty]) rfl (fun _ _ h2 => .inr h2) (row := none) (fun _ _ _ _ _ _ => by simp) (fun b hb => by cases hb) (v := .map (some w.heap.size)) (o0 := .mp t q.1 q.2.1 MapD.nil (some (h.length, none))) (grown_alloc w (.map #[] 0))
        (fun b hb => by cases hb; exact .inr rfl) (cell_alloc rel1 (.map #[] 0))
        (fun on => ⟨w.heap.size, #[], updM_same _ _ _, heap_alloc_new w _, trivial, by rw [hl1]; omega, #[], by rw [updM_other _ _ (by rw [hl1]; omega), updM_same], fun _ _ h0 => by simp at h0, fun _ _ _ _ _ h0 => by simp at h0⟩) trivial
      have e9 : h ++ [Ob.po e ty, Ob.mp t q.1 q.2.1 MapD.nil (some (h.length, none))] = (h ++ [Ob.po e ty]) ++ [Ob.mp t q.1 q.2.1 MapD.nil (some (h.length, none))] := by simp
      rw [e9]
      refine ⟨.map (some w.heap.size), _, X, w.alloc (.map #[] 0), hrun hu, AR_one.2 ⟨by simp, ?_, w.heap.size, rfl⟩, hp.1, fr1.trans hp.2.1⟩
      rw [hl1, updM_same]
    · cases hx
      have hp := push_ok hr (h1 := h) rfl (fun _ _ h2 => .inr h2) (row := none) (fun _ _ _ _ _ _ => by simp) (fun b hb => by cases hb) (v := .map (some w.heap.size)) (o0 := .mp t q.1 q.2.1 MapD.nil none) (grown_alloc w (.map #[] 0))
        (fun b hb => by cases hb; exact .inr rfl) (cell_alloc hr (.map #[] 0))
        (fun on => ⟨w.heap.size, #[], updM_same _ _ _, heap_alloc_new w _, trivial, trivial⟩) trivial
      exact ⟨.map (some w.heap.size), _, X, w.alloc (.map #[] 0), hrun hu, AR_one.2 ⟨by simp, (updM_same _ _ _).symm, w.heap.size, rfl⟩, hp.1, hp.2.1⟩
  · cases hx
theorem mset_none {K V : Type} {q : K → K → Bool} {x : MapD K V} {k : K} {v : V} (hi : idxE q k x.es = none) : mset q x k v = ⟨x.es ++ [(x.ck, k, v)], x.ck + 1⟩ := by
  unfold mset
  rw [setE_none hi, getE_idx, hi]
  rfl
theorem mset_some {K V : Type} {q : K → K → Bool} {x : MapD K V} {k : K} {v : V} {j : Nat} (hi : idxE q k x.es = some j) : mset q x k v = ⟨x.es.modify j fun e => (e.1, k, v), x.ck⟩ := by
  unfold mset
  rw [setE_some hi, getE_idx, hi]
  simp [List.getElem?_eq_getElem (idxE_lt hi)]
theorem get_last2 {α : Type} {l : List α} {x a : α} {i : Nat} (h : (l ++ [x])[i]? = some a) : (i < l.length ∧ l[i]? = some a) ∨ (i = l.length ∧ a = x) := by
  by_cases hi : i < l.length
  · rw [List.getElem?_append_left hi] at h
    exact .inl ⟨hi, h⟩
  · have : i < (l ++ [x]).length := (List.getElem?_eq_some_iff.1 h).1
    have e : i = l.length := by simp at this; omega
    subst e
    simp at h
    exact .inr ⟨rfl, h.symm⟩
theorem keyI_eq {a b : Int} (h : keyI a b = true) : a = b := by unfold keyI at h; exact of_decide_eq_true h
theorem keyS_eq {a b : ByteArray} (h : keyS a b = true) : a = b := by unfold keyS at h; exact of_decide_eq_true h
theorem key_eq {k : Ty} {d : TypeDesc} (hd : descOf k = some d) {a b : den T.S k} (he : keqT k a b = true) : a = b := by
  cases k with
  | int q => exact keyI_eq he
  | str => exact keyS_eq he
  | _ => cases hd
theorem lookP_ok (hr : Rel T m X h w) {t : TypeId} {l ix : Lf T} {z : Res T} (hx : lookPF P t l ix h = some z) {mv kv : Value} (hl : LfR m X h.length w l mv) (hk : LfR m X h.length w ix kv) :
    ∃ rv m', (Instr.lookup t mv kv false).run P w = .ok rv w ∧ AR m' X z.h.length w z.v rv ∧ Rel T m' X z.h w ∧ Fr T m X h w m' X z.h w := by
  unfold lookPF at hx
  split at hx
  · rename_i q hq
    obtain ⟨kt, d, hu, hd1, hd2, _⟩ := mapTy_some hq
    obtain ⟨k, v, vt⟩ := q
    dsimp only at hx hu hd1 hd2
    split at hx
    · rename_i p key h1 h2 h3
      split at hx
      · rename_i e ty hhole ho
        rw [nth_eq] at ho
        split at hx
        · rename_i xs hxs
          cases hx
          have e1 := asRow_some hxs
          have e2 : v = .sl e ty := congrArg Sigma.fst e1
          subst e2
          have e3 : mget (keqT k) (dz T (.sl e ty)) p.x key = xs := eq_of_heq (Sigma.mk.inj e1).2
          obtain ⟨rfl, mt, r, es, rfl, hob, hat, hm, hall, hpool⟩ := mapP_ok hr h1 hl
          have hkey := keyOf_ok h2 hk
          have hf := run_find (P := P) hd1 hd2 hkey hall
          have hc := fun b => run_check (P := P) (w := w) hd1 hd2 hkey b
          have hg : (getObj r).run P w = .ok (.map es p.x.ck) w := by simp [getObj, Sem.run, hm]
          obtain ⟨hj, hs, hmj, hin, hdis⟩ := hpool
          obtain ⟨hs', hmj', hrows, hpw⟩ := hr.ob p.j _ ho
          rw [hmj] at hmj'
          cases hmj'
          have hne := mp_ne_po hob ho
          have hli := lt_of_get hob
          have hlj := lt_of_get ho
          have hh0 : holeAt T k (.sl e ty) p.x p.hole = none := by rw [hhole]; rfl
          rw [hh0] at hin hdis
          have seen : ∀ u ∈ hs.toList, ∀ A len cap, u = .slice (some A) len cap → ∀ q, X A.block q → q < len * (flat T ty).length := hr.po p.j e ty ho hs hmj
          -- the value
          suffices hV : ∃ u, (Instr.lookup t (.map (some r)) kv false).run P w = .ok u w ∧ RD T w X (.sl e ty) xs u ∧ (u = .slice none 0 0 ∨ u ∈ hs.toList) ∧
              (∀ (q : Nat) me, es.toList[q]? = some me → idxE (keqT k) key p.x.es ≠ some q → me.val = .slice none 0 0 ∨ (me.val ∈ hs.toList ∧ ∀ b, blk u = some b → blk me.val ≠ some b)) by
            obtain ⟨u, hrun, hrd, hu, hoth⟩ := hV
            have hub0 : ∀ b, Blk u b → blk u = some b := by
              have hsl : SlInv T w X ty xs u := RD.inv hrd
              obtain ⟨_, _, rfl, _⟩ := hsl
              exact fun b hb => hb
            have hsub : ∀ x, x ∈ (hs.toList.filter (keepB u)).toArray.toList → x ∈ hs.toList ∧ keepB u x = true := fun x hx => by simpa [List.mem_filter] using hx
            have hub : ∀ b, blk u = some b → Blk (m p.j) b := by
              intro b hb
              rcases hu with rfl | hu
              · cases hb
              · rw [hmj]; exact ⟨u, hu, hb⟩
            have hlen1 : (setO h p.j .no).length = h.length := setO_len _ _ _
            have rel1 : Rel T (updM m h.length (.tuple (hs.toList.filter (keepB u)).toArray)) X (setO h p.j .no ++ [.po e ty]) w := by
              refine hr.push hlen1 (fun j o' hj' => (setO_sub j o' hj').imp (fun h => h) (fun h => h.2)) (fun _ b hb j o' hj' hl' => ?_) ?_ ?_
              · obtain ⟨x, hx, hxb⟩ := hb
                rcases setO_sub j o' hj' with rfl | ⟨h6, h7⟩
                · cases hl'
                · exact hr.sep p.j j _ _ ho h7 (Ne.symm h6) rfl hl' b (by rw [hmj]; exact ⟨x, (hsub x hx).1, hxb⟩)
              · exact ⟨_, updM_same _ _ _, fun x hx => hrows x (hsub x hx).1, by simpa using hpw.filter _⟩
              · intro hs2 hv x hx
                cases hv
                exact seen x (hsub x hx).1
            have hlen2 : (setO h p.j .no ++ [Ob.po e ty]).length = h.length + 1 := by simp [hlen1]
            have rel2 := rel1.push (h1 := setO h p.j .no ++ [.po e ty]) rfl (fun _ _ h => .inr h) (v := u) (o0 := .gr e ty xs true) (fun _ b hb j o' hj' hl' => by
                by_cases hjn : j = h.length
                · subst hjn
                  rw [updM_same]
                  rintro ⟨x, hx, hxb⟩
                  exact keepB_ne (hsub x hx).2 (hub0 b hb) hxb
                · rw [updM_other m _ hjn]
                  have h7 := get_push_old (h := setO h p.j .no) (by rw [hlen1]; exact hjn) hj'
                  rcases setO_sub j o' h7 with rfl | ⟨h8, h9⟩
                  · cases hl'
                  · exact hr.sep p.j j _ _ ho h9 (Ne.symm h8) rfl hl' b (hub b (hub0 b hb))) (by
                rw [ObR, updM_same]
                exact row_of hrd (hu.imp (fun h => h) (fun hu => hrows u hu))) (by
                intro b hb o hxo
                refine ⟨rfl, ?_⟩
                rcases hu with rfl | hu
                · cases hb
                · obtain ⟨b', len, cap, cur, he, _⟩ := hrows _ hu
                  subst he
                  cases hub0 b hb
                  have hsl : SlInv T w X ty xs (.slice (some ⟨b', 0, none⟩) len cap) := RD.inv hrd
                  obtain ⟨_, _, he2, _⟩ := hsl
                  cases he2
                  exact seen _ hu ⟨b', 0, none⟩ _ cap rfl o hxo)
            rw [hlen2] at rel2
            have hlen3 : ((setO h p.j .no ++ [Ob.po e ty]) ++ [Ob.gr e ty xs true]).length = h.length + 1 + 1 := by simp [hlen1]
            have hold : ∀ (i : Nat) o, i < h.length → ((setO h p.j .no ++ [Ob.po e ty]) ++ [Ob.gr e ty xs true])[i]? = some o → (setO h p.j .no)[i]? = some o := by
              intro i o hi ho'
              rw [List.getElem?_append_left (by rw [hlen2]; omega), List.getElem?_append_left (by rw [hlen1]; exact hi)] at ho'
              exact ho'
            have hob2 : ((setO h p.j .no ++ [Ob.po e ty]) ++ [Ob.gr e ty xs true])[p.i]? = some (.mp mt k (.sl e ty) p.x (some (p.j, p.hole))) := by
              rw [List.getElem?_append_left (by rw [hlen2]; omega), List.getElem?_append_left (by rw [hlen1]; exact hli), setO_other _ _ hne]
              exact hob
            have hm2 : ∀ i, i < h.length → updM (updM m h.length (.tuple (hs.toList.filter (keepB u)).toArray)) (h.length + 1) u i = m i := fun i hi => by rw [updM_other _ _ (by omega), updM_other _ _ (by omega)]
            have hmn : updM (updM m h.length (.tuple (hs.toList.filter (keepB u)).toArray)) (h.length + 1) u h.length = .tuple (hs.toList.filter (keepB u)).toArray := by rw [updM_other _ _ (by omega), updM_same]
            have e9 : setO (setO h p.i (.mp t k (.sl e ty) p.x (some (h.length, some key)))) p.j .no ++ [.po e ty, .gr e ty xs true] = setO ((setO h p.j .no ++ [Ob.po e ty]) ++ [Ob.gr e ty xs true]) p.i (.mp t k (.sl e ty) p.x (some (h.length, some key))) := by
              rw [setO_app (by rw [hlen2]; omega), setO_app (by rw [hlen1]; exact hli), setO_swap hne]
              simp
            have rel3 : Rel T (updM (updM m h.length (.tuple (hs.toList.filter (keepB u)).toArray)) (h.length + 1) u) X (setO ((setO h p.j .no ++ [Ob.po e ty]) ++ [Ob.gr e ty xs true]) p.i (.mp t k (.sl e ty) p.x (some (h.length, some key)))) w := by
              refine rel2.upd (i0 := p.i) ⟨by rw [setO_len]; exact Nat.le_refl _, fun _ _ => rfl, fun _ _ hx => hx, fun _ _ _ => rfl⟩ (setO_same _ (by rw [hlen3]; omega)) (fun i o' hne' hi => .inr ⟨by rwa [setO_other _ _ hne'] at hi, fun _ _ _ => rfl⟩) ?_ (fun _ b hb j o' hne' hj' hl' => ?_) rel2.lt (fun _ _ _ _ _ _ _ _ hx => hx) trivial
              · refine ⟨r, es, (hm2 _ hli).trans hat, hm, hall, ?_, (hs.toList.filter (keepB u)).toArray, hmn, fun q me hq hne' => ?_, fun q q' me me' h6 h7 h8 h9 h10 => hdis q q' me me' h6 h7 h8 (by simp) (by simp)⟩
                · rw [setO_len, hlen3]; omega
                · rcases hoth q me hq hne' with h6 | ⟨h6, h7⟩
                  · exact .inl h6
                  · exact .inr (show me.val ∈ (hs.toList.filter (keepB u)) from List.mem_filter.2 ⟨h6, keepB_of h7⟩)
              · rw [setO_other _ _ hne'] at hj'
                exact rel2.sep p.i j _ _ hob2 hj' (Ne.symm hne') rfl hl' b hb
            refine ⟨u, updM (updM m h.length (.tuple (hs.toList.filter (keepB u)).toArray)) (h.length + 1) u, hrun, AR_one.2 ⟨?_, (updM_same _ _ _).symm, ?_⟩, by rw [e9]; exact rel3, Fr.here ⟨?_, hm2, fun _ _ hx => hx, fun _ _ _ => rfl⟩ (fun b hb => ?_)⟩
            · rw [e9, setO_len, hlen3]; omega
            · have hsl : SlInv T w X ty xs u := RD.inv hrd
              obtain ⟨_, _, rfl, _⟩ := hsl
              exact ⟨_, _, _, rfl⟩
            · rw [e9, setO_len, hlen3]; omega
            · rw [e9] at hb
              obtain ⟨i, o, hi, hl', hbi⟩ := hb
              by_cases h6 : i < h.length
              · rw [hm2 i h6] at hbi
                by_cases h7 : i = p.i
                · subst h7; exact ⟨_, _, hob, rfl, hbi⟩
                · rw [setO_other _ _ h7] at hi
                  rcases setO_sub i o (hold i o h6 hi) with rfl | ⟨_, h8⟩
                  · cases hl'
                  · exact ⟨i, o, h8, hl', hbi⟩
              · have h7 : i < h.length + 1 + 1 := by have := lt_of_get hi; rwa [setO_len, hlen3] at this
                refine ⟨p.j, _, ho, rfl, ?_⟩
                rcases (show i = h.length ∨ i = h.length + 1 by omega) with rfl | rfl
                · rw [hmn] at hbi
                  obtain ⟨x, hx, hxb⟩ := hbi
                  rw [hmj]
                  exact ⟨x, (hsub x hx).1, hxb⟩
                · rw [updM_same] at hbi
                  exact hub b (hub0 b hbi)
          unfold mget at e3
          rw [getE_idx] at e3
          cases hi : idxE (keqT k) key p.x.es with
          | none =>
            rw [hi] at hf e3
            have e4 : xs = [] := e3.symm
            subst e4
            refine ⟨.slice none 0 0, by simp [Instr.lookup, run_underlying hu, hg, hc, hf, zero_nil (P := P) (w := w) h3], RD.nil _ _ _ _, .inl rfl, fun q me hq _ => ?_⟩
            exact (hin q me hq (by simp)).imp (fun h => h) (fun h => ⟨h, fun b hb => by cases hb⟩)
          | some j =>
            rw [hi] at hf e3
            have hj := idxE_lt hi
            obtain ⟨me, hme, hent⟩ := hall.get (List.getElem?_eq_getElem hj)
            dsimp only at hf e3
            rw [hme] at hf
            rw [List.getElem?_eq_getElem hj] at e3
            simp only [Option.map_some] at hf
            have e4 : (p.x.es[j]'hj).2.2 = xs := e3
            have hrd := rd_one hent.2.2
            rw [e4] at hrd
            refine ⟨me.val, by simp [Instr.lookup, run_underlying hu, hg, hc, hf], hrd, hin j me hme (by simp), fun q me' hq hne' => ?_⟩
            refine (hin q me' hq (by simp)).imp (fun h => h) (fun h => ⟨h, hdis j q me me' (fun e => hne' (by rw [e])) hme hq (by simp) (by simp)⟩)
        · cases hx
      · cases hx
    · cases hx
  · cases hx
theorem updP_ok (hr : Rel T m X h w) {t : TypeId} {l ix : Lf T} {y : V T} {z : Res T} (hx : updPF P t l ix y h = some z) (hp : z.p) {mv kv yv : Value} (hl : LfR m X h.length w l mv) (hk : LfR m X h.length w ix kv) (hy : VR m X h.length w y yv) :
    z.v = .t [] ∧ ∃ m' X' w', (Instr.mapUpdate t mv kv yv).run P w = .ok () w' ∧ Rel T m' X' z.h w' ∧ Fr T m X h w m' X' z.h w' := by
  unfold updPF at hx
  split at hx
  · rename_i q hq
    obtain ⟨kt, d, hu, hd1, hd2, _⟩ := mapTy_some hq
    obtain ⟨k, v, vt⟩ := q
    dsimp only at hx hu hd1 hd2
    split at hx
    · rename_i p key g h1 h2
      split at hx
      · rename_i k0 e ty e' ty' xs sh hhole ho hog
        rw [nth_eq] at ho hog
        split at hx
        · rename_i hty zz _ hzz
          cases hx
          refine ⟨rfl, ?_⟩
          have e1 := asT_some hzz
          have e2 : (Ty.sl e' ty') = v := congrArg Sigma.fst e1
          subst e2
          cases hty
          have e3 : xs = zz := eq_of_heq (Sigma.mk.inj e1).2
          subst e3
          have hkk : keqT k k0 key = true := hp
          have hyv := VR_one.1 hy
          obtain ⟨hgl, rfl, _⟩ := hyv
          obtain ⟨X1, rel0, hrd, fr0⟩ := share_ok hr hog
          obtain ⟨rfl, mt, r, es, rfl, hob, hat, hm, hall, hpool⟩ := mapP_ok hr h1 hl
          have hne := mp_ne_po hob ho
          have hneg := mp_ne_gr hob hog
          have hnpg := po_ne_gr ho hog
          have hli := lt_of_get hob
          have hlj := lt_of_get ho
          have hlg := lt_of_get hog
          have hkey : RD T w X1 k key kv := (keyOf_ok h2 hk).mono fr0.on.ww fr0.on.xx
          have hall1 : All2 (EntR T w X1 k (.sl e ty)) p.x.es es.toList := hall.imp (fun _ _ q => q.mono fr0.on.ww fr0.on.xx)
          have hf := run_find (P := P) hd1 hd2 hkey hall1
          have hc := run_check (P := P) (w := w) hd1 hd2 hkey false
          have hg : (getObj r).run P w = .ok (.map es p.x.ck) w := by simp [getObj, Sem.run, hm]
          have hs9 : ∀ o, (setObj r o).run P w = .ok () (stO w r o) := fun o => by simp [setObj, Sem.run, hm, stO]
          obtain ⟨hj, hs, hmj, hin, hdis⟩ := hpool
          have ho0 : (setO h g (.gr e ty xs true))[p.j]? = some (.po e ty) := by rw [setO_other _ _ hnpg]; exact ho
          have hog0 : (setO h g (.gr e ty xs true))[g]? = some (.gr e ty xs true) := setO_same _ hlg
          have hob0 : (setO h g (.gr e ty xs true))[p.i]? = some (.mp mt k (.sl e ty) p.x (some (p.j, p.hole))) := by rw [setO_other _ _ hneg]; exact hob
          obtain ⟨hs', hmj', hrows, hpw⟩ := rel0.ob p.j _ ho0
          rw [hmj] at hmj'
          cases hmj'
          have seen : ∀ u ∈ hs.toList, ∀ A len cap, u = .slice (some A) len cap → ∀ q, X1 A.block q → q < len * (flat T ty).length := rel0.po p.j e ty ho0 hs hmj
          obtain ⟨vs, hown, _⟩ := rel0.ob g _ hog0
          have hvg : (m g = .slice none 0 0) ∨ ∃ b len cap cur, m g = .slice (some ⟨b, 0, none⟩) len cap ∧ w.heap[b]? = some (.cells cur e (0, 0)) ∧ len ≤ cap ∧ cap ≤ maxLen ∧ cur.size = cap * (flat T ty).length ∧ len = xs.length := by
            rcases hown.2 with ⟨h6, _⟩ | ⟨b, cap, cur, h6, _, h7, h8, h9, h10, _⟩
            · exact .inl h6
            · exact .inr ⟨b, _, cap, cur, h6, h7, h8, h9, h10, rfl⟩
          have hgb : ∀ b, Blk (m g) b → blk (m g) = some b := by
            rcases hvg with h6 | ⟨_, _, _, _, h6, _⟩ <;> rw [h6] <;> exact fun b hb => hb
          -- the new pool
          let hs2 : List Value := if blk (m g) = none then hs.toList else hs.toList ++ [m g]
          have hs2_mem : ∀ x, x ∈ hs2 → x ∈ hs.toList ∨ (x = m g ∧ blk (m g) ≠ none) := by
            intro x hx
            by_cases hb : blk (m g) = none
            · rw [show hs2 = hs.toList from if_pos hb] at hx; exact .inl hx
            · rw [show hs2 = hs.toList ++ [m g] from if_neg hb] at hx
              rcases List.mem_append.1 hx with hx | hx
              · exact .inl hx
              · exact .inr ⟨by simpa using hx, hb⟩
          have hs2_old : ∀ x, x ∈ hs.toList → x ∈ hs2 := by
            intro x hx
            by_cases hb : blk (m g) = none
            · rw [show hs2 = hs.toList from if_pos hb]; exact hx
            · rw [show hs2 = hs.toList ++ [m g] from if_neg hb]; exact List.mem_append_left _ hx
          have hs2_new : m g = .slice none 0 0 ∨ m g ∈ hs2 := by
            rcases hvg with h6 | ⟨b, len, cap, cur, h6, _⟩
            · exact .inl h6
            · have hb : ¬ blk (m g) = none := by rw [h6]; simp [blk]
              exact .inr (by rw [show hs2 = hs.toList ++ [m g] from if_neg hb]; exact List.mem_append_right _ (by simp))
          have hgnot : ∀ x ∈ hs.toList, ∀ b, blk x = some b → blk (m g) ≠ some b := by
            intro x hx b hxb hgb'
            refine rel0.sep p.j g _ _ ho0 hog0 hnpg rfl rfl b (by rw [hmj]; exact ⟨x, hx, hxb⟩) ?_
            rcases hvg with h6 | ⟨_, _, _, _, h6, _⟩ <;> rw [h6] at hgb' ⊢ <;> exact hgb'
          have hs2_pw : hs2.Pairwise fun u u' => ∀ b, blk u = some b → blk u' ≠ some b := by
            by_cases hb : blk (m g) = none
            · rw [show hs2 = hs.toList from if_pos hb]; exact hpw
            · rw [show hs2 = hs.toList ++ [m g] from if_neg hb]
              exact List.pairwise_append.2 ⟨hpw, by simp, fun x hx u hu b hxb => by rw [List.mem_singleton.1 hu]; exact hgnot x hx b hxb⟩
          have hs2_row : ∀ u ∈ hs2, ∃ b len cap cur, u = .slice (some ⟨b, 0, none⟩) len cap ∧ w.heap[b]? = some (.cells cur e (0, 0)) ∧ len ≤ cap ∧ cap ≤ maxLen ∧ cur.size = cap * (flat T ty).length := by
            intro u hu
            rcases hs2_mem u hu with hu | ⟨rfl, hb⟩
            · exact hrows u hu
            · rcases hvg with h6 | ⟨b, len, cap, cur, h6, h7, h8, h9, h10, _⟩
              · rw [h6] at hb; exact absurd rfl hb
              · exact ⟨b, len, cap, cur, h6, h7, h8, h9, h10⟩
          have hs2_seen : ∀ u ∈ hs2, ∀ A len cap, u = .slice (some A) len cap → ∀ q, X1 A.block q → q < len * (flat T ty).length := by
            intro u hu A len cap hA q hq
            rcases hs2_mem u hu with hu | ⟨rfl, hb⟩
            · exact seen u hu A len cap hA q hq
            · rcases hvg with h6 | ⟨b, len', cap', cur, h6, _, _, _, _, h11⟩
              · rw [h6] at hb; exact absurd rfl hb
              · have h12 := rel0.gr g e ty xs true hog0 b (by rw [h6]; rfl) q (by rw [h6] at hA; cases hA; exact hq)
                rw [h6] at hA
                cases hA
                rw [h11]
                exact h12.2
          -- the state with the new pool
          have hlen0 : (setO h g (.gr e ty xs true)).length = h.length := setO_len _ _ _
          have hlen1 : (setO (setO h p.j .no) g .no).length = h.length := by rw [setO_len, setO_len]
          have hsub1 : ∀ (j : Nat) o', (setO (setO h p.j .no) g .no)[j]? = some o' → o' = .no ∨ (j ≠ p.j ∧ j ≠ g ∧ h[j]? = some o') := by
            intro j o' hj'
            rcases setO_sub j o' hj' with h6 | ⟨h6, h7⟩
            · exact .inl h6
            · rcases setO_sub j o' h7 with h8 | ⟨h8, h9⟩
              · exact .inl h8
              · exact .inr ⟨h8, h6, h9⟩
          have hmine2 : ∀ b, Blk (.tuple hs2.toArray) b → Blk (m p.j) b ∨ Blk (m g) b := by
            rintro b ⟨x, hx, hxb⟩
            rcases hs2_mem x hx with hx | ⟨rfl, _⟩
            · exact .inl (by rw [hmj]; exact ⟨x, hx, hxb⟩)
            · refine .inr ?_
              rcases hvg with h6 | ⟨_, _, _, _, h6, _⟩ <;> rw [h6] at hxb ⊢ <;> exact hxb
          have hlen0' : h.length = (setO h g (.gr e ty xs true)).length := hlen0.symm
          have rel1 : Rel T (updM m h.length (.tuple hs2.toArray)) X1 (setO (setO h p.j .no) g .no ++ [.po e ty]) w := by
            have := rel0.push (h1 := setO (setO h p.j .no) g .no) (by rw [hlen1, hlen0]) (fun j o' hj' => (hsub1 j o' hj').imp (fun h => h) (fun h => by rw [setO_other _ _ h.2.1]; exact h.2.2)) (v := .tuple hs2.toArray) (o0 := .po e ty)
              (fun _ b hb j o' hj' hl' hbj => by
                rcases hsub1 j o' hj' with rfl | ⟨h6, h7, h8⟩
                · cases hl'
                · rcases hmine2 b hb with h9 | h9
                  · exact hr.sep p.j j _ _ ho h8 (Ne.symm h6) rfl hl' b h9 hbj
                  · exact hr.sep g j _ _ hog h8 (Ne.symm h7) rfl hl' b h9 hbj)
              ⟨hs2.toArray, updM_same _ _ _, hs2_row, hs2_pw⟩
              (fun hs3 hv u hu => by cases hv; exact hs2_seen u hu)
            rw [hlen0] at this
            exact this
          have hlen2 : (setO (setO h p.j .no) g .no ++ [Ob.po e ty]).length = h.length + 1 := by simp [hlen1]
          have hm1 : ∀ i, i < h.length → updM m h.length (.tuple hs2.toArray) i = m i := fun i hi => updM_other _ _ (by omega)
          have fr1 : Fr T m X1 (setO h g (.gr e ty xs true)) w (updM m h.length (.tuple hs2.toArray)) X1 (setO (setO h p.j .no) g .no ++ [.po e ty]) w := by
            refine Fr.here ⟨by rw [hlen2, hlen0]; omega, fun i hi => hm1 i (by rwa [hlen0] at hi), fun _ _ hx => hx, fun _ _ _ => rfl⟩ (fun b hb => ?_)
            obtain ⟨i, o, hi, hl', hbi⟩ := hb
            by_cases h6 : i = h.length
            · subst h6
              rw [updM_same] at hbi
              rcases hmine2 b hbi with h7 | h7
              · exact ⟨_, _, ho0, rfl, h7⟩
              · exact ⟨_, _, hog0, rfl, h7⟩
            · have h7 := get_push_old (h := setO (setO h p.j .no) g .no) (by rw [hlen1]; exact h6) hi
              rcases hsub1 i o h7 with rfl | ⟨h8, h9, h10⟩
              · cases hl'
              · rw [updM_other _ _ h6] at hbi
                exact ⟨i, o, by rw [setO_other _ _ h9]; exact h10, hl', hbi⟩
          have hob1 : (setO (setO h p.j .no) g .no ++ [Ob.po e ty])[p.i]? = some (.mp mt k (.sl e ty) p.x (some (p.j, p.hole))) := by
            rw [List.getElem?_append_left (by rw [hlen1]; exact hli), setO_other _ _ hneg, setO_other _ _ hne]
            exact hob
          have hat1 : updM m h.length (.tuple hs2.toArray) p.i = .map (some r) := (hm1 _ hli).trans hat
          have e9 : setO (setO (setO h p.i (.mp t k (.sl e ty) (mset (keqT k) p.x key xs) (some (h.length, none)))) p.j .no) g .no ++ [.po e ty] = setO (setO (setO h p.j .no) g .no ++ [Ob.po e ty]) p.i (.mp t k (.sl e ty) (mset (keqT k) p.x key xs) (some (h.length, none))) := by
            rw [setO_app (by rw [hlen1]; exact hli), setO_swap hne, setO_swap hneg]
          have hhA : holeAt T k (.sl e ty) p.x p.hole = idxE (keqT k) key p.x.es := by
            rw [hhole]
            show idxE (keqT k) k0 p.x.es = _
            rw [key_eq hd2 hkk]
          rw [hhA] at hin hdis
          suffices h9 : ∃ es' ck', (Instr.mapUpdate t (.map (some r)) kv (m g)).run P w = .ok () (stO w r (.map es' ck')) ∧ ck' = (mset (keqT k) p.x key xs).ck ∧ (∀ w2, (∀ b o, X1 b o → w2.cell? ⟨b, o, none⟩ = w.cell? ⟨b, o, none⟩) → All2 (EntR T w2 X1 k (.sl e ty)) (mset (keqT k) p.x key xs).es es'.toList) ∧
              (∀ (q : Nat) me, es'.toList[q]? = some me → me.val = m g ∨ ∃ q0, es.toList[q0]? = some me ∧ q0 = q ∧ idxE (keqT k) key p.x.es ≠ some q0) ∧
              (∀ (q q' : Nat) me me', es'.toList[q]? = some me → es'.toList[q']? = some me' → (¬ ∃ q0, es.toList[q0]? = some me ∧ q0 = q ∧ idxE (keqT k) key p.x.es ≠ some q0) → (¬ ∃ q0, es.toList[q0]? = some me' ∧ q0 = q' ∧ idxE (keqT k) key p.x.es ≠ some q0) → q = q') by
            obtain ⟨es', ck', q1, q2, q3, q4, q5⟩ := h9
            have tk := turn_ok rel1 (o0 := .mp t k (.sl e ty) (mset (keqT k) p.x key xs) (some (h.length, none))) hob1 (by rw [hat1]; rfl) rfl trivial hm rfl (b1 := .map es' ck') rfl (fun on => by
              refine ⟨r, es', hat1, by rw [stO_same hm, q2], q3 _ on.ww, by rw [hlen2]; omega, hs2.toArray, updM_same _ _ _, fun q me hq _ => ?_, fun q q' me me' hqq hq hq' _ _ b hb => ?_⟩
              · rcases q4 q me hq with h6 | ⟨q0, h6, _, h7⟩
                · rw [h6]; exact hs2_new
                · exact (hin q0 me h6 h7).imp (fun h => h) (fun h => hs2_old _ h)
              · by_cases hA : ∃ q0, es.toList[q0]? = some me ∧ q0 = q ∧ idxE (keqT k) key p.x.es ≠ some q0
                · obtain ⟨q0, h6, rfl, h7⟩ := hA
                  by_cases hB : ∃ q0, es.toList[q0]? = some me' ∧ q0 = q' ∧ idxE (keqT k) key p.x.es ≠ some q0
                  · obtain ⟨q0', h8, rfl, h10⟩ := hB
                    exact hdis q0 q0' me me' hqq h6 h8 h7 h10 b hb
                  · have h11 : me'.val = m g := (q4 q' me' hq').elim (fun h => h) (fun h => absurd h hB)
                    rw [h11]
                    rcases hin q0 me h6 h7 with h12 | h12
                    · rw [h12] at hb; cases hb
                    · exact hgnot _ h12 b hb
                · have h11 : me.val = m g := (q4 q me hq).elim (fun h => h) (fun h => absurd h hA)
                  by_cases hB : ∃ q0, es.toList[q0]? = some me' ∧ q0 = q' ∧ idxE (keqT k) key p.x.es ≠ some q0
                  · obtain ⟨q0', h8, rfl, h10⟩ := hB
                    intro hb'
                    rcases hin q0' me' h8 h10 with h12 | h12
                    · rw [h12] at hb'; cases hb'
                    · rw [h11] at hb
                      exact hgnot _ h12 b hb' hb
                  · exact absurd (q5 q q' me me' hq hq' hA hB) hqq)
            rw [e9]
            exact ⟨_, X1, _, q1, tk.1, fr0.trans (fr1.trans tk.2)⟩
          cases hi : idxE (keqT k) key p.x.es with
          | none =>
            rw [hi] at hf
            have e2 : mset (keqT k) p.x key xs = _ := mset_none hi
            refine ⟨es.push { key := kv, val := m g, born := p.x.ck }, p.x.ck + 1, by simp [Instr.mapUpdate, run_underlying hu, hg, hc, hf, hs9], by rw [e2], fun w2 hw2 => ?_, fun q me hq => ?_, fun q q' me me' hq hq' hA hB => ?_⟩
            · rw [e2, Array.toList_push]
              exact (hall1.imp (fun _ _ q => q.mono hw2 (fun _ _ h => h))).append ⟨⟨rfl, hkey.mono hw2 (fun _ _ h => h), (one_rd hrd).mono hw2 (fun _ _ h => h)⟩, trivial⟩
            · rw [Array.toList_push] at hq
              rcases get_last2 hq with ⟨h6, h7⟩ | ⟨_, rfl⟩
              · exact .inr ⟨q, h7, rfl, by simp⟩
              · exact .inl rfl
            · rw [Array.toList_push] at hq hq'
              rcases get_last2 hq with ⟨h6, h7⟩ | ⟨h6, _⟩
              · exact absurd ⟨q, h7, rfl, by simp⟩ hA
              · rcases get_last2 hq' with ⟨h8, h9⟩ | ⟨h8, _⟩
                · exact absurd ⟨q', h9, rfl, by simp⟩ hB
                · rw [h6, h8]
          | some j =>
            rw [hi] at hf
            have hj := idxE_lt hi
            obtain ⟨me, hme, hent⟩ := hall1.get (List.getElem?_eq_getElem hj)
            dsimp only at hf
            rw [hme] at hf
            simp only [Option.map_some] at hf
            have hsb := same_bits hd2 hent.2.1 hkey (idxE_eq hi (List.getElem?_eq_getElem hj))
            have hmk : es[j]? = some me := by rw [← Array.getElem?_toList]; exact hme
            have hkt : (Instr.keyThatStays me.key kv).run P w = .ok kv w := by simp [Instr.keyThatStays, hsb]
            have e2 : mset (keqT k) p.x key xs = _ := mset_some hi
            refine ⟨es.modify j fun e => { e with key := kv, val := m g }, p.x.ck, by simp [Instr.mapUpdate, run_underlying hu, hg, hc, hf, hmk, hkt, hs9], by rw [e2], fun w2 hw2 => ?_, fun q me' hq => ?_, fun q q' me1 me2 hq hq' hA hB => ?_⟩
            · rw [e2, Array.toList_modify]
              refine all2_modify (hall1.imp (fun _ _ q => q.mono hw2 (fun _ _ h => h))) (fun a b ha hb' => ?_)
              obtain ⟨b2, hb2, hab⟩ := hall1.get ha
              rw [hb'] at hb2
              cases hb2
              exact ⟨hab.1, hkey.mono hw2 (fun _ _ h => h), (one_rd hrd).mono hw2 (fun _ _ h => h)⟩
            · rw [Array.toList_modify, List.getElem?_modify] at hq
              by_cases hqj : j = q
              · subst hqj
                rw [hme] at hq
                simp at hq
                exact .inl (by rw [← hq])
              · simp [hqj] at hq
                refine .inr ⟨q, by simpa using hq, rfl, by simpa using hqj⟩
            · rw [Array.toList_modify, List.getElem?_modify] at hq hq'
              have h6 : j = q := by
                refine Classical.byContradiction fun hqj => hA ?_
                simp [hqj] at hq
                exact ⟨q, by simpa using hq, rfl, by simpa using hqj⟩
              have h7 : j = q' := by
                refine Classical.byContradiction fun hqj => hB ?_
                simp [hqj] at hq'
                exact ⟨q', by simpa using hq', rfl, by simpa using hqj⟩
              rw [← h6, ← h7]
        · cases hx
      · cases hx
    · cases hx
  · cases hx
theorem delP_ok (hr : Rel T m X h w) {t : TypeId} {l ix : Lf T} {z : Res T} (hx : delPF P t l ix h = some z) (hp : z.p) {mv kv : Value} (hl : LfR m X h.length w l mv) (hk : LfR m X h.length w ix kv) {ts : Array TypeId} (hts : ts[0]? = some t) {ty : TypeId} :
    z.v = .t [] ∧ ∃ w', (Builtin.delete_ ts ty #[mv, kv]).run P w = .ok (.tuple #[]) w' ∧ Rel T m X z.h w' ∧ Fr T m X h w m X z.h w' := by
  unfold delPF at hx
  split at hx
  · rename_i q hq
    obtain ⟨kt, d, hu, hd1, hd2, _⟩ := mapTy_some hq
    obtain ⟨k, v, vt⟩ := q
    dsimp only at hx hu hd1 hd2
    split at hx
    · rename_i p key h1 h2
      split at hx
      · rename_i k0 hhole
        cases hx
        refine ⟨rfl, ?_⟩
        have hkk : keqT k k0 key = true := hp
        have hkey := keyOf_ok h2 hk
        obtain ⟨rfl, mt, r, es, rfl, hob, hat, hm, hall, hpool⟩ := mapP_ok hr h1 hl
        have hf := run_find (P := P) hd1 hd2 hkey hall
        have hc := fun b => run_check (P := P) (w := w) hd1 hd2 hkey b
        have hg : (getObj r).run P w = .ok (.map es p.x.ck) w := by simp [getObj, Sem.run, hm]
        have hs9 : ∀ o, (setObj r o).run P w = .ok () (stO w r o) := fun o => by simp [setObj, Sem.run, hm, stO]
        have hbo : Blk (m p.i) r := by rw [hat]; rfl
        obtain ⟨hj, hs, hmj, hin, hdis⟩ := hpool
        have hhA : holeAt T k v p.x p.hole = idxE (keqT k) key p.x.es := by
          rw [hhole]
          show idxE (keqT k) k0 p.x.es = _
          rw [key_eq hd2 hkk]
        rw [hhA] at hin hdis
        suffices h9 : ∃ es', (Builtin.delete_ ts ty #[.map (some r), kv]).run P w = .ok (.tuple #[]) (stO w r (.map es' p.x.ck)) ∧ (∀ w2, (∀ b o, X b o → w2.cell? ⟨b, o, none⟩ = w.cell? ⟨b, o, none⟩) → All2 (EntR T w2 X k v) (mdel (keqT k) p.x key).es es'.toList) ∧
            (∀ (q : Nat) me, es'.toList[q]? = some me → ∃ q0, es.toList[q0]? = some me ∧ idxE (keqT k) key p.x.es ≠ some q0 ∧ ∀ (q' : Nat) me', q ≠ q' → es'.toList[q']? = some me' → ∃ q0', q0 ≠ q0' ∧ es.toList[q0']? = some me' ∧ idxE (keqT k) key p.x.es ≠ some q0') by
          obtain ⟨es', q1, q3, q4⟩ := h9
          have tk := turn_ok hr (o0 := .mp t k v (mdel (keqT k) p.x key) (some (p.j, none))) hob hbo rfl trivial hm rfl (b1 := .map es' p.x.ck) rfl (fun on => by
            refine ⟨r, es', hat, by rw [stO_same hm]; rfl, q3 _ on.ww, hj, hs, hmj, fun q me hq _ => ?_, fun q q' me me' hqq hq hq' _ _ => ?_⟩
            · obtain ⟨q0, h6, h7, _⟩ := q4 q me hq
              exact hin q0 me h6 h7
            · obtain ⟨q0, h6, h7, h8⟩ := q4 q me hq
              obtain ⟨q0', h10, h11, h12⟩ := h8 q' me' hqq hq'
              exact hdis q0 q0' me me' h10 h6 h11 h7 h12)
          exact ⟨_, q1, tk.1, tk.2⟩
        cases hi : idxE (keqT k) key p.x.es with
        | none =>
          rw [hi] at hf
          refine ⟨es, by simp [Builtin.delete_, hts, run_underlying hu, hg, hc, hf, hs9], fun w2 hw2 => ?_, fun q me hq => ⟨q, hq, by simp, fun q' me' hqq hq' => ⟨q', hqq, hq', by simp⟩⟩⟩
          unfold mdel
          rw [delE_none hi]
          exact hall.imp (fun _ _ q => q.mono hw2 (fun _ _ h => h))
        | some j =>
          rw [hi] at hf
          have hj := idxE_lt hi
          obtain ⟨me, hme, hent⟩ := hall.get (List.getElem?_eq_getElem hj)
          dsimp only at hf
          rw [hme] at hf
          simp only [Option.map_some] at hf
          have hpos : ∀ q : Nat, (es.toList.eraseIdx j)[q]? = es.toList[if q < j then q else q + 1]? := by
            intro q
            rw [List.getElem?_eraseIdx]
            split <;> rfl
          refine ⟨es.eraseIdxIfInBounds j, by simp [Builtin.delete_, hts, run_underlying hu, hg, hc, hf, hs9], fun w2 hw2 => ?_, fun q me' hq => ?_⟩
          · unfold mdel
            rw [delE_some hi, Array.toList_eraseIdxIfInBounds]
            exact all2_erase j (hall.imp (fun _ _ q => q.mono hw2 (fun _ _ h => h)))
          · rw [Array.toList_eraseIdxIfInBounds, hpos] at hq
            refine ⟨_, hq, by intro h6; injection h6 with h6; split at h6 <;> omega, fun q' me'' hqq hq' => ?_⟩
            rw [Array.toList_eraseIdxIfInBounds, hpos] at hq'
            refine ⟨_, ?_, hq', by intro h6; injection h6 with h6; split at h6 <;> omega⟩
            split <;> split <;> omega
      · cases hx
    · cases hx
  · cases hx
theorem retP_live (i n : Nat) (o : Ob T) : (retP i n o).live = o.live := by
  cases o with
  | mp mt k v x po =>
    cases po with
    | none => rfl
    | some po => simp only [retP]; cases Nat.beq po.1 i <;> rfl
  | _ => rfl
theorem retP_seen {i n : Nat} {v : Value} {o : Ob T} : SeenOk X v (retP i n o) ↔ SeenOk X v o := by
  cases o with
  | mp mt k v x po =>
    cases po with
    | none => exact Iff.rfl
    | some po => simp only [retP]; cases Nat.beq po.1 i <;> exact Iff.rfl
  | _ => exact Iff.rfl
theorem moveP1_ok (hr : Rel T m X h w) (i : Nat) : ∃ m', Rel T m' X (moveP1 h i) w ∧ Fr T m X h w m' X (moveP1 h i) w := by
  unfold moveP1
  split
  · rename_i e t ho
    rw [nth_eq] at ho
    have hlt := lt_of_get ho
    obtain ⟨hs, hm, hrows, hpw⟩ := hr.ob i _ ho
    have hlen : ((setO h i .no).map (retP i h.length)).length = h.length := by simp [setO_len]
    have hl1 : ((setO h i .no).map (retP i h.length) ++ [Ob.po e t]).length = h.length + 1 := by simp [setO_len]
    have hmo : ∀ a, a < h.length → updM m h.length (m i) a = m a := fun a ha => updM_other _ _ (by omega)
    have on : On m X h.length w (updM m h.length (m i)) X (h.length + 1) w := ⟨by omega, hmo, fun _ _ hx => hx, fun _ _ _ => rfl⟩
    -- an object, as it was
    have get : ∀ (a : Nat) o, ((setO h i .no).map (retP i h.length) ++ [Ob.po e t])[a]? = some o → (a = h.length ∧ o = .po e t) ∨ o = .no ∨ (a ≠ i ∧ a < h.length ∧ ∃ o', h[a]? = some o' ∧ o = retP i h.length o') := by
      intro a o ha
      by_cases hn : a = h.length
      · subst hn
        rw [List.getElem?_append_right (by rw [hlen]; exact Nat.le_refl _), hlen] at ha
        simp at ha
        exact .inl ⟨rfl, ha.symm⟩
      · have h2 : a < h.length := by have := lt_of_get ha; omega
        rw [List.getElem?_append_left (by rw [hlen]; exact h2), List.getElem?_map] at ha
        obtain ⟨o', ho', rfl⟩ := Option.map_eq_some_iff.1 ha
        rcases setO_sub a o' ho' with rfl | ⟨h3, h4⟩
        · exact .inr (.inl rfl)
        · exact .inr (.inr ⟨h3, h2, o', h4, rfl⟩)
    have seen : ∀ (a : Nat) o, ((setO h i .no).map (retP i h.length) ++ [Ob.po e t])[a]? = some o → SeenOk X (updM m h.length (m i) a) o := by
      intro a o ha
      rcases get a o ha with ⟨rfl, rfl⟩ | rfl | ⟨h3, h4, o', h5, rfl⟩
      · rw [updM_same]; exact hr.po i e t ho
      · trivial
      · rw [hmo a h4, retP_seen]; exact hr.seen h5
    have rel : Rel T (updM m h.length (m i)) X ((setO h i .no).map (retP i h.length) ++ [Ob.po e t]) w := by
      refine ⟨fun a o ha => ?_, fun a b o o' ha hb hab hl hl' p hp hq => ?_, hr.lt, fun a _ ha hp => (seen a _ ha).pv hp, fun a _ _ _ _ ha => seen a _ ha, fun a _ _ ha => seen a _ ha⟩
      · rw [hl1]
        rcases get a o ha with ⟨rfl, rfl⟩ | rfl | ⟨h3, h4, o', h5, rfl⟩
        · exact ⟨hs, by rw [updM_same]; exact hm, hrows, hpw⟩
        · trivial
        · have h6 := (hr.ob a o' h5).keep on h4 (fun _ _ => rfl)
          cases o' with
          | mp mt k v x po =>
            cases po with
            | none => exact h6
            | some po =>
              simp only [retP]
              cases hb : Nat.beq po.1 i with
              | false => exact h6
              | true =>
                have h7 := Nat.eq_of_beq_eq_true hb
                obtain ⟨r, es, q1, q2, q3, q4⟩ := h6
                obtain ⟨po1, po2⟩ := po
                dsimp only at h7
                subst h7
                obtain ⟨_, hs2, q6, q7⟩ := q4
                rw [hmo _ hlt] at q6
                exact ⟨r, es, q1, q2, q3, by omega, hs2, by rw [updM_same]; exact q6, q7⟩
          | _ => exact h6
      · rcases get a o ha with ⟨rfl, rfl⟩ | rfl | ⟨h3, h4, o1, h5, rfl⟩
        · rw [updM_same] at hp
          rcases get b o' hb with ⟨rfl, _⟩ | rfl | ⟨h6, h7, o2, h8, rfl⟩
          · exact hab rfl
          · cases hl'
          · rw [hmo b h7] at hq
            rw [retP_live] at hl'
            exact hr.sep i b _ _ ho h8 (Ne.symm h6) rfl hl' p hp hq
        · cases hl
        · rw [hmo a h4] at hp
          rw [retP_live] at hl
          rcases get b o' hb with ⟨rfl, _⟩ | rfl | ⟨h6, h7, o2, h8, rfl⟩
          · rw [updM_same] at hq
            exact hr.sep a i _ _ h5 ho h3 hl rfl p hp hq
          · cases hl'
          · rw [hmo b h7] at hq
            rw [retP_live] at hl'
            exact hr.sep a b _ _ h5 h8 hab hl hl' p hp hq
    refine ⟨_, rel, Fr.here (by rw [hl1]; exact on) (fun b hb => ?_)⟩
    obtain ⟨a, o, ha, hl, hp⟩ := hb
    rcases get a o ha with ⟨rfl, rfl⟩ | rfl | ⟨h3, h4, o1, h5, rfl⟩
    · rw [updM_same] at hp
      exact ⟨i, _, ho, rfl, hp⟩
    · cases hl
    · rw [hmo a h4] at hp
      rw [retP_live] at hl
      exact ⟨a, o1, h5, hl, hp⟩
  · exact ⟨m, hr, Fr.refl⟩
theorem moveP_ok (hr : Rel T m X h w) : ∀ k : Nat, ∃ m', Rel T m' X (moveP k h) w ∧ Fr T m X h w m' X (moveP k h) w
  | 0 => ⟨m, hr, Fr.refl⟩
  | k + 1 => by
    obtain ⟨m1, h1, h2⟩ := moveP_ok hr k
    obtain ⟨m2, h3, h4⟩ := moveP1_ok h1 k
    exact ⟨m2, h3, h2.trans h4⟩
end
end Go.Proofs.Ytfojcadooepgpaa.Rx
