/- A plain evaluator over the translated code: stores to elements, literals, made slices. Under no condition. -/
import Derived.Test.YtfojcadooepgpaaRxQa
import Derived.Great.FillDense
set_option linter.unusedVariables false
set_option linter.unusedSimpArgs false
namespace Go.Proofs.Ytfojcadooepgpaa.Rx
open Go Go.RowKit

section
variable {T : Tab} {m m' : Nat → Value} {X X' : Nat → Nat → Prop} {n n' : Nat} {w w' : World} {P : Program} {h h' : Hp T}

/-! ### a store to an element -/
theorem splice_get {vs us : List Value} {o : Nat} (hle : o + us.length ≤ vs.length) (q : Nat) : (vs.take o ++ us ++ vs.drop (o + us.length))[q]? = if q < o then vs[q]? else if q < o + us.length then us[q - o]? else vs[q]? := by
  have e1 : (vs.take o).length = o := by rw [List.length_take]; omega
  rw [List.append_assoc]
  by_cases h1 : q < o
  · rw [if_pos h1, List.getElem?_append_left (by omega), List.getElem?_take, if_pos h1]
  · rw [if_neg h1, List.getElem?_append_right (by omega), e1]
    by_cases h2 : q < o + us.length
    · rw [if_pos h2, List.getElem?_append_left (by omega)]
    · rw [if_neg h2, List.getElem?_append_right (by omega), List.getElem?_drop]
      congr 1
      omega
theorem splice_len {vs us : List Value} {o : Nat} (hle : o + us.length ≤ vs.length) : (vs.take o ++ us ++ vs.drop (o + us.length)).length = vs.length := by
  simp only [List.length_append, List.length_take, List.length_drop]
  omega
theorem store_elt (hr : Rel T m X h w) {i : Nat} {e : TypeId} {ty : Ty} {ys : List (den T.S ty)} (ho : h[i]? = some (.gr e ty ys false)) {b l c : Nat} (hm : m i = .slice (some ⟨b, 0, none⟩) l c) {x : Nat} (hx : x < l) {off : Nat} {us old : List Value} {y : den T.S ty}
    (hold : w.rangeAt b (x * (flat T ty).length) old) (hol : old.length = (flat T ty).length) (hle : off + us.length ≤ (flat T ty).length)
    (hc : CellsOf T w X ty [y] (old.take off ++ us ++ old.drop (off + us.length))) :
    Rel T m X (setO h i (.gr e ty (ys.set x y) false)) (w.setCells b (x * (flat T ty).length + off) us) ∧ Fr T m X h w m X (setO h i (.gr e ty (ys.set x y) false)) (w.setCells b (x * (flat T ty).length + off) us) ∧
    ∃ vs : List Value, w.heap[b]? = some (.cells vs.toArray e (0, 0)) ∧ x * (flat T ty).length + off + us.length ≤ vs.length := by
  obtain ⟨vs, hown, hcs⟩ := gr_cells hr ho
  rcases hown.2 with ⟨h2, _⟩ | ⟨g, cap, cur, h2, _, hg, hcap, hcm, hsz, htake⟩
  · rw [hm] at h2; cases h2
  rw [hm] at h2
  cases h2
  have hlt := lt_of_get ho
  have hcur : cur = cur.toList.toArray := by simp
  rw [hcur] at hg
  have hin : x * (flat T ty).length + off + us.length ≤ ys.length * (flat T ty).length := by
    have := Nat.mul_le_mul_right (flat T ty).length hx
    rw [Nat.succ_mul] at this
    omega
  have hin2 : ys.length * (flat T ty).length ≤ cur.toList.length := by
    have : cur.toList.length = cur.size := Array.length_toList
    rw [this, hsz]; exact Nat.mul_le_mul_right _ hcap
  have hfit : x * (flat T ty).length + off + us.length ≤ cur.toList.length := by omega
  have hnX : ∀ o, ¬ X b o := fun o hx => by have := (hr.gr i _ _ _ _ ho b (by rw [hm]; rfl) o hx).1; cases this
  have hww : ∀ p q, X p q → (w.setCells b (x * (flat T ty).length + off) us).cell? ⟨p, q, none⟩ = w.cell? ⟨p, q, none⟩ := by
    intro p q hx
    exact World.cell?_of_block (setCells_other b us _ w p (fun e => hnX q (e ▸ hx)))
  have on : On m X h.length w m X (setO h i (.gr e ty (ys.set x y) false)).length (w.setCells b (x * (flat T ty).length + off) us) := ⟨by rw [setO_len]; exact Nat.le_refl _, fun _ _ => rfl, fun _ _ h => h, hww⟩
  have hkeep : ∀ j o', j ≠ i → (setO h i (.gr e ty (ys.set x y) false))[j]? = some o' → h[j]? = some o' := fun j o' hne hj => by rwa [setO_other _ _ hne] at hj
  have hsep : ∀ j o', j ≠ i → h[j]? = some o' → o'.live = true → ¬ Blk (m j) b := fun j o' hne hj hl => hr.sep i j _ _ ho hj (Ne.symm hne) rfl hl b (by rw [hm]; rfl)
  have hnew := setCells_same b us (x * (flat T ty).length + off) w cur.toList hg hfit
  have hvl : vs.length = ys.length * (flat T ty).length := hcs.1
  refine ⟨?_, Fr.upd (i0 := i) on ?_ ?_ ?_ ?_ ?_ (fun j o' hne hj => .inr (hkeep j o' hne hj)) (fun o0 ho0 _ p hp => .inl ⟨i, _, ho, rfl, hp⟩) (fun _ _ hx => .inl hx), _, hg, hfit⟩
  · refine hr.upd on (setO_same _ hlt) (fun j o' hne hj => .inr ⟨hkeep j o' hne hj, fun p hp hl => ?_⟩) ?_ (fun _ p hp j o' hne hj hl => ?_) (fun p q hx => ?_) (fun _ _ _ _ _ _ _ _ hx => hx) ?_
    · exact setCells_other b us _ w p (fun e => hsep j o' hne (hkeep j o' hne hj) hl (e ▸ hp))
    · refine ⟨vs.take (x * (flat T ty).length + off) ++ us ++ vs.drop (x * (flat T ty).length + off + us.length), ⟨?_, .inr ⟨b, c, _, hm.trans (by simp), Nat.zero_le _, hnew, by simpa using hcap, hcm, ?_, ?_⟩⟩, fun k z j d hk hd => ?_⟩
      · rw [splice_len (by omega), List.length_set]
        exact hvl
      · rw [List.size_toArray, splice_len hfit, ← hsz]
        exact Array.length_toList
      · simp only [List.length_set]
        apply List.ext_getElem?
        intro q
        rw [List.getElem?_take, splice_get hfit, splice_get (by omega), ← htake, List.getElem?_take]
        by_cases hq : q < ys.length * (flat T ty).length
        · rw [if_pos hq, if_pos hq]
        · rw [if_neg hq, if_neg hq, if_neg (by omega), if_neg (by omega)]
      · have hj : j < (flat T ty).length := by rw [← lv_len ty z]; exact (List.getElem?_eq_some_iff.1 hd).1
        rw [splice_get (by omega)]
        by_cases hkx : x = k
        · subst hkx
          rw [List.getElem?_set_self (by omega)] at hk
          cases hk
          obtain ⟨v, hv, hq⟩ := hc.2 0 y j d rfl hd
          refine ⟨v, ?_, RD.mono hww (fun _ _ h => h) hq⟩
          simp only [Nat.zero_mul, Nat.zero_add] at hv
          rw [splice_get (by omega)] at hv
          have hoe : old[j]? = vs[x * (flat T ty).length + j]? := by
            have hv1 : x * (flat T ty).length + j < vs.length := by
              have := Nat.mul_le_mul_right (flat T ty).length hx
              rw [Nat.succ_mul] at this
              omega
            have a1 := hold j old[j] (List.getElem?_eq_getElem (by omega))
            have a2 := hown.cells (g := b) (by rw [hm]; rfl) _ _ (List.getElem?_eq_getElem hv1)
            rw [Addr.add_mid, Nat.zero_add, a1] at a2
            rw [List.getElem?_eq_getElem (by omega), List.getElem?_eq_getElem hv1]
            exact a2
          by_cases h1 : j < off
          · rw [if_pos h1, hoe] at hv
            rw [if_pos (by omega)]
            exact hv
          · rw [if_neg h1] at hv
            rw [if_neg (by omega)]
            by_cases h3 : j < off + us.length
            · rw [if_pos h3] at hv
              rw [if_pos (by omega)]
              have e3 : x * (flat T ty).length + j - (x * (flat T ty).length + off) = j - off := by omega
              rw [e3]
              exact hv
            · rw [if_neg h3, hoe] at hv
              rw [if_neg (by omega)]
              exact hv
        · rw [List.getElem?_set_ne hkx] at hk
          obtain ⟨v, hv, hq⟩ := hcs.2 k z j d hk hd
          refine ⟨v, ?_, RD.mono hww (fun _ _ h => h) hq⟩
          by_cases hlt2 : k < x
          · have := Nat.mul_le_mul_right (flat T ty).length hlt2
            rw [Nat.succ_mul] at this
            rw [if_pos (by omega)]
            exact hv
          · have hgt : x < k := by omega
            have := Nat.mul_le_mul_right (flat T ty).length hgt
            rw [Nat.succ_mul] at this
            rw [if_neg (by omega), if_neg (by omega)]
            exact hv
    · rw [hm] at hp
      cases hp
      exact hsep j o' hne (hkeep j o' hne hj) hl
    · rw [(setCells_tape b us _ w).2.1]
      exact hr.lt p q hx
    · exact fun p hp q hx => by rw [hm] at hp; cases hp; exact absurd hx (hnX q)
  · exact Nat.le_of_eq (setCells_tape b us _ w).2.1.symm
  · exact (setCells_tape b us _ w).2.2.1
  · exact (setCells_tape b us _ w).1
  · exact (setCells_tape b us _ w).2.2.2
  · intro p _ hp
    exact setCells_other b us _ w p (fun e => hp ⟨i, _, ho, rfl, by rw [hm, e]; rfl⟩)
theorem run_store' {t : TypeId} {b o k : Nat} {v : Value} {us : List Value} {tid : TypeId} {vs : List Value} (hs : sizeOf P t = some k) (hv : v.cells = us.toArray) (hk : us.length = k) (h1 : ∀ u ∈ us, u.oneCell' = true)
    (hh : w.heap[b]? = some (.cells vs.toArray tid (0, 0))) (hl : o + us.length ≤ vs.length) : (Instr.storeAt t (.pointer (some ⟨b, o, none⟩)) v).run P w = .ok () (w.setCells b o us) :=
  run_store hs hv hk h1 hh (by omega)
theorem nb_one {l : Lf T} {v : Value} (hl : LfR m X n w l v) : LfR m X n w (nbL l) v := by
  cases l with
  | b p i =>
    have h1 : v = .bool (@decide p i) := hl
    subst h1
    exact RD.bool _
  | _ => exact hl
theorem nb_all : ∀ {ls : List (Lf T)} {us : List Value}, All2 (LfR m X n w) ls us → All2 (LfR m X n w) (ls.map nbL) us
  | [], [], _ => trivial
  | l :: ls, u :: us, h => ⟨nb_one h.1, nb_all h.2⟩
  | [], _ :: _, h => h.elim
  | _ :: _, [], h => h.elim
theorem store_ok (hr : Rel T m X h w) {t : TypeId} {l : Lf T} {v : V T} (hx : storeF P t l v h = some h') {pv rv : Value} (hl : LfR m X h.length w l pv) (hv : VR m X h.length w v rv) :
    ∃ m' X' w', (Instr.storeAt t pv rv).run P w = .ok () w' ∧ Rel T m' X' h' w' ∧ Fr T m X h w m' X' h' w' := by
  unfold storeF at hx
  split at hx
  · rename_i k hs
    cases hb : Nat.beq v.2.length k with
    | false => rw [hb] at hx; cases hx
    | true =>
      rw [hb] at hx
      simp only [cond_true] at hx
      have hk := Nat.eq_of_beq_eq_true hb
      obtain ⟨us, hcu, hau⟩ := hv.cells
      have hul : us.length = k := by rw [← hau.len]; exact hk
      split at hx
      · rename_i i off
        split at hx
        · rename_i tid ls ho
          rw [nth_eq] at ho
          cases hb2 : Nat.ble (off + k) ls.length with
          | false => rw [hb2] at hx; cases hx
          | true =>
            rw [hb2] at hx
            cases hx
            have hle := Nat.le_of_ble_eq_true hb2
            obtain ⟨_, b, hm, rfl⟩ := hl
            obtain ⟨b', vs, hm', hh, ha⟩ := hr.ob i _ ho
            rw [hm] at hm'
            cases hm'
            obtain ⟨r1, r2⟩ := store_box (off := off) hr ho hm (nb_all hau) (by omega)
            have hll := ha.len
            exact ⟨m, X, _, run_store' (vs := vs) hs hcu hul hau.ones hh (by omega), r1, r2⟩
        · cases hx
      · rename_i i sz x off
        split at hx
        · rename_i e ty xs ho
          rw [nth_eq] at ho
          cases hb2 : (Nat.ble (off + k) (flat T ty).length && Nat.beq sz (flat T ty).length) with
          | false => rw [hb2] at hx; cases hx
          | true =>
            rw [hb2] at hx
            simp only [cond_true] at hx
            simp only [Bool.and_eq_true] at hb2
            have hle := Nat.le_of_ble_eq_true hb2.1
            have hsz := Nat.eq_of_beq_eq_true hb2.2
            subst hsz
            split at hx
            · rename_i z hz
              split at hx
              · rename_i e' ty' xs' ho2
                rw [nth_eq] at ho2
                split at hx
                · rename_i ys hys
                  cases hx
                  have := asRow_some hys
                  cases this
                  obtain ⟨_, b, ln, c, hm, h0, h1, rfl⟩ := hl
                  obtain ⟨_, old, hol1, hol2⟩ := own_elt hr ho hm h0 h1
                  have hall := setL_ok (lvL_ok (m := m) (n := h.length) hol2) hau off
                  obtain ⟨m1, X1, r1, r2, r3⟩ := elt_ok hr hz hall
                  have hm1 : m1 i = .slice (some ⟨b, 0, none⟩) ln c := (r3.on.mm i (lt_of_get ho)).trans hm
                  have hxl : x.toNat < ln := by omega
                  obtain ⟨q1, q2, vs, q3, q4⟩ := store_elt r1 ho2 hm1 hxl hol1 (by rw [← hol2.len, lv_len]) (by omega) r2
                  exact ⟨m1, X1, _, run_store' hs hcu hul hau.ones q3 q4, q1, r3.trans q2⟩
                · cases hx
              · cases hx
            · cases hx
        · cases hx
      · cases hx
  · cases hx

/-! ### literals -/
theorem fill_step (off : Nat) (us : List Value) (cs : Array Value) (hle : off + us.length ≤ cs.size) :
    (us.toArray.zipIdx.foldl (fun cs (x : Value × Nat) => cs.setIfInBounds (off + x.2) x.1) cs).toList = cs.toList.take off ++ us ++ cs.toList.drop (off + us.length) := by
  have hg := Great.foldl_set off us 0 cs
  rw [← Array.foldl_toList, Array.toList_zipIdx]
  apply List.ext_getElem?
  intro q
  have h2 := hg.2 q
  rw [Array.getElem?_toList]
  simp only [List.toList_toArray] at *
  rw [h2]
  simp only [Nat.add_zero]
  have hcl : cs.toList.length = cs.size := Array.length_toList
  have e1 : (cs.toList.take off).length = off := by rw [List.length_take]; omega
  rw [List.append_assoc]
  by_cases h3 : q < off
  · rw [if_neg (by omega), List.getElem?_append_left (by omega), List.getElem?_take, if_pos h3, Array.getElem?_toList]
  · rw [List.getElem?_append_right (by omega), e1]
    by_cases h4 : q < off + us.length
    · rw [if_pos (by omega), List.getElem?_append_left (by omega)]
    · rw [if_neg (by omega), List.getElem?_append_right (by omega), List.getElem?_drop, ← Array.getElem?_toList]
      congr 1
      omega
def PartR (m : Nat → Value) (X : Nat → Nat → Prop) (n : Nat) (w : World) (x : Nat × V T) (y : Nat × Value) : Prop := x.1 = y.1 ∧ VR m X n w x.2 y.2
theorem fill_ok {pl : List (Nat × Nat)} : ∀ {l : List (Nat × V T)} {ps : List (Nat × Value)} {ls ls' : List (Lf T)} {cs : Array Value}, All2 (PartR m X n w) l ps → fillP pl l ls = some ls' → All2 (LfR m X n w) ls cs.toList →
    ∃ cs', Instr.fill (pl.toArray[·]?) cs ps = some cs' ∧ All2 (LfR m X n w) ls' cs'.toList
  | [], [], ls, ls', cs, _, hf, hl => by cases hf; exact ⟨cs, rfl, hl⟩
  | x :: l, y :: ps, ls, ls', cs, ha, hf, hl => by
    simp only [fillP] at hf
    split at hf
    · rename_i q hq
      cases hb : (Nat.beq x.2.2.length q.2 && Nat.ble (q.1 + q.2) ls.length) with
      | false => rw [hb] at hf; cases hf
      | true =>
        rw [hb] at hf
        simp only [cond_true] at hf
        simp only [Bool.and_eq_true] at hb
        have e1 := Nat.eq_of_beq_eq_true hb.1
        have e2 := Nat.le_of_ble_eq_true hb.2
        obtain ⟨hidx, hv⟩ := ha.1
        obtain ⟨us, hcu, hau⟩ := hv.cells
        have hul : us.length = q.2 := by rw [← hau.len]; exact e1
        have hcl : cs.size = ls.length := by rw [hl.len, Array.length_toList]
        have hst := fill_step q.1 us cs (by omega)
        have hnext : All2 (LfR m X n w) (setL ls q.1 x.2.2) (us.toArray.zipIdx.foldl (fun cs (x : Value × Nat) => cs.setIfInBounds (q.1 + x.2) x.1) cs).toList := by
          rw [hst]; exact setL_ok hl hau q.1
        obtain ⟨cs', h1, h2⟩ := fill_ok ha.2 hf hnext
        refine ⟨cs', ?_, h2⟩
        obtain ⟨yi, yv⟩ := y
        simp only at hidx hcu
        subst hidx
        unfold Instr.fill
        have hpl : pl.toArray[x.1]? = some q := by simpa using hq
        simp only [hpl]
        have hg : (decide (yv.cells.size ≠ q.2) || decide (q.1 + yv.cells.size > cs.size)) = false := by
          rw [hcu]; simp only [List.size_toArray]
          simp
          omega
        rw [hcu] at hg ⊢
        simp only [hg, Bool.false_eq_true, if_false]
        exact h1
    · cases hf
  | [], _ :: _, _, _, _, ha, _, _ => ha.elim
  | _ :: _, [], _, _, _, ha, _, _ => ha.elim
theorem parts_ok {env : Env T} {a : Act} (hop : ∀ x, OR m X n w env a x) : ∀ {ps : List (Nat × Operand)} {l : List (Nat × V T)}, partsOf env ps = some l → All2 (PartR m X n w) l (ps.map fun x => (x.1, a.eval x.2))
  | [], l, hp => by cases hp; trivial
  | x :: r, l, hp => by
    simp only [partsOf] at hp
    split at hp
    · rename_i v hv
      split at hp
      · rename_i l' hl'
        cases hp
        exact ⟨⟨rfl, orV (hop _) hv⟩, parts_ok hop hl'⟩
      · cases hp
    · cases hp
theorem zero_ok {t : TypeId} {v : V T} (hz : zeroOf P t = some v) : ∃ i z, P.info? t = some i ∧ i.zero = some z ∧ ∃ us : List Value, z.cells = us.toArray ∧ All2 (LfR m X n w) v.2 us := by
  unfold zeroOf at hz
  split at hz
  · rename_i i hi
    split at hz
    · rename_i z hz'
      obtain ⟨_, _, us, h1, h2⟩ := ofVal_ok (m := m) (X := X) (n := n) (w := w) hz
      exact ⟨i, z, hi, hz', us, h2, h1⟩
    · cases hz
  · cases hz
theorem build_ok {env : Env T} {a : Act} (hop : ∀ x, OR m X n w env a x) {t : TypeId} {parts : Array (Nat × Operand)} {pl : List (Nat × Nat)} {zv : V T} {l : List (Nat × V T)} {ls : List (Lf T)} (hp : placesOf P t = some pl) (hz : zeroOf P t = some zv) (hl : partsOf env parts.toList = some l) (hf : fillP pl l zv.2 = some ls) :
    ∃ rv, (Instr.build t (parts.map fun (i, x) => (i, a.eval x))).run P w = .ok rv w ∧ VR m X n w (true, ls) rv := by
  unfold placesOf at hp
  split at hp
  · rename_i fs hu
    obtain ⟨i, z, hi, hz', us, h1, h2⟩ := zero_ok (m := m) (X := X) (n := n) (w := w) hz
    obtain ⟨cs', h3, h4⟩ := fill_ok (cs := us.toArray) (parts_ok hop hl) hf (by simpa using h2)
    refine ⟨.agg cs', run_build w t _ cs' ?_, cs'.toList, h4, by simp⟩
    unfold Program.built
    simp only [hi, hu, hz', hp, h1]
    rw [← h3]
    simp
  · cases hp
theorem elts_idx : ∀ {l : List (Nat × V T)} {ps : List (Nat × Value)} {k : Nat} {lss : List (List (Lf T))}, All2 (PartR m X n w) l ps → elts k l = some lss →
    ps = ((ps.map (·.2)).zipIdx k).map (fun x => (x.2, x.1)) ∧ All2 (fun ls v => ∃ us : List Value, v.cells = us.toArray ∧ All2 (LfR m X n w) ls us) lss (ps.map (·.2)) ∧ lss.length = l.length
  | [], [], k, lss, _, he => by cases he; exact ⟨rfl, trivial, rfl⟩
  | x :: l, y :: ps, k, lss, ha, he => by
    simp only [elts] at he
    cases hb : Nat.beq x.1 k with
    | false => rw [hb] at he; cases he
    | true =>
      rw [hb] at he
      simp only [cond_true] at he
      have hk := Nat.eq_of_beq_eq_true hb
      split at he
      · rename_i lss' hl'
        cases he
        obtain ⟨h1, h2, h3⟩ := elts_idx ha.2 hl'
        obtain ⟨hidx, hv⟩ := ha.1
        obtain ⟨yi, yv⟩ := y
        refine ⟨?_, ⟨hv.cells, h2⟩, by simp [h3]⟩
        simp only [List.map_cons, List.zipIdx_cons]
        rw [← h1]
        simp only at hidx
        rw [← hidx, hk]
      · cases he
  | [], _ :: _, _, _, ha, _ => ha.elim
  | _ :: _, [], _, _, ha, _ => ha.elim
theorem flatten_get {s : Nat} (hs : 0 < s) : ∀ (l : List (List Value)), (∀ x ∈ l, x.length = s) → ∀ k, l.flatten[k]? = (l[k / s]?).bind (fun x => x[k % s]?)
  | [], _, k => by simp
  | x :: l, hl, k => by
    have hx : x.length = s := hl x List.mem_cons_self
    rw [List.flatten_cons]
    by_cases hk : k < s
    · rw [List.getElem?_append_left (by omega), Nat.div_eq_of_lt hk, Nat.mod_eq_of_lt hk]
      simp
    · rw [List.getElem?_append_right (by omega), flatten_get hs l (fun y hy => hl y (List.mem_cons_of_mem _ hy)) (k - x.length), hx]
      have e1 : k / s = (k - s) / s + 1 := by
        have h1 : k = (k - s) + s := by omega
        rw [h1, Nat.add_div_right _ hs]
        congr 2
        omega
      have e2 : (k - s) % s = k % s := by
        have h1 : k = (k - s) + s := by omega
        rw [h1, Nat.add_mod_right]
        congr 1
        omega
      rw [e1, e2, List.getElem?_cons_succ]
theorem allLen_mem {s : Nat} : ∀ {lss : List (List (Lf T))}, allLen s lss = true → ∀ l ∈ lss, l.length = s
  | [], _, l, hl => by cases hl
  | x :: lss, hb, l, hl => by
    simp only [allLen, Bool.and_eq_true] at hb
    rcases List.mem_cons.1 hl with rfl | hl
    · exact Nat.eq_of_beq_eq_true hb.1
    · exact allLen_mem hb.2 l hl
theorem lit_ok (hr : Rel T m X h w) {env : Env T} {a : Act} (hop : ∀ x, OR m X h.length w env a x) {t e : TypeId} {len : Nat} {parts : Array (Nat × Operand)} {ty : Ty} {si : Nat × Nat} {l : List (Nat × V T)} {lss : List (List (Lf T))} {xs : List (den T.S ty)}
    (hu : P.underlying t = some (.slice e)) (hsi : rowI P e = some si) (hsz : si.1 = (flat T ty).length) (hl : partsOf env parts.toList = some l) (hln : l.length = len) (hsm : len * si.1 ≤ 65536) (he : elts 0 l = some lss) (ha : allLen si.1 lss = true) (hx : eltsOf ty lss h = some (xs, h')) :
    ∃ rv m' X' w', (Instr.buildSlice t len (parts.map fun (i, x) => (i, a.eval x))).run P w = .ok rv w' ∧ LfR m' X' (h'.length + 1) w' (.g h'.length : Lf T) rv ∧ Rel T m' X' (h' ++ [.gr e ty xs false]) w' ∧ Fr T m X h w m' X' (h' ++ [.gr e ty xs false]) w' := by
  obtain ⟨s, by_⟩ := si
  simp only at hsz hsm ha
  obtain ⟨i, z, hi, hz, h1, h2, h3, h4, h5⟩ := rowI_some hsi
  have hp := parts_ok hop hl
  obtain ⟨q1, q2, q3⟩ := elts_idx hp he
  let vs : List Value := (parts.toList.map fun x => (x.1, a.eval x.2)).map (·.2)
  have hvl : vs.length = len := by show List.length (List.map _ _) = len; rw [List.length_map, ← hp.len, hln]
  obtain ⟨uss, hu1, hu2⟩ : ∃ uss : List (List Value), All2 (fun ls us => All2 (LfR m X h.length w) ls us) lss uss ∧ All2 (fun (v : Value) us => v.cells = us.toArray) vs uss := by
    have : ∀ {lss : List (List (Lf T))} {vs : List Value}, All2 (fun ls v => ∃ us : List Value, v.cells = us.toArray ∧ All2 (LfR m X h.length w) ls us) lss vs → ∃ uss : List (List Value), All2 (fun ls us => All2 (LfR m X h.length w) ls us) lss uss ∧ All2 (fun (v : Value) us => v.cells = us.toArray) vs uss := by
      intro lss
      induction lss with
      | nil => intro vs hv; match vs, hv with | [], _ => exact ⟨[], trivial, trivial⟩
      | cons ls lss ih =>
        intro vs hv
        match vs, hv with
        | v :: vs, hv =>
          obtain ⟨us, k1, k2⟩ := hv.1
          obtain ⟨uss, k3, k4⟩ := ih hv.2
          exact ⟨us :: uss, ⟨k2, k3⟩, ⟨k1, k4⟩⟩
    exact this q2
  have hlens : ∀ us ∈ uss, us.length = s := by
    intro us hus
    obtain ⟨ls, hls, k⟩ := hu1.mem_right us hus
    rw [← k.len]
    exact allLen_mem ha ls hls
  obtain ⟨m1, X1, r1, r2, r3⟩ := elts_ok hr hx hu1
  have hvc : ∀ v ∈ vs, v.cells.size = s := by
    intro v hv
    obtain ⟨q, hq⟩ := List.mem_iff_getElem?.1 hv
    obtain ⟨us, k1, k2⟩ := hu2.get hq
    rw [k2]
    simp only [List.size_toArray]
    exact hlens us (List.mem_of_getElem? k1)
  have hfl : uss.length = len := by rw [← hu2.len, hvl]
  by_cases hlen0 : len = 0
  · -- nothing in it
    subst hlen0
    have hxs : xs = [] := by
      have := r2.1
      have h0 : uss = [] := List.eq_nil_of_length_eq_zero hfl
      rw [h0] at this
      simp only [List.flatten_nil, List.length_nil] at this
      rw [← hsz] at this
      rcases Nat.mul_eq_zero.1 this.symm with k | k
      · exact List.eq_nil_of_length_eq_zero k
      · omega
    subst hxs
    have hpn : parts.toList = [] := by
      have : (parts.toList.map fun x => (x.1, a.eval x.2)).length = 0 := by rw [← hp.len, hln]
      rw [List.length_map] at this
      exact List.eq_nil_of_length_eq_zero this
    have hpa : parts = #[] := by rw [← Array.toArray_toList (xs := parts), hpn]
    subst hpa
    have hrun : (Instr.buildSlice t 0 ((#[] : Array (Nat × Operand)).map fun (i, x) => (i, a.eval x))).run P w = .ok (.slice (some ⟨w.heap.size, 0, none⟩) 0 0) (w.alloc (.cells #[] e)) := by
      have h0 : (Array.range 0) = #[] := rfl
      simp [Instr.buildSlice, run_underlying hu, Go.sizeOf, typeInfo, hi, Instr.fill, newRow, h0]
    have hpr := push_row r1 (e := e) (t := ty) (xs := []) (v := .slice (some ⟨w.heap.size, 0, none⟩) 0 0) (vs := []) (row := none) (h1 := h') rfl (fun _ _ h => .inr h) (sh := false) (fun _ _ _ _ _ _ => by simp) (fun b hb => by cases hb) (grown_alloc w (.cells #[] e))
      (fun b hb => by cases hb; exact .inr rfl) (cell_alloc r1 _) ⟨by simp, .inr ⟨w.heap.size, 0, #[], rfl, Nat.zero_le _, heap_alloc_new w _, Nat.le_refl _, Nat.zero_le _, by simp, by simp⟩⟩ (CellsOf.nil _) (fun b o hb => by cases hb)
    exact ⟨_, _, X1, _, hrun, by have := hpr.2.2; simpa using this, hpr.1, r3.trans hpr.2.1⟩
  · have hpos : ¬ len * i.size = 0 := by rw [h1]; exact Nat.mul_ne_zero hlen0 (by omega)
    obtain ⟨r, f1, f2, f3⟩ := Great.fill_dense h4 vs 0 ((Array.range (len * s)).map (z.cells[· % z.cells.size]!)) hvc (by simp [hvl])
    have hparts : (parts.map fun (i, x) => (i, a.eval x)).toList = (vs.zipIdx 0).map (fun x => (x.2, x.1)) := by
      rw [← q1]
      simp
    have hrun := run_buildSlice (P := P) w t e len (parts.map fun (i, x) => (i, a.eval x)) r i z hu hi hz (by rw [h1]; omega) hpos (by rw [h1, hparts]; exact f1)
    have hrs : r.size = len * s := by rw [f2]; simp
    have hrl : r.toList = uss.flatten := by
      apply List.ext_getElem?
      intro k
      rw [Array.getElem?_toList, f3 k, flatten_get h4 uss hlens k]
      by_cases hk : k < len * s
      · rw [if_pos (by rw [hvl, Nat.zero_add]; omega)]
        simp only [Nat.sub_zero]
        have hkd : k / s < len := (Nat.div_lt_iff_lt_mul h4).2 hk
        obtain ⟨us, k1, k2⟩ := hu2.get (List.getElem?_eq_getElem (show k / s < vs.length by omega))
        rw [k1, List.getElem?_eq_getElem (show k / s < vs.length by omega)]
        simp only [Option.bind_some, k2]
        simp
      · rw [if_neg (by rw [hvl, Nat.zero_add]; omega)]
        have hkd : uss.length ≤ k / s := by rw [hfl]; exact (Nat.le_div_iff_mul_le h4).2 (by omega)
        rw [List.getElem?_eq_none hkd]
        simp
        omega
    have hown : (w.alloc (.cells r e)).ownsRow 0 e (flat T ty).length (.slice (some ⟨w.heap.size, 0, none⟩) len len) xs.length uss.flatten := by
      have hxl : xs.length = len := by
        have h7 := r2.1
        rw [← hrl, Array.length_toList, hrs, ← hsz] at h7
        exact (Nat.eq_of_mul_eq_mul_right h4 h7).symm
      rw [hxl, ← hsz]
      refine ⟨by rw [← hrl, Array.length_toList, hrs], .inr ⟨w.heap.size, len, r, rfl, Nat.zero_le _, heap_alloc_new w _, Nat.le_refl _, ?_, hrs, ?_⟩⟩
      · have h8 : len * 1 ≤ len * s := Nat.mul_le_mul_left len h4
        simp only [maxLen]; omega
      · rw [hrl, List.take_of_length_le]
        rw [← hrl, Array.length_toList, hrs]
        exact Nat.le_refl _
    have hpr := push_row r1 (e := e) (t := ty) (xs := xs) (v := .slice (some ⟨w.heap.size, 0, none⟩) len len) (vs := uss.flatten) (row := none) (h1 := h') rfl (fun _ _ h => .inr h) (sh := false) (fun _ _ _ _ _ _ => by simp) (fun b hb => by cases hb) (grown_alloc w (.cells r e))
      (fun b hb => by cases hb; exact .inr rfl) (cell_alloc r1 _) hown (r2.mono (cell_alloc r1 _) (fun _ _ h => h)) (fun b o hb => by cases hb)
    exact ⟨_, _, X1, _, hrun, by have := hpr.2.2; simpa using this, hpr.1, r3.trans hpr.2.1⟩
end
end Go.Proofs.Ytfojcadooepgpaa.Rx
