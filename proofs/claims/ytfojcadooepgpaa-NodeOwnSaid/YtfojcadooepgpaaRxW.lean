/- A plain evaluator over the translated code: places, parts, pieces and literals. Under no condition. -/
import Derived.Test.YtfojcadooepgpaaRxV
set_option linter.unusedVariables false
set_option linter.unusedSimpArgs false
namespace Go.Proofs.Ytfojcadooepgpaa.Rx
open Go Go.RowKit

section
variable {T : Tab} {m m' : Nat → Value} {X X' : Nat → Nat → Prop} {n n' : Nat} {w w' : World} {P : Program} {h h' : Hp T}

/-! ### places -/
theorem sizeOf_i {t : TypeId} {k : Nat} (hs : sizeOf P t = some k) : ∃ i, P.info? t = some i ∧ i.size = k := by
  unfold sizeOf at hs
  split at hs
  · rename_i i hi; cases hs; exact ⟨i, hi, rfl⟩
  · cases hs
theorem rd_get {α : Type} {z : α} {xs : List α} {i : Int} (h0 : 0 ≤ i) (h1 : i < (xs.length : Int)) : xs[i.toNat]? = some (rd z xs i) := by
  unfold rd
  rw [List.getD_eq_getElem?_getD, List.getElem?_eq_getElem (by omega)]
  rfl
theorem run_indexSl {t e : TypeId} {sz : Nat} (hu : P.underlying t = some (.slice e)) (hs : sizeOf P e = some sz) (a : Addr) (l c : Nat) (k : IntKind) (i : Int) (h0 : 0 ≤ i) (h1 : i < (l : Int)) (w : World) :
    (Instr.indexAt t (.slice (some a) l c) (.int k i)).run P w = .ok (.pointer (some (a.add (i.toNat * sz)))) w := by
  simp [Instr.indexAt, run_underlying hu, asIntOf, h0, h1, run_sizeOf' hs]
theorem index_ok (hr : Rel T m X h w) {t : TypeId} {l : Lf T} {k : IntKind} {i : Int} {z : Res T} (hx : indexF P t l i h = some z) (hp : z.p) {v : Value} (hv : LfR m X h.length w l v) :
    ∃ rv, (Instr.indexAt t v (.int k i)).run P w = .ok rv w ∧ AR m X h.length w z.v rv ∧ z.h = h := by
  unfold indexF at hx
  split at hx
  · rename_i e hu
    split at hx
    · rename_i sz hs
      split at hx
      · rename_i e' ty xs
        cases hb : Nat.beq sz (flat T ty).length with
        | false => rw [hb] at hx; cases hx
        | true =>
          rw [hb] at hx
          cases hx
          have hsz := Nat.eq_of_beq_eq_true hb
          subst hsz
          obtain ⟨h0, h1⟩ : 0 ≤ i ∧ i < (List.length xs : Int) := hp
          have hsl : SlInv T w X ty xs v := RD.inv hv
          obtain ⟨A, c, rfl, hc, h2⟩ := hsl
          rcases h2 with h2 | ⟨b, o, rfl, vs, h2⟩
          · omega
          · refine ⟨_, run_indexSl hu hs ⟨b, o, none⟩ _ c k i h0 h1 w, AR_one.2 ?_, rfl⟩
            rw [Addr.add_mid]
            refine ⟨b, o + i.toNat * (flat T ty).length, rfl, fun j d hd => ?_⟩
            obtain ⟨a1, a2, a3⟩ := h2 i.toNat _ j d (rd_get h0 h1) hd
            rw [← Nat.add_assoc] at a1 a2
            exact ⟨_, a1, a2, a3⟩
      · rename_i j
        split at hx
        · rename_i e' ty xs sh ho
          rw [nth_eq] at ho
          cases hb : Nat.beq sz (flat T ty).length with
          | false => rw [hb] at hx; cases hx
          | true =>
            rw [hb] at hx
            cases hx
            have hsz := Nat.eq_of_beq_eq_true hb
            obtain ⟨h0, h1⟩ : 0 ≤ i ∧ i < (List.length xs : Int) := hp
            obtain ⟨hj, hvj, _⟩ := hv
            subst hvj
            obtain ⟨vs, hown, _⟩ := gr_cells hr ho
            rcases hown.2 with ⟨_, h2⟩ | ⟨g, cap, cur, h2, _⟩
            · omega
            · rw [h2]
              refine ⟨_, run_indexSl hu hs ⟨g, 0, none⟩ _ cap k i h0 h1 w, AR_one.2 ?_, rfl⟩
              rw [Addr.add_mid]
              exact ⟨hj, g, _, cap, h2, h0, h1, by simp⟩
        · cases hx
      · rename_i j
        split at hx
        · rename_i e' ty xs fx ho
          rw [nth_eq] at ho
          cases hb : Nat.beq sz (flat T ty).length with
          | false => rw [hb] at hx; cases hx
          | true =>
            rw [hb] at hx
            cases hx
            obtain ⟨h0, h1⟩ : 0 ≤ i ∧ i < (List.length xs : Int) := hp
            obtain ⟨hj, hvj⟩ := hv
            obtain ⟨hdv, hs', vs, q1, q2, q3, q4, q5, q6⟩ := hr.ob j _ ho
            obtain rfl := yhd q1 hvj
            obtain ⟨g, cap, e1⟩ : ∃ g cap, hdv = .slice (some ⟨g, 0, none⟩) xs.length cap := by
              cases fx with
              | false =>
                rcases q2.2 with ⟨_, h2⟩ | ⟨g, cap, cur, h2, _⟩
                · omega
                · exact ⟨g, cap, h2⟩
              | true =>
                rcases q2.2 with ⟨_, h2⟩ | ⟨g, cap, cur, h2, _⟩
                · omega
                · exact ⟨g, cap, h2⟩
            subst e1
            refine ⟨_, run_indexSl hu hs ⟨g, 0, none⟩ _ cap k i h0 h1 w, AR_one.2 ?_, rfl⟩
            rw [Addr.add_mid]
            exact ⟨hj, _, q1, g, _, cap, rfl, h0, h1, by simp⟩
        · cases hx
      · rename_i j x
        split at hx
        · rename_i e' ty xs fx ho
          rw [nth_eq] at ho
          split at hx
          · rename_i e2 t2 ys hd
            cases hb : Nat.beq sz (flat T t2).length with
            | false => rw [hb] at hx; cases hx
            | true =>
              rw [hb] at hx
              cases hx
              obtain ⟨h0, h1⟩ : 0 ≤ i ∧ i < (List.length ys : Int) := hp
              obtain ⟨hj, hvj⟩ := hv
              obtain ⟨_, vs2, hown, _⟩ := dg_row hr ho hvj hd
              obtain ⟨hs', e1, hx0, e3, _⟩ := hvj
              rcases hown.2 with ⟨_, h2⟩ | ⟨g, cap, cur, h2, _⟩
              · omega
              · subst h2
                refine ⟨_, run_indexSl hu hs ⟨g, 0, none⟩ _ cap k i h0 h1 w, AR_one.2 ?_, rfl⟩
                rw [Addr.add_mid]
                exact ⟨hj, hs', e1, hx0, g, _, cap, e3, h0, h1, by simp⟩
          · cases hx
        · cases hx
      · cases hx
    · cases hx
  · rename_i len e hu
    split at hx
    · rename_i sz j off q hs
      cases hb : Nat.blt q len with
      | false => rw [hb] at hx; cases hx
      | true =>
        rw [hb] at hx
        cases hx
        have hlt : q < len := by have := hb; simp [Nat.blt] at this; omega
        obtain ⟨hj, b, h1, rfl⟩ := hv
        refine ⟨.pointer (some ⟨b, off + q * sz, none⟩), ?_, AR_one.2 ⟨hj, b, h1, rfl⟩, rfl⟩
        have h3 : (Int.ofNat q).toNat = q := rfl
        have h4 : (0 : Int) ≤ Int.ofNat q := Int.natCast_nonneg q
        have h5 : (Int.ofNat q) < (len : Int) := by simpa using hlt
        simp [Instr.indexAt, run_underlying hu, asIntOf, Instr.sureAddr, run_sizeOf' hs, hlt, Addr.add_mid]
    · cases hx
  · cases hx
theorem fieldOf_some {s : TypeId} {f off : Nat} {ft : TypeId} (hf : fieldOf P s f = some (off, ft)) : ∃ fs fd, P.underlying s = some (.struct fs) ∧ fs[f]? = some fd ∧ fd.offset = off ∧ fd.type = ft := by
  unfold fieldOf at hf
  split at hf
  · rename_i fs hu
    split at hf
    · rename_i fd hfd
      cases hf
      exact ⟨fs, fd, hu, hfd, rfl, rfl⟩
    · cases hf
  · cases hf
theorem fieldA_ok {s : TypeId} {l r : Lf T} {f : Nat} (hx : fieldAF P s l f = some r) {v : Value} (hv : LfR m X n w l v) : ∃ rv, (Instr.fieldAt s v f).run P w = .ok rv w ∧ LfR m X n w r rv := by
  unfold fieldAF at hx
  split at hx
  · rename_i off ft hf
    split at hx
    · rename_i k hk
      obtain ⟨fs, fd, hu, hfd, h1, h2⟩ := fieldOf_some hf
      subst h1
      subst h2
      have hrun : ∀ a : Addr, (Instr.fieldAt s (.pointer (some a)) f).run P w = .ok (.pointer (some (a.add fd.offset))) w := by
        intro a
        simp [Instr.fieldAt, run_underlying hu, hfd, Instr.sureAddr, fieldPlace, run_sizeOf' hk]
      split at hx
      · cases hx
        obtain ⟨hj, b, h3, rfl⟩ := hv
        exact ⟨_, hrun _, hj, b, h3, by rw [Addr.add_mid]⟩
      · cases hx
        obtain ⟨hj, b, l, c, h3, h4, h5, rfl⟩ := hv
        exact ⟨_, hrun _, hj, b, l, c, h3, h4, h5, by rw [Addr.add_mid, Nat.add_assoc]⟩
      · cases hx
        obtain ⟨b, o, rfl, h3⟩ := hv
        refine ⟨_, hrun _, b, o + fd.offset, by rw [Addr.add_mid], fun j d hd => ?_⟩
        rw [List.getElem?_drop] at hd
        have := h3 _ d hd
        rwa [← Nat.add_assoc] at this
      · cases hx
        obtain ⟨hj, hs, e1, b, l, c, h3, h4, h5, rfl⟩ := hv
        exact ⟨_, hrun _, hj, hs, e1, b, l, c, h3, h4, h5, by rw [Addr.add_mid, Nat.add_assoc]⟩
      · cases hx
        obtain ⟨hj, hs, e1, h6, b, l, c, h3, h4, h5, rfl⟩ := hv
        exact ⟨_, hrun _, hj, hs, e1, h6, b, l, c, h3, h4, h5, by rw [Addr.add_mid, Nat.add_assoc]⟩
      · cases hx
    · cases hx
  · cases hx

/-! ### parts -/
theorem part_ok {t : TypeId} {ls : List (Lf T)} {off : Nat} {v : V T} (hp : partL P t ls off = some v) {us : List Value} (hl : All2 (LfR m X n w) ls us) : ∃ rv, (Go.part t us.toArray off).run P w = .ok rv w ∧ VR m X n w v rv := by
  unfold partL at hp
  split at hp
  · rename_i k ag hs hg
    cases hc : (Nat.ble (off + k) ls.length && (ag || Nat.beq k 1)) with
    | false => rw [hc] at hp; cases hp
    | true =>
      rw [hc] at hp
      cases hp
      simp only [Bool.and_eq_true] at hc
      have hle := Nat.le_of_ble_eq_true hc.1
      have hsub := (hl.drop off).take k
      cases ag with
      | true =>
        refine ⟨.agg ((us.drop off).take k).toArray, ?_, _, hsub, by simp⟩
        have : us.toArray.extract off (off + k) = ((us.drop off).take k).toArray := by
          simp [List.extract_toArray, List.extract_eq_take_drop]
        simp [Go.part, run_aggOf hg, run_sizeOf' hs, this]
      | false =>
        have h1 : k = 1 := by simpa using hc.2
        subst h1
        have hlen : off < us.length := by rw [← hl.len]; omega
        refine ⟨us[off], ?_, ?_⟩
        · have : us.toArray[off]? = some us[off] := by simp [hlen]
          simp [Go.part, run_aggOf hg, this, hlen]
        · have e1 : (us.drop off).take 1 = [us[off]] := by
            rw [List.drop_eq_getElem_cons hlen]; rfl
          rw [e1] at hsub
          exact ⟨_, hsub, by simp⟩
  · cases hp
theorem nthV_ok {vs : List (V T)} {i : Nat} {v : V T} (hi : nth vs i = some v) {us : List Value} (hl : All2 (VR m X n w) vs us) : ∃ rv, (Instr.extract (.tuple us.toArray) i).run P w = .ok rv w ∧ VR m X n w v rv := by
  rw [nth_eq] at hi
  obtain ⟨u, hu, hv⟩ := hl.get hi
  have : us.toArray[i]? = some u := by simpa using hu
  exact ⟨u, by simp only [Instr.extract, this]; rfl, hv⟩

/-! ### pieces -/
theorem bound_some {v : Option (Option (Lf T))} {d i : Int} (hb : boundS v d = some i) {ov : Option Value} (ho : ∀ l, v = some (some l) → ∃ u, ov = some u ∧ LfR m X n w l u) (hn : v = none → ov = none) :
    (ov = none ∧ i = d) ∨ ∃ k, ov = some (.int k i) := by
  unfold boundS at hb
  split at hb
  · cases hb; exact .inl ⟨hn rfl, rfl⟩
  · rename_i l
    split at hb
    · rename_i a ha
      cases hb
      obtain ⟨u, h1, h2⟩ := ho l rfl
      have := isInt_some ha
      subst this
      exact .inr ⟨a.1, by rw [h1, lf_int h2]⟩
    · cases hb
  · cases hb
theorem run_bounds {isS : Bool} {len cap : Nat} {lo hi : Option Value} {l u : Int} (hlo : (lo = none ∧ l = 0) ∨ ∃ k, lo = some (.int k l)) (hhi : (hi = none ∧ u = len) ∨ ∃ k, hi = some (.int k u))
    (h0 : 0 ≤ l) (h1 : l ≤ u) (h2 : u ≤ cap) (w : World) : (Instr.sliceBounds isS len cap lo hi none).run P w = .ok (l.toNat, u.toNat, cap) w := by
  have hu0 : 0 ≤ u := by omega
  have eu : ((u.toNat : Nat) : Int) = u := Int.toNat_of_nonneg hu0
  rcases hlo with ⟨rfl, rfl⟩ | ⟨k, rfl⟩ <;> rcases hhi with ⟨rfl, rfl⟩ | ⟨k', rfl⟩ <;>
    simp [Instr.sliceBounds, run_sliceBound, h0, h1, h2, hu0, eu]
theorem slice_ok (hr : Rel T m X h w) {t : TypeId} {x : Lf T} {lo hi : Option (Option (Lf T))} {z : Res T} (hx : sliceF P t x lo hi h = some z) (hp : z.p) {v : Value} (hv : LfR m X h.length w x v) {vlo vhi : Option Value}
    (hlo : ∀ l, lo = some (some l) → ∃ u, vlo = some u ∧ LfR m X h.length w l u) (hlo' : lo = none → vlo = none) (hhi : ∀ l, hi = some (some l) → ∃ u, vhi = some u ∧ LfR m X h.length w l u) (hhi' : hi = none → vhi = none) :
    ∃ rv m' X', (Instr.sliceAt t v vlo vhi none).run P w = .ok rv w ∧ AR m' X' z.h.length w z.v rv ∧ Rel T m' X' z.h w ∧ Fr T m X h w m' X' z.h w := by
  unfold sliceF at hx
  split at hx
  · rename_i hu
    split at hx
    · rename_i s hs
      have := isStr_some hs
      subst this
      rw [lf_str hv]
      split at hx
      · rename_i l u hl1 hu1
        cases hx
        obtain ⟨h0, h1, h2⟩ : 0 ≤ l ∧ l ≤ u ∧ u ≤ (s.size : Int) := hp
        refine ⟨.string (s.extract l.toNat u.toNat), m, X, ?_, AR_one.2 (RD.str _), hr, Fr.refl⟩
        have hb := run_bounds (P := P) (isS := false) (len := s.size) (cap := s.size) (bound_some hl1 hlo hlo') (bound_some hu1 hhi hhi') h0 h1 h2 w
        rw [run_sliceAt_string w t _ _ _ _ hu]
        simp [Instr.slice, run_underlying hu, hb]
      · cases hx
    · cases hx
  · rename_i e hu
    split at hx
    · rename_i ty sz hty hsz
      cases hb : Nat.beq sz (flat T ty).length with
      | false => rw [hb] at hx; cases hx
      | true =>
        rw [hb] at hx
        simp only [cond_true] at hx
        have e1 := Nat.eq_of_beq_eq_true hb
        split at hx
        · rename_i t' xs h1 hco
          obtain ⟨m1, X1, r1, r2, r3⟩ := co_ok hr hco hv
          split at hx
          · rename_i ys hys
            have hl2 : (fun d : DL T => LfR m1 X1 h1.length w (.d d.1 d.2) v) ⟨t', xs⟩ := r2
            rw [asRow_some hys] at hl2
            split at hx
            · rename_i l u hl1 hu1
              cases hx
              obtain ⟨h0, h3, h4⟩ : 0 ≤ l ∧ l ≤ u ∧ u ≤ (ys.length : Int) := hp
              have hsl : SlInv T w X1 ty ys v := RD.inv hl2
              obtain ⟨A, c, rfl, hc, h5⟩ := hsl
              have hb := run_bounds (P := P) (isS := true) (len := ys.length) (cap := c) (bound_some hl1 hlo hlo') (bound_some hu1 hhi hhi') h0 h3 (by omega) w
              obtain ⟨hu', he'⟩ := elem_of hu
              refine ⟨.slice (if c = l.toNat then A else A.map (·.add (l.toNat * sz))) (u.toNat - l.toNat) (c - l.toNat), m1, X1, ?_, AR_one.2 ?_, r1, r3⟩
              · rw [run_sliceAt_slice w t _ _ _ _ hu']
                simp [Instr.slice, run_underlying hu, hb, run_sizeOf' hsz]
              · have hlen : (subL ys l u).length = u.toNat - l.toNat := by
                  unfold subL
                  rw [List.length_drop, List.length_take]
                  omega
                have key : RD T w X1 (.sl e ty) (subL ys l u) (.slice (if c = l.toNat then A else A.map (·.add (l.toNat * sz))) (subL ys l u).length (c - l.toNat)) := by
                  refine RD.mk (by rw [hlen]; omega) ?_
                  by_cases hz : (subL ys l u).length = 0
                  · exact .inl hz
                  · rcases h5 with h5 | ⟨b, o, rfl, vs, h5⟩
                    · omega
                    · refine .inr ⟨b, o + l.toNat * sz, ?_, fun i j => vs (i + l.toNat) j, fun i x j d hi hd => ?_⟩
                      · rw [if_neg (by omega)]
                        simp [Addr.add_mid]
                      · unfold subL at hi
                        rw [List.getElem?_drop, List.getElem?_take] at hi
                        split at hi
                        · rw [Nat.add_comm l.toNat i] at hi
                          have := h5 _ x j d hi hd
                          rw [Nat.add_mul] at this
                          have e2 : o + l.toNat * sz + (i * (flat T ty).length + j) = o + (i * (flat T ty).length + l.toNat * (flat T ty).length + j) := by rw [e1]; omega
                          rw [e2]
                          exact this
                        · cases hi
                rw [hlen] at key
                exact key
            · cases hx
          · cases hx
        · cases hx
    · cases hx
  · cases hx

theorem bound_one {v : Option (Lf T)} {d i : Int} (hb : boundS (some v) d = some i) {ov : Value} (ho : ∀ l, v = some l → LfR m X n w l ov) : ∃ k, ov = .int k i := by
  unfold boundS at hb
  split at hb
  · rename_i h; cases h
  · rename_i l h
    cases h
    split at hb
    · rename_i a ha
      cases hb
      have := isInt_some ha
      subst this
      exact ⟨a.1, lf_int (ho _ rfl)⟩
    · cases hb
  · cases hb
theorem run_bounds3 {len cap : Nat} {lo : Option Value} {l u q : Int} {k k' : IntKind} (hlo : (lo = none ∧ l = 0) ∨ ∃ k, lo = some (.int k l))
    (h0 : 0 ≤ l) (h1 : l ≤ u) (h2 : u ≤ q) (h3 : q ≤ cap) (w : World) : (Instr.sliceBounds true len cap lo (some (.int k u)) (some (.int k' q))).run P w = .ok (l.toNat, u.toNat, q.toNat) w := by
  have hu0 : 0 ≤ u := by omega
  have hq0 : 0 ≤ q := by omega
  have eu : ((u.toNat : Nat) : Int) = u := Int.toNat_of_nonneg hu0
  have eq : ((q.toNat : Nat) : Int) = q := Int.toNat_of_nonneg hq0
  rcases hlo with ⟨rfl, rfl⟩ | ⟨k, rfl⟩ <;>
    simp [Instr.sliceBounds, run_sliceBound, h0, h1, h2, h3, hu0, hq0, eu, eq]
theorem sliceY_ok (hr : Rel T m X h w) {t : TypeId} {i : Nat} {lo : Option (Option (Lf T))} {hi mx : Option (Lf T)} {z : Res T} (hx : sliceYF P t i lo hi mx h = some z) (hp : z.p) {v : Value} (hv : LfR m X h.length w (.y i .hd : Lf T) v) {vlo : Option Value} {vhi vmx : Value}
    (hlo' : lo = none → vlo = none) (hhi : ∀ l, hi = some l → LfR m X h.length w l vhi) (hmx : ∀ l, mx = some l → LfR m X h.length w l vmx) :
    ∃ rv m' X', (Instr.sliceAt t v vlo (some vhi) (some vmx)).run P w = .ok rv w ∧ AR m' X' z.h.length w z.v rv ∧ Rel T m' X' z.h w ∧ Fr T m X h w m' X' z.h w := by
  unfold sliceYF at hx
  split at hx
  · rename_i e e' ty xs fx hu ho
    rw [nth_eq] at ho
    split at hx
    · rename_i u q sz hu1 hq1 hsz
      cases hb : (Nat.beq e e' && Nat.beq sz (flat T ty).length) with
      | false => rw [hb] at hx; cases hx
      | true =>
        rw [hb] at hx
        cases hx
        obtain ⟨h1, h2⟩ : u = (xs.length : Int) ∧ q = (xs.length : Int) := hp
        subst h1 h2
        obtain ⟨ku, eku⟩ := bound_one hu1 hhi
        obtain ⟨kq, ekq⟩ := bound_one hq1 hmx
        subst eku ekq
        have hvlo := hlo' rfl
        subst hvlo
        obtain ⟨hdv, hs, vs, q1, q2, q3, q4, q5, q6⟩ := hr.ob i _ ho
        obtain rfl := yhd q1 hv.2
        obtain ⟨A, c, e1, hc, h6⟩ : ∃ A c, hdv = .slice A xs.length c ∧ xs.length ≤ c ∧ ((A = none ∧ xs.length = 0) ∨ ∃ g cur, A = some ⟨g, 0, none⟩ ∧ w.heap[g]? = some (.cells cur e' (0, 0)) ∧ c * (flat T ty).length ≤ cur.size ∧ cur.toList.take (xs.length * (flat T ty).length) = vs) := by
          cases fx with
          | false =>
            rcases q2.2 with ⟨h3, h4⟩ | ⟨g, cap, cur, h3, _, h4, h5, _, h7, h8⟩
            · exact ⟨none, 0, by rw [h3, h4], by omega, .inl ⟨rfl, h4⟩⟩
            · exact ⟨_, cap, h3, h5, .inr ⟨g, cur, rfl, h4, by omega, h8⟩⟩
          | true =>
            rcases q2.2 with ⟨h3, h4⟩ | ⟨g, cap, cur, h3, h4, h5, h7, h8⟩
            · exact ⟨none, 0, by rw [h3, h4], by omega, .inl ⟨rfl, h4⟩⟩
            · exact ⟨_, cap, h3, h5, .inr ⟨g, cur, rfl, h4, h7, h8⟩⟩
        subst e1
        have hb := run_bounds3 (P := P) (len := xs.length) (cap := c) (lo := none) (l := 0) (k := ku) (k' := kq) (.inl ⟨rfl, rfl⟩) (Int.le_refl _) (u := (xs.length : Int)) (q := (xs.length : Int)) (by omega) (Int.le_refl _) (by omega) w
        obtain ⟨hu', he'⟩ := elem_of hu
        have hAA : (if ((xs.length : Int)).toNat = (0 : Int).toNat then A else A.map (·.add ((0 : Int).toNat * sz))) = A := by
          split
          · rfl
          · rcases h6 with ⟨rfl, _⟩ | ⟨g, cur, rfl, _⟩
            · rfl
            · simp [Addr.add_mid]
        have hrun : (Instr.sliceAt t (.slice A xs.length c) none (some (.int ku xs.length)) (some (.int kq xs.length))).run P w = .ok (.slice A xs.length xs.length) w := by
          rw [run_sliceAt_slice w t _ _ _ _ hu']
          simp only [Instr.slice]
          simp only [Sem.run_bind, run_underlying hu, Result.andThen_ok, hb, run_sizeOf' hsz, Sem.run_pure]
          rw [hAA]
          simp
        have hlt := lt_of_get ho
        have hl1 : (setO h i (.no : Ob T) ++ [Ob.dg e' ty xs true]).length = h.length + 1 := by simp [setO_len]
        have hbk : blk (.slice A xs.length xs.length) = blk (.slice A xs.length c) := by cases A <;> rfl
        have hin : ∀ b, Blk (.tuple ((.slice A xs.length xs.length) :: hs).toArray) b → Blk (m i) b := by
          rintro b ⟨u, hu2, hub⟩
          rw [q1]
          rcases List.mem_cons.1 (show u ∈ (Value.slice A xs.length xs.length) :: hs by simpa using hu2) with rfl | hu2
          · exact blk_tuple (hs := ((Value.slice A xs.length c) :: hs).toArray) (u := .slice A xs.length c) (by simp) (by rw [← hbk]; exact hub)
          · exact blk_tuple (by simp [hu2]) hub
        have on : On m X h.length w (updM m h.length (.tuple ((.slice A xs.length xs.length) :: hs).toArray)) X (setO h i (.no : Ob T) ++ [Ob.dg e' ty xs true]).length w := ⟨by omega, fun k hk => updM_other m _ (by omega), fun _ _ hx => hx, fun _ _ _ => rfl⟩
        have hi0 : (setO h i (.no : Ob T) ++ [Ob.dg e' ty xs true])[h.length]? = some (Ob.dg e' ty xs true) := by have := get_push (setO h i (.no : Ob T)) (Ob.dg e' ty xs true); rwa [setO_len] at this
        have hk : ∀ (j : Nat) o', j ≠ h.length → (setO h i (.no : Ob T) ++ [Ob.dg e' ty xs true])[j]? = some o' → o' = .no ∨ (j ≠ i ∧ h[j]? = some o') := fun j o' hne hj => gone_get hlt j o' (get_push_old (by rw [setO_len]; exact hne) hj)
        refine ⟨.slice A xs.length xs.length, updM m h.length (.tuple ((.slice A xs.length xs.length) :: hs).toArray), X, hrun, AR_one.2 ⟨by simp [setO_len], by rw [updM_same]; exact ⟨_, rfl, rfl, _, _, _, rfl⟩⟩, hr.upd on hi0 (fun j o' hne hj => ?_) ?_ (fun _ b hb2 j o' hne hj hl => ?_) hr.lt (fun _ _ _ _ _ _ _ _ hx => hx) ?_, ?_⟩
        · rcases hk j o' hne hj with h2 | ⟨_, h2⟩
          · exact .inl h2
          · exact .inr ⟨h2, fun _ _ _ => rfl⟩
        · rw [ObR, updM_same]
          refine ⟨.slice A xs.length xs.length, hs, vs, rfl, ?_, q3, q4, fun k x j d hk2 hd => ?_, ?_⟩
          · have hvl : vs.length = xs.length * (flat T ty).length := by cases fx with | false => exact q2.1 | true => exact q2.1
            refine ⟨hvl, ?_⟩
            rcases h6 with ⟨rfl, h7⟩ | ⟨g, cur, rfl, h7, h8, h9⟩
            · exact .inl ⟨by rw [h7], h7⟩
            · exact .inr ⟨g, xs.length, cur, rfl, h7, Nat.le_refl _, Nat.le_trans (Nat.mul_le_mul_right _ hc) h8, h9⟩
          · obtain ⟨v, k1, k2⟩ := q5 k x j d hk2 hd
            exact ⟨v, k1, celly_keep on k2 (fun _ _ _ => rfl)⟩
          · rw [List.pairwise_cons] at q6 ⊢
            exact ⟨fun u hu2 b hb2 => q6.1 u hu2 b (by rw [← hbk]; exact hb2), q6.2⟩
        · rw [updM_same] at hb2
          rw [updM_other m _ hne]
          rcases hk j o' hne hj with rfl | ⟨hji, hj'⟩
          · cases hl
          · exact hr.sep i j _ _ ho hj' (Ne.symm hji) rfl hl b (hin b hb2)
        · rw [updM_same]
          exact fun b hb2 o => hr.pv i _ ho rfl b (hin b hb2) o
        · refine Fr.upd (i0 := h.length) on (Nat.le_refl _) rfl rfl rfl (fun _ _ _ => rfl) (fun j o' hne hj => (hk j o' hne hj).imp id (·.2)) (fun o0 _ _ b hb2 => ?_) (fun _ _ hx => .inl hx)
          rw [updM_same] at hb2
          exact .inl ⟨i, _, ho, rfl, hin b hb2⟩
    · cases hx
  · cases hx
theorem slice3_ok (hr : Rel T m X h w) {t : TypeId} {x : Lf T} {lo : Option (Option (Lf T))} {hi mx : Option (Lf T)} {z : Res T} (hx : slice3F P t x lo hi mx h = some z) (hp : z.p) {v : Value} (hv : LfR m X h.length w x v) {vlo : Option Value} {vhi vmx : Value}
    (hlo : ∀ l, lo = some (some l) → ∃ u, vlo = some u ∧ LfR m X h.length w l u) (hlo' : lo = none → vlo = none) (hhi : ∀ l, hi = some l → LfR m X h.length w l vhi) (hmx : ∀ l, mx = some l → LfR m X h.length w l vmx) :
    ∃ rv m' X', (Instr.sliceAt t v vlo (some vhi) (some vmx)).run P w = .ok rv w ∧ AR m' X' z.h.length w z.v rv ∧ Rel T m' X' z.h w ∧ Fr T m X h w m' X' z.h w := by
  unfold slice3F at hx
  split at hx
  · exact sliceY_ok hr hx hp hv hlo' hhi hmx
  split at hx
  · rename_i e hu
    split at hx
    · rename_i ty sz hty hsz
      cases hb : Nat.beq sz (flat T ty).length with
      | false => rw [hb] at hx; cases hx
      | true =>
        rw [hb] at hx
        simp only [cond_true] at hx
        have e1 := Nat.eq_of_beq_eq_true hb
        split at hx
        · rename_i t' xs h1 hco
          obtain ⟨m1, X1, r1, r2, r3⟩ := co_ok hr hco hv
          split at hx
          · rename_i ys hys
            have hl2 : (fun d : DL T => LfR m1 X1 h1.length w (.d d.1 d.2) v) ⟨t', xs⟩ := r2
            rw [asRow_some hys] at hl2
            split at hx
            · rename_i l u q hl1 hu1 hq1
              cases hx
              obtain ⟨h0, h3, h6, h4⟩ : 0 ≤ l ∧ l ≤ u ∧ u ≤ q ∧ q ≤ (ys.length : Int) := hp
              obtain ⟨ku, eku⟩ := bound_one hu1 hhi
              obtain ⟨kq, ekq⟩ := bound_one hq1 hmx
              subst eku ekq
              have hsl : SlInv T w X1 ty ys v := RD.inv hl2
              obtain ⟨A, c, rfl, hc, h5⟩ := hsl
              have hb := run_bounds3 (P := P) (len := ys.length) (cap := c) (k := ku) (k' := kq) (bound_some hl1 hlo hlo') h0 h3 h6 (by omega) w
              obtain ⟨hu', he'⟩ := elem_of hu
              refine ⟨.slice (if q.toNat = l.toNat then A else A.map (·.add (l.toNat * sz))) (u.toNat - l.toNat) (q.toNat - l.toNat), m1, X1, ?_, AR_one.2 ?_, r1, r3⟩
              · rw [run_sliceAt_slice w t _ _ _ _ hu']
                simp [Instr.slice, run_underlying hu, hb, run_sizeOf' hsz]
              · have hlen : (subL ys l u).length = u.toNat - l.toNat := by
                  unfold subL
                  rw [List.length_drop, List.length_take]
                  omega
                have key : RD T w X1 (.sl e ty) (subL ys l u) (.slice (if q.toNat = l.toNat then A else A.map (·.add (l.toNat * sz))) (subL ys l u).length (q.toNat - l.toNat)) := by
                  refine RD.mk (by rw [hlen]; omega) ?_
                  by_cases hz : (subL ys l u).length = 0
                  · exact .inl hz
                  · rcases h5 with h5 | ⟨b, o, rfl, vs, h5⟩
                    · omega
                    · refine .inr ⟨b, o + l.toNat * sz, ?_, fun i j => vs (i + l.toNat) j, fun i x j d hi hd => ?_⟩
                      · rw [if_neg (by omega)]
                        simp [Addr.add_mid]
                      · unfold subL at hi
                        rw [List.getElem?_drop, List.getElem?_take] at hi
                        split at hi
                        · rw [Nat.add_comm l.toNat i] at hi
                          have := h5 _ x j d hi hd
                          rw [Nat.add_mul] at this
                          have e2 : o + l.toNat * sz + (i * (flat T ty).length + j) = o + (i * (flat T ty).length + l.toNat * (flat T ty).length + j) := by rw [e1]; omega
                          rw [e2]
                          exact this
                        · cases hi
                rw [hlen] at key
                exact key
            · cases hx
          · cases hx
        · cases hx
    · cases hx
  · cases hx

/-! ### conversions -/
theorem foldl_push : ∀ (ns : List Int) (s : ByteArray), ns.foldl (fun r n => r.push (UInt8.ofNat n.toNat)) s = ⟨s.data ++ (ns.map fun n => UInt8.ofNat n.toNat).toArray⟩
  | [], s => by simp
  | n :: ns, s => by
    rw [List.foldl_cons, foldl_push ns]
    simp [ByteArray.push]
theorem bytes_conv {s d e : TypeId} {xs : List Int} {v : Value} (hs : P.underlying s = some (.slice e)) (he : P.underlying e = some (.int .u8)) (hd : P.underlying d = some .string) (hsrc : SrcOf T w X (.int .u8) xs v) :
    (convert s d v).run P w = .ok (.string (strB xs)) w := by
  rcases hsrc with ⟨h0, A, c, rfl⟩ | ⟨b, o, c, news, h0, hnc, hcell⟩
  · have h0' : xs = ([] : List Int) := h0
    subst h0'
    rw [run_convert_bytes_string w s d e A 0 c hs he hd]
    cases A with
    | none => simp [Conv.bytesToString]; rfl
    | some a =>
      rw [run_bytesToString (P := P) w a 0 c [] (by simp [loadCells, loadCellsFrom])]
      rfl
  · have hnews : news = xs.map (Value.int .u8) := by
      apply List.ext_getElem?
      intro i
      rw [List.getElem?_map]
      by_cases hi : i < xs.length
      · obtain ⟨u, hu, hq⟩ := hnc.2 i xs[i] 0 ⟨.int .u8, xs[i]⟩ (List.getElem?_eq_getElem hi) rfl
        have e1 : i * (flat T (.int .u8)).length + 0 = i := by show i * 1 + 0 = i; omega
        rw [e1] at hu
        rw [hu, RD.inv hq, List.getElem?_eq_getElem hi]
        rfl
      · have h1 : news.length = xs.length * 1 := hnc.1
        rw [List.getElem?_eq_none (by omega), List.getElem?_eq_none (by omega)]
        rfl
    have hv : v = .slice (some ⟨b, o, none⟩) xs.length c := h0
    subst hv
    rw [run_convert_bytes_string w s d e _ _ c hs he hd]
    have hl : (loadCells ⟨b, o, none⟩ xs.length).run P w = .ok (xs.map (Value.int .u8)).toArray w := by
      have := run_cells (P := P) (w := w) (b := b) (o := o) (us := news) (fun j u hu => hcell j u hu)
      rw [hnews, List.length_map] at this
      exact this
    rw [run_bytesToString (P := P) w ⟨b, o, none⟩ _ c xs hl, foldl_push]
    simp [strB]
theorem conv_ok (hr : Rel T m X h w) {s d : TypeId} {l r : Lf T} (hx : convF P s d l h = some r) {v : Value} (hv : LfR m X h.length w l v) : ∃ rv, (convert s d v).run P w = .ok rv w ∧ LfR m X h.length w r rv := by
  unfold convF at hx
  split at hx
  · rename_i k hd
    split at hx
    · rename_i a ds ha hs
      cases hx
      have := isInt_some ha
      subst this
      rw [lf_int hv]
      exact ⟨.int k (k.wrap a.2), by simp [convert, run_underlying hs, run_underlying hd, Conv.intToInt], lf_mkInt _ _⟩
    · cases hx
  · rename_i hd
    split at hx
    · rename_i hs
      split at hx
      · rename_i s' hs'
        cases hx
        have := isStr_some hs'
        subst this
        rw [lf_str hv]
        exact ⟨.string s', by simp [convert, run_underlying hs, run_underlying hd], RD.str _⟩
      · cases hx
    · rename_i e hs
      split at hx
      · rename_i he
        split at hx
        · rename_i xs hxs
          cases hx
          exact ⟨.string (strB xs), bytes_conv hs he hd (row_src hr (e := e) (t := .int .u8) (Nat.zero_lt_one) hxs hv), RD.str _⟩
        · cases hx
      · cases hx
    · cases hx
  · cases hx
end
end Go.Proofs.Ytfojcadooepgpaa.Rx
