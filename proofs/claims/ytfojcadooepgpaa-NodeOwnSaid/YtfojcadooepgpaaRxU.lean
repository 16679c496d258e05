/- A plain evaluator over the translated code: new objects, and slices that grow. Under no condition. -/
import Derived.Test.YtfojcadooepgpaaRxQ
import Derived.Lib.AppendStr
set_option linter.unusedVariables false
set_option linter.unusedSimpArgs false
namespace Go.Proofs.Ytfojcadooepgpaa.Rx
open Go Go.RowKit

section
variable {T : Tab} {m m' : Nat → Value} {X X' : Nat → Nat → Prop} {n n' : Nat} {w w' : World} {P : Program} {h h' : Hp T}

/-- A new object behind the others; one of these (whose block is 'row') may be gone. -/
theorem push_ok' (hr : Rel T m X h w) {h1 : Hp T} (hlen : h1.length = h.length) (hsub : ∀ (j : Nat) o', h1[j]? = some o' → o' = .no ∨ h[j]? = some o') {row : Option Nat}
    (hrow : ∀ (j : Nat) o' b, h1[j]? = some o' → o'.live = true → Blk (m j) b → some b ≠ row) (hmine : ∀ b, row = some b → Mine m h b)
    {v : Value} {o0 : Ob T} (hg : w.grownBy w' row) (hat : ∀ b, Blk v b → row = some b ∨ w.heap.size ≤ b) (hcell : ∀ b o, X b o → w'.cell? ⟨b, o, none⟩ = w.cell? ⟨b, o, none⟩)
    (h0 : On m X h.length w (updM m h.length v) X (h.length + 1) w' → ObR (updM m h.length v) X (h.length + 1) w' h.length o0) (hs : SeenOk X v o0) :
    Rel T (updM m h.length v) X (h1 ++ [o0]) w' ∧ Fr T m X h w (updM m h.length v) X (h1 ++ [o0]) w' ∧ updM m h.length v h.length = v := by
  have hl1 : (h1 ++ [o0]).length = h.length + 1 := by simp [hlen]
  have on : On m X h.length w (updM m h.length v) X (h1 ++ [o0]).length w' := ⟨by omega, fun i hi => updM_other m _ (by omega), fun _ _ hx => hx, hcell⟩
  have hi0 : (h1 ++ [o0])[h.length]? = some o0 := by rw [← hlen]; exact get_push h1 o0
  have hk : ∀ (j : Nat) o', j ≠ h.length → (h1 ++ [o0])[j]? = some o' → h1[j]? = some o' := fun j o' hne hj => get_push_old (by omega) hj
  have hold : ∀ (j : Nat) o', j ≠ h.length → (h1 ++ [o0])[j]? = some o' → o'.live = true → h[j]? = some o' := by
    intro j o' hne hj hl
    rcases hsub j o' (hk j o' hne hj) with rfl | h2
    · cases hl
    · exact h2
  refine ⟨hr.upd on hi0 (fun j o' hne hj => ?_) ?_ (fun hl b hb j o' hne hj hl' => ?_) (fun b o hx => Nat.lt_of_lt_of_le (hr.lt b o hx) hg.size) (fun _ _ _ _ _ _ _ _ hx => hx) (by rw [updM_same]; exact hs), ?_, updM_same _ _ _⟩
  · rcases hsub j o' (hk j o' hne hj) with h2 | h2
    · exact .inl h2
    · refine .inr ⟨h2, fun b hb hl => hg.block b (mine_lt hr ⟨j, _, h2, hl, hb⟩) (hrow j o' b (hk j o' hne hj) hl hb)⟩
  · rw [hl1]; rw [hl1] at on; exact h0 on
  · rw [updM_same] at hb
    rw [updM_other m _ hne]
    intro hb'
    rcases hat b hb with h2 | h2
    · exact hrow j o' b (hk j o' hne hj) hl' hb' h2.symm
    · have := mine_lt hr ⟨j, _, hold j o' hne hj hl', hl', hb'⟩
      omega
  · refine Fr.upd (i0 := h.length) on hg.size hg.os hg.tape hg.output (fun b hb hm => hg.block b hb (fun e => hm (hmine b e.symm))) (fun j o' hne hj => hsub j o' (hk j o' hne hj)) (fun o' _ _ b hb => ?_) (fun _ _ hx => .inl hx)
    rw [updM_same] at hb
    rcases hat b hb with h2 | h2
    · exact .inl (hmine b h2)
    · exact .inr (by omega)
theorem push_ok (hr : Rel T m X h w) {h1 : Hp T} (hlen : h1.length = h.length) (hsub : ∀ (j : Nat) o', h1[j]? = some o' → o' = .no ∨ h[j]? = some o') {row : Option Nat}
    (hrow : ∀ (j : Nat) o' b, h1[j]? = some o' → o'.live = true → Blk (m j) b → some b ≠ row) (hmine : ∀ b, row = some b → Mine m h b)
    {v : Value} {o0 : Ob T} (hg : w.grownBy w' row) (hat : ∀ b, Blk v b → row = some b ∨ b = w.heap.size) (hcell : ∀ b o, X b o → w'.cell? ⟨b, o, none⟩ = w.cell? ⟨b, o, none⟩)
    (h0 : On m X h.length w (updM m h.length v) X (h.length + 1) w' → ObR (updM m h.length v) X (h.length + 1) w' h.length o0) (hs : SeenOk X v o0) :
    Rel T (updM m h.length v) X (h1 ++ [o0]) w' ∧ Fr T m X h w (updM m h.length v) X (h1 ++ [o0]) w' ∧ updM m h.length v h.length = v :=
  push_ok' hr hlen hsub hrow hmine hg (fun b hb => (hat b hb).imp (fun h => h) (fun h => by omega)) hcell h0 hs
theorem grown_alloc (w : World) (o : Obj) : w.grownBy (w.alloc o) none := World.grownBy_alloc w o none
theorem cell_alloc (hr : Rel T m X h w) (o : Obj) : ∀ b p, X b p → (w.alloc o).cell? ⟨b, p, none⟩ = w.cell? ⟨b, p, none⟩ := fun b p hx => World.cell?_alloc_lt w o ⟨b, p, none⟩ (hr.lt b p hx)
/-- A new box. -/
theorem push_box (hr : Rel T m X h w) (tid : TypeId) {ls : List (Lf T)} {us : List Value} (hl : All2 (LfR m X h.length w) ls us) :
    Rel T (updM m h.length (.pointer (some ⟨w.heap.size, 0, none⟩))) X (h ++ [.box tid ls]) (w.alloc (.cells us.toArray tid)) ∧
    Fr T m X h w (updM m h.length (.pointer (some ⟨w.heap.size, 0, none⟩))) X (h ++ [.box tid ls]) (w.alloc (.cells us.toArray tid)) ∧
    LfR (updM m h.length (.pointer (some ⟨w.heap.size, 0, none⟩))) X (h ++ [Ob.box tid ls]).length (w.alloc (.cells us.toArray tid)) (.p h.length 0 : Lf T) (.pointer (some ⟨w.heap.size, 0, none⟩)) := by
  have hp := push_ok hr (h1 := h) rfl (fun _ _ h2 => .inr h2) (row := none) (fun _ _ _ _ _ _ => by simp) (fun b hb => by cases hb) (v := .pointer (some ⟨w.heap.size, 0, none⟩)) (o0 := .box tid ls) (grown_alloc w _)
    (fun b hb => by cases hb; exact .inr rfl) (cell_alloc hr (.cells us.toArray tid))
    (fun on => ⟨w.heap.size, us, updM_same _ _ _, heap_alloc_new w _, hl.imp (fun _ _ h => h.on on)⟩)
    (fun b hb o hx => by cases hb; exact absurd (hr.lt _ o hx) (Nat.lt_irrefl _))
  exact ⟨hp.1, hp.2.1, by simp, w.heap.size, updM_same _ _ _, rfl⟩
/-- A new slice of one's own, in a new block. -/
theorem push_row (hr : Rel T m X h w) {e : TypeId} {t : Ty} {xs : List (den T.S t)} {v : Value} {vs : List Value} {row : Option Nat} {h1 : Hp T} (hlen : h1.length = h.length) (hsub : ∀ (j : Nat) o', h1[j]? = some o' → o' = .no ∨ h[j]? = some o') {sh : Bool}
    (hrow : ∀ (j : Nat) o' b, h1[j]? = some o' → o'.live = true → Blk (m j) b → some b ≠ row) (hmine : ∀ b, row = some b → Mine m h b)
    (hg : w.grownBy w' row) (hat : ∀ b, Blk v b → row = some b ∨ b = w.heap.size) (hcell : ∀ b o, X b o → w'.cell? ⟨b, o, none⟩ = w.cell? ⟨b, o, none⟩)
    (hown : w'.ownsRow 0 e (flat T t).length v xs.length vs) (hc : CellsOf T w' X t xs vs) (hseen : ∀ b o, row = some b → X b o → sh = true ∧ o < xs.length * (flat T t).length) :
    Rel T (updM m h.length v) X (h1 ++ [.gr e t xs sh]) w' ∧ Fr T m X h w (updM m h.length v) X (h1 ++ [.gr e t xs sh]) w' ∧
    LfR (updM m h.length v) X (h1 ++ [Ob.gr e t xs sh]).length w' (.g h.length : Lf T) v := by
  have hsl : ∃ A l c, v = .slice A l c := by
    rcases hown.2 with ⟨h2, _⟩ | ⟨g, cap, cur, h2, _⟩
    · exact ⟨_, _, _, h2⟩
    · exact ⟨_, _, _, h2⟩
  have hp := push_ok hr hlen hsub hrow hmine (v := v) (o0 := .gr e t xs sh) hg hat hcell (fun on => ⟨vs, by rw [updM_same]; exact hown, hc.2⟩)
    (fun b hb o hx => by
      rcases hat b hb with h2 | h2
      · exact hseen b o h2 hx
      · exact absurd (hr.lt b o hx) (by omega))
  exact ⟨hp.1, hp.2.1, by simp [hlen], hp.2.2.symm, hsl⟩

/-! ### append -/
theorem rowI_some {e : TypeId} {s b : Nat} (hi : rowI P e = some (s, b)) : ∃ i z, P.info? e = some i ∧ i.zero = some z ∧ i.size = s ∧ i.bytes = b ∧ z.cells.size = s ∧ 0 < s ∧ 0 < b := by
  unfold rowI at hi
  split at hi
  · rename_i i hi'
    split at hi
    · rename_i z hz
      cases hb : (Nat.beq z.cells.size i.size && (Nat.ble 1 i.size && Nat.ble 1 i.bytes)) with
      | false => rw [hb] at hi; cases hi
      | true =>
        rw [hb] at hi
        cases hi
        simp only [Bool.and_eq_true] at hb
        exact ⟨i, z, hi', hz, rfl, rfl, Nat.eq_of_beq_eq_true hb.1, Nat.le_of_ble_eq_true hb.2.1, Nat.le_of_ble_eq_true hb.2.2⟩
    · cases hi
  · cases hi
/-- Where the cells of what is appended lie. -/
def SrcOf (T : Tab) (w : World) (X : Nat → Nat → Prop) (t : Ty) (ys : List (den T.S t)) (v : Value) : Prop :=
  (ys = [] ∧ ∃ A c, v = .slice A 0 c) ∨ ∃ b o c news, v = .slice (some ⟨b, o, none⟩) ys.length c ∧ CellsOf T w X t ys news ∧ ∀ (j : Nat) u, news[j]? = some u → w.cell? ⟨b, o + j, none⟩ = some u
theorem own_src {i : Nat} {e : TypeId} {t : Ty} {xs : List (den T.S t)} {sh : Bool} (hr : Rel T m X h w) (ho : h[i]? = some (.gr e t xs sh)) : SrcOf T w X t xs (m i) := by
  obtain ⟨vs, hown, hc⟩ := gr_cells hr ho
  rcases hown.2 with ⟨h1, h2⟩ | ⟨g, cap, cur, h1, _, _⟩
  · exact .inl ⟨List.eq_nil_of_length_eq_zero h2, none, 0, h1⟩
  · refine .inr ⟨g, 0, cap, vs, h1, hc, fun j u hu => ?_⟩
    have := hown.cells (g := g) (by rw [h1]; rfl) j u hu
    rwa [Addr.add_mid] at this
theorem rd_src {e : TypeId} {t : Ty} (ht : 0 < (flat T t).length) {xs : List (den T.S t)} {v : Value} (hd : RD T w X (.sl e t) xs v) : SrcOf T w X t xs v := by
  obtain ⟨A, c, rfl, hc, h1⟩ := hd.inv
  rcases h1 with h1 | ⟨b, o, rfl, vs, h2⟩
  · refine .inl ⟨List.eq_nil_of_length_eq_zero h1, A, c, by rw [h1]⟩
  · refine .inr ⟨b, o, c, (List.range (xs.length * (flat T t).length)).map (fun q => vs (q / (flat T t).length) (q % (flat T t).length)), rfl, ⟨by simp, fun k x j d hk hd' => ?_⟩, fun q u hu => ?_⟩
    · have hj : j < (flat T t).length := by rw [← lv_len t x]; exact (List.getElem?_eq_some_iff.1 hd').1
      have hk' : k < xs.length := (List.getElem?_eq_some_iff.1 hk).1
      have hq : k * (flat T t).length + j < xs.length * (flat T t).length := by
        have := Nat.mul_le_mul_right (flat T t).length hk'
        rw [Nat.succ_mul] at this
        omega
      refine ⟨vs k j, ?_, (h2 k x j d hk hd').2.2⟩
      rw [List.getElem?_map, List.getElem?_range hq]
      simp only [Option.map_some]
      have e1 : (k * (flat T t).length + j) / (flat T t).length = k := by rw [Nat.mul_comm, Nat.mul_add_div ht, Nat.div_eq_of_lt hj]; simp
      have e2 : (k * (flat T t).length + j) % (flat T t).length = j := by rw [Nat.mul_comm, Nat.mul_add_mod, Nat.mod_eq_of_lt hj]
      rw [e1, e2]
    · rw [List.getElem?_map] at hu
      obtain ⟨q', hq', rfl⟩ := Option.map_eq_some_iff.1 hu
      have hlt : q < xs.length * (flat T t).length := by
        have := (List.getElem?_eq_some_iff.1 hq').1
        simpa using this
      rw [List.getElem?_range hlt] at hq'
      cases hq'
      obtain ⟨a1, a2, a3⟩ := div_mod ht hlt
      have hd' : q % (flat T t).length < (lv T t xs[q / (flat T t).length]).length := by rw [lv_len]; exact a2
      have := (h2 _ _ _ _ (List.getElem?_eq_getElem a1) (List.getElem?_eq_getElem hd')).1
      rw [a3] at this
      exact this
theorem row_src (hr : Rel T m X h w) {e : TypeId} {t : Ty} (ht : 0 < (flat T t).length) {l : Lf T} {ys : List (den T.S t)} (hc : rowOf e t l h = some ys) {v : Value} (hl : LfR m X h.length w l v) : SrcOf T w X t ys v := by
  unfold rowOf at hc
  split at hc
  · rename_i t' x
    have hl2 : (fun d : DL T => RD T w X d.1 d.2 v) ⟨t', x⟩ := hl
    rw [asRow_some hc] at hl2
    exact rd_src ht hl2
  · have : ys = [] := (Option.some.inj hc).symm
    subst this
    exact .inl ⟨rfl, none, 0, hl⟩
  · rename_i i
    split at hc
    · rename_i e' t' xs sh ho
      rw [nth_eq] at ho
      have := asRow_some hc
      cases this
      rw [hl.2.1]
      exact own_src hr ho
    · first | cases hc | simp at hc
  · first | cases hc | simp at hc
/-- append, onto a slice of one's own (or a nil one): what is there behind it, and what has stayed. -/
theorem run_app {t ty e : TypeId} {i : TypeInfo} {z : Value} {size bytes : Nat} (ht : P.underlying t = some (.slice e)) (hi : P.info? e = some i) (hz : i.zero = some z)
    (hsize : i.size = size) (hby : i.bytes = bytes) (hzs : z.cells.size = size) (hsz : 0 < size) {v : Value} {k : Nat} {vs : List Value} (hown : w.ownsRow 0 e size v k vs)
    {xv : Value} {j : Nat} {news : List Value} (hsrc : (j = 0 ∧ news = [] ∧ ∃ A c, xv = .slice A 0 c) ∨ ∃ b o c, xv = .slice (some ⟨b, o, none⟩) j c ∧ (∀ (q : Nat) u, news[q]? = some u → w.cell? ⟨b, o + q, none⟩ = some u))
    (hl : news.length = j * size) (h1 : ∀ u ∈ news, u.oneCell' = true) (h63 : k + j ≤ maxLen) (hbytes : (k + j) * bytes ≤ 140737488355328) :
    ∃ v' w', (Builtin.append_ #[t, t] ty #[v, xv]).run P w = .ok v' w' ∧ w'.ownsRow 0 e size v' (k + j) (vs ++ news) ∧ w.grownBy w' v.ownBlock ∧ (v'.ownBlock = v.ownBlock ∨ v'.ownBlock = some w.heap.size) ∧
      ∀ b o, b < w.heap.size → (v.ownBlock = some b → o < k * size) → w'.cell? ⟨b, o, none⟩ = w.cell? ⟨b, o, none⟩ := by
  subst hsize
  subst hby
  rcases hsrc with ⟨rfl, rfl, A, c, rfl⟩ | ⟨b, o, c, rfl, hnews⟩
  · refine ⟨v, w, ?_, by simpa using hown, World.grownBy.refl _ _, .inl rfl, fun _ _ _ _ => rfl⟩
    have hle : ∃ B l cp, v = .slice B l cp ∧ l ≤ cp := by
      rcases hown.2 with ⟨h2, _⟩ | ⟨g, cap, cur, h2, _, _, h3, _⟩
      · exact ⟨_, _, _, h2, Nat.le_refl _⟩
      · exact ⟨_, _, _, h2, h3⟩
    obtain ⟨B, l, cp, rfl, hle⟩ := hle
    cases A <;> cases B <;> simp [Builtin.append_, run_underlying ht, Go.sizeOf, typeInfo, hi, Builtin.lenOf, hle, Builtin.firstCells, loadCells, loadCellsFrom, storeCells]
  · have hnews' : ∀ (q : Nat) u, news[q]? = some u → w.cell? ((⟨b, o, none⟩ : Addr).add q) = some u := fun q u hq => by rw [Addr.add_mid]; exact hnews q u hq
    have hsmall : k + j ≤ 9223372036854775807 := by simp only [maxLen] at h63; omega
    have hlen : (vs ++ news).length = (k + j) * i.size := by rw [List.length_append, hown.1, hl, Nat.add_mul]
    have grown : ∀ (old : Nat), old < k + j → ∀ (row : Option Nat),
        (w.drew.alloc (.cells (vs.toArray ++ news.toArray ++ Builtin.zeroCells z.cells (grownCap w (k + j) old e - (k + j))) e)).ownsRow 0 e i.size
          (.slice (some ⟨w.heap.size, 0, none⟩) (k + j) (grownCap w (k + j) old e)) (k + j) (vs ++ news) ∧
        w.grownBy (w.drew.alloc (.cells (vs.toArray ++ news.toArray ++ Builtin.zeroCells z.cells (grownCap w (k + j) old e - (k + j))) e)) row ∧
        ∀ b o, b < w.heap.size → (w.drew.alloc (.cells (vs.toArray ++ news.toArray ++ Builtin.zeroCells z.cells (grownCap w (k + j) old e - (k + j))) e)).cell? ⟨b, o, none⟩ = w.cell? ⟨b, o, none⟩ := by
      intro old ho row
      have hge := grownCap_ge w (k + j) old e
      have hcm : grownCap w (k + j) old e ≤ maxLen := grownCap_le_maxLen w (k + j) old e h63
      refine ⟨⟨hlen, .inr ⟨w.heap.size, _, _, rfl, Nat.zero_le _, heap_alloc_new w.drew _, hge, hcm, ?_, ?_⟩⟩, ⟨rfl, rfl, rfl, by simp, fun k hk _ => heap_alloc_old w.drew _ k hk⟩, fun b o hb => World.cell?_of_block (w := w) (heap_alloc_old w.drew _ b hb)⟩
      · simp only [Array.size_append, List.size_toArray, size_zeroCells, hzs, hown.1, hl, ← Nat.add_mul]
        congr 1
        omega
      · simp only [Array.toList_append, List.append_assoc]
        rw [← List.append_assoc, ← hlen]
        exact List.take_left
    rcases hown.2 with ⟨rfl, rfl⟩ | ⟨g, cap, cur, rfl, hbg, hg, hnc, hcm, hcs, htake⟩
    · have hx : vs = [] := List.eq_nil_of_length_eq_zero (by simpa using hown.1)
      subst hx
      by_cases hm : j = 0
      · subst hm
        have hn : news = [] := List.eq_nil_of_length_eq_zero (by simpa using hl)
        subst hn
        refine ⟨.slice none 0 0, w, ?_, World.ownsRow_nil w 0 e i.size, ⟨rfl, rfl, rfl, Nat.le_refl _, fun _ _ _ => rfl⟩, Or.inl rfl, fun _ _ _ _ => rfl⟩
        simp [Builtin.append_, run_underlying ht, Go.sizeOf, typeInfo, hi, Builtin.lenOf, Builtin.firstCells, loadCells, loadCellsFrom]
      · have hr := run_append_nil (P := P) w t ty e i z ht hi hz ⟨b, o, none⟩ j c news hl hnews' (by omega) (by omega) (by have hb := hbytes; simp only [Nat.zero_add] at hb; omega)
        have hgr := grown 0 (by omega) (Value.ownBlock (.slice none 0 0))
        simp only [Nat.zero_add, List.nil_append, Array.empty_append] at hgr ⊢
        exact ⟨_, _, hr, hgr.1, hgr.2.1, Or.inr rfl, fun b o hb _ => hgr.2.2 b o hb⟩
    · by_cases hroom : k + j ≤ cap
      · have hfit : k * i.size + news.length ≤ cur.size := by rw [hl, hcs, ← Nat.add_mul]; exact Nat.mul_le_mul_right _ hroom
        have hr := run_append_room (P := P) w t ty e i ht hi g k cap cur hg ⟨b, o, none⟩ j c news hl hnews' h1 hroom hfit
        refine ⟨_, _, hr, ⟨hlen, .inr ⟨g, cap, _, rfl, hbg, setRow_heap w g cur _ e _ hg, hroom, hcm, ?_, ?_⟩⟩, ⟨rfl, rfl, rfl, by simp, fun k _ hk => setRow_other w g k _ (fun e => hk (by simp [Value.ownBlock, e]))⟩, Or.inl rfl, fun b o hb hrow => ?_⟩
        · simp only [List.size_toArray, List.length_append, List.length_take, List.length_drop, Array.length_toList]
          omega
        · rw [htake, ← hlen]
          exact List.take_left
        · by_cases hbg' : b = g
          · subst hbg'
            have ho : o < k * i.size := hrow rfl
            rw [cell_setRow_same w b o cur _ e _ hg, cell_of_row w b o _ _ _ hg]
            have h2 : o < (cur.toList.take (k * i.size)).length := by rw [htake, hown.1]; exact ho
            rw [List.getElem?_toArray, List.append_assoc, List.getElem?_append_left h2, List.getElem?_take, if_pos ho, Array.getElem?_toList]
          · exact World.cell?_of_block (setRow_other w g b _ hbg')
      · have holds : ∀ (q : Nat) u, vs[q]? = some u → w.cell? ((⟨g, 0, none⟩ : Addr).add q) = some u := hown.cells (g := g) rfl
        have hr := run_append_grow (P := P) w t ty e i z ht hi hz ⟨g, 0, none⟩ k cap vs hown.1 holds ⟨b, o, none⟩ j c news hl hnews' (by omega) (by omega) (growslice_fits (by omega) hbytes)
        have hgr := grown cap (by omega) (Value.ownBlock (.slice (some ⟨g, 0, none⟩) k cap))
        exact ⟨_, _, hr, hgr.1, hgr.2.1, Or.inr rfl, fun b o hb _ => hgr.2.2 b o hb⟩
/-- The same with a string's bytes. -/
theorem run_app_str {t t2 ty e : TypeId} {i : TypeInfo} {z : Value} {bytes : Nat} (ht : P.underlying t = some (.slice e)) (hu : P.underlying t2 = some .string) (hi : P.info? e = some i) (hz : i.zero = some z)
    (hsize : i.size = 1) (hby : i.bytes = bytes) (hzs : z.cells.size = 1) (hb0 : 0 < bytes) {v : Value} {k : Nat} {vs : List Value} (hown : w.ownsRow 0 e 1 v k vs)
    {s : ByteArray} (h63 : k + s.size ≤ maxLen) (hbytes : (k + s.size) * bytes ≤ 140737488355328) :
    ∃ v' w', (Builtin.append_ #[t, t2] ty #[v, .string s]).run P w = .ok v' w' ∧ w'.ownsRow 0 e 1 v' (k + s.size) (vs ++ Lib.strCells s) ∧ w.grownBy w' v.ownBlock ∧ (v'.ownBlock = v.ownBlock ∨ v'.ownBlock = some w.heap.size) ∧
      ∀ b o, b < w.heap.size → (v.ownBlock = some b → o < k * 1) → w'.cell? ⟨b, o, none⟩ = w.cell? ⟨b, o, none⟩ := by
  subst hby
  have hsmall : k + s.size ≤ 9223372036854775807 := by simp only [maxLen] at h63; omega
  have hvl : vs.length = k := by simpa using hown.1
  have hlen : (vs ++ Lib.strCells s).length = (k + s.size) * 1 := by rw [List.length_append, hvl, Lib.strCells_length, Nat.mul_one]
  have grown : ∀ (old : Nat), old < k + s.size → ∀ (row : Option Nat),
      (w.drew.alloc (.cells (vs.toArray ++ (Lib.strCells s).toArray ++ Builtin.zeroCells z.cells (grownCap w (k + s.size) old e - (k + s.size))) e)).ownsRow 0 e 1
        (.slice (some ⟨w.heap.size, 0, none⟩) (k + s.size) (grownCap w (k + s.size) old e)) (k + s.size) (vs ++ Lib.strCells s) ∧
      w.grownBy (w.drew.alloc (.cells (vs.toArray ++ (Lib.strCells s).toArray ++ Builtin.zeroCells z.cells (grownCap w (k + s.size) old e - (k + s.size))) e)) row ∧
      ∀ b o, b < w.heap.size → (w.drew.alloc (.cells (vs.toArray ++ (Lib.strCells s).toArray ++ Builtin.zeroCells z.cells (grownCap w (k + s.size) old e - (k + s.size))) e)).cell? ⟨b, o, none⟩ = w.cell? ⟨b, o, none⟩ := by
    intro old ho row
    have hge := grownCap_ge w (k + s.size) old e
    have hcm : grownCap w (k + s.size) old e ≤ maxLen := grownCap_le_maxLen w (k + s.size) old e h63
    refine ⟨⟨hlen, .inr ⟨w.heap.size, _, _, rfl, Nat.zero_le _, heap_alloc_new w.drew _, hge, hcm, ?_, ?_⟩⟩, ⟨rfl, rfl, rfl, by simp, fun k hk _ => heap_alloc_old w.drew _ k hk⟩, fun b o hb => World.cell?_of_block (w := w) (heap_alloc_old w.drew _ b hb)⟩
    · simp only [Array.size_append, List.size_toArray, size_zeroCells, hzs, hvl, Lib.strCells_length]
      omega
    · simp only [Array.toList_append, List.append_assoc]
      rw [← List.append_assoc, ← hlen]
      exact List.take_left
  rcases hown.2 with ⟨rfl, rfl⟩ | ⟨g, cap, cur, rfl, hbg, hg, hnc, hcm, hcs, htake⟩
  · have hx : vs = [] := List.eq_nil_of_length_eq_zero hvl
    subst hx
    by_cases hm : s.size = 0
    · have hn : Lib.strCells s = [] := List.eq_nil_of_length_eq_zero (by rw [Lib.strCells_length]; exact hm)
      refine ⟨.slice none 0 0, w, ?_, by rw [hm, hn]; exact World.ownsRow_nil w 0 e 1, ⟨rfl, rfl, rfl, Nat.le_refl _, fun _ _ _ => rfl⟩, Or.inl rfl, fun _ _ _ _ => rfl⟩
      have hf := Lib.run_firstCells_string (P := P) w 1 s
      rw [hm] at hf
      simp [Builtin.append_, run_underlying ht, run_underlying hu, Go.sizeOf, typeInfo, hi, hsize, Builtin.lenOf, hm, hf]
    · have hr := run_append_nil_string (P := P) w t t2 ty e i z ht hu hi hz s (by omega) (by omega) (by have hb := hbytes; simp only [Nat.zero_add] at hb; omega)
      have hgr := grown 0 (by omega) (Value.ownBlock (.slice none 0 0))
      simp only [Nat.zero_add, List.nil_append, Array.empty_append] at hgr ⊢
      have e1 : (s.data.map fun b => Value.int .u8 b.toNat) = (Lib.strCells s).toArray := by
        apply Array.ext'
        simp [Lib.strCells]
      rw [e1] at hr
      exact ⟨_, _, hr, hgr.1, hgr.2.1, Or.inr rfl, fun b o hb _ => hgr.2.2 b o hb⟩
  · by_cases hroom : k + s.size ≤ cap
    · have hcs' : cur.size = cap := by simpa using hcs
      have hr := Lib.run_append_room_string (P := P) w t t2 ty e i ht hu hi hsize g k cap cur hg s hroom (by omega)
      have ht' : cur.toList.take k = vs := by simpa using htake
      refine ⟨_, _, hr, ⟨hlen, .inr ⟨g, cap, _, rfl, hbg, setRow_heap w g cur _ e _ hg, hroom, hcm, ?_, ?_⟩⟩, ⟨rfl, rfl, rfl, by simp, fun k _ hk => setRow_other w g k _ (fun e => hk (by simp [Value.ownBlock, e]))⟩, Or.inl rfl, fun b o hb hrow => ?_⟩
      · simp only [List.size_toArray, List.length_append, List.length_take, List.length_drop, Array.length_toList, Lib.strCells_length]
        omega
      · rw [ht', ← hlen]
        exact List.take_left
      · by_cases hbg' : b = g
        · subst hbg'
          have ho : o < k := by have := hrow rfl; omega
          rw [cell_setRow_same w b o cur _ e _ hg, cell_of_row w b o _ _ _ hg]
          have h2 : o < (cur.toList.take k).length := by rw [ht', hvl]; exact ho
          rw [List.getElem?_toArray, List.append_assoc, List.getElem?_append_left h2, List.getElem?_take, if_pos ho, Array.getElem?_toList]
        · exact World.cell?_of_block (setRow_other w g b _ hbg')
    · have holds : ∀ (q : Nat) u, vs[q]? = some u → w.cell? ((⟨g, 0, none⟩ : Addr).add q) = some u := hown.cells (g := g) rfl
      have hr := Lib.run_append_grow_string (P := P) w t t2 ty e i z ht hu hi hz ⟨g, 0, none⟩ k cap vs (by rw [hsize]; simpa using hvl) holds s (by omega) (by omega) (growslice_fits (by omega) hbytes)
      have hgr := grown cap (by omega) (Value.ownBlock (.slice (some ⟨g, 0, none⟩) k cap))
      exact ⟨_, _, hr, hgr.1, hgr.2.1, Or.inr rfl, fun b o hb _ => hgr.2.2 b o hb⟩
/-- What appending does, whatever is appended. -/
def AppR (P : Program) (w : World) (t t2 ty e : TypeId) (size bytes : Nat) (xv : Value) (j : Nat) (news : List Value) : Prop :=
  ∀ {v : Value} {k : Nat} {vs : List Value}, w.ownsRow 0 e size v k vs → k + j ≤ maxLen → (k + j) * bytes ≤ 140737488355328 →
    ∃ v' w', (Builtin.append_ #[t, t2] ty #[v, xv]).run P w = .ok v' w' ∧ w'.ownsRow 0 e size v' (k + j) (vs ++ news) ∧ w.grownBy w' v.ownBlock ∧ (v'.ownBlock = v.ownBlock ∨ v'.ownBlock = some w.heap.size) ∧
      ∀ b o, b < w.heap.size → (v.ownBlock = some b → o < k * size) → w'.cell? ⟨b, o, none⟩ = w.cell? ⟨b, o, none⟩
theorem bytesOf_len (s : ByteArray) : (bytesOf s).length = s.size := by rw [bytesOf, List.length_map, Array.length_toList]; rfl
theorem bytes_cells (s : ByteArray) : CellsOf T w X (.int .u8) (bytesOf s) (Lib.strCells s) := by
  refine ⟨by rw [Lib.strCells_length]; show s.size = (bytesOf s).length * 1; rw [bytesOf_len, Nat.mul_one], fun k x j d hk hd => ?_⟩
  have hj : j = 0 := by
    have := (List.getElem?_eq_some_iff.1 hd).1
    simp [lv] at this
    omega
  subst hj
  simp only [lv, List.getElem?_cons_zero, Option.some.injEq] at hd
  subst hd
  have h1 : (bytesOf s)[k]? = some x := hk
  rw [bytesOf, List.getElem?_map] at h1
  obtain ⟨b, hb, rfl⟩ := Option.map_eq_some_iff.1 h1
  refine ⟨.int .u8 b.toNat, ?_, RD.int .u8 _⟩
  simp only [flat, List.length_singleton, Nat.mul_one, Nat.add_zero, Lib.strCells, List.getElem?_map, hb, Option.map_some]
theorem appY_ok (hr : Rel T m X h w) {t t2 ty e : TypeId} {et : Ty} {i : TypeInfo} {zv : Value} {sz by_ : Nat} (hu : P.underlying t = some (.slice e)) (hi : P.info? e = some i) (hz : i.zero = some zv)
    (h1 : i.size = sz) (h2 : i.bytes = by_) (h3 : zv.cells.size = sz) (h4 : 0 < sz) (h5 : 0 < by_) (e1 : sz = (flat T et).length) {x : Lf T} {ys : List (den T.S et)} (hy : appY P e et t t2 x h = some ys) {xv : Value} (hx : LfR m X h.length w x xv) :
    ∃ news, CellsOf T w X et ys news ∧ AppR P w t t2 ty e sz by_ xv ys.length news := by
  unfold appY at hy
  cases hb : Nat.beq t t2 with
  | true =>
    rw [hb, cond_true] at hy
    have e2 := Nat.eq_of_beq_eq_true hb
    subst e2
    have hsrc := row_src hr (by omega) hy hx
    obtain ⟨news, hnc, hsrc'⟩ : ∃ news, CellsOf T w X et ys news ∧ ((ys.length = 0 ∧ news = [] ∧ ∃ A c, xv = .slice A 0 c) ∨ ∃ b o c, xv = .slice (some ⟨b, o, none⟩) ys.length c ∧ (∀ (q : Nat) u, news[q]? = some u → w.cell? ⟨b, o + q, none⟩ = some u)) := by
      rcases hsrc with ⟨rfl, A, c, h6⟩ | ⟨b, o, c, news, h6, h7, h8⟩
      · exact ⟨[], CellsOf.nil _, .inl ⟨rfl, rfl, A, c, h6⟩⟩
      · exact ⟨news, h7, .inr ⟨b, o, c, h6, h8⟩⟩
    have hnl : news.length = ys.length * sz := by rw [hnc.1, e1]
    exact ⟨news, hnc, fun {v k vs} ho hm hbl => run_app (ty := ty) hu hi hz h1 h2 h3 h4 ho hsrc' hnl (hnc.ones (by omega)) hm hbl⟩
  | false =>
    rw [hb, cond_false] at hy
    split at hy
    · rename_i hst
      unfold strY at hy
      split at hy
      · split at hy
        · rename_i s hs
          cases hy
          obtain rfl : x = .d .str s := by
            unfold isStr at hs
            split at hs
            · cases hs; rfl
            · cases hs
          have hxv : xv = .string s := (show RD T w X .str s xv from hx).inv
          subst hxv
          have hsz : sz = 1 := e1
          subst hsz
          refine ⟨Lib.strCells s, bytes_cells s, fun {v k vs} ho hm hbl => ?_⟩
          have hlen : (bytesOf s).length = s.size := bytesOf_len s
          have hm' : k + s.size ≤ maxLen := by have h9 : k + (bytesOf s).length ≤ maxLen := hm; omega
          have hb' : (k + s.size) * by_ ≤ 140737488355328 := by have h9 : (k + (bytesOf s).length) * by_ ≤ 140737488355328 := hbl; rw [hlen] at h9; exact h9
          have := run_app_str (ty := ty) hu hst hi hz h1 h2 h3 h5 ho hm' hb'
          rw [← hlen] at this
          exact this
        · cases hy
      · cases hy
    · cases hy
theorem own_blk {base : Nat} {e : TypeId} {size k : Nat} {v : Value} {xs : List Value} (hw : w.ownsRow base e size v k xs) {b : Nat} : Blk v b ↔ v.ownBlock = some b := by
  rcases hw.2 with ⟨h, _⟩ | ⟨g, cap, cur, h, _⟩
  · rw [h]; exact Iff.rfl
  · rw [h]; exact Iff.rfl
theorem appG_ok (hr : Rel T m X h w) {t t2 ty : TypeId} {s x : Lf T} {z : Res T} (ha : appG P t t2 s x h = some z) (hp : z.p) {sv xv : Value} (hs : LfR m X h.length w s sv) (hx : LfR m X h.length w x xv) :
    ∃ rv m' X' w', (Builtin.append_ #[t, t2] ty #[sv, xv]).run P w = .ok rv w' ∧ AR m' X' z.h.length w' z.v rv ∧ Rel T m' X' z.h w' ∧ Fr T m X h w m' X' z.h w' := by
  unfold appG at ha
  split at ha
  · rename_i e hu
    split at ha
    · rename_i et si het hsi
      obtain ⟨sz, by_⟩ := si
      obtain ⟨i, zv, hi, hz, h1, h2, h3, h4, h5⟩ := rowI_some hsi
      cases hb : Nat.beq sz (flat T et).length with
      | false => simp only [hb, cond_false] at ha; cases ha
      | true =>
        simp only [hb, cond_true] at ha
        have e1 := Nat.eq_of_beq_eq_true hb
        split at ha
        · rename_i ys hys
          -- the cells of what is appended
          obtain ⟨news, hnc, happ⟩ := appY_ok (ty := ty) hr hu hi hz h1 h2 h3 h4 h5 e1 hys hx
          split at ha
          · cases ha
            have hbl : (0 + ys.length) * by_ ≤ 140737488355328 := by simpa [LIM] using hp
            have hml : 0 + ys.length ≤ maxLen := by
              have := Nat.le_mul_of_pos_right (0 + ys.length) h5
              simp only [maxLen]
              omega
            have hsv : sv = .slice none 0 0 := hs
            subst hsv
            obtain ⟨v', w', q1, q2, q3, q4, q5⟩ := happ (World.ownsRow_nil w 0 e sz) hml hbl
            have hcell : ∀ b o, X b o → w'.cell? ⟨b, o, none⟩ = w.cell? ⟨b, o, none⟩ := fun b o hx => q5 b o (hr.lt b o hx) (fun hb => by cases hb)
            have hpr := push_row hr (e := e) (t := et) (xs := ys) (v := v') (vs := [] ++ news) (row := none) (h1 := h) rfl (fun _ _ h => .inr h) (sh := false) (fun _ _ _ _ _ _ => by simp) (fun b hb => by cases hb) q3
              (fun b hb => by rw [own_blk q2] at hb; rcases q4 with q4 | q4 <;> rw [q4] at hb <;> cases hb; exact .inr rfl) hcell (by rw [← e1]; simpa using q2) (by simpa using hnc.mono hcell (fun _ _ h => h)) (fun b o hb => by cases hb)
            exact ⟨v', _, X, w', q1, AR_one.2 hpr.2.2, hpr.1, hpr.2.1⟩
          · rename_i i0
            split at ha
            · rename_i e' t' xs sh ho
              rw [nth_eq] at ho
              split at ha
              · rename_i xs' hxs
                cases ha
                have := asRow_some hxs
                cases this
                obtain ⟨vs, hown, hvc⟩ := gr_cells hr ho
                have hbl : (xs'.length + ys.length) * by_ ≤ 140737488355328 := by simpa [LIM] using hp
                have hml : xs'.length + ys.length ≤ maxLen := by
                  have := Nat.le_mul_of_pos_right (xs'.length + ys.length) h5
                  simp only [maxLen]
                  omega
                rw [hs.2.1]
                rw [← e1] at hown
                obtain ⟨v', w', q1, q2, q3, q4, q5⟩ := happ hown hml hbl
                have hX : ∀ b o, (m i0).ownBlock = some b → X b o → sh = true ∧ o < xs'.length * sz := fun b o hb hx => by rw [e1]; exact hr.gr i0 _ _ _ _ ho b (by rw [own_blk hown]; exact hb) o hx
                have hcell : ∀ b o, X b o → w'.cell? ⟨b, o, none⟩ = w.cell? ⟨b, o, none⟩ := fun b o hx => q5 b o (hr.lt b o hx) (fun hb => (hX b o hb hx).2)
                have hgone : ∀ (j : Nat) o', (setO h i0 (.no : Ob T))[j]? = some o' → o' = .no ∨ (j ≠ i0 ∧ h[j]? = some o') := by
                  intro j o' hj
                  by_cases hne : j = i0
                  · subst hne
                    rw [setO_same _ (lt_of_get ho)] at hj
                    cases hj
                    exact .inl rfl
                  · rw [setO_other _ _ hne] at hj
                    exact .inr ⟨hne, hj⟩
                have hpr := push_row hr (e := e) (t := et) (xs := xs' ++ ys) (v := v') (vs := vs ++ news) (row := (m i0).ownBlock) (h1 := setO h i0 .no) (setO_len _ _ _) (fun j o' hj => (hgone j o' hj).imp id (·.2)) (sh := sh)
                  (fun j o' b hj hl hb hbr => by
                    rcases hgone j o' hj with rfl | ⟨hne, hj'⟩
                    · cases hl
                    · exact hr.sep i0 j _ _ ho hj' (Ne.symm hne) rfl hl b (by rw [own_blk hown]; exact hbr.symm) hb)
                  (fun b hb => ⟨i0, _, ho, rfl, by rw [own_blk hown]; exact hb⟩) q3
                  (fun b hb => by
                    rw [own_blk q2] at hb
                    rcases q4 with q4 | q4
                    · rw [q4] at hb; exact .inl hb
                    · rw [q4] at hb; cases hb; exact .inr rfl) hcell (by rw [← e1]; simpa using q2) ((hvc.append hnc).mono hcell (fun _ _ h => h))
                  (fun b o hb hx => by
                    have := hX b o hb hx
                    refine ⟨this.1, Nat.lt_of_lt_of_le this.2 ?_⟩
                    rw [e1]
                    refine Nat.mul_le_mul_right _ ?_
                    show xs'.length ≤ (xs' ++ ys).length
                    simp)
                exact ⟨v', _, X, w', q1, AR_one.2 hpr.2.2, hpr.1, hpr.2.1⟩
              · cases ha
            · cases ha
          · cases ha
        · cases ha
    · cases ha
  · cases ha

/-! ### slices whose elements' rows are one's own -/
theorem gone_get {i : Nat} (hi : i < h.length) (j : Nat) (o' : Ob T) (hj : (setO h i (.no : Ob T))[j]? = some o') : o' = .no ∨ (j ≠ i ∧ h[j]? = some o') := by
  by_cases hne : j = i
  · subst hne
    rw [setO_same _ hi] at hj
    cases hj
    exact .inl rfl
  · rw [setO_other _ _ hne] at hj
    exact .inr ⟨hne, hj⟩
theorem demote_ok (hr : Rel T m X h w) {i : Nat} {z : Nat × Hp T} (hd : demote h i = some z) : ∃ m1 X1, Rel T m1 X1 z.2 w ∧ Fr T m X h w m1 X1 z.2 w ∧ ∀ v, YR (m i) .hd v → LfR m1 X1 z.2.length w (.g z.1 : Lf T) v := by
  unfold demote at hd
  split at hd
  · rename_i e t xs ho
    rw [nth_eq] at ho
    cases hd
    obtain ⟨hdv, hs, vs, q1, q2, q3, q4, q5, q6⟩ := hr.ob i _ ho
    have hlt := lt_of_get ho
    have hl1 : (setO h i (.no : Ob T) ++ [Ob.gr e t xs false]).length = h.length + 1 := by simp [setO_len]
    let X1 : Nat → Nat → Prop := fun b o => X b o ∨ ∃ u ∈ hs, blk u = some b
    have hin : ∀ u ∈ hdv :: hs, ∀ b, blk u = some b → Blk (m i) b := fun u hu b hub => by rw [q1]; exact blk_tuple (by simpa using hu) hub
    have on : On m X h.length w (updM m h.length hdv) X1 (setO h i (.no : Ob T) ++ [Ob.gr e t xs false]).length w := ⟨by omega, fun k hk => updM_other m _ (by omega), fun _ _ hx => .inl hx, fun _ _ _ => rfl⟩
    have hi0 : (setO h i (.no : Ob T) ++ [Ob.gr e t xs false])[h.length]? = some (Ob.gr e t xs false) := by have := get_push (setO h i (.no : Ob T)) (Ob.gr e t xs false); rwa [setO_len] at this
    have hk : ∀ (j : Nat) o', j ≠ h.length → (setO h i (.no : Ob T) ++ [Ob.gr e t xs false])[j]? = some o' → o' = .no ∨ (j ≠ i ∧ h[j]? = some o') := fun j o' hne hj => gone_get hlt j o' (get_push_old (by rw [setO_len]; exact hne) hj)
    have hblk : ∀ b, Blk hdv b ↔ blk hdv = some b := by
      intro b
      rcases q2.2 with ⟨h2, _⟩ | ⟨g, cap, cur, h2, _⟩
      · rw [h2]; exact Iff.rfl
      · rw [h2]; exact Iff.rfl
    have hsep : ∀ b, Blk (m i) b → ∀ (j : Nat) o', j ≠ h.length → (setO h i (.no : Ob T) ++ [Ob.gr e t xs false])[j]? = some o' → o'.live = true → ¬ Blk (m j) b := by
      intro b hb j o' hne hj hl
      rcases hk j o' hne hj with rfl | ⟨hji, hj'⟩
      · cases hl
      · exact hr.sep i j _ _ ho hj' (Ne.symm hji) rfl hl b hb
    refine ⟨updM m h.length hdv, X1, hr.upd on hi0 (fun j o' hne hj => ?_) ?_ (fun _ b hb j o' hne hj hl => ?_) ?_ ?_ ?_, ?_, ?_⟩
    · rcases hk j o' hne hj with h2 | ⟨_, h2⟩
      · exact .inl h2
      · exact .inr ⟨h2, fun _ _ _ => rfl⟩
    · refine ⟨vs, by rw [updM_same]; exact q2, fun k x j d hk hd => ?_⟩
      obtain ⟨v, h1, h2⟩ := q5 k x j d hk hd
      exact ⟨v, h1, celly_rd (fun _ _ hx => .inl hx) h2 (fun e1 b hb o => .inr ⟨v, List.mem_of_getElem? e1, hb⟩)⟩
    · rw [updM_same] at hb
      rw [updM_other m _ hne]
      exact hsep b (hin hdv List.mem_cons_self b ((hblk b).1 hb)) j o' hne hj hl
    · rintro b o (hx | ⟨u, hu, hub⟩)
      · exact hr.lt b o hx
      · exact mine_lt hr ⟨i, _, ho, rfl, hin u (List.mem_cons_of_mem _ hu) b hub⟩
    · rintro j o' hne hj hl b hb o (hx | ⟨u, hu, hub⟩)
      · exact hx
      · exact absurd hb (hsep b (hin u (List.mem_cons_of_mem _ hu) b hub) j o' hne hj hl)
    · rw [updM_same]
      rintro b hb o (hx | ⟨u, hu, hub⟩)
      · exact absurd hx (hr.pv i _ ho rfl b (hin hdv List.mem_cons_self b ((hblk b).1 hb)) o)
      · exact absurd hub (List.rel_of_pairwise_cons q6 hu b ((hblk b).1 hb))
    · refine Fr.upd (i0 := h.length) on (Nat.le_refl _) rfl rfl rfl (fun _ _ _ => rfl) (fun j o' hne hj => (hk j o' hne hj).imp id (·.2)) (fun o0 _ _ b hb => ?_) ?_
      · rw [updM_same] at hb
        exact .inl ⟨i, _, ho, rfl, hin hdv List.mem_cons_self b ((hblk b).1 hb)⟩
      · rintro b o (hx | ⟨u, hu, hub⟩)
        · exact .inl hx
        · exact .inr (.inl ⟨i, _, ho, rfl, hin u (List.mem_cons_of_mem _ hu) b hub⟩)
    · rintro v ⟨hs', e1, e2, hsl⟩
      rw [q1] at e1
      cases e1
      have e3 : hdv = v := by simpa using e2
      subst e3
      exact ⟨by simp [setO_len], (updM_same _ _ _).symm, hsl⟩
  · cases hd
/-- One such slice behind another. -/
theorem appY_rel (hr : Rel T m X h w) {e : TypeId} {t : Ty} {xs ys : List (den T.S t)} {i j : Nat} (hne : i ≠ j) (hoi : h[i]? = some (.dg e t xs false)) (hoj : h[j]? = some (.dg e t ys false)) {hdi hdj : Value} {hsi hsj vsi vsj : List Value}
    (a1 : m i = .tuple (hdi :: hsi).toArray) (a2 : HeadR w e (flat T t).length false hdi xs.length vsi) (a3 : hsi.length = xs.length) (a4 : oneS (flat T t) = true)
    (a5 : ∀ (k : Nat) x (q : Nat) d, xs[k]? = some x → (lv T t x)[q]? = some d → ∃ v, vsi[k * (flat T t).length + q]? = some v ∧ CellY T w X hsi[k]? d v) (a6 : (hdi :: hsi).Pairwise fun u u' => ∀ b, blk u = some b → blk u' ≠ some b)
    (b1 : m j = .tuple (hdj :: hsj).toArray) (b3 : hsj.length = ys.length)
    (b5 : ∀ (k : Nat) y (q : Nat) d, ys[k]? = some y → (lv T t y)[q]? = some d → ∃ v, vsj[k * (flat T t).length + q]? = some v ∧ CellY T w X hsj[k]? d v) (b6 : (hdj :: hsj).Pairwise fun u u' => ∀ b, blk u = some b → blk u' ≠ some b)
    {v' : Value} (q2 : w'.ownsRow 0 e (flat T t).length v' (xs.length + ys.length) (vsi ++ vsj)) (q3 : w.grownBy w' hdi.ownBlock) (q4 : v'.ownBlock = hdi.ownBlock ∨ v'.ownBlock = some w.heap.size)
    (q5 : ∀ b o, b < w.heap.size → (hdi.ownBlock = some b → o < xs.length * (flat T t).length) → w'.cell? ⟨b, o, none⟩ = w.cell? ⟨b, o, none⟩) (b2 : vsj.length = ys.length * (flat T t).length) :
    Rel T (updM m h.length (.tuple (v' :: (hsi ++ hsj)).toArray)) X (setO (setO h i .no) j .no ++ [Ob.dg e t (xs ++ ys) false]) w' ∧ Fr T m X h w (updM m h.length (.tuple (v' :: (hsi ++ hsj)).toArray)) X (setO (setO h i .no) j .no ++ [Ob.dg e t (xs ++ ys) false]) w' := by
  have hli := lt_of_get hoi
  have hlj := lt_of_get hoj
  have hl1 : (setO (setO h i (.no : Ob T)) j .no ++ [Ob.dg e t (xs ++ ys) false]).length = h.length + 1 := by simp [setO_len]
  have hsl : ∀ {v : Value} {k : Nat} {us : List Value} {W : World}, W.ownsRow 0 e (flat T t).length v k us → v.ownBlock = blk v := by
    intro v k us W hv
    rcases hv.2 with ⟨h2, _⟩ | ⟨g, cap, cur, h2, _⟩
    · rw [h2]; rfl
    · rw [h2]; rfl
  have eo : hdi.ownBlock = blk hdi := hsl a2
  have ev : v'.ownBlock = blk v' := hsl q2
  have ini : ∀ u ∈ hdi :: hsi, ∀ b, blk u = some b → Blk (m i) b := fun u hu b hub => by rw [a1]; exact blk_tuple (by simpa using hu) hub
  have inj : ∀ u ∈ hdj :: hsj, ∀ b, blk u = some b → Blk (m j) b := fun u hu b hub => by rw [b1]; exact blk_tuple (by simpa using hu) hub
  have ltI : ∀ u ∈ hdi :: hsi, ∀ b, blk u = some b → b < w.heap.size := fun u hu b hub => mine_lt hr ⟨i, _, hoi, rfl, ini u hu b hub⟩
  have ltJ : ∀ u ∈ hdj :: hsj, ∀ b, blk u = some b → b < w.heap.size := fun u hu b hub => mine_lt hr ⟨j, _, hoj, rfl, inj u hu b hub⟩
  have hk : ∀ (q : Nat) o', q ≠ h.length → (setO (setO h i (.no : Ob T)) j .no ++ [Ob.dg e t (xs ++ ys) false])[q]? = some o' → o' = .no ∨ (q ≠ i ∧ q ≠ j ∧ h[q]? = some o') := by
    intro q o' hq hg
    have h2 := get_push_old (by rw [setO_len, setO_len]; exact hq) hg
    rcases gone_get (by rw [setO_len]; exact hlj) q o' h2 with h3 | ⟨h3, h4⟩
    · exact .inl h3
    · rcases gone_get hli q o' h4 with h5 | ⟨h5, h6⟩
      · exact .inl h5
      · exact .inr ⟨h5, h3, h6⟩
  -- rows and cells have stayed
  have stay : ∀ u, (u ∈ hsi ∨ u ∈ hsj) → ∀ b, blk u = some b → w'.heap[b]? = w.heap[b]? := by
    rintro u (hu | hu) b hub
    · refine q3.block b (ltI u (List.mem_cons_of_mem _ hu) b hub) (fun e1 => ?_)
      rw [eo] at e1
      exact List.rel_of_pairwise_cons a6 hu b e1.symm hub
    · refine q3.block b (ltJ u (List.mem_cons_of_mem _ hu) b hub) (fun e1 => ?_)
      rw [eo] at e1
      exact hr.sep i j _ _ hoi hoj hne rfl rfl b (ini hdi List.mem_cons_self b e1.symm) (inj u (List.mem_cons_of_mem _ hu) b hub)
  have hcell : ∀ b o, X b o → w'.cell? ⟨b, o, none⟩ = w.cell? ⟨b, o, none⟩ := fun b o hx => q5 b o (hr.lt b o hx) (fun hb => absurd hx (hr.pv i _ hoi rfl b (ini hdi List.mem_cons_self b (by rw [← eo]; exact hb)) o))
  have on : On m X h.length w (updM m h.length (.tuple (v' :: (hsi ++ hsj)).toArray)) X (setO (setO h i (.no : Ob T)) j .no ++ [Ob.dg e t (xs ++ ys) false]).length w' := ⟨by omega, fun k hk => updM_other m _ (by omega), fun _ _ hx => hx, hcell⟩
  have hi0 : (setO (setO h i (.no : Ob T)) j .no ++ [Ob.dg e t (xs ++ ys) false])[h.length]? = some (Ob.dg e t (xs ++ ys) false) := by have := get_push (setO (setO h i (.no : Ob T)) j .no) (Ob.dg e t (xs ++ ys) false); rwa [setO_len, setO_len] at this
  -- the new one's blocks
  have hvb : ∀ b, blk v' = some b → Blk (m i) b ∨ b = w.heap.size := by
    intro b hb
    rw [← ev] at hb
    rcases q4 with q4 | q4
    · rw [q4, eo] at hb; exact .inl (ini hdi List.mem_cons_self b hb)
    · rw [q4] at hb; cases hb; exact .inr rfl
  have hbs : ∀ b, Blk (.tuple (v' :: (hsi ++ hsj)).toArray) b → Blk (m i) b ∨ Blk (m j) b ∨ b = w.heap.size := by
    rintro b ⟨u, hu, hub⟩
    have hu' : u ∈ v' :: (hsi ++ hsj) := by simpa using hu
    rcases List.mem_cons.1 hu' with rfl | hu'
    · rcases hvb b hub with h2 | h2
      · exact .inl h2
      · exact .inr (.inr h2)
    · rcases List.mem_append.1 hu' with hu' | hu'
      · exact .inl (ini u (List.mem_cons_of_mem _ hu') b hub)
      · exact .inr (.inl (inj u (List.mem_cons_of_mem _ hu') b hub))
  refine ⟨hr.upd on hi0 (fun q o' hq hg => ?_) ?_ (fun _ b hb q o' hq hg hl => ?_) (fun b o hx => Nat.lt_of_lt_of_le (hr.lt b o hx) q3.size) (fun _ _ _ _ _ _ _ _ hx => hx) ?_, ?_⟩
  · rcases hk q o' hq hg with h2 | ⟨h2, h3, h4⟩
    · exact .inl h2
    · refine .inr ⟨h4, fun b hb hl => q3.block b (mine_lt hr ⟨q, _, h4, hl, hb⟩) (fun e1 => ?_)⟩
      rw [eo] at e1
      exact hr.sep i q _ _ hoi h4 (Ne.symm h2) rfl hl b (ini hdi List.mem_cons_self b e1.symm) hb
  · rw [ObR, updM_same]
    refine ⟨v', hsi ++ hsj, vsi ++ vsj, rfl, by rw [List.length_append]; exact q2, by rw [List.length_append, List.length_append, a3, b3], a4, fun k x q d hx hd => ?_, ?_⟩
    · have hq : q < (flat T t).length := by rw [← lv_len t x]; exact (List.getElem?_eq_some_iff.1 hd).1
      by_cases hlt : k < xs.length
      · rw [List.getElem?_append_left hlt] at hx
        obtain ⟨v, h1, h2⟩ := a5 k x q d hx hd
        refine ⟨v, by rw [List.getElem?_append_left (List.getElem?_eq_some_iff.1 h1).1]; exact h1, ?_⟩
        rw [List.getElem?_append_left (by rw [a3]; exact hlt)]
        exact celly_keep on h2 (fun e1 b hb => stay v (.inl (List.mem_of_getElem? e1)) b hb)
      · rw [List.getElem?_append_right (by omega)] at hx
        obtain ⟨v, h1, h2⟩ := b5 _ x q d hx hd
        refine ⟨v, ?_, ?_⟩
        · have h8 : vsi.length = xs.length * (flat T t).length := a2.1
          have e1 : k * (flat T t).length + q = vsi.length + ((k - xs.length) * (flat T t).length + q) := by
            rw [h8, ← Nat.add_assoc, ← Nat.add_mul]
            congr 2
            omega
          rw [e1, List.getElem?_append_right (by omega), Nat.add_sub_cancel_left]
          exact h1
        · rw [List.getElem?_append_right (by omega), a3]
          exact celly_keep on h2 (fun e1 b hb => stay v (.inr (List.mem_of_getElem? e1)) b hb)
    · rw [List.pairwise_cons, List.pairwise_append]
      rw [List.pairwise_cons] at a6 b6
      refine ⟨fun u hu b hb => ?_, a6.2, b6.2, fun u hu u' hu' b hb hb' => hr.sep i j _ _ hoi hoj hne rfl rfl b (ini u (List.mem_cons_of_mem _ hu) b hb) (inj u' (List.mem_cons_of_mem _ hu') b hb')⟩
      rw [← ev] at hb
      intro hub
      rcases q4 with q4 | q4
      · rw [q4, eo] at hb
        rcases List.mem_append.1 hu with hu | hu
        · exact a6.1 u hu b hb hub
        · exact hr.sep i j _ _ hoi hoj hne rfl rfl b (ini hdi List.mem_cons_self b hb) (inj u (List.mem_cons_of_mem _ hu) b hub)
      · rw [q4] at hb
        cases hb
        rcases List.mem_append.1 hu with hu | hu
        · exact absurd (ltI u (List.mem_cons_of_mem _ hu) _ hub) (Nat.lt_irrefl _)
        · exact absurd (ltJ u (List.mem_cons_of_mem _ hu) _ hub) (Nat.lt_irrefl _)
  · rw [updM_same] at hb
    rw [updM_other m _ hq]
    rcases hk q o' hq hg with rfl | ⟨h2, h3, h4⟩
    · cases hl
    · rcases hbs b hb with h5 | h5 | h5
      · exact hr.sep i q _ _ hoi h4 (Ne.symm h2) rfl hl b h5
      · exact hr.sep j q _ _ hoj h4 (Ne.symm h3) rfl hl b h5
      · intro h6
        have := mine_lt hr ⟨q, _, h4, hl, h6⟩
        omega
  · rw [updM_same]
    intro b hb o hx
    rcases hbs b hb with h5 | h5 | h5
    · exact hr.pv i _ hoi rfl b h5 o hx
    · exact hr.pv j _ hoj rfl b h5 o hx
    · have := hr.lt b o hx; omega
  · refine Fr.upd (i0 := h.length) on q3.size q3.os q3.tape q3.output (fun b hb hm => q3.block b hb (fun e1 => hm ⟨i, _, hoi, rfl, ini hdi List.mem_cons_self b (by rw [← eo]; exact e1.symm)⟩)) (fun q o' hq hg => (hk q o' hq hg).imp id (·.2.2)) (fun o0 _ _ b hb => ?_) (fun _ _ hx => .inl hx)
    rw [updM_same] at hb
    rcases hbs b hb with h5 | h5 | h5
    · exact .inl ⟨i, _, hoi, rfl, h5⟩
    · exact .inl ⟨j, _, hoj, rfl, h5⟩
    · exact .inr (by omega)
theorem yhd {i : Nat} {v hdv : Value} {hs : List Value} (hm : m i = .tuple (hdv :: hs).toArray) (hy : YR (m i) .hd v) : hdv = v := by
  obtain ⟨hs', e1, e2, _⟩ := hy
  rw [hm] at e1
  cases e1
  simpa using e2
theorem celly_one {hd : Option Value} {d : DL T} {v : Value} (hc : CellY T w X hd d v) : v.oneCell' = true := by
  obtain ⟨t, x⟩ := d
  cases t with
  | sl e t =>
    obtain ⟨_, vs, h2, _⟩ := hc
    rcases h2.2 with ⟨h3, _⟩ | ⟨g, cap, cur, h3, _⟩
    · rw [h3]; rfl
    · rw [h3]; rfl
  | int k => exact RD.one hc
  | bool => exact RD.one hc
  | str => exact RD.one hc
  | st k => exact RD.one hc
  | mp k v => exact RD.one hc
  | it => exact RD.one hc
theorem app_ok (hr : Rel T m X h w) {t t2 ty : TypeId} {s x : Lf T} {z : Res T} (ha : appF P t t2 s x h = some z) (hp : z.p) {sv xv : Value} (hs : LfR m X h.length w s sv) (hx : LfR m X h.length w x xv) :
    ∃ rv m' X' w', (Builtin.append_ #[t, t2] ty #[sv, xv]).run P w = .ok rv w' ∧ AR m' X' z.h.length w' z.v rv ∧ Rel T m' X' z.h w' ∧ Fr T m X h w m' X' z.h w' := by
  unfold appF at ha
  split at ha
  · rename_i i j
    split at ha
    · rename_i e hu
      split at ha
      · rename_i et si het hsi
        obtain ⟨sz, by_⟩ := si
        obtain ⟨inf, zv, hi, hz, h1, h2, h3, h4, h5⟩ := rowI_some hsi
        cases hb : (Nat.beq sz (flat T et).length && Nat.beq t t2) with
        | false => simp only [hb, cond_false] at ha; cases ha
        | true =>
          simp only [hb, cond_true] at ha
          simp only [Bool.and_eq_true] at hb
          have e1 := Nat.eq_of_beq_eq_true hb.1
          have e2 := Nat.eq_of_beq_eq_true hb.2
          subst e2
          unfold appYF at ha
          split at ha
          · rename_i ei ti xs ej tj ys hoi hoj
            rw [nth_eq] at hoi hoj
            split at ha
            · rename_i hte ys' _ hys
              subst hte
              have hys' := asRow_some hys
              cases hys'
              cases hc : (Nat.beq ei e && !(Nat.beq i j)) with
              | false => rw [hc] at ha; cases ha
              | true =>
                rw [hc] at ha
                cases ha
                simp only [Bool.and_eq_true, Bool.not_eq_true'] at hc
                have e3 := Nat.eq_of_beq_eq_true hc.1
                subst e3
                have hne : i ≠ j := fun e => by rw [e] at hc; simp at hc
                obtain ⟨hdi, hsi', vsi, a1, a2, a3, a4, a5, a6⟩ := hr.ob i _ hoi
                obtain ⟨hdj, hsj, vsj, b1, b2, b3, b4, b5, b6⟩ := hr.ob j _ hoj
                have g1 := yhd a1 hs.2
                have g2 := yhd b1 hx.2
                subst g1 g2
                have hbl : (xs.length + ys'.length) * by_ ≤ 140737488355328 := by simpa [LIM] using hp
                have hml : xs.length + ys'.length ≤ maxLen := by
                  have := Nat.le_mul_of_pos_right (xs.length + ys'.length) h5
                  simp only [maxLen]
                  omega
                have hones : ∀ u ∈ vsj, u.oneCell' = true := by
                  intro u hu
                  obtain ⟨q, hq⟩ := List.mem_iff_getElem?.1 hu
                  have hql : q < ys'.length * (flat T ti).length := by have := (List.getElem?_eq_some_iff.1 hq).1; have h8 : vsj.length = _ := b2.1; omega
                  obtain ⟨d1, d2, d3⟩ := div_mod (by omega) hql
                  have hd' : q % (flat T ti).length < (lv T ti ys'[q / (flat T ti).length]).length := by rw [lv_len]; exact d2
                  obtain ⟨v, k1, k2⟩ := b5 _ _ _ _ (List.getElem?_eq_getElem d1) (List.getElem?_eq_getElem hd')
                  rw [d3, hq] at k1
                  cases k1
                  exact celly_one k2
                have hsrc : (ys'.length = 0 ∧ vsj = [] ∧ ∃ A c, hdj = .slice A 0 c) ∨ ∃ b o c, hdj = .slice (some ⟨b, o, none⟩) ys'.length c ∧ (∀ (q : Nat) u, vsj[q]? = some u → w.cell? ⟨b, o + q, none⟩ = some u) := by
                  rcases b2.2 with ⟨k1, k2⟩ | ⟨g, cap, cur, k1, _⟩
                  · refine .inl ⟨k2, List.eq_nil_of_length_eq_zero ?_, none, 0, k1⟩
                    have h8 : vsj.length = _ := b2.1
                    rw [h8, k2, Nat.zero_mul]
                  · refine .inr ⟨g, 0, cap, k1, fun q u hq => ?_⟩
                    subst k1
                    have := b2.cells.2 q u hq
                    simpa using this
                have a2' : w.ownsRow 0 ei sz hdi xs.length vsi := by rw [e1]; exact a2
                have hlj : vsj.length = ys'.length * sz := by rw [e1]; exact b2.1
                obtain ⟨v', w', q1, q2, q3, q4, q5⟩ := run_app (ty := ty) hu hi hz h1 h2 h3 h4 a2' hsrc hlj hones hml hbl
                rw [e1] at q2 q5
                obtain ⟨r1, r2⟩ := appY_rel hr hne hoi hoj a1 a2 a3 a4 a5 a6 b1 b3 b5 b6 q2 q3 q4 q5 b2.1
                have hsl : ∃ A l c, v' = .slice A l c := by
                  rcases q2.2 with ⟨k1, _⟩ | ⟨g, cap, cur, k1, _⟩
                  · exact ⟨_, _, _, k1⟩
                  · exact ⟨_, _, _, k1⟩
                exact ⟨v', _, X, w', q1, AR_one.2 ⟨by simp [setO_len], by rw [updM_same]; exact ⟨_, rfl, rfl, hsl⟩⟩, r1, r2⟩
            · cases ha
          · cases ha
      · cases ha
    · cases ha
  · rename_i i hnx
    split at ha
    · rename_i z1 hz1
      obtain ⟨m1, X1, r1, r2, r3⟩ := demote_ok hr hz1
      obtain ⟨rv, m2, X2, w2, k1, k2, k3, k4⟩ := appG_ok (ty := ty) r1 ha hp (r3 sv hs.2) (hx.on r2.on)
      exact ⟨rv, m2, X2, w2, k1, k2, k3, r2.trans k4⟩
    · cases ha
  · rename_i j hns
    split at ha
    · rename_i z1 hz1
      obtain ⟨m1, X1, r1, r2, r3⟩ := demote_ok hr hz1
      obtain ⟨rv, m2, X2, w2, k1, k2, k3, k4⟩ := appG_ok (ty := ty) r1 ha hp (hs.on r2.on) (r3 xv hx.2)
      exact ⟨rv, m2, X2, w2, k1, k2, k3, r2.trans k4⟩
    · cases ha
  · exact appG_ok hr ha hp hs hx
end
end Go.Proofs.Ytfojcadooepgpaa.Rx
