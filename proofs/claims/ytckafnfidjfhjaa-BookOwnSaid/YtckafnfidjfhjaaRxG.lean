/- A plain evaluator over the translated code: functions that are given: what they answer stands in a contract of the shelf (a sort of strings, runs of one string made one). Under no condition. -/
import Derived.Test.YtckafnfidjfhjaaRxN
import Derived.Shelf.Slices.In.SortNone
import Derived.Shelf.Slices.CompactS
import Derived.Shelf.Sort.Plain
import Derived.Sort.EveryDepth
import Derived.Sort.OwnSorted
import Derived.Lib.OwnBridge
set_option linter.unusedVariables false
set_option linter.unusedSimpArgs false
namespace Go.Proofs.Ytckafnfidjfhjaa.Rx
open Go Go.RowKit

section
variable {T : Tab} {P : Program} {tb : List (FuncId × Fx)} {m : Nat → Value} {X : Nat → Nat → Prop} {h : Hp T} {w : World}
/-- What a given function does: to its arguments and the memory that it is handed. -/
abbrev GOp (T : Tab) := (R : Type) → List (AV T) → Hp T → (AV T → Hp T → Option R) → Option R
def givF (x : Fx) (op : GOp T) (ds : List (DL T)) : Option (HL T.S x.tout) :=
  match x.give ds with
  | some z => op _ z.1 z.2 x.fin
  | none => none
def lookG : List (Nat × GOp T) → Nat → Option (GOp T)
  | [], _ => none
  | p :: r, k => bif Nat.beq p.1 k then some p.2 else lookG r k
def giv (tb : List (FuncId × Fx)) (gl : List (Nat × GOp T)) : Giv T tb := fun key => match lookG gl key with | some op => some (givF (fxAt tb key) op) | none => none
def GOk (P : Program) (f : FuncId) (op : GOp T) : Prop :=
  ∀ (R : Type) av h (K : AV T → Hp T → Option R) y, op R av h K = some y → ∃ v h', K v h' = some y ∧ ∀ m X w (rargs : List Value), Rel T m X h w → All2 (AR m X h.length w) av rargs →
    Calls P f rargs.toArray w fun e w' => ∃ rv m' X', e = .returned rv ∧ AR m' X' h'.length w' v rv ∧ Rel T m' X' h' w' ∧ Fr T m X h w m' X' h' w'
def GAll (P : Program) (tb : List (FuncId × Fx)) : List (Nat × GOp T) → Prop
  | [] => True
  | p :: r => (∀ row, nth tb p.1 = some row → GOk P row.1 p.2) ∧ GAll P tb r
theorem GAll.nil : GAll (T := T) P tb [] := trivial
theorem GAll.cons {p : Nat × GOp T} {r : List (Nat × GOp T)} (h : ∀ row, nth tb p.1 = some row → GOk P row.1 p.2) (hr : GAll P tb r) : GAll P tb (p :: r) := ⟨h, hr⟩
theorem GAll.look : ∀ {gl : List (Nat × GOp T)}, GAll P tb gl → ∀ {key : Nat} {op : GOp T}, lookG gl key = some op → ∀ row, nth tb key = some row → GOk P row.1 op
  | [], _, key, op, hl => by cases hl
  | p :: r, hg, key, op, hl => by
    simp only [lookG] at hl
    cases hb : Nat.beq p.1 key with
    | true =>
      rw [hb] at hl
      cases hl
      rw [← Nat.eq_of_beq_eq_true hb]
      exact hg.1
    | false =>
      rw [hb] at hl
      exact GAll.look hg.2 hl
theorem giv_snd {key : Nat} {op : GOp T} (hop : ∀ row, nth tb key = some row → GOk P row.1 op) : Snd P tb key (givF (fxAt tb key) op) := by
  intro row hrow ds y hy av h v1 h1 ht hbk m X w rargs hr hargs
  unfold givF at hy
  rw [take_give ht] at hy
  obtain ⟨v, h', q1, q2⟩ := hop row hrow _ _ _ _ _ hy
  have hvb := fin_back q1
  rw [hbk] at hvb
  cases hvb
  exact q2 m X w rargs hr hargs
theorem giv_ok {gl : List (Nat × GOp T)} (hg : GAll P tb gl) : ∀ key g, giv tb gl key = some g → Snd P tb key g := by
  intro key g h
  unfold giv at h
  split at h
  · rename_i op hop
    cases h
    exact giv_snd (hg.look hop)
  · cases h
theorem gone {p : Nat × GOp T} {f : FuncId} {fx : Fx} (hrow : nth tb p.1 = some (f, fx)) (h : GOk P f p.2) : ∀ row, nth tb p.1 = some row → GOk P row.1 p.2 := by
  intro row hr
  rw [hrow] at hr
  cases hr
  exact h

/-! ### rows of strings -/
def toB (s : ByteArray) : List UInt8 := s.data.toList
def ofB (l : List UInt8) : ByteArray := ⟨l.toArray⟩
theorem toB_of (l : List UInt8) : toB (ofB l) = l := rfl
theorem ofB_to (s : ByteArray) : ofB (toB s) = s := rfl
def sortS (xs : List ByteArray) : List ByteArray := ((xs.map toB).mergeSort fun x y => decide (x ≤ y)).map ofB
def compS (xs : List ByteArray) : List ByteArray := (Lib.compact (xs.map toB)).map ofB
def sortOp : GOp T := fun R av h K => match av, h with
  | [.v (false, [.g 0])], [.gr e .str xs false] => if List.length (α := ByteArray) xs < 4611686018427387904 then K (.t []) [.gr e .str (sortS xs) false] else none
  | _, _ => none
def compOp : GOp T := fun R av h K => match av, h with
  | [.v (false, [.g 0])], [.gr e .str xs false] => K (.v (false, [.g 1])) [.no, .gr e .str (compS xs) false]
  | _, _ => none
theorem str_row {e : TypeId} {v : Value} {xs : List ByteArray} (h : ∃ vs : List Value, w.ownsRow 0 e (flat T .str).length v xs.length vs ∧ (∀ (k : Nat) x (j : Nat) d, xs[k]? = some x → (lv T .str x)[j]? = some d → ∃ u, vs[k * (flat T .str).length + j]? = some u ∧ RD T w X d.1 d.2 u)) :
    w.ownsRow 0 e 1 v xs.length ((xs.map toB).map encStr) := by
  obtain ⟨vs, h1, h2⟩ := h
  have h1' : w.ownsRow 0 e 1 v xs.length vs := h1
  have hvs : vs = (xs.map toB).map encStr := by
    rw [show (xs.map toB).map encStr = xs.map Value.string from Lib.map_encStr xs]
    apply List.ext_getElem?
    intro k
    rcases Nat.lt_or_ge k xs.length with hk | hk
    · obtain ⟨u, q1, q2⟩ := h2 k xs[k] 0 ⟨.str, xs[k]⟩ (List.getElem?_eq_getElem hk) rfl
      have q3 : u = .string xs[k] := q2.inv
      have q1' : vs[k]? = some u := by rw [show k * (flat T .str).length + 0 = k from by show k * 1 + 0 = k; omega] at q1; exact q1
      rw [q1', q3, List.getElem?_map, List.getElem?_eq_getElem hk]; rfl
    · rw [List.getElem?_eq_none (by rw [h1'.1]; omega), List.getElem?_eq_none (by simpa using hk)]
  rw [← hvs]
  exact h1'
theorem row_str {e : TypeId} {v : Value} {ts : List (List UInt8)} {w' : World} {i n : Nat} (hm : m i = v) (h : w'.ownsRow 0 e 1 v ts.length (ts.map encStr)) : ObR (T := T) m X n w' i (.gr e .str (ts.map ofB) false) := by
  refine ⟨ts.map encStr, ?_, ?_⟩
  · show w'.ownsRow 0 e 1 (m i) (ts.map ofB).length (ts.map encStr)
    rw [hm, List.length_map]
    exact h
  · intro k x j d hk hj
    have hk' : (ts[k]?).map ofB = some x := by rw [← List.getElem?_map]; exact hk
    obtain ⟨t, ht, rfl⟩ := Option.map_eq_some_iff.1 hk'
    match j, hj with
    | 0, hj =>
      cases hj
      exact ⟨.string (ofB t), by rw [show k * (flat T .str).length + 0 = k from by show k * 1 + 0 = k; omega, List.getElem?_map, ht]; rfl, .str _⟩
theorem blk_sl {v : Value} (h : ∃ A l c, v = .slice A l c) {b : Nat} : Blk v b ↔ blk v = some b := by
  obtain ⟨A, l, c, rfl⟩ := h
  exact Iff.rfl
theorem own_one {e : TypeId} {t : Ty} {xs : List (den T.S t)} {g : Nat} {l c : Nat} (hr : Rel T m X [.gr e t xs false] w) (hm : m 0 = .slice (some ⟨g, 0, none⟩) l c) : (∀ b, Mine m [Ob.gr (T := T) e t xs false] b ↔ b = g) ∧ ∀ o, ¬ X g o := by
  refine ⟨fun b => ⟨?_, ?_⟩, fun o hx => ?_⟩
  · rintro ⟨i, o, h1, _, h3⟩
    match i, h1 with
    | 0, _ => rw [hm] at h3; simp [Blk, blk] at h3; exact h3.symm
  · rintro rfl
    exact ⟨0, _, rfl, rfl, by rw [hm]; rfl⟩
  · have := (hr.gr 0 e t xs false rfl g (by rw [hm]; rfl) o hx).1
    cases this
theorem sort_ok {ρ : Go.Shelf.Ren} (L : Go.Proofs.Lays.n190 P ρ) : GOk (T := T) P (ρ.f 190) sortOp := by
  intro R av h K y hop
  unfold sortOp at hop
  split at hop
  · rename_i e xs
    split at hop
    case isFalse => cases hop
    rename_i hlen
    refine ⟨_, _, hop, fun m X w rargs hr ha => ?_⟩
    obtain ⟨u, rfl, hv⟩ := ha.one
    obtain ⟨us, h1, h2⟩ := hv
    rw [if_neg (show ¬ (false = true) by decide)] at h2
    subst h2
    obtain ⟨_, rfl, _⟩ := h1.1
    have hown := str_row (hr.ob 0 _ rfl)
    have hl : (xs.map toB).length = xs.length := List.length_map ..
    by_cases hnil : m 0 = .slice none 0 0
    · have hx : xs = [] := by
        rcases hown.2 with ⟨_, h0⟩ | ⟨g, cap, cur, h0, _⟩
        · exact List.eq_nil_of_length_eq_zero h0
        · rw [hnil] at h0; cases h0
      subst hx
      rw [hnil]
      refine (calls_of_every_depth fun D => AnyS.slices_Sort_string_none_in L D none 0 w).mono ?_
      rintro e' w' ⟨rfl, rfl⟩
      have hss : sortS [] = [] := by simp [sortS]
      rw [show sortS ([] : List (den T.S .str)) = [] from hss]
      exact ⟨_, m, X, rfl, ⟨[], trivial, rfl⟩, hr, Fr.refl⟩
    · obtain ⟨g, cap, hm, hb, hg, hn, hc, _, hH⟩ := Lib.holds_of_ownsRow hown hnil
      obtain ⟨hmine, hseen⟩ := own_one hr hm
      have hs := Any.slices_Sort_string L g 0 cap (xs.map toB) w hH hg (by rw [hl]; exact hlen)
      rw [hl] at hs
      rw [show [m 0].toArray = #[.slice (some ⟨g, 0, none⟩) (List.length (α := ByteArray) xs) cap] from by rw [hm]]
      refine hs.mono ?_
      rintro e' w' ⟨rfl, n, os, rfl⟩
      have hts : ((xs.map toB).mergeSort fun x y => decide (x ≤ y)).length = xs.length := by rw [List.length_mergeSort, hl]
      have hown2 : (Sort.grow (Sort.putRow encStr (Sort.ahead w n) g 0 ((xs.map toB).mergeSort fun x y => decide (x ≤ y)).toArray) os).ownsRow 0 e 1 (.slice (some ⟨g, 0, none⟩) xs.length cap) xs.length (((xs.map toB).mergeSort fun x y => decide (x ≤ y)).map encStr) := by
        rcases hown.2 with ⟨h0, _⟩ | ⟨g', cap', cur, h0, _, hb1, h1', h2', h3, _⟩
        · exact absurd h0 hnil
        · rw [hm] at h0
          cases h0
          have := Go.ownsRow_sorted (w := w) (base := 0) (n := n) (e := e) (os := os) (ss := xs.map toB) (ts := (xs.map toB).mergeSort fun x y => decide (x ≤ y)) (by rw [hts, hl]) (Nat.zero_le _) hb1 (by rw [hl]; exact h1') h2' (by simpa using h3)
          rw [hl] at this
          exact this
      have hgr := Go.grownBy_sorted (w := w) (g := g) (n := n) (os := os) ((xs.map toB).mergeSort fun x y => decide (x ≤ y)).toArray
      generalize Sort.grow (Sort.putRow encStr (Sort.ahead w n) g 0 ((xs.map toB).mergeSort fun x y => decide (x ≤ y)).toArray) os = w' at hown2 hgr ⊢
      have hmine' : ∀ b, Mine m [Ob.gr (T := T) e .str (sortS xs) false] b → b = g := by
        rintro b ⟨i, o, h1, _, h3⟩
        match i, h1 with
        | 0, _ => rw [hm] at h3; simp [Blk, blk] at h3; exact h3.symm
      refine ⟨_, m, X, rfl, ⟨[], trivial, rfl⟩, ⟨?_, ?_, ?_, ?_, ?_, ?_⟩, ⟨⟨Nat.le_refl _, fun _ _ => rfl, fun _ _ hx => hx, ?_⟩, hgr.size, hgr.os, hgr.tape, hgr.output, ?_, ?_, fun _ _ hx => .inl hx⟩⟩
      · intro i o hi
        match i, hi with
        | 0, hi =>
          cases hi
          refine row_str hm ?_
          rw [hts]
          exact hown2
      · intro i j o o' hi hj hne
        match i, j, hi, hj with
        | 0, 0, _, _ => exact absurd rfl hne
      · intro b o hx
        exact Nat.lt_of_lt_of_le (hr.lt b o hx) hgr.size
      · intro i o hi hpv
        match i, hi with
        | 0, hi => cases hi; cases hpv
      · intro i e' t' xs' sh hi b hb o hx
        match i, hi with
        | 0, hi =>
          rw [hm] at hb
          simp [Blk, blk] at hb
          subst hb
          exact absurd hx (hseen o)
      · intro i e' t' hi
        match i, hi with
        | 0, hi => cases hi
      · intro b o hx
        exact World.cell?_of_block (hgr.block b (hr.lt b o hx) (fun e => by cases e; exact hseen o hx))
      · intro b hb hmb
        exact hgr.block b hb (fun e => hmb ((hmine b).2 (by cases e; rfl)))
      · intro b hb
        exact .inl ((hmine b).2 (hmine' b hb))
  · cases hop
theorem comp_ok {ρ : Go.Shelf.Ren} (L : Go.Proofs.Lays.n194 P ρ) : GOk (T := T) P (ρ.f 194) compOp := by
  intro R av h K y hop
  unfold compOp at hop
  split at hop
  · rename_i e xs
    refine ⟨_, _, hop, fun m X w rargs hr ha => ?_⟩
    obtain ⟨u, rfl, hv⟩ := ha.one
    obtain ⟨us, h1, h2⟩ := hv
    rw [if_neg (show ¬ (false = true) by decide)] at h2
    subst h2
    obtain ⟨_, rfl, hm0⟩ := h1.1
    have hown := str_row (hr.ob 0 _ rfl)
    have hl : (xs.map toB).length = xs.length := List.length_map ..
    -- what is left to say when the slice that is answered is known
    have fin : ∀ (r : Value) (w' : World), blk r = blk (m 0) → (∃ A l c, r = .slice A l c) → ObR (T := T) (fun i => if i = 1 then r else m i) X 2 w' 1 (.gr e .str (compS xs) false) → w.grownBy w' (blk (m 0)) → (∀ b, Blk (m 0) b → ∀ o, ¬ X b o) →
        ∃ rv m' X', (Ending.returned r : Ending) = .returned rv ∧ AR (T := T) m' X' 2 w' (.v (false, [.g 1])) rv ∧ Rel T m' X' [.no, .gr e .str (compS xs) false] w' ∧ Fr T m X [.gr e .str xs false] w m' X' [.no, .gr e .str (compS xs) false] w' := by
      intro r w' hblk hsl hob hgr hseen
      have hcell : ∀ b o, X b o → w'.heap[b]? = w.heap[b]? := fun b o hx => hgr.block b (hr.lt b o hx) (fun e => hseen b ((blk_sl hm0).2 e.symm) o hx)
      refine ⟨r, (fun i => if i = 1 then r else m i), X, rfl, ⟨[r], ⟨⟨by decide, by simp, hsl⟩, trivial⟩, by rw [if_neg (show ¬ (false = true) by decide)]⟩, ⟨?_, ?_, ?_, ?_, ?_, ?_⟩, ⟨⟨by simp, fun i hi => ?_, fun _ _ hx => hx, fun b o hx => World.cell?_of_block (hcell b o hx)⟩, hgr.size, hgr.os, hgr.tape, hgr.output, ?_, ?_, fun _ _ hx => .inl hx⟩⟩
      · intro i o hi
        match i, hi with
        | 0, hi => cases hi; trivial
        | 1, hi => cases hi; exact hob
      · intro i j o o' hi hj hne hlv hlv'
        match i, j, hi, hj with
        | 0, _, hi, _ => cases hi; cases hlv
        | 1, 0, _, hj => cases hj; cases hlv'
        | 1, 1, _, _ => exact absurd rfl hne
      · intro b o hx
        exact Nat.lt_of_lt_of_le (hr.lt b o hx) hgr.size
      · intro i o hi hpv
        match i, hi with
        | 0, hi => cases hi; cases hpv
        | 1, hi => cases hi; cases hpv
      · intro i e' t' xs' sh hi b hb o hx
        match i, hi with
        | 0, hi => cases hi
        | 1, hi =>
          have hb' : blk r = some b := (blk_sl hsl).1 hb
          rw [hblk] at hb'
          exact absurd hx (hseen b ((blk_sl hm0).2 hb') o)
      · intro i e' t' hi
        match i, hi with
        | 0, hi => cases hi
        | 1, hi => cases hi
      · show (if i = 1 then r else m i) = m i
        rw [if_neg (by have : i < 1 := hi; omega)]
      · intro b hb hmb
        exact hgr.block b hb (fun e => hmb ⟨0, _, rfl, rfl, (blk_sl hm0).2 e.symm⟩)
      · rintro b ⟨i, o, hi, hlv, hb⟩
        match i, hi with
        | 0, hi => cases hi; cases hlv
        | 1, hi =>
          have hb' : blk r = some b := (blk_sl hsl).1 hb
          rw [hblk] at hb'
          exact .inl ⟨0, _, rfl, rfl, (blk_sl hm0).2 hb'⟩
    by_cases hnil : m 0 = .slice none 0 0
    · have hx : xs = [] := by
        rcases hown.2 with ⟨_, h0⟩ | ⟨g, cap, cur, h0, _⟩
        · exact List.eq_nil_of_length_eq_zero h0
        · rw [hnil] at h0; cases h0
      subst hx
      rw [show [m 0].toArray = #[.slice none 0 0] from by rw [hnil]]
      refine (Any.slices_Compact_string_empty L none 0 w).mono ?_
      rintro e' w' ⟨rfl, rfl⟩
      refine fin _ w' (by rw [hnil]) ⟨_, _, _, rfl⟩ ?_ ⟨rfl, rfl, rfl, Nat.le_refl _, fun _ _ _ => rfl⟩ (fun b hb => by rw [hnil] at hb; cases hb)
      have hc : ObR (T := T) (fun i => if i = 1 then Value.slice none 0 0 else m i) X 2 w' 1 (.gr e .str (([] : List (List UInt8)).map ofB) false) := row_str (v := .slice none 0 0) (by simp) (World.ownsRow_nil _ _ _ _)
      exact hc
    · obtain ⟨g, cap, hm, hb, hg, hn, hc, _, hH⟩ := Lib.holds_of_ownsRow hown hnil
      obtain ⟨hmine, hseen⟩ := own_one hr hm
      have hs := Any.slices_Compact_string L g 0 cap (xs.map toB) w hH (by rw [hl]; simp only [maxLen] at hc; omega) (by rw [hl]; exact hn)
      rw [hl] at hs
      rw [show [m 0].toArray = #[.slice (some ⟨g, 0, none⟩) (List.length (α := ByteArray) xs) cap] from by rw [hm]]
      refine hs.mono ?_
      rintro e' w' ⟨rfl, q, rfl⟩
      have hle := Lib.compact_length_le (xs.map toB)
      rw [hl] at hle
      have hown2 := Lib.ownsRow_putRow (q := q) (k := (Lib.compact (xs.map toB)).length) (ys := Lib.compact (xs.map toB) ++ List.replicate (xs.length - (Lib.compact (xs.map toB)).length) []) (by rw [hm] at hown; exact hown) (by simp; omega) hle
      rw [List.take_left] at hown2
      have hgr : w.grownBy (Sort.putRow encStr (Sort.ahead w q) g 0 (Lib.compact (xs.map toB) ++ List.replicate (xs.length - (Lib.compact (xs.map toB)).length) []).toArray) (some g) := by
        have := Go.grownBy_sorted (w := w) (g := g) (n := q) (os := #[]) (Lib.compact (xs.map toB) ++ List.replicate (xs.length - (Lib.compact (xs.map toB)).length) []).toArray
        rw [Sort.grow_empty] at this
        exact this
      refine fin _ _ (by rw [hm]; rfl) ⟨_, _, _, rfl⟩ ?_ (by rw [hm]; exact hgr) (fun b hb => by rw [hm] at hb; simp [Blk, blk] at hb; subst hb; exact hseen)
      exact row_str (by simp) hown2
  · cases hop
end
end Go.Proofs.Ytckafnfidjfhjaa.Rx
