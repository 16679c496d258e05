/- A plain evaluator over the translated code: functions that are given: a map's keys, sorted, where they are numbers (uint64). Under no condition. -/
import Derived.Test.YtckafnfidjfhjaaRxH
import Derived.RangeFuncFrom
import Derived.RangeFuncBox
set_option linter.unusedVariables false
set_option linter.unusedSimpArgs false
namespace Go.Proofs.Ytckafnfidjfhjaa.Rx
open Go Go.RowKit

/-! ### what a program must bear -/
structure KeysU (P : Program) (ρ : Go.Shelf.Ren) : Prop where
  mixed : P.follows .mixedOrders = true
  f10 : Go.Proofs.Bears P (ρ.f 10) (Go.Proofs.SlBodyZ.n10 ρ)
  t0 : P.underlying (ρ.t 0) = some (TypeDesc.tuple #[])
  a0 : ∀ w, (isAgg (ρ.t 0)).run P w = .ok false w
  z0 : ∀ w, (Go.sizeOf (ρ.t 0)).run P w = .ok 1 w
  v0 : ∀ w, (zeroValue (ρ.t 0)).run P w = .ok (Value.tuple #[]) w
  t4 : P.underlying (ρ.t 4) = some (TypeDesc.bool)
  a4 : ∀ w, (isAgg (ρ.t 4)).run P w = .ok false w
  z4 : ∀ w, (Go.sizeOf (ρ.t 4)).run P w = .ok 1 w
  v4 : ∀ w, (zeroValue (ρ.t 4)).run P w = .ok (Value.bool false) w
  t23 : P.underlying (ρ.t 23) = some (TypeDesc.map (ρ.t 26) (ρ.t 3))
  a23 : ∀ w, (isAgg (ρ.t 23)).run P w = .ok false w
  z23 : ∀ w, (Go.sizeOf (ρ.t 23)).run P w = .ok 1 w
  t26 : P.underlying (ρ.t 26) = some (TypeDesc.int IntKind.u64)
  a26 : ∀ w, (isAgg (ρ.t 26)).run P w = .ok false w
  z26 : ∀ w, (Go.sizeOf (ρ.t 26)).run P w = .ok 1 w
  v26 : ∀ w, (zeroValue (ρ.t 26)).run P w = .ok (Value.int IntKind.u64 0) w
  t33 : P.underlying (ρ.t 33) = some (TypeDesc.func #[ρ.t 26] #[ρ.t 4] false)
  a33 : ∀ w, (isAgg (ρ.t 33)).run P w = .ok false w
  z33 : ∀ w, (Go.sizeOf (ρ.t 33)).run P w = .ok 1 w
structure SrtU (P : Program) (ρ : Go.Shelf.Ren) : Prop where
  mixed : P.follows .mixedOrders = true
  f6 : Go.Proofs.Bears P (ρ.f 6) (Go.Proofs.SlBodyZ.n6 ρ)
  f8 : Go.Proofs.Bears P (ρ.f 8) (Go.Proofs.SlBodyZ.n8 ρ)
  f11 : Go.Proofs.Bears P (ρ.f 11) (Go.Proofs.SlBodyZ.n11 ρ)
  t0 : P.underlying (ρ.t 0) = some (TypeDesc.tuple #[])
  a0 : ∀ w, (isAgg (ρ.t 0)).run P w = .ok false w
  z0 : ∀ w, (Go.sizeOf (ρ.t 0)).run P w = .ok 1 w
  v0 : ∀ w, (zeroValue (ρ.t 0)).run P w = .ok (Value.tuple #[]) w
  t24 : P.underlying (ρ.t 24) = some (TypeDesc.slice (ρ.t 26))
  a24 : ∀ w, (isAgg (ρ.t 24)).run P w = .ok false w
  z24 : ∀ w, (Go.sizeOf (ρ.t 24)).run P w = .ok 1 w
  v24 : ∀ w, (zeroValue (ρ.t 24)).run P w = .ok (Value.slice none 0 0) w
  t26 : P.underlying (ρ.t 26) = some (TypeDesc.int IntKind.u64)
  a26 : ∀ w, (isAgg (ρ.t 26)).run P w = .ok false w
  z26 : ∀ w, (Go.sizeOf (ρ.t 26)).run P w = .ok 1 w
  v26 : ∀ w, (zeroValue (ρ.t 26)).run P w = .ok (Value.int IntKind.u64 0) w
  t28 : P.underlying (ρ.t 28) = some (TypeDesc.func #[ρ.t 33] #[] false)
  a28 : ∀ w, (isAgg (ρ.t 28)).run P w = .ok false w
  z28 : ∀ w, (Go.sizeOf (ρ.t 28)).run P w = .ok 1 w
  v28 : ∀ w, (zeroValue (ρ.t 28)).run P w = .ok (Value.nilFunc) w
  i26 : (P.info? (ρ.t 26)).map (fun i => (i.zero, i.size, i.bytes)) = some (some (.int .u64 0), 1, 8)

/-! ### the keys come, each once -/
abbrev encU : Int → Value := Value.int .u64
theorem encU_inj {x y : Int} (h : encU x = encU y) : x = y := by simpa [encU] using h
theorem keyOf_u64 {P : Program} {k : TypeId} (hk : P.underlying k = some (.int .u64)) {key : Value} {kl : Lit} (h : keyOf P k key = some kl) : ∃ x : Int, key = encU x ∧ kl = .int .u64 x := by
  cases key <;> simp [keyOf, hk, mapKey] at h
  rename_i q a
  obtain ⟨⟨rfl, _⟩, rfl⟩ := h
  exact ⟨a, rfl, rfl⟩
/-- What has come: no key twice; just those that are no longer to come. -/
def Came {H : Type} (D0 : DataW H) (left : Lit → Bool) (ss : List Int) : Prop := ss.Nodup ∧ ∀ x, x ∈ ss ↔ (Maps.has D0 (.int .u64 x) = true ∧ left (.int .u64 x) = false)
theorem Came.one {H : Type} {D0 : DataW H} {left : Lit → Bool} {ss : List Int} (h : Came D0 left ss) {x : Int} {y : DataW H} (hl : left (.int .u64 x) = true) (hat : ∀ zd, D0.atKey (.int .u64 x) zd = y) :
    Came D0 (fun z => left z && !z.sameKey (.int .u64 x)) (ss ++ [x]) := by
  have h1 : Maps.has D0 (.int .u64 x) = true := Maps.has_true_of_atKey hat
  have h2 : x ∉ ss := fun hx => by have := ((h.2 x).1 hx).2; rw [hl] at this; cases this
  constructor
  · exact List.nodup_append.2 ⟨h.1, by simp, fun a ha b hb => by simp at hb; subst hb; exact fun e => h2 (e ▸ ha)⟩
  · intro y
    by_cases hy : y = x
    · subst hy; simp [h1, Lit.sameKey]
    · simp [h.2 y, hy, Lit.sameKey]
section
open Go.Maps Go.Sort Go.Shelf Go.Proofs
variable {P : Program} {ρ : Go.Shelf.Ren}
set_option maxRecDepth 100000 in
set_option maxHeartbeats 1000000 in
theorem keysU_in (L : KeysU P ρ) {H : Type} (n : Nat) (hn : 1 ≤ n) (l Bm b nn : Nat) (D0 : DataW H) {R : Value → Option (DataW H × List MemPlace)} (J Jx : List Int → World → Prop)
    (hY : ∀ pre x W1, J pre W1 → pre.length < Maps.size D0 → YieldAt Fence.wide (n - 1) P l #[encU x] W1 fun e W' => (e = .returned (.bool true) ∧ J (pre ++ [x]) W' ∧ KeepsWalks W1 W') ∨ (e = .returned (.bool false) ∧ Jx (pre ++ [x]) W'))
    (W : World) (hJ : AbidesFrom W.heap.size J) (hm : W.cell? ⟨Bm, 0, none⟩ = some (.map (some b))) (hown : W.ownsMap P (ρ.t 26) R b nn D0) (h0 : J [] W) :
    CallsIn Fence.wide n P (ρ.f 10) #[.func (.yield l) #[] #[], .pointer (some ⟨Bm, 0, none⟩)] W fun e W' => (∃ v, e = .returned v) ∧
      ((∃ xs : List Int, (xs.Nodup ∧ ∀ x, x ∈ xs ↔ Maps.has D0 (.int .u64 x) = true) ∧ J xs W') ∨ (∃ pre : List Int, True ∧ Jx pre W')) := by
  have mixed := L.mixed; have t0 := L.t0; have a0 := L.a0; have z0 := L.z0; have v0 := L.v0; have t4 := L.t4; have a4 := L.a4; have z4 := L.z4; have v4 := L.v4; have t23 := L.t23; have a23 := L.a23; have z23 := L.z23
  have t26 := L.t26; have a26 := L.a26; have z26 := L.z26; have v26 := L.v26; have t33 := L.t33; have a33 := L.a33; have z33 := L.z33
  have u0 := run_underlying L.t0; have u4 := run_underlying L.t4; have u23 := run_underlying L.t23; have u26 := run_underlying L.t26; have u33 := run_underlying L.t33
  obtain ⟨_, _, FG⟩ := L.f10
  refine callsIn_of_wp FG rfl trivial ?_ rfl
  simp only [SlBodyZ.n10_ntmps ρ, List.size_toArray, List.length_cons, List.length_nil, Nat.reduceAdd, Nat.reduceSub, Array.replicate_succ, Array.replicate_zero, List.push_toArray, List.append_toArray, List.nil_append, List.cons_append]
  gi_wp2_with (first
    | (gi_at_range; refine wpListIn_range_own _ rfl _ (ρ.t 23) rfl (ρ.t 26) (ρ.t 3) (int_keyed L.t26) L.t23 _ b nn _ rfl hown ?_; intro w0 hrg0 hg0 hs0)
    | gi_in)
  go_frame
  gi_loopw [3] (fun _ wr => ∃ (left : Lit → Bool) (cnt : Nat) (ss : List Int), wr.ranges P (ρ.t 26) R b W.heap.size nn D0 left cnt ∧ ss.length + cnt ≤ Maps.size D0 ∧ Came D0 left ss ∧ J ss wr)
    (fun _ wr => wr.rangeLeft b W.heap.size)
  case atStart =>
    refine ⟨_, _, [], hrg0, by simp, ⟨List.nodup_nil, fun x => ?_⟩, hJ [] W w0 none h0 hg0 (fun r e => by cases e)⟩
    cases Maps.has D0 (.int .u64 x) <;> simp
  case round =>
    obtain ⟨left, cnt, ss, hrg, hcs, hC, hJs⟩ := hrel
    gi_wp2_with (first
      | (gi_at_next; refine wpListIn_next_ranges _ rfl _ rfl (ρ.t 26) (int_keyed L.t26) R encU id (fun key kl hk => by obtain ⟨x, hx, _⟩ := keyOf_u64 L.t26 hk; exact ⟨x, hx⟩) (fun v _ _ => ⟨v, rfl⟩) b W.heap.size nn _ _ _ rfl hrg ?_ ?_)
      | gi_in)
    · intro hc0 hl0
      gi_wp2
      go_end0
      exact ⟨⟨_, rfl⟩, .inl ⟨ss, ⟨hC.1, fun x => by rw [hC.2 x, hl0]; simp⟩, hJs⟩⟩
    · intro x c kl yd yp w2 cnt2 hkey hlk hv hat hrg2 hlt hg2 hs2 hen
      obtain ⟨x', ex, rfl⟩ := keyOf_u64 L.t26 hkey
      obtain rfl : x = x' := encU_inj ex
      have hJ2 : J ss w2 := hJ ss wr w2 (some W.heap.size) hJs hg2 (fun r e => by cases e; exact ⟨Nat.le_refl _, hrg.iter_walk⟩)
      obtain ⟨fn, tmps, assign, body, hy, hR⟩ := hY ss x w2 hJ2 (by omega)
      clear hs2
      gi_wp2
      refine hR.mono ?_
      have hC2 := hC.one hlk hat
      rintro e W3 (⟨rfl, hJ3, hk3⟩ | ⟨rfl, hJx3⟩)
      · gi_wp2
        have hrg3 := hrg2.of_walks hk3
        go_roundw
        case rel => exact ⟨_, cnt2, ss ++ [x], hrg3, by simp; omega, hC2, hJ3⟩
        case measure => rw [hrg3.left_eq, hrg.left_eq]; exact hlt
      · gi_wp2
        refine bodyPost_ret (results_none rfl _ _ _) rfl ?_
        exact ⟨⟨_, rfl⟩, .inr ⟨ss ++ [x], trivial, hJx3⟩⟩
/-- A map's iterator. -/
theorem keysU_stops (L : KeysU P ρ) {H : Type} (n : Nat) (hn : 1 ≤ n) (Bm b nn : Nat) (D0 : DataW H) {R : Value → Option (DataW H × List MemPlace)} (w : World) (hBm : Bm < w.heap.size)
    (hm : w.cell? ⟨Bm, 0, none⟩ = some (.map (some b))) (hown : w.ownsMap P (ρ.t 26) R b nn D0) :
    SeqStopsK Fence.wide n P (ρ.f 10) #[.pointer (some ⟨Bm, 0, none⟩)] (fun x : Int => #[encU x]) KeepsWalks (fun xs => xs.Nodup ∧ ∀ x, x ∈ xs ↔ Maps.has D0 (.int .u64 x) = true) (fun _ => True) (Maps.size D0) w := by
  intro l J Jx W hW hJ _ hY h0
  have hown2 : W.ownsMap P (ρ.t 26) R b nn D0 := by
    obtain ⟨es, clock, hb, Ft, hs, hD⟩ := hown
    exact ⟨es, clock, (hW.block b (Array.getElem?_eq_some_iff.1 hb).1).trans hb, Ft, hs, hD⟩
  exact keysU_in L n hn l Bm b nn D0 J Jx hY W hJ ((hW.cell (p := ⟨Bm, 0, none⟩) hBm).trans hm) hown2 h0
/-- What was appended: the box holds a slice of one's own with just these. -/
def Got (ρ : Go.Shelf.Ren) (w : World) (xs : List Int) (W : World) : Prop := (∃ v, Boxed W w.heap.size (ρ.t 24) v ∧ W.ownsRow w.heap.size (ρ.t 26) 1 v xs.length (xs.map encU) ∧ True) ∧ Below w.heap.size w W
set_option maxRecDepth 100000 in
set_option maxHeartbeats 2000000 in
theorem appSeqU_in (L : SrtU P ρ) (n : Nat) (hn : 2 ≤ n) (g : Nat) (lb : Array Value) (eg : ∀ args w, (callFunc g args).run P w = .ok (.enter g args) w)
    (S Sp : List Int → Prop) (N : Nat) (hN : N ≤ maxLen) (hNb : N * 8 ≤ 140737488355328) (w w0 : World) (hw0 : Below w0.heap.size w0 w) (hseq : SeqStopsK Fence.wide (n - 1) P g lb (fun x : Int => #[encU x]) KeepsWalks S Sp N w0) :
    CallsIn Fence.wide n P (ρ.f 11) #[.slice none 0 0, .func (.func g) #[] lb] w fun e w' => ∃ v xs, e = .returned v ∧ S xs ∧ w'.ownsRow w.heap.size (ρ.t 26) 1 v xs.length (xs.map encU) ∧ Below w.heap.size w w' := by
  have mixed := L.mixed; have t0 := L.t0; have a0 := L.a0; have z0 := L.z0; have v0 := L.v0; have t24 := L.t24; have a24 := L.a24; have z24 := L.z24; have v24 := L.v24; have t26 := L.t26; have a26 := L.a26; have z26 := L.z26; have v26 := L.v26; have t28 := L.t28; have a28 := L.a28; have z28 := L.z28; have v28 := L.v28
  have hne : ρ.t 24 ≠ ρ.t 26 := fun e => by have h := L.t24; rw [e, L.t26] at h; cases h
  have u0 := run_underlying L.t0; have u24 := run_underlying L.t24; have u26 := run_underlying L.t26; have u28 := run_underlying L.t28
  obtain ⟨i0, hi, hz0, hz1, hz2⟩ := info_parts L.i26
  obtain ⟨_, _, FG⟩ := L.f11
  refine callsIn_of_wp_marks FG rfl trivial ?_ rfl
  simp only [SlBodyZ.n11_ntmps ρ, List.size_toArray, List.length_cons, List.length_nil, Nat.reduceAdd, Nat.reduceSub, Array.replicate_succ, Array.replicate_zero, List.push_toArray, List.append_toArray, List.nil_append, List.cons_append]
  gi_wp2
  have hB0 : Below w.heap.size w (w.alloc (.cells #[.slice none 0 0] (ρ.t 24))) := (Below.refl _ w).alloc (Nat.le_refl _) _
  have hbx : Boxed (w.alloc (.cells #[.slice none 0 0] (ρ.t 24))) w.heap.size (ρ.t 24) (.slice none 0 0) := Boxed.new w _ _
  refine wpIn_rangeFunc_ownF rfl (by omega) (gf := g) (lb := lb) rfl trivial eg hseq walksK_t walksK_b (hw0.trans (hB0.mono hw0.size)) (fun _ => rfl)
    (Got ρ w) (fun _ _ _ => False)
    (OwnFrom.and (Own.from (holdsRow_own w.heap.size w.heap.size (ρ.t 24) (ρ.t 26) 1 (fun xs : List Int => xs.length) (fun xs => xs.map encU) (fun _ _ => True)) _) (ownFrom_below (Nat.le_refl _) (by simp)))
    (fun _ _ _ _ _ hs _ _ => hs)
    ⟨⟨_, hbx, ⟨rfl, .inl ⟨rfl, rfl⟩⟩, trivial⟩, hB0⟩
    (fun x => { tmps := #[.slice none 0 0, .func (.func g) #[] lb, .pointer (some ⟨w.heap.size, 0, none⟩), undef, .slice none 0 0, encU x, .func (.func g) #[] lb, encU x, undef, undef, undef, undef, undef], defers := [] }) ?assign ?body ?done ?stop
  case assign =>
    intro l x W K hK
    gi_wp2_with gi_round_op_a
    exact hK
  case body =>
    rintro l pre x W ⟨⟨v, hv, hrow, _⟩, hB⟩ hlen
    have hc := hv.cell
    have hf := hv.frozen
    have hB1 := hB.size
    clear hseq hw0 hB0 hbx
    gi_wp2_with (first
      | (gi_at_builtin; refine wpListIn_append_own _ rfl _ _ (ρ.t 24) rfl w.heap.size (ρ.t 26) i0 (.int .u64 0) 1 8 L.t24 hi hz0 hz1 hz2 rfl (by decide) _ _ _ rfl (hrow.alloc _) ⟨W.heap.size, 0, none⟩ 1 1 [encU x] rfl rfl (cell_one_new _ _ _) (by simp [Value.oneCell', encU]) (by omega) (by omega) (by simp; omega) ?_; intro v' w3 hown' hg3 hnil3
         obtain ⟨b1, b2, b3, b4, b5⟩ := Boxed.appended hv hne hrow hB1 (Nat.le_refl _) hown' hg3
         have hc3 := b1.cell
         have hf3 := b1.frozen
         obtain ⟨g', cap', rfl⟩ := ownsRow_succ hown'
         go_frame)
      | gi_round_op_a)
    exact ⟨b4, b4.walks, ⟨_, b2, by simpa using b3, trivial⟩, hB.trans b5⟩
  case done =>
    rintro D xs W hD hS ⟨⟨v, hv, hrow, _⟩, hB⟩ hK
    have hc := hv.cell
    have hf := hv.frozen
    clear hseq hw0 hB0 hbx
    gi_wp2
    refine ⟨by simp, .inl ⟨_, _, rfl, run_takeDeferred hK, ?_⟩⟩
    exact ⟨_, results_tmp rfl _ _ _, v, xs, rfl, hS, ownsRow_putObj hrow _ hK rfl, hB.trans (belowK_b (w := w) (Nat.le_refl _) W D _ _ (by simp at hD; omega) hK rfl rfl)⟩
  case stop =>
    rintro D c pre W _ _ h _
    exact h.elim
set_option maxRecDepth 100000 in
set_option maxHeartbeats 1000000 in
theorem collectU_in (L : SrtU P ρ) (n : Nat) (hn : 3 ≤ n) (g : Nat) (lb : Array Value) (eg : ∀ args w, (callFunc g args).run P w = .ok (.enter g args) w)
    (S Sp : List Int → Prop) (N : Nat) (hN : N ≤ maxLen) (hNb : N * 8 ≤ 140737488355328) (w : World) (hseq : SeqStopsK Fence.wide (n - 1 - 1) P g lb (fun x : Int => #[encU x]) KeepsWalks S Sp N w) :
    CallsIn Fence.wide n P (ρ.f 8) #[.func (.func g) #[] lb] w fun e w' => ∃ v xs, e = .returned v ∧ S xs ∧ w'.ownsRow w.heap.size (ρ.t 26) 1 v xs.length (xs.map encU) ∧ Below w.heap.size w w' := by
  have h1 : 1 ≤ n := by omega
  have hro : Fence.wide.round = none := rfl
  have h11 : Fence.wide.fn (ρ.f 11) := trivial
  have e11 : ∀ args w, (callFunc (ρ.f 11) args).run P w = .ok (.enter (ρ.f 11) args) w := L.f11.enters rfl
  have mixed := L.mixed; have t0 := L.t0; have a0 := L.a0; have z0 := L.z0; have v0 := L.v0; have t24 := L.t24; have a24 := L.a24; have z24 := L.z24; have v24 := L.v24; have t26 := L.t26; have a26 := L.a26; have z26 := L.z26; have v26 := L.v26; have t28 := L.t28; have a28 := L.a28; have z28 := L.z28; have v28 := L.v28
  have u0 := run_underlying L.t0; have u24 := run_underlying L.t24; have u26 := run_underlying L.t26; have u28 := run_underlying L.t28
  obtain ⟨_, _, FG⟩ := L.f8
  refine callsIn_of_wp FG rfl trivial ?_ rfl
  simp only [SlBodyZ.n8_ntmps ρ, List.size_toArray, List.length_cons, List.length_nil, Nat.reduceAdd, Nat.reduceSub, Array.replicate_succ, Array.replicate_zero, List.push_toArray, List.append_toArray, List.nil_append, List.cons_append]
  gi_wp2_with (gi_at_fn (ρ.f 11); refine (appSeqU_in L (n - 1) (by omega) g lb eg S Sp N hN hNb w w (Below.refl _ _) hseq).mono ?_; rintro e w' ⟨v, xs, rfl, hS, hrow, hb⟩)
  go_ret
  exact ⟨v, xs, rfl, hS, hrow, hb⟩
def leU : Int → Int → Bool := fun x y => decide (x ≤ y)
def sortU (xs : List Int) : List Int := xs.mergeSort leU
/-- What slices.Sort brings at numbers. -/
def SortsU (P : Program) (f : FuncId) (e : TypeId) : Prop := ∀ (W : World) (base : Nat) (v : Value) (xs : List Int), xs.length * 8 ≤ 140737488355328 → W.ownsRow base e 1 v xs.length (xs.map encU) → base ≤ W.heap.size →
  Calls P f #[v] W fun E w' => E = .returned (.tuple #[]) ∧ w'.ownsRow base e 1 v xs.length ((sortU xs).map encU) ∧ Below base W w'
set_option maxRecDepth 100000 in
set_option maxHeartbeats 1000000 in
theorem sortedU_in (L : SrtU P ρ) (n : Nat) (hn : 4 ≤ n) (hsort : SortsU P (ρ.f 9) (ρ.t 26)) (e9 : ∀ args w, (callFunc (ρ.f 9) args).run P w = .ok (.enter (ρ.f 9) args) w) (g : Nat) (lb : Array Value) (eg : ∀ args w, (callFunc g args).run P w = .ok (.enter g args) w)
    (S Sp : List Int → Prop) (N : Nat) (hSN : ∀ xs, S xs → xs.length ≤ N) (hN : N ≤ maxLen) (hNb : N * 8 ≤ 140737488355328) (w : World) (hseq : SeqStopsK Fence.wide (n - 1 - 1 - 1) P g lb (fun x : Int => #[encU x]) KeepsWalks S Sp N w) :
    CallsIn Fence.wide n P (ρ.f 6) #[.func (.func g) #[] lb] w fun e w' => ∃ v xs, e = .returned v ∧ S xs ∧ w'.ownsRow w.heap.size (ρ.t 26) 1 v xs.length ((sortU xs).map encU) ∧ Below w.heap.size w w' := by
  have h1 : 1 ≤ n := by omega
  have hro : Fence.wide.round = none := rfl
  have h8 : Fence.wide.fn (ρ.f 8) := trivial
  have h9 : Fence.wide.fn (ρ.f 9) := trivial
  have e8 : ∀ args w, (callFunc (ρ.f 8) args).run P w = .ok (.enter (ρ.f 8) args) w := L.f8.enters rfl
  have mixed := L.mixed; have t0 := L.t0; have a0 := L.a0; have z0 := L.z0; have v0 := L.v0; have t24 := L.t24; have a24 := L.a24; have z24 := L.z24; have v24 := L.v24; have t26 := L.t26; have a26 := L.a26; have z26 := L.z26; have v26 := L.v26; have t28 := L.t28; have a28 := L.a28; have z28 := L.z28; have v28 := L.v28
  have u0 := run_underlying L.t0; have u24 := run_underlying L.t24; have u26 := run_underlying L.t26; have u28 := run_underlying L.t28
  obtain ⟨_, _, FG⟩ := L.f6
  refine callsIn_of_wp FG rfl trivial ?_ rfl
  simp only [SlBodyZ.n6_ntmps ρ, List.size_toArray, List.length_cons, List.length_nil, Nat.reduceAdd, Nat.reduceSub, Array.replicate_succ, Array.replicate_zero, List.push_toArray, List.append_toArray, List.nil_append, List.cons_append]
  gi_wp2_with (gi_at_fn (ρ.f 8); refine (collectU_in L (n - 1) (by omega) g lb eg S Sp N hN hNb w hseq).mono ?_; rintro e W ⟨v, xs, rfl, hS, hrow, hb⟩)
  have hlen : xs.length * 8 ≤ 140737488355328 := by have := hSN xs hS; omega
  have cS := hsort W w.heap.size v xs hlen hrow hb.size
  gi_wp2_with (gi_at_fn (ρ.f 9); refine (callsIn_wide.2 cS).mono ?_; rintro e w' ⟨rfl, hrow2, hb2⟩)
  go_ret
  exact ⟨_, xs, rfl, hS, hrow2, hb.trans hb2⟩
theorem sortU_perm {xs ys : List Int} (h : xs.Perm ys) : sortU xs = sortU ys := by
  have tr : ∀ a b c : Int, leU a b = true → leU b c = true → leU a c = true := fun a b c h1 h2 => by simp only [leU, decide_eq_true_eq] at *; omega
  have to : ∀ a b : Int, (leU a b || leU b a) = true := fun a b => by simp only [leU, Bool.or_eq_true, decide_eq_true_eq]; omega
  refine List.Perm.eq_of_pairwise (le := fun a b => leU a b = true) (fun a b _ _ h1 h2 => ?_) (List.pairwise_mergeSort tr to xs) (List.pairwise_mergeSort tr to ys) (((List.mergeSort_perm xs leU).trans h).trans (List.mergeSort_perm ys leU).symm)
  simp only [leU, decide_eq_true_eq] at h1 h2
  omega
theorem sortU_len (xs : List Int) : (sortU xs).length = xs.length := List.length_mergeSort ..
end
section
open Go.Proofs
variable {T : Tab} {P : Program} {m : Nat → Value} {X : Nat → Nat → Prop} {h : Hp T} {w : World}
def mkeysU {V : Type} (x : MapD Int V) : List Int := x.es.map fun e => e.2.1
/-- A map that may be. -/
def mwfU {V : Type} (x : MapD Int V) : Bool :=
  decide (x.es.length * 16 ≤ 140737488355328) && decide (∀ k ∈ mkeysU x, 0 ≤ k ∧ k < 18446744073709551616) && (x.es.all fun e => decide (e.1 < x.ck)) && decide (x.es.map (fun e => e.1)).Nodup && decide (mkeysU x).Nodup
theorem mwfU_of {V : Type} {x : MapD Int V} : mwfU x = true ↔ x.es.length * 16 ≤ 140737488355328 ∧ (∀ k ∈ mkeysU x, 0 ≤ k ∧ k < 18446744073709551616) ∧ (∀ e ∈ x.es, e.1 < x.ck) ∧ (x.es.map (fun e => e.1)).Nodup ∧ (mkeysU x).Nodup := by
  simp only [mwfU, Bool.and_eq_true, decide_eq_true_eq, and_assoc, List.all_eq_true]
def asU {V : Type} (x : MapD Int V) : MapD Int V := x
def sortedUOp (g : FuncId) (e : TypeId) : GOp T := fun R av h K => match av, h with
  | [.v (false, [.f g' [(0, 0)]])], [.box t [.m 1], .mp mt (.int .u64) v x none] => bif Nat.beq g' g then (if mwfU (asU (V := den T.S v) x) = true then K (.v (false, [.g 2])) [.box t [.m 1], .mp mt (.int .u64) v x none, .gr e (.int .u64) (sortU (mkeysU (asU (V := den T.S v) x))) false] else none) else none
  | _, _ => none
theorem keysU_all2 {X : Nat → Nat → Prop} {v : Ty} : ∀ {l : List (Nat × Int × den T.S v)} {es : List MapEntry}, All2 (EntR T w X (.int .u64) v) l es → es.map (·.key) = l.map (fun e => encU e.2.1) ∧ es.map (·.born) = l.map (fun e => e.1)
  | [], [], _ => ⟨rfl, rfl⟩
  | e :: l, me :: es, h => by
    obtain ⟨i1, i2⟩ := keysU_all2 h.2
    obtain ⟨q1, q2, _⟩ := h.1
    have q3 : me.key = .int .u64 e.2.1 := q2.inv
    simp only [List.map_cons, i1, i2, q1, q3, and_self]
  | [], _ :: _, h => h.elim
  | _ :: _, [], h => h.elim
theorem row_int {b : Nat} {e : TypeId} {v : Value} {xs : List Int} {w : World} {X : Nat → Nat → Prop} (hr : w.ownsRow 0 e 1 v xs.length (xs.map encU)) : ∃ vs : List Value, w.ownsRow 0 e (flat T (.int .u64)).length v xs.length vs ∧ (∀ (k : Nat) x (j : Nat) d, xs[k]? = some x → (lv T (.int .u64) x)[j]? = some d → ∃ u, vs[k * (flat T (.int .u64)).length + j]? = some u ∧ RD T w X d.1 d.2 u) := by
  refine ⟨xs.map encU, hr, fun k x j d hk hd => ?_⟩
  match j, hd with
  | 0, hd =>
    cases hd
    exact ⟨encU x, by simp [flat, hk], RD.int _ _⟩
  | j + 1, hd => simp [lv] at hd
theorem sortedU_ok {ρk ρs : Go.Shelf.Ren} (Lk : KeysU P ρk) (Ls : SrtU P ρs) (hsort : SortsU P (ρs.f 9) (ρs.t 26)) (e9 : ∀ args w, (callFunc (ρs.f 9) args).run P w = .ok (.enter (ρs.f 9) args) w) : GOk (T := T) P (ρs.f 6) (sortedUOp (ρk.f 10) (ρs.t 26)) := by
  intro R av h K y hop
  unfold sortedUOp at hop
  split at hop
  · rename_i g' t mt v x
    cases hg : Nat.beq g' (ρk.f 10) with
    | false => rw [hg] at hop; cases hop
    | true =>
      have hge := Nat.eq_of_beq_eq_true hg
      subst hge
      rw [hg] at hop
      simp only [cond_true] at hop
      split at hop
      case isFalse => cases hop
      rename_i hwf
      obtain ⟨wf1, wf2, wf3, wf4, wf5⟩ := mwfU_of.1 hwf
      replace wf1 : x.es.length * 16 ≤ 140737488355328 := wf1
      replace wf3 : ∀ e ∈ x.es, e.1 < x.ck := wf3
      refine ⟨_, _, hop, fun m X w rargs hr ha => ?_⟩
      obtain ⟨u, rfl, hv⟩ := ha.one
      obtain ⟨us, h1, h2⟩ := hv
      rw [if_neg (show ¬ (false = true) by decide)] at h2
      subst h2
      obtain ⟨cs, hu, hcs⟩ := h1.1
      obtain ⟨c, rfl, hc0⟩ := hcs.one
      obtain ⟨_, b, hmb, rfl⟩ := hc0
      subst hu
      obtain ⟨b', vs, q1, q2, q3⟩ := hr.ob 0 _ rfl
      have hbb : b' = b := by have := hmb.symm.trans q1; cases this; rfl
      subst hbb
      obtain ⟨mv, rfl, hmv⟩ := q3.one
      obtain ⟨_, rfl, r, hr1⟩ := hmv
      obtain ⟨r', es, p1, p2, p3, _⟩ := hr.ob 1 _ rfl
      have hrr : r' = r := by have := hr1.symm.trans p1; cases this; rfl
      subst hrr
      obtain ⟨k1, k2⟩ := keysU_all2 p3
      have hb : b' < w.heap.size := (Array.getElem?_eq_some_iff.1 q2).1
      have hcell : w.cell? ⟨b', 0, none⟩ = some (.map (some r')) := by simp [World.cell?, q2, p1]
      let Rv : Value → Option (DataW Unit × List MemPlace) := fun _ => some (.nil, [])
      have hkey : ∀ me ∈ es.toList, ∃ n : Int, n ∈ mkeysU (asU (V := den T.S v) x) ∧ me.key = encU n ∧ keyOf P (ρk.t 26) me.key = some (.int .u64 n) := by
        intro me hme
        have hin : me.key ∈ es.toList.map (·.key) := List.mem_map.2 ⟨me, hme, rfl⟩
        rw [k1] at hin
        obtain ⟨e, he, hek⟩ := List.mem_map.1 hin
        have hmem : e.2.1 ∈ mkeysU (asU (V := den T.S v) x) := List.mem_map.2 ⟨e, he, rfl⟩
        refine ⟨e.2.1, hmem, hek.symm, ?_⟩
        rw [← hek]
        have hrng := wf2 _ hmem
        have hwfl : (Lit.int .u64 e.2.1).wf = true := by
          have e1 : IntKind.min .u64 = 0 := by decide
          have e2 : IntKind.max .u64 = 18446744073709551615 := by decide
          simp only [Lit.wf, e1, e2, Bool.and_eq_true, decide_eq_true_eq]
          omega
        simp [keyOf, Lk.t26, mapKey, encU, hwfl]
      have hlen : es.toList.length = x.es.length := by
        have := congrArg List.length k2
        rw [List.length_map] at this
        exact this.trans (List.length_map ..)
      have F : Go.WideElems.Fit P (ρk.t 26) Rv es x.ck := by
        refine ⟨?_, ⟨?_, ?_, ?_⟩, ?_⟩
        · rw [← Array.length_toList, hlen]; unfold maxLen; omega
        · intro me hme
          have hin : me.born ∈ es.toList.map (·.born) := List.mem_map.2 ⟨me, hme, rfl⟩
          rw [k2] at hin
          obtain ⟨e, he, hee⟩ := List.mem_map.1 hin
          rw [← hee]
          exact wf3 e he
        · rw [k2]; exact wf4
        · rw [k1]
          have : (List.map (fun e : Nat × Int × den T.S v => encU e.2.1) x.es) = (mkeysU (asU (V := den T.S v) x)).map encU := by simp only [mkeysU, asU, List.map_map]; rfl
          rw [this]
          exact List.pairwise_map.2 (wf5.imp fun {a b} hab h => hab (encU_inj h))
        · intro me hme
          obtain ⟨s, _, _, hs⟩ := hkey me hme
          exact ⟨_, Go.WideElems.rd_mk (R := Rv) (val := me.val) (born := me.born) hs rfl⟩
      let D0 : DataW Unit := .map ((es.toList.map (Go.WideElems.rg P (ρk.t 26) Rv)).foldr DataW.insert [])
      have hown : w.ownsMap P (ρk.t 26) Rv r' es.size D0 := ⟨es, x.ck, p2, F, Nat.le_refl _, rfl⟩
      have hperm0 := Go.WideShapes.sorted_perm (es.toList.map (Go.WideElems.rg P (ρk.t 26) Rv))
      have hhas : ∀ n : Int, Maps.has D0 (.int .u64 n) = true ↔ n ∈ mkeysU (asU (V := den T.S v) x) := by
        intro n
        show Maps.has (.map ((es.toList.map (Go.WideElems.rg P (ρk.t 26) Rv)).foldr DataW.insert [])) (.int .u64 n) = true ↔ _
        rw [Maps.has_eq, List.any_eq_true]
        constructor
        · rintro ⟨p, hp, hs⟩
          obtain ⟨me, hme, rfl⟩ := List.mem_map.1 (hperm0.mem_iff.1 hp)
          obtain ⟨n', hn', _, hk⟩ := hkey me hme
          have hrg := Go.WideElems.rg_of (Go.WideElems.rd_mk (R := Rv) (val := me.val) (born := me.born) hk rfl)
          rw [show Go.WideElems.rg P (ρk.t 26) Rv me = _ from hrg] at hs
          have hnn : n' = n := by simpa [Lit.sameKey] using hs
          rwa [← hnn]
        · intro hn
          obtain ⟨e, he, rfl⟩ := List.mem_map.1 hn
          have hin : encU e.2.1 ∈ es.toList.map (·.key) := by rw [k1]; exact List.mem_map.2 ⟨e, he, rfl⟩
          obtain ⟨me, hme, hmk⟩ := List.mem_map.1 hin
          obtain ⟨n', hn', hmk', hk⟩ := hkey me hme
          have hrg := Go.WideElems.rg_of (Go.WideElems.rd_mk (R := Rv) (val := me.val) (born := me.born) hk rfl)
          refine ⟨_, hperm0.mem_iff.2 (List.mem_map.2 ⟨me, hme, rfl⟩), ?_⟩
          rw [show Go.WideElems.rg P (ρk.t 26) Rv me = _ from hrg]
          have hnn : n' = e.2.1 := encU_inj (hmk'.symm.trans hmk)
          simp [Lit.sameKey, hnn]
      have hsize : Maps.size D0 = x.es.length := by
        show ((es.toList.map (Go.WideElems.rg P (ρk.t 26) Rv)).foldr DataW.insert []).length = _
        rw [hperm0.length_eq, List.length_map, hlen]
      have hP : ∀ xs : List Int, (xs.Nodup ∧ ∀ n, n ∈ xs ↔ Maps.has D0 (.int .u64 n) = true) → xs.Perm (mkeysU (asU (V := den T.S v) x)) := fun xs hx => (List.perm_ext_iff_of_nodup hx.1 wf5).2 fun n => (hx.2 n).trans (hhas n)
      have hL : (mkeysU (asU (V := den T.S v) x)).length = x.es.length := List.length_map ..
      have hseq := keysU_stops Lk 2 (by omega) b' r' es.size D0 w hb hcell hown
      have cS := sortedU_in Ls 5 (by omega) hsort e9 (ρk.f 10) #[.pointer (some ⟨b', 0, none⟩)] (Lk.f10.enters rfl) _ _ (Maps.size D0) (fun xs hx => by rw [(hP xs hx).length_eq, hL, hsize]; exact Nat.le_refl _) (by rw [hsize]; unfold maxLen; omega) (by rw [hsize]; omega) w hseq
      refine ((callsIn_wide (n := 5)).1 cS).mono ?_
      rintro e' w' ⟨rv, xs, rfl, hxs, hrow, hbel⟩
      have hsl : ∃ A l c, rv = .slice A l c := by
        rcases hrow.2 with ⟨h0, _⟩ | ⟨g, cap, cur, h0, _⟩
        · exact ⟨_, _, _, h0⟩
        · exact ⟨_, _, _, h0⟩
      have hblk : ∀ b, Blk rv b → w.heap.size ≤ b := by
        intro b hb
        rcases hrow.2 with ⟨h0, _⟩ | ⟨g, cap, cur, h0, hbg, _⟩
        · rw [h0] at hb; cases hb
        · rw [h0] at hb; simp [Blk, blk] at hb; omega
      have hsorted : sortU (mkeysU (asU (V := den T.S v) x)) = sortU xs := (sortU_perm (hP xs hxs)).symm
      have hgrow : w.grownBy w' none := ⟨hbel.os, hbel.tape, hbel.output, hbel.size, fun k hk _ => hbel.block k hk⟩
      have hp := push_ok' hr (h1 := [.box t [.m 1], .mp mt (.int .u64) v x none]) rfl (fun _ _ h2 => .inr h2) (row := none) (fun _ _ _ _ _ _ => by simp) (fun b hb => by cases hb) (v := rv) (o0 := .gr (ρs.t 26) (.int .u64) (sortU (mkeysU (asU (V := den T.S v) x))) false) hgrow
        (fun b hb => .inr (hblk b hb)) (fun b o hx => World.cell?_of_block (hbel.block b (hr.lt b o hx)))
        (fun on => by
          rw [hsorted]
          have h8 : w'.ownsRow 0 (ρs.t 26) 1 rv (sortU xs).length ((sortU xs).map encU) := by rw [sortU_len]; exact ownsRow_base_a hrow (Nat.zero_le _)
          have h9 := row_int (T := T) (b := 0) (X := X) h8
          show ∃ vs : List Value, _
          rw [updM_same]
          exact h9)
        (fun b hb o hx => absurd (hr.lt b o hx) (by have := hblk b hb; omega))
      exact ⟨rv, _, X, rfl, AR_one.2 ⟨by simp, (updM_same _ _ _).symm, hsl⟩, hp.1, hp.2.1⟩
  · cases hop
theorem ownsRow_int {W : World} {e : TypeId} {v : Value} {xs : List Int} {vs : List Value} {X : Nat → Nat → Prop} (h1 : W.ownsRow 0 e 1 v xs.length vs)
    (h2 : ∀ (k : Nat) x (j : Nat) d, xs[k]? = some x → (lv T (.int .u64) x)[j]? = some d → ∃ u, vs[k * (flat T (.int .u64)).length + j]? = some u ∧ RD T W X d.1 d.2 u) : vs = xs.map encU := by
  refine List.ext_getElem? fun k => ?_
  have hl : vs.length = xs.length := by have := h1.1; omega
  by_cases hk : k < xs.length
  · obtain ⟨u, h3, h4⟩ := h2 k xs[k] 0 ⟨.int .u64, xs[k]⟩ (List.getElem?_eq_getElem hk) rfl
    have h5 : vs[k]? = some u := by simpa [flat] using h3
    have h6 : u = .int .u64 xs[k] := RD.inv h4
    rw [h5, List.getElem?_map, List.getElem?_eq_getElem hk, h6]
    rfl
  · rw [List.getElem?_eq_none (by omega), List.getElem?_eq_none (by simp; omega)]
/-- Out of a function that the evaluator went through. -/
theorem sortsU_of {tb : List (FuncId × Fx)} {key : Nat} {row : FuncId × Fx} {e : TypeId} {Fn : List (DL T) → Option (HL T.S (fxAt tb key).tout)} (hS : Snd P tb key Fn) (hrow : nth tb key = some row)
    (hF : ∀ xs : List Int, xs.length * 8 ≤ 140737488355328 → ∃ y, Fn [⟨.sl e (.int .u64), xs⟩] = some y ∧ Fx.take (T := T) (fxAt tb key) [.v (false, [.g 0])] [.gr e (.int .u64) xs false] = some [⟨.sl e (.int .u64), xs⟩] ∧
      Fx.back (T := T) (fxAt tb key) y = some (.t [], [.gr e (.int .u64) (sortU xs) false])) : SortsU P row.1 e := by
  intro W base v xs hlen hown hbase
  obtain ⟨y, hy, ht, hbk⟩ := hF xs hlen
  have hown0 : W.ownsRow 0 e 1 v xs.length (xs.map encU) := ownsRow_base_a hown (Nat.zero_le _)
  have hsl : ∃ A l c, v = .slice A l c := by
    rcases hown.2 with ⟨h0, _⟩ | ⟨g, cap, cur, h0, _⟩
    · exact ⟨_, _, _, h0⟩
    · exact ⟨_, _, _, h0⟩
  have hblk : ∀ b, Blk v b → base ≤ b := by
    intro b hb
    rcases hown.2 with ⟨h0, _⟩ | ⟨g, cap, cur, h0, hbg, _⟩
    · rw [h0] at hb; cases hb
    · rw [h0] at hb; simp [Blk, blk] at hb; omega
  have one : ∀ {i : Nat} {o : Ob T}, ([.gr e (.int .u64) xs false] : Hp T)[i]? = some o → i = 0 ∧ o = .gr e (.int .u64) xs false := by
    intro i o hi
    match i, hi with
    | 0, hi => cases hi; exact ⟨rfl, rfl⟩
    | i + 1, hi => simp at hi
  have rel : Rel T (fun _ => v) (fun _ _ => False) [.gr e (.int .u64) xs false] W := by
    refine ⟨fun i o hi => ?_, fun i j o o' hi hj hij => ?_, fun _ _ hf => hf.elim, fun i t l hi => ?_, fun i e t x s hi b hb o hx => hx.elim, fun i e t hi => ?_⟩
    · obtain ⟨rfl, rfl⟩ := one hi
      exact row_int (b := 0) hown0
    · exact absurd ((one hi).1.trans (one hj).1.symm) hij
    · cases (one hi).2
    · cases (one hi).2
  have harg : All2 (AR (T := T) (fun _ => v) (fun _ _ => False) ([.gr e (.int .u64) xs false] : Hp T).length W) [.v (false, [.g 0])] [v] := ⟨AR_one.2 ⟨by simp, rfl, hsl⟩, trivial⟩
  refine (hS row hrow _ y hy _ _ _ _ ht hbk _ _ W [v] rel harg).mono ?_
  rintro E w' ⟨rv, m', X', rfl, hv, hr', hf⟩
  obtain ⟨us, h1, rfl⟩ := hv
  have hus : us = [] := by cases us with | nil => rfl | cons u us => exact h1.elim
  subst hus
  obtain ⟨vs, h2, h3⟩ := hr'.ob 0 _ rfl
  rw [hf.on.mm 0 (by simp)] at h2
  have h4 := ownsRow_int (T := T) h2 h3
  subst h4
  replace h2 : w'.ownsRow 0 e 1 v xs.length ((sortU xs).map encU) := by have h9 : w'.ownsRow 0 e 1 v (List.length (α := Int) (sortU xs)) ((sortU xs).map encU) := h2; rw [sortU_len] at h9; exact h9
  refine ⟨rfl, ?_, ⟨hf.os, hf.tape, hf.output, hf.size, fun k hk => hf.old k (by omega) ?_⟩⟩
  · refine ⟨h2.1, ?_⟩
    rcases h2.2 with h5 | ⟨g, cap, cur, h5, _, h6⟩
    · exact .inl h5
    · exact .inr ⟨g, cap, cur, h5, hblk g (by rw [h5]; rfl), h6⟩
  · rintro ⟨i, o, hi, _, hb⟩
    have := hblk k hb
    omega
end
end Go.Proofs.Ytckafnfidjfhjaa.Rx
