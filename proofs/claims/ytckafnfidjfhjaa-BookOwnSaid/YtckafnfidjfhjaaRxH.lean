/- A plain evaluator over the translated code: functions that are given: a map's copy; a map's keys, sorted. Under no condition. -/
import Derived.Test.YtckafnfidjfhjaaRxG
import Derived.Shelf.SlMaps.Clone
import Derived.Shelf.SlIter.Sorted
import Derived.Shelf.SlIter.Keys
set_option linter.unusedVariables false
set_option linter.unusedSimpArgs false
namespace Go.Proofs.Ytckafnfidjfhjaa.Rx
open Go Go.RowKit

section
variable {T : Tab} {P : Program} {m : Nat → Value} {X : Nat → Nat → Prop} {h : Hp T} {w : World}
def cloneOp : GOp T := fun R av h K => match av, h with
  | [.v (false, [.m 0])], [.mp mt k v x none] => K (.v (false, [.m 1])) [.mp mt k v x none, .mp mt k v x none]
  | _, _ => none
theorem clone_ok {ρ : Go.Shelf.Ren} (L : Go.Proofs.SlLaysW.n5 P ρ) : GOk (T := T) P (ρ.f 5) cloneOp := by
  intro R av h K y hop
  unfold cloneOp at hop
  split at hop
  · rename_i mt k v x
    refine ⟨_, _, hop, fun m X w rargs hr ha => ?_⟩
    obtain ⟨u, rfl, hv⟩ := ha.one
    obtain ⟨us, h1, h2⟩ := hv
    rw [if_neg (show ¬ (false = true) by decide)] at h2
    subst h2
    obtain ⟨_, rfl, _⟩ := h1.1
    obtain ⟨r, es, q1, q2, q3, _⟩ := hr.ob 0 _ rfl
    rw [show [m 0].toArray = #[.map (some r)] from by rw [q1]]
    refine (Go.Proofs.AnyW.maps_Clone L r es x.ck w q2).mono ?_
    rintro e' w' ⟨rfl, rfl⟩
    have hp := push_ok hr (h1 := [.mp mt k v x none]) rfl (fun _ _ h2 => .inr h2) (row := none) (fun _ _ _ _ _ _ => by simp) (fun b hb => by cases hb) (v := .map (some w.heap.size)) (o0 := .mp mt k v x none) (grown_alloc w (.map es x.ck))
      (fun b hb => by cases hb; exact .inr rfl) (cell_alloc hr (.map es x.ck))
      (fun on => ⟨w.heap.size, es, updM_same _ _ _, heap_alloc_new w _, q3.imp (fun _ _ q => q.mono on.ww on.xx), trivial⟩) trivial
    exact ⟨_, _, X, rfl, AR_one.2 ⟨by simp, (updM_same _ _ _).symm, w.heap.size, rfl⟩, hp.1, hp.2.1⟩
  · cases hop

/-! ### keys, sorted -/
def mkeys {V : Type} (x : MapD ByteArray V) : List ByteArray := x.es.map fun e => e.2.1
/-- A map that may be: of so many entries, with stamps, each key once. -/
def mwf {V : Type} (x : MapD ByteArray V) : Bool :=
  decide (x.es.length * 16 ≤ 140737488355328) && decide (∀ k ∈ mkeys x, k.size ≤ 9223372036854775807) && (x.es.all fun e => decide (e.1 < x.ck)) && decide (x.es.map (fun e => e.1)).Nodup && decide (mkeys x).Nodup
theorem mwf_of {V : Type} {x : MapD ByteArray V} : mwf x = true ↔ x.es.length * 16 ≤ 140737488355328 ∧ (∀ k ∈ mkeys x, k.size ≤ 9223372036854775807) ∧ (∀ e ∈ x.es, e.1 < x.ck) ∧ (x.es.map (fun e => e.1)).Nodup ∧ (mkeys x).Nodup := by
  simp only [mwf, Bool.and_eq_true, decide_eq_true_eq, and_assoc, List.all_eq_true]
def asS {V : Type} (x : MapD ByteArray V) : MapD ByteArray V := x
def sortedOp (g : FuncId) (e : TypeId) : GOp T := fun R av h K => match av, h with
  | [.v (false, [.f g' [(0, 0)]])], [.box t [.m 1], .mp mt .str v x none] => bif Nat.beq g' g then (if mwf (asS (V := den T.S v) x) = true then K (.v (false, [.g 2])) [.box t [.m 1], .mp mt .str v x none, .gr e .str (sortS (mkeys (asS (V := den T.S v) x))) false] else none) else none
  | _, _ => none
theorem keys_all2 {X : Nat → Nat → Prop} {v : Ty} : ∀ {l : List (Nat × ByteArray × den T.S v)} {es : List MapEntry}, All2 (EntR T w X .str v) l es → es.map (·.key) = l.map (fun e => Value.string e.2.1) ∧ es.map (·.born) = l.map (fun e => e.1)
  | [], [], _ => ⟨rfl, rfl⟩
  | e :: l, me :: es, h => by
    obtain ⟨i1, i2⟩ := keys_all2 h.2
    obtain ⟨q1, q2, _⟩ := h.1
    have q3 : me.key = .string e.2.1 := q2.inv
    simp only [List.map_cons, i1, i2, q1, q3, and_self]
  | [], _ :: _, h => h.elim
  | _ :: _, [], h => h.elim
def kvB : Value → List UInt8
  | .string s => toB s | _ => []
theorem kvB_map {A : Type} : ∀ l : List (Nat × ByteArray × A), (l.map fun e => e.2.1).map toB = (l.map fun e => Value.string e.2.1).map kvB
  | [] => rfl
  | e :: l => by simp only [List.map_cons, kvB_map l, kvB]
open Go.Proofs in
theorem sorted_ok {ρk ρs ρ : Go.Shelf.Ren} (Lk : SlLaysZ.n10 P ρk) (Ls : SlLaysZ.n6 P ρs) (L : Lays.n190 P ρ) (h9 : ρs.f 9 = ρ.f 190) (e9 : ∀ args w, (callFunc (ρs.f 9) args).run P w = .ok (.enter (ρs.f 9) args) w) : GOk (T := T) P (ρs.f 6) (sortedOp (ρk.f 10) (ρs.t 26)) := by
  intro R av h K y hop
  unfold sortedOp at hop
  split at hop
  · rename_i g' t mt v x
    cases hg : Nat.beq g' (ρk.f 10) with
    | false => rw [hg] at hop; cases hop
    | true =>
      have hge := Nat.eq_of_beq_eq_true hg
      subst hge
      rw [hg] at hop
      simp only [cond_true] at hop
      split at hop
      case isFalse => cases hop
      rename_i hwf
      obtain ⟨wf1, wf2, wf3, wf4, wf5⟩ := mwf_of.1 hwf
      replace wf1 : x.es.length * 16 ≤ 140737488355328 := wf1
      replace wf3 : ∀ e ∈ x.es, e.1 < x.ck := wf3
      refine ⟨_, _, hop, fun m X w rargs hr ha => ?_⟩
      obtain ⟨u, rfl, hv⟩ := ha.one
      obtain ⟨us, h1, h2⟩ := hv
      rw [if_neg (show ¬ (false = true) by decide)] at h2
      subst h2
      obtain ⟨cs, hu, hcs⟩ := h1.1
      obtain ⟨c, rfl, hc0⟩ := hcs.one
      obtain ⟨_, b, hmb, rfl⟩ := hc0
      subst hu
      obtain ⟨b', vs, q1, q2, q3⟩ := hr.ob 0 _ rfl
      have hbb : b' = b := by have := hmb.symm.trans q1; cases this; rfl
      subst hbb
      obtain ⟨mv, rfl, hmv⟩ := q3.one
      obtain ⟨_, rfl, r, hr1⟩ := hmv
      obtain ⟨r', es, p1, p2, p3, _⟩ := hr.ob 1 _ rfl
      have hrr : r' = r := by have := hr1.symm.trans p1; cases this; rfl
      subst hrr
      obtain ⟨k1, k2⟩ := keys_all2 p3
      have hb : b' < w.heap.size := by
        rcases Nat.lt_or_ge b' w.heap.size with h | h
        · exact h
        · rw [Array.getElem?_eq_none h] at q2; cases q2
      have hcell : w.cell? ⟨b', 0, none⟩ = some (.map (some r')) := by simp [World.cell?, q2, p1]
      let Rv : Value → Option (DataW Unit × List MemPlace) := fun _ => some (.nil, [])
      have hkey : ∀ me ∈ es.toList, ∃ s : ByteArray, me.key = .string s ∧ keyOf P (ρk.t 26) me.key = some (.string s.data.toList) := by
        intro me hme
        have hin : me.key ∈ es.toList.map (·.key) := List.mem_map.2 ⟨me, hme, rfl⟩
        rw [k1] at hin
        obtain ⟨e, he, hek⟩ := List.mem_map.1 hin
        refine ⟨e.2.1, hek.symm, ?_⟩
        rw [← hek]
        exact Go.WideMaps.keyOf_string_mk Lk.t26 (wf2 _ (List.mem_map.2 ⟨e, he, rfl⟩))
      have hlen : es.toList.length = x.es.length := by
        have := congrArg List.length k2
        rw [List.length_map] at this
        exact this.trans (List.length_map ..)
      have F : Go.WideElems.Fit P (ρk.t 26) Rv es x.ck := by
        refine ⟨?_, ⟨?_, ?_, ?_⟩, ?_⟩
        · rw [← Array.length_toList, hlen]; unfold maxLen; omega
        · intro me hme
          have hin : me.born ∈ es.toList.map (·.born) := List.mem_map.2 ⟨me, hme, rfl⟩
          rw [k2] at hin
          obtain ⟨e, he, hee⟩ := List.mem_map.1 hin
          rw [← hee]
          exact wf3 e he
        · rw [k2]; exact wf4
        · rw [k1]
          have : (List.map (fun e : Nat × ByteArray × den T.S v => Value.string e.2.1) x.es) = (mkeys (asS (V := den T.S v) x)).map Value.string := by simp only [mkeys, asS, List.map_map]; rfl
          rw [this]
          exact List.pairwise_map.2 (wf5.imp fun {a b} hab h => hab (by cases h; rfl))
        · intro me hme
          obtain ⟨s, _, hs⟩ := hkey me hme
          exact ⟨_, Go.WideElems.rd_mk (R := Rv) (val := me.val) (born := me.born) hs rfl⟩
      let D0 : DataW Unit := .map ((es.toList.map (Go.WideElems.rg P (ρk.t 26) Rv)).foldr DataW.insert [])
      have hown : w.ownsMap P (ρk.t 26) Rv r' es.size D0 := ⟨es, x.ck, p2, F, Nat.le_refl _, rfl⟩
      have hperm : (strKeys D0).Perm ((mkeys (asS (V := den T.S v) x)).map toB) := by
        have e1 : (mkeys (asS (V := den T.S v) x)).map toB = (es.toList.map (Go.WideElems.rg P (ρk.t 26) Rv)).map fun p => Go.strOf p.1 := by
          have e2 : (es.toList.map (Go.WideElems.rg P (ρk.t 26) Rv)).map (fun p => Go.strOf p.1) = (es.toList.map (·.key)).map kvB := by
            rw [List.map_map, List.map_map]
            refine List.map_congr_left fun me hme => ?_
            obtain ⟨s, hs1, hs2⟩ := hkey me hme
            have := Go.WideElems.rg_of (Go.WideElems.rd_mk (R := Rv) (val := me.val) (born := me.born) hs2 rfl)
            show Go.strOf (Go.WideElems.rg P (ρk.t 26) Rv me).1 = _
            rw [show Go.WideElems.rg P (ρk.t 26) Rv me = _ from this]
            simp only [Function.comp_apply, hs1]
            rfl
          rw [e2, k1]
          exact kvB_map _
        rw [e1]
        exact (Go.WideShapes.sorted_perm _).map _
      have hsize : Maps.size D0 = x.es.length := by
        have := (Go.WideShapes.sorted_perm (es.toList.map (Go.WideElems.rg P (ρk.t 26) Rv))).length_eq
        show ((es.toList.map (Go.WideElems.rg P (ρk.t 26) Rv)).foldr DataW.insert []).length = _
        rw [this, List.length_map, hlen]
      have hsort : ∀ n, AnyZ.SortsIn P ρs Fence.wide n := fun n =>
        ⟨fun blk off cap ss W hH hblk hsz => by rw [h9]; exact callsIn_wide.2 (Any.slices_Sort_string L blk off cap ss W hH hblk hsz),
         fun p cap W => by rw [h9]; exact callsIn_wide.2 (calls_of_every_depth fun D => AnyS.slices_Sort_string_none_in L D p cap W)⟩
      have hseq := AnyZ.keys_gives Lk Fence.wide 2 trivial rfl (by omega) b' r' es.size D0 w hb hcell hown
      have cS := AnyZ.sorted_in Ls Fence.wide 5 trivial trivial trivial trivial rfl (by omega) (hsort _) e9 (ρk.f 10) #[.pointer (some ⟨b', 0, none⟩)] trivial (Lk.f10.enters rfl) _ _ (by rw [hsize]; unfold maxLen; omega) (by rw [hsize]; exact wf1) w hseq
      refine ((callsIn_wide (n := 5)).1 cS).mono ?_
      rintro e' w' ⟨rv, ss, rfl, hss, hrow, hnil, hbel⟩
      have hsl : ∃ A l c, rv = .slice A l c := by
        rcases hrow.2 with ⟨h0, _⟩ | ⟨g, cap, cur, h0, _⟩
        · exact ⟨_, _, _, h0⟩
        · exact ⟨_, _, _, h0⟩
      have hblk : ∀ b, Blk rv b → w.heap.size ≤ b := by
        intro b hb
        rcases hrow.2 with ⟨h0, _⟩ | ⟨g, cap, cur, h0, hbg, _⟩
        · rw [h0] at hb; cases hb
        · rw [h0] at hb; simp [Blk, blk] at hb; omega
      have hsorted : sortS (mkeys (asS (V := den T.S v) x)) = (ss.mergeSort fun x y => decide (x ≤ y)).map ofB := by
        unfold sortS
        rw [mergeSort_of_perm (hss.trans hperm)]
      have hgrow : w.grownBy w' none := ⟨hbel.os, hbel.tape, hbel.output, hbel.size, fun k hk _ => hbel.block k hk⟩
      have hp := push_ok' hr (h1 := [.box t [.m 1], .mp mt .str v x none]) rfl (fun _ _ h2 => .inr h2) (row := none) (fun _ _ _ _ _ _ => by simp) (fun b hb => by cases hb) (v := rv) (o0 := .gr (ρs.t 26) .str (sortS (mkeys (asS (V := den T.S v) x))) false) hgrow
        (fun b hb => .inr (hblk b hb)) (fun b o hx => World.cell?_of_block (hbel.block b (hr.lt b o hx)))
        (fun on => by
          rw [hsorted]
          refine row_str (updM_same _ _ _) ?_
          rw [List.length_mergeSort]
          exact ownsRow_base_a hrow (Nat.zero_le _))
        (fun b hb o hx => absurd (hr.lt b o hx) (by have := hblk b hb; omega))
      exact ⟨rv, _, X, rfl, AR_one.2 ⟨by simp, (updM_same _ _ _).symm, hsl⟩, hp.1, hp.2.1⟩
  · cases hop
end
end Go.Proofs.Ytckafnfidjfhjaa.Rx
