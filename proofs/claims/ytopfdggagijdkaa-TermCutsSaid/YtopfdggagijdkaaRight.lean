/- Whether a term may be: what the program answers. Under no condition. -/
import Derived.Test.YtopfdggagijdkaaGFit
import Derived.Test.YtopfdggagijdkaaRightS
set_option linter.unusedVariables false
set_option linter.unusedSimpArgs false
namespace Go.Proofs.Ytopfdggagijdkaa.Pure
open Go.RowKit Go.Proofs.Ytopfdggagijdkaa.F Go.Proofs.Ytopfdggagijdkaa.Open Go.Proofs.Ytopfdggagijdkaa.Aid Go.Proofs.YtopfdggagijdkaaW.PrintWords Go.Proofs.YtopfdggagijdkaaW.PrintLast Go.Proofs.YtopfdggagijdkaaW.PrintMore

theorem parts_l0 (l : List S25) (hl : l.length ≤ 2513169434843) (ih : ∀ y ∈ l, ∀ most : Nat, 1 ≤ most → most ≤ 9223372036854775807 → Ev (fun k => term_parts.f k y.f0 y.f1 y.f2 y.f3 (most : Int)) ((min (parts y) most : Nat) : Int)) (most : Nat) (hm : 1 ≤ most) (hm2 : most ≤ 9223372036854775807) (d : Nat) :
    ∀ i n : Nat, i ≤ l.length → l.length - i = d → n ≤ most → Ev (fun k => term_parts.l0 k (most : Int) (n : Int) l (l.length : Int) (i : Int)) ((min (n + partsL (l.drop i)) most : Nat) : Int) := by
  induction d with
  | zero =>
    intro i n hi hd hn
    refine Ev.suc ?_
    have c : ¬ (i : Int) < (l.length : Int) := by omega
    simp only [term_parts.l0, if_neg c]
    rw [List.drop_eq_nil_of_le (by omega), partsL]
    refine Ev.const ?_
    congr 2
    omega
  | succ d ihd =>
    intro i n hi hd hn
    have hlt : i < l.length := by omega
    refine Ev.suc ?_
    have a1 : (i : Int) < (l.length : Int) := by omega
    have a2 : 0 ≤ (i : Int) := by omega
    rw [List.drop_eq_getElem_cons hlt, partsL]
    by_cases a3 : n ≥ most
    · have a4 : (n : Int) ≥ (most : Int) := by omega
      simp only [term_parts.l0, if_pos a1, if_pos a2, if_pos a4]
      refine Ev.const ?_
      congr 2
      omega
    · have a4 : ¬ (n : Int) ≥ (most : Int) := by omega
      simp only [term_parts.l0, if_pos a1, if_pos a2, if_neg a4, rdT hlt]
      have e1 : wrap64 ((most : Int) - (n : Int)) = ((most - n : Nat) : Int) := by rw [w64 (by omega) (by omega)]; omega
      rw [e1]
      refine Ev.bind (ih _ (List.getElem_mem hlt) (most - n) (by omega) (by omega)) ?_
      have e2 : wrap64 ((n : Int) + ((min (parts l[i]) (most - n) : Nat) : Int)) = ((min (n + parts l[i]) most : Nat) : Int) := by rw [w64 (by omega) (by omega)]; omega
      rw [e2, w64s (n := 2513169434916) (by omega) (by omega)]
      have := ihd (i + 1) (min (n + parts l[i]) most) (by omega) (by omega) (by omega)
      rw [show min (n + (parts l[i] + partsL (l.drop (i + 1)))) most = min (min (n + parts l[i]) most + partsL (l.drop (i + 1))) most from by omega]
      exact this
theorem parts_ev {x : S25} (h : ok25 x) : ∀ most : Nat, 1 ≤ most → most ≤ 9223372036854775807 → Ev (fun k => term_parts.f k x.f0 x.f1 x.f2 x.f3 (most : Int)) ((min (parts x) most : Nat) : Int) := by
  induction h with
  | @mk x h0 h1 h2 h3 h4 h5 ih =>
    intro most hm hm2
    refine Ev.suc ?_
    simp only [term_parts.f]
    rw [parts_eq]
    exact parts_l0 x.f3 (by omega) ih most hm hm2 _ 0 1 (by omega) rfl (by omega)
theorem deep_l0 (l : List S25) (hl : l.length ≤ 2513169434843) (ih : ∀ y ∈ l, ∀ most : Nat, 1 ≤ most → most ≤ 9223372036854775807 → Ev (fun k => term_deep.f k y.f0 y.f1 y.f2 y.f3 (most : Int)) ((min (depth y) most : Nat) : Int)) (most : Nat) (hm : 1 < most) (hm2 : most ≤ 9223372036854775807) (d : Nat) :
    ∀ i n : Nat, i ≤ l.length → l.length - i = d → n ≤ most - 1 → Ev (fun k => term_deep.l0 k (most : Int) (n : Int) l (l.length : Int) (i : Int)) ((min (1 + max n (depthL (l.drop i))) most : Nat) : Int) := by
  induction d with
  | zero =>
    intro i n hi hd hn
    refine Ev.suc ?_
    have c : ¬ (i : Int) < (l.length : Int) := by omega
    simp only [term_deep.l0, if_neg c]
    rw [List.drop_eq_nil_of_le (by omega), depthL]
    refine Ev.const ?_
    rw [w64 (by omega) (by omega)]
    congr 1
    omega
  | succ d ihd =>
    intro i n hi hd hn
    have hlt : i < l.length := by omega
    refine Ev.suc ?_
    have a1 : (i : Int) < (l.length : Int) := by omega
    have a2 : 0 ≤ (i : Int) := by omega
    rw [List.drop_eq_getElem_cons hlt, depthL]
    simp only [term_deep.l0, if_pos a1, if_pos a2, rdT hlt]
    have e1 : wrap64 ((most : Int) - 1) = ((most - 1 : Nat) : Int) := by rw [w64 (by omega) (by omega)]; omega
    rw [e1]
    refine Ev.bind (ih _ (List.getElem_mem hlt) (most - 1) (by omega) (by omega)) ?_
    have e2 : mx (n : Int) ((min (depth l[i]) (most - 1) : Nat) : Int) = ((max n (min (depth l[i]) (most - 1)) : Nat) : Int) := by unfold mx; split <;> omega
    rw [e2, w64s (n := 2513169434916) (by omega) (by omega)]
    have := ihd (i + 1) (max n (min (depth l[i]) (most - 1))) (by omega) (by omega) (by omega)
    rw [show min (1 + max n (max (depth l[i]) (depthL (l.drop (i + 1))))) most = min (1 + max (max n (min (depth l[i]) (most - 1))) (depthL (l.drop (i + 1)))) most from by omega]
    exact this
theorem deep_ev {x : S25} (h : ok25 x) : ∀ most : Nat, 1 ≤ most → most ≤ 9223372036854775807 → Ev (fun k => term_deep.f k x.f0 x.f1 x.f2 x.f3 (most : Int)) ((min (depth x) most : Nat) : Int) := by
  induction h with
  | @mk x h0 h1 h2 h3 h4 h5 ih =>
    intro most hm hm2
    refine Ev.suc ?_
    by_cases c : most > 1
    · have c2 : (most : Int) > 1 := by omega
      simp only [term_deep.f, if_pos c2]
      have := deep_l0 x.f3 (by omega) ih most c hm2 _ 0 0 (by omega) rfl (by omega)
      rw [depth_eq]
      rw [List.drop_zero, show max 0 (depthL x.f3) = depthL x.f3 from by omega] at this
      exact this
    · have c2 : ¬ (most : Int) > 1 := by omega
      simp only [term_deep.f, if_neg c2]
      refine Ev.const ?_
      have := depth_pos x
      congr 1
      omega
theorem index_l0 (l : List S25) (hl : l.length ≤ 2513169434843) (ih : ∀ y ∈ l, Ev (fun k => term_shaped.f k y.f0 y.f1 y.f2 y.f3) (shp y)) (d : Nat) :
    ∀ i : Nat, i ≤ l.length → l.length - i = d → ∃ r : Int, Ev (fun k => slices_IndexFunc_68.l0 k l (l.length : Int) (i : Int)) r ∧ (decide (r ≥ 0) = !shpL (l.drop i)) := by
  induction d with
  | zero =>
    intro i hi hd
    refine ⟨-1, Ev.suc ?_, ?_⟩
    · have c : ¬ (i : Int) < (l.length : Int) := by omega
      simp only [slices_IndexFunc_68.l0, if_neg c]
      exact Ev.now _
    · rw [List.drop_eq_nil_of_le (by omega), shpL]
      rfl
  | succ d ihd =>
    intro i hi hd
    have hlt : i < l.length := by omega
    have a1 : (i : Int) < (l.length : Int) := by omega
    have a2 : 0 ≤ (i : Int) := by omega
    rw [List.drop_eq_getElem_cons hlt, shpL]
    have h1 : Ev (fun k => term_shaped_1_68.f k l[i].f0 l[i].f1 l[i].f2 l[i].f3) (!shp l[i]) := by
      refine Ev.suc ?_
      simp only [term_shaped_1_68.f]
      exact Ev.bind (ih _ (List.getElem_mem hlt)) (Ev.now _)
    cases hs : shp l[i] with
    | false =>
      rw [hs] at h1
      refine ⟨i, Ev.suc ?_, by simp⟩
      simp only [slices_IndexFunc_68.l0, if_pos a1, if_pos a2, rdT hlt]
      refine Ev.bind h1 ?_
      simp only [Bool.not_false, if_true]
      exact Ev.now _
    | true =>
      rw [hs] at h1
      obtain ⟨r, hr, hr2⟩ := ihd (i + 1) (by omega) (by omega)
      refine ⟨r, Ev.suc ?_, by simpa using hr2⟩
      simp only [slices_IndexFunc_68.l0, if_pos a1, if_pos a2, rdT hlt]
      refine Ev.bind h1 ?_
      simp only [Bool.not_true, Bool.false_eq_true, if_false]
      rw [w64s (n := 2513169434916) (by omega) (by omega)]
      exact hr
theorem contains_ev (l : List S25) (hl : l.length ≤ 2513169434843) (ih : ∀ y ∈ l, Ev (fun k => term_shaped.f k y.f0 y.f1 y.f2 y.f3) (shp y)) : Ev (fun k => slices_ContainsFunc_68.f k l) (!shpL l) := by
  obtain ⟨r, hr, hr2⟩ := index_l0 l hl ih _ 0 (by omega) rfl
  refine Ev.suc ?_
  simp only [slices_ContainsFunc_68.f]
  rw [List.drop_zero] at hr2
  have : Ev (fun k => slices_IndexFunc_68.f k l) r := by
    refine Ev.suc ?_
    simp only [slices_IndexFunc_68.f]
    exact hr
  refine Ev.bind this ?_
  rw [hr2]
  exact Ev.now _
theorem shaped_ev {x : S25} (h : ok25 x) : Ev (fun k => term_shaped.f k x.f0 x.f1 x.f2 x.f3) (shp x) := by
  induction h with
  | @mk x h0 h1 h2 h3 h4 h5 ih =>
    have hc := contains_ev x.f3 (by omega) ih
    have key : ∀ b : Bool, b = decide (x.f0 = 1 ∨ x.f0 = 3) → Ev (fun k => term_shaped.j0 k false x.f0 b x.f0 x.f1 x.f2 x.f3) (shp x) := by
      intro b hb
      refine Ev.suc ?_
      simp only [term_shaped.j0, hb, decide_eq_true_eq, toList_nil_iff]
      rw [shp_eq, one]
      have fin : Ev (fun k => (slices_ContainsFunc_68.f k x.f3).bind fun t => some (!t)) (shpL x.f3) := by
        have := Ev.bind (f := fun _ t => some (!t)) (r := shpL x.f3) hc (by simpa using Ev.now (shpL x.f3))
        exact this
      by_cases c13 : x.f0 = 1 ∨ x.f0 = 3
      · simp only [if_pos c13]
        by_cases d1 : bytesOf x.f2 = []
        · by_cases d2 : x.f3.length = 0
          · have d3 : (x.f3.length : Int) = 0 := by omega
            simp only [if_pos d1, if_pos d3, decide_eq_true (And.intro d1 d2), Bool.true_and]
            exact fin
          · have d3 : ¬ (x.f3.length : Int) = 0 := by omega
            simp only [if_pos d1, if_neg d3, decide_eq_false (show ¬ (bytesOf x.f2 = [] ∧ x.f3.length = 0) from fun h => d2 h.2), Bool.false_and]
            exact Ev.now _
        · simp only [if_neg d1, decide_eq_false (show ¬ (bytesOf x.f2 = [] ∧ x.f3.length = 0) from fun h => d1 h.1), Bool.false_and]
          exact Ev.now _
      · simp only [if_neg c13]
        by_cases c2 : x.f0 = 2
        · simp only [if_pos c2]
          by_cases d0 : x.f1 = 0 ∧ x.f2.size ≤ 4000 ∧ x.f3.length = 0
          · have d2 : (x.f2.size : Int) ≤ 4000 := by omega
            have d3 : (x.f3.length : Int) = 0 := by omega
            simp only [if_pos d0.1, if_pos d2, if_pos d3, decide_eq_true d0, Bool.true_and]
            exact fin
          · simp only [decide_eq_false d0, Bool.false_and]
            by_cases d1 : x.f1 = 0
            · by_cases d2 : (x.f2.size : Int) ≤ 4000
              · have d3 : ¬ (x.f3.length : Int) = 0 := fun h => d0 ⟨d1, by omega, by omega⟩
                simp only [if_pos d1, if_pos d2, if_neg d3]
                exact Ev.now _
              · simp only [if_pos d1, if_neg d2]
                exact Ev.now _
            · simp only [if_neg d1]
              exact Ev.now _
        · simp only [if_neg c2]
          by_cases c4 : x.f0 = 4
          · simp only [if_pos c4]
            by_cases d1 : bytesOf x.f2 = []
            · by_cases d2 : x.f3.length = 1
              · have d3 : (x.f3.length : Int) = 1 := by omega
                simp only [if_pos d1, if_pos d3, decide_eq_true (And.intro d1 d2), Bool.true_and]
                exact fin
              · have d3 : ¬ (x.f3.length : Int) = 1 := by omega
                simp only [if_pos d1, if_neg d3, decide_eq_false (show ¬ (bytesOf x.f2 = [] ∧ x.f3.length = 1) from fun h => d2 h.2), Bool.false_and]
                exact Ev.now _
            · simp only [if_neg d1, decide_eq_false (show ¬ (bytesOf x.f2 = [] ∧ x.f3.length = 1) from fun h => d1 h.1), Bool.false_and]
              exact Ev.now _
          · simp only [if_neg c4]
            by_cases c5 : x.f0 = 5
            · simp only [if_pos c5]
              by_cases d0 : x.f1 = 0
              · by_cases d1 : bytesOf x.f2 = []
                · simp only [if_pos d0, if_pos d1, decide_eq_true (And.intro d0 d1), Bool.true_and]
                  exact fin
                · simp only [if_pos d0, if_neg d1, decide_eq_false (show ¬ (x.f1 = 0 ∧ bytesOf x.f2 = []) from fun h => d1 h.2), Bool.false_and]
                  exact Ev.now _
              · simp only [if_neg d0, decide_eq_false (show ¬ (x.f1 = 0 ∧ bytesOf x.f2 = []) from fun h => d0 h.1), Bool.false_and]
                exact Ev.now _
            · simp only [if_neg c5, Bool.false_eq_true, if_false, Bool.false_and]
              exact Ev.now _
    refine Ev.suc ?_
    by_cases c1 : x.f0 = 1
    · simp only [term_shaped.f, if_pos c1]
      exact key _ (by simp [c1])
    · simp only [term_shaped.f, if_neg c1]
      exact key _ (by simp [c1, beqd])
theorem Right_ev {x : S25} (h : ok25 x) : Ev (fun k => term_Right.f k x.f0 x.f1 x.f2 x.f3) (rightT x) := by
  unfold term_Right.f rightT
  refine Ev.bind (parts_ev h 4001 (by omega) (by omega)) ?_
  by_cases c : 4000 < parts x
  · have c2 : ((min (parts x) 4001 : Nat) : Int) > 4000 := by omega
    simp only [if_pos c, if_pos c2]
    exact Ev.now _
  · have c2 : ¬ ((min (parts x) 4001 : Nat) : Int) > 4000 := by omega
    simp only [if_neg c, if_neg c2]
    refine Ev.bind (deep_ev h 13 (by omega) (by omega)) ?_
    by_cases c3 : 12 < depth x
    · have c4 : ((min (depth x) 13 : Nat) : Int) > 12 := by omega
      simp only [if_pos c3, if_pos c4]
      exact Ev.now _
    · have c4 : ¬ ((min (depth x) 13 : Nat) : Int) > 12 := by omega
      simp only [if_neg c3, if_neg c4]
      refine Ev.bind (shaped_ev h) ?_
      by_cases c5 : shp x = true
      · simp only [if_pos c5]
        exact Ev.now _
      · simp only [if_neg c5]
        exact Ev.now _

end Go.Proofs.Ytopfdggagijdkaa.Pure
