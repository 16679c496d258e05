/- Whether a term may be: what the document's answer is. Under no condition. -/
import Derived.Test.YtopfdggagijdkaaGFitR
import Derived.Test.YtopfdggagijdkaaRightS
set_option linter.unusedVariables false
set_option linter.unusedSimpArgs false
namespace Go.Proofs.Ytopfdggagijdkaa.Pure
open Go.RowKit Go.Proofs.Ytopfdggagijdkaa.F Go.Proofs.Ytopfdggagijdkaa.Open Go.Proofs.Ytopfdggagijdkaa.Aid Go.Proofs.YtopfdggagijdkaaW.PrintWords Go.Proofs.YtopfdggagijdkaaW.PrintLast Go.Proofs.YtopfdggagijdkaaW.PrintMore

theorem partsR_l0 (l : List S25) (hl : l.length ≤ 2513169434843) (ih : ∀ y ∈ l, ∀ most : Nat, 1 ≤ most → most ≤ 9223372036854775807 → Ev (fun k => letheref02_Parts.f k y.f0 y.f1 y.f2 y.f3 (most : Int)) ((min (parts y) most : Nat) : Int)) (most : Nat) (hm : 1 ≤ most) (hm2 : most ≤ 9223372036854775807) (d : Nat) :
    ∀ i n : Nat, i ≤ l.length → l.length - i = d → n ≤ most → Ev (fun k => letheref02_Parts.l0 k (most : Int) (n : Int) l (l.length : Int) (i : Int)) ((min (n + partsL (l.drop i)) most : Nat) : Int) := by
  induction d with
  | zero =>
    intro i n hi hd hn
    refine Ev.suc ?_
    have c : ¬ (i : Int) < (l.length : Int) := by omega
    have c2 : ¬ (n : Int) > (most : Int) := by omega
    simp only [letheref02_Parts.l0, if_neg c, if_neg c2]
    rw [List.drop_eq_nil_of_le (by omega), partsL]
    refine Ev.const ?_
    congr 2
    omega
  | succ d ihd =>
    intro i n hi hd hn
    have hlt : i < l.length := by omega
    refine Ev.suc ?_
    have a1 : (i : Int) < (l.length : Int) := by omega
    have a2 : 0 ≤ (i : Int) := by omega
    rw [List.drop_eq_getElem_cons hlt, partsL]
    by_cases a3 : n ≥ most
    · have a4 : (n : Int) ≥ (most : Int) := by omega
      simp only [letheref02_Parts.l0, if_pos a1, if_pos a2, if_pos a4]
      refine Ev.const ?_
      congr 2
      omega
    · have a4 : ¬ (n : Int) ≥ (most : Int) := by omega
      simp only [letheref02_Parts.l0, if_pos a1, if_pos a2, if_neg a4, rdT hlt]
      have e1 : wrap64 ((most : Int) - (n : Int)) = ((most - n : Nat) : Int) := by rw [w64 (by omega) (by omega)]; omega
      rw [e1]
      refine Ev.bind (ih _ (List.getElem_mem hlt) (most - n) (by omega) (by omega)) ?_
      have e2 : wrap64 ((n : Int) + ((min (parts l[i]) (most - n) : Nat) : Int)) = ((min (n + parts l[i]) most : Nat) : Int) := by rw [w64 (by omega) (by omega)]; omega
      rw [e2, w64s (n := 2513169434916) (by omega) (by omega)]
      have := ihd (i + 1) (min (n + parts l[i]) most) (by omega) (by omega) (by omega)
      rw [show min (n + (parts l[i] + partsL (l.drop (i + 1)))) most = min (min (n + parts l[i]) most + partsL (l.drop (i + 1))) most from by omega]
      exact this
theorem partsR_ev {x : S25} (h : ok25 x) : ∀ most : Nat, 1 ≤ most → most ≤ 9223372036854775807 → Ev (fun k => letheref02_Parts.f k x.f0 x.f1 x.f2 x.f3 (most : Int)) ((min (parts x) most : Nat) : Int) := by
  induction h with
  | @mk x h0 h1 h2 h3 h4 h5 ih =>
    intro most hm hm2
    refine Ev.suc ?_
    simp only [letheref02_Parts.f]
    rw [parts_eq]
    exact partsR_l0 x.f3 (by omega) ih most hm hm2 _ 0 1 (by omega) rfl (by omega)

theorem deepR_l0 (l : List S25) (hl : l.length ≤ 2513169434843) (ih : ∀ y ∈ l, ∀ most : Nat, 1 ≤ most → most ≤ 9223372036854775807 → Ev (fun k => letheref02_Deep.f k y.f0 y.f1 y.f2 y.f3 (most : Int)) ((min (depth y) most : Nat) : Int)) (most : Nat) (hm : 1 < most) (hm2 : most ≤ 9223372036854775807) (d : Nat) :
    ∀ i n : Nat, i ≤ l.length → l.length - i = d → n ≤ most - 1 → (n = most - 1 → i = 0) → Ev (fun k => letheref02_Deep.l0 k (most : Int) (n : Int) l (l.length : Int) (i : Int)) ((min (1 + max n (depthL (l.drop i))) most : Nat) : Int) := by
  induction d with
  | zero =>
    intro i n hi hd hn hn2
    refine Ev.suc ?_
    have c : ¬ (i : Int) < (l.length : Int) := by omega
    simp only [letheref02_Deep.l0, if_neg c]
    rw [List.drop_eq_nil_of_le (by omega), depthL]
    refine Ev.const ?_
    rw [w64 (by omega) (by omega)]
    congr 1
    omega
  | succ d ihd =>
    intro i n hi hd hn hn2
    have hlt : i < l.length := by omega
    refine Ev.suc ?_
    have a1 : (i : Int) < (l.length : Int) := by omega
    have a2 : 0 ≤ (i : Int) := by omega
    rw [List.drop_eq_getElem_cons hlt, depthL]
    simp only [letheref02_Deep.l0, if_pos a1, if_pos a2, rdT hlt]
    have e1 : wrap64 ((most : Int) - 1) = ((most - 1 : Nat) : Int) := by rw [w64 (by omega) (by omega)]; omega
    rw [e1]
    refine Ev.bind (ih _ (List.getElem_mem hlt) (most - 1) (by omega) (by omega)) ?_
    rw [w64s (n := 2513169434916) (by omega) (by omega)]
    have hdp := depth_pos l[i]
    by_cases b1 : min (depth l[i]) (most - 1) > n
    · have b2 : ((min (depth l[i]) (most - 1) : Nat) : Int) > (n : Int) := by omega
      simp only [if_pos b2]
      by_cases b3 : min (depth l[i]) (most - 1) ≥ most - 1
      · have b4 : ((min (depth l[i]) (most - 1) : Nat) : Int) ≥ ((most - 1 : Nat) : Int) := by omega
        simp only [if_pos b4]
        refine Ev.const ?_
        congr 2
        omega
      · have b4 : ¬ ((min (depth l[i]) (most - 1) : Nat) : Int) ≥ ((most - 1 : Nat) : Int) := by omega
        simp only [if_neg b4]
        have := ihd (i + 1) (min (depth l[i]) (most - 1)) (by omega) (by omega) (by omega) (by omega)
        rw [show min (1 + max n (max (depth l[i]) (depthL (l.drop (i + 1))))) most = min (1 + max (min (depth l[i]) (most - 1)) (depthL (l.drop (i + 1)))) most from by omega]
        exact this
    · have b2 : ¬ ((min (depth l[i]) (most - 1) : Nat) : Int) > (n : Int) := by omega
      simp only [if_neg b2]
      by_cases b3 : n ≥ most - 1
      · have b4 : (n : Int) ≥ ((most - 1 : Nat) : Int) := by omega
        simp only [if_pos b4]
        refine Ev.const ?_
        congr 2
        omega
      · have b4 : ¬ (n : Int) ≥ ((most - 1 : Nat) : Int) := by omega
        simp only [if_neg b4]
        have := ihd (i + 1) n (by omega) (by omega) (by omega) (by omega)
        rw [show min (1 + max n (max (depth l[i]) (depthL (l.drop (i + 1))))) most = min (1 + max n (depthL (l.drop (i + 1)))) most from by omega]
        exact this
theorem deepR_ev {x : S25} (h : ok25 x) : ∀ most : Nat, 1 ≤ most → most ≤ 9223372036854775807 → Ev (fun k => letheref02_Deep.f k x.f0 x.f1 x.f2 x.f3 (most : Int)) ((min (depth x) most : Nat) : Int) := by
  induction h with
  | @mk x h0 h1 h2 h3 h4 h5 ih =>
    intro most hm hm2
    refine Ev.suc ?_
    by_cases c : most > 1
    · have c2 : ¬ (most : Int) ≤ 1 := by omega
      simp only [letheref02_Deep.f, if_neg c2]
      have := deepR_l0 x.f3 (by omega) ih most c hm2 _ 0 0 (by omega) rfl (by omega) (by omega)
      rw [depth_eq]
      rw [List.drop_zero, show max 0 (depthL x.f3) = depthL x.f3 from by omega] at this
      exact this
    · have c2 : (most : Int) ≤ 1 := by omega
      simp only [letheref02_Deep.f, if_pos c2]
      refine Ev.const ?_
      have := depth_pos x
      congr 1
      omega

theorem One_ev (x : S25) : Ev (fun k => letheref02_One.f k x.f0 x.f1 x.f2 x.f3) (one x.f0 x.f1 x.f2 x.f3.length) := by
  have key : ∀ b : Bool, b = decide (x.f0 = 1 ∨ x.f0 = 3) → Ev (fun k => letheref02_One.j0 k x.f0 b x.f0 x.f1 x.f2 x.f3) (one x.f0 x.f1 x.f2 x.f3.length) := by
    intro b hb
    refine Ev.suc ?_
    simp only [letheref02_One.j0, hb, decide_eq_true_eq, toList_nil_iff]
    rw [one]
    have z0 : ((x.f3.length : Int) == 0) = decide (x.f3.length = 0) := by rw [beqd]; exact decide_eq_decide.2 (by omega)
    have z1 : ((x.f3.length : Int) == 1) = decide (x.f3.length = 1) := by rw [beqd]; exact decide_eq_decide.2 (by omega)
    have z2 : (x.f2.toList == ([] : List UInt8)) = decide (bytesOf x.f2 = []) := by
      rw [Bool.eq_iff_iff, beq_iff_eq, decide_eq_true_eq, toList_nil_iff]
    have z3 : ((x.f2.size : Int) ≤ 4000) ↔ x.f2.size ≤ 4000 := by omega
    simp only [z0, z1, z2, z3]
    refine Ev.const ?_
    split
    · split <;> simp_all
    · split
      · split
        · split <;> (simp_all <;> omega)
        · simp_all
      · split
        · split <;> simp_all
        · split
          · split <;> simp_all
          · rfl
  unfold letheref02_One.f
  by_cases c1 : x.f0 = 1
  · simp only [if_pos c1]
    exact key _ (by simp [c1])
  · simp only [if_neg c1]
    exact key _ (by simp [c1, beqd])
theorem shapedR_l0 (l : List S25) (hl : l.length ≤ 2513169434843) (ih : ∀ y ∈ l, Ev (fun k => letheref02_shaped.f k y.f0 y.f1 y.f2 y.f3) (shp y)) (d : Nat) :
    ∀ i : Nat, i ≤ l.length → l.length - i = d → Ev (fun k => letheref02_shaped.l0 k l (l.length : Int) (i : Int)) (shpL (l.drop i)) := by
  induction d with
  | zero =>
    intro i hi hd
    refine Ev.suc ?_
    have c : ¬ (i : Int) < (l.length : Int) := by omega
    simp only [letheref02_shaped.l0, if_neg c]
    rw [List.drop_eq_nil_of_le (by omega), shpL]
    exact Ev.now _
  | succ d ihd =>
    intro i hi hd
    have hlt : i < l.length := by omega
    have a1 : (i : Int) < (l.length : Int) := by omega
    have a2 : 0 ≤ (i : Int) := by omega
    rw [List.drop_eq_getElem_cons hlt, shpL]
    refine Ev.suc ?_
    simp only [letheref02_shaped.l0, if_pos a1, if_pos a2, rdT hlt]
    refine Ev.bind (ih _ (List.getElem_mem hlt)) ?_
    cases shp l[i] with
    | false =>
      simp only [Bool.false_eq_true, if_false, Bool.false_and]
      exact Ev.now _
    | true =>
      simp only [if_true, Bool.true_and]
      rw [w64s (n := 2513169434916) (by omega) (by omega)]
      exact ihd (i + 1) (by omega) (by omega)
theorem shapedR_ev {x : S25} (h : ok25 x) : Ev (fun k => letheref02_shaped.f k x.f0 x.f1 x.f2 x.f3) (shp x) := by
  induction h with
  | @mk x h0 h1 h2 h3 h4 h5 ih =>
    refine Ev.suc ?_
    simp only [letheref02_shaped.f]
    refine Ev.bind (One_ev x) ?_
    rw [shp_eq]
    cases one x.f0 x.f1 x.f2 x.f3.length with
    | false =>
      simp only [Bool.false_eq_true, if_false, Bool.false_and]
      exact Ev.now _
    | true =>
      simp only [if_true, Bool.true_and]
      exact shapedR_l0 x.f3 (by omega) ih _ 0 (by omega) rfl
theorem RightR_ev {x : S25} (h : ok25 x) : Ev (fun k => letheref02_Right.f k x.f0 x.f1 x.f2 x.f3) (rightT x) := by
  unfold letheref02_Right.f rightT
  refine Ev.bind (partsR_ev h 4001 (by omega) (by omega)) ?_
  by_cases c : 4000 < parts x
  · have c2 : ((min (parts x) 4001 : Nat) : Int) > 4000 := by omega
    simp only [if_pos c, if_pos c2]
    exact Ev.now _
  · have c2 : ¬ ((min (parts x) 4001 : Nat) : Int) > 4000 := by omega
    simp only [if_neg c, if_neg c2]
    refine Ev.bind (deepR_ev h 13 (by omega) (by omega)) ?_
    by_cases c3 : 12 < depth x
    · have c4 : ((min (depth x) 13 : Nat) : Int) > 12 := by omega
      simp only [if_pos c3, if_pos c4]
      exact Ev.now _
    · have c4 : ¬ ((min (depth x) 13 : Nat) : Int) > 12 := by omega
      simp only [if_neg c3, if_neg c4]
      refine Ev.bind (shapedR_ev h) ?_
      by_cases c5 : shp x = true
      · simp only [if_pos c5]
        exact Ev.now _
      · simp only [if_neg c5]
        exact Ev.now _

end Go.Proofs.Ytopfdggagijdkaa.Pure
