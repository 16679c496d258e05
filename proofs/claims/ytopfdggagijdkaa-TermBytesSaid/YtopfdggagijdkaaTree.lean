/- Terms as trees: the copy of a term is the term, a term is like itself. Under no condition. -/
import Derived.Test.YtopfdggagijdkaaGMakes
import Derived.Test.YtopfdggagijdkaaFn18
import Derived.Test.YtopfdggagijdkaaOpenT
import Derived.Test.YtopfdggagijdkaaStr
set_option linter.unusedVariables false
set_option linter.unusedSimpArgs false
namespace Go.Proofs.Ytopfdggagijdkaa.Pure
open Go.RowKit Go.Proofs.Ytopfdggagijdkaa.F Go.Proofs.Ytopfdggagijdkaa.Open Go.Proofs.Ytopfdggagijdkaa.Aid Go.Proofs.YtopfdggagijdkaaW.PrintWords Go.Proofs.YtopfdggagijdkaaW.PrintLast Go.Proofs.YtopfdggagijdkaaW.PrintMore

theorem eta25 (x : S25) : (⟨x.f0, x.f1, x.f2, x.f3⟩ : S25) = x := by cases x; rfl
theorem rdT {l : List S25} {j : Nat} (h : j < l.length) : rd_T25 l (j : Int) = l[j] := by simp [rd_T25, List.getD_eq_getElem?_getD, List.getElem?_eq_getElem h]
theorem ok25.leaf {n f : Int} {s : ByteArray} (h0 : (Lit.int .i64 n).wf = true) (h1 : (Lit.int .u64 f).wf = true) (h2 : s.size ≤ 140737488351232) : ok25 ⟨n, f, s, []⟩ := ok25.mk h0 h1 h2 (by simp) (by simp) (fun y hy => by simp at hy)
theorem ok25.len {x : S25} (h : ok25 x) : x.f3.length ≤ 2513169434843 := by
  cases h with
  | mk _ _ _ h3 _ _ => omega
theorem ok25.el {x : S25} (h : ok25 x) : ∀ y ∈ x.f3, ok25 y := by
  cases h with
  | mk _ _ _ _ _ h5 => exact h5
theorem clone_l0 (l : List S25) (hl : l.length ≤ 2513169434843) (ih : ∀ y ∈ l, Ev (fun k => term_clone.f k y.f0 y.f1 y.f2 y.f3) (y.f0, y.f1, y.f2, y.f3)) (c0 c1 : Int) (c2 : ByteArray) (c3 : List S25) (d : Nat) :
    ∀ i, i ≤ l.length → l.length - i = d → Ev (fun k => term_clone.l0 k (l.take i) l (l.length : Int) (i : Int) c0 c1 c2 c3) (c0, c1, c2, l) := by
  induction d with
  | zero =>
    intro i hi hd
    refine Ev.suc ?_
    have c : ¬ (i : Int) < (l.length : Int) := by omega
    simp only [term_clone.l0, if_neg c]
    rw [List.take_of_length_le (by omega)]
    exact Ev.now _
  | succ d ihd =>
    intro i hi hd
    have hlt : i < l.length := by omega
    refine Ev.suc ?_
    have a1 : (i : Int) < (l.length : Int) := by omega
    have a2 : 0 ≤ (i : Int) := by omega
    have a3 : (l.take i).length < 2513169434916 := by rw [List.length_take]; omega
    simp only [term_clone.l0, if_pos a1, if_pos a2, rdT hlt]
    refine Ev.bind (ih _ (List.getElem_mem hlt)) ?_
    simp only [if_pos a3]
    rw [w64s (n := 2513169434916) (by omega) (by omega)]
    have := ihd (i + 1) (by omega) (by omega)
    rw [List.take_succ_eq_append_getElem hlt] at this
    simp only [eta25]
    exact this
theorem clone_ev {x : S25} (h : ok25 x) : Ev (fun k => term_clone.f k x.f0 x.f1 x.f2 x.f3) (x.f0, x.f1, x.f2, x.f3) := by
  induction h with
  | @mk x h0 h1 h2 h3 h4 h5 ih =>
    refine Ev.suc ?_
    simp only [term_clone.f]
    exact clone_l0 x.f3 (by omega) ih x.f0 x.f1 x.f2 x.f3 _ 0 (by omega) rfl
theorem like_l0 (l : List S25) (hl : l.length ≤ 2513169434843) (ih : ∀ y ∈ l, Ev (fun k => letheref02_Like.f k y.f0 y.f1 y.f2 y.f3 y.f0 y.f1 y.f2 y.f3) true) (c0 c1 : Int) (c2 : ByteArray) (d0 d1 : Int) (d2 : ByteArray) (d : Nat) :
    ∀ i, i ≤ l.length → l.length - i = d → Ev (fun k => letheref02_Like.l0 k (l.length : Int) (i : Int) c0 c1 c2 l d0 d1 d2 l) true := by
  induction d with
  | zero =>
    intro i hi hd
    refine Ev.suc ?_
    have c : ¬ (i : Int) < (l.length : Int) := by omega
    simp only [letheref02_Like.l0, if_neg c]
    exact Ev.now _
  | succ d ihd =>
    intro i hi hd
    have hlt : i < l.length := by omega
    refine Ev.suc ?_
    have a1 : (i : Int) < (l.length : Int) := by omega
    have a2 : 0 ≤ (i : Int) := by omega
    simp only [letheref02_Like.l0, if_pos a1, if_pos a2, rdT hlt]
    refine Ev.bind (ih _ (List.getElem_mem hlt)) ?_
    simp only [if_true]
    rw [w64s (n := 2513169434916) (by omega) (by omega)]
    exact ihd (i + 1) (by omega) (by omega)
theorem like_ev {x : S25} (h : ok25 x) : Ev (fun k => letheref02_Like.f k x.f0 x.f1 x.f2 x.f3 x.f0 x.f1 x.f2 x.f3) true := by
  induction h with
  | @mk x h0 h1 h2 h3 h4 h5 ih =>
    refine Ev.suc ?_
    simp only [letheref02_Like.f, if_true, bne_self_eq_false]
    refine Ev.suc ?_
    simp only [letheref02_Like.j0, Bool.false_eq_true, if_false]
    exact like_l0 x.f3 (by omega) ih x.f0 x.f1 x.f2 x.f0 x.f1 x.f2 _ 0 (by omega) rfl

end Go.Proofs.Ytopfdggagijdkaa.Pure
