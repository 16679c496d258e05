/- Terms as trees: a term is like itself. Under no condition. -/
import Derived.Test.YtopfdggagijdkaaFn18
import Derived.Test.YtopfdggagijdkaaTreeS
set_option linter.unusedVariables false
set_option linter.unusedSimpArgs false
namespace Go.Proofs.Ytopfdggagijdkaa.Pure
open Go.RowKit Go.Proofs.Ytopfdggagijdkaa.F Go.Proofs.Ytopfdggagijdkaa.Open Go.Proofs.Ytopfdggagijdkaa.Aid Go.Proofs.YtopfdggagijdkaaW.PrintWords Go.Proofs.YtopfdggagijdkaaW.PrintLast Go.Proofs.YtopfdggagijdkaaW.PrintMore

theorem like_l0 (l : List S25) (hl : l.length ≤ 2513169434843) (ih : ∀ y ∈ l, Ev (fun k => letheref02_Like.f k y.f0 y.f1 y.f2 y.f3 y.f0 y.f1 y.f2 y.f3) true) (c0 c1 : Int) (c2 : ByteArray) (d0 d1 : Int) (d2 : ByteArray) (d : Nat) :
    ∀ i, i ≤ l.length → l.length - i = d → Ev (fun k => letheref02_Like.l0 k (l.length : Int) (i : Int) c0 c1 c2 l d0 d1 d2 l) true := by
  induction d with
  | zero =>
    intro i hi hd
    refine Ev.suc ?_
    have c : ¬ (i : Int) < (l.length : Int) := by omega
    simp only [letheref02_Like.l0, if_neg c]
    exact Ev.now _
  | succ d ihd =>
    intro i hi hd
    have hlt : i < l.length := by omega
    refine Ev.suc ?_
    have a1 : (i : Int) < (l.length : Int) := by omega
    have a2 : 0 ≤ (i : Int) := by omega
    simp only [letheref02_Like.l0, if_pos a1, if_pos a2, rdT hlt]
    refine Ev.bind (ih _ (List.getElem_mem hlt)) ?_
    simp only [if_true]
    rw [w64s (n := 2513169434916) (by omega) (by omega)]
    exact ihd (i + 1) (by omega) (by omega)
theorem like_ev {x : S25} (h : ok25 x) : Ev (fun k => letheref02_Like.f k x.f0 x.f1 x.f2 x.f3 x.f0 x.f1 x.f2 x.f3) true := by
  induction h with
  | @mk x h0 h1 h2 h3 h4 h5 ih =>
    refine Ev.suc ?_
    simp only [letheref02_Like.f, if_true, bne_self_eq_false]
    refine Ev.suc ?_
    simp only [letheref02_Like.j0, Bool.false_eq_true, if_false]
    exact like_l0 x.f3 (by omega) ih x.f0 x.f1 x.f2 x.f0 x.f1 x.f2 _ 0 (by omega) rfl

end Go.Proofs.Ytopfdggagijdkaa.Pure
