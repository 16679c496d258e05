/- The law NodeOwn: for every input it answers true, and its input reads behind it as it did. Under no condition. -/
import Derived.Test.YtfojcadooepgpaaRows
import Derived.Test.YtfojcadooepgpaaPureNodeOwn
import Derived.WalkKit
import Derived.ProofKit
import Derived.OpenShut
import Derived.ShutString
import Derived.ChangeOld
import Derived.Below
import Derived.SizedLaws
import Derived.Carry
set_option maxRecDepth 100000
namespace Go.Proofs.Ytfojcadooepgpaa.nodeOwn
open Go.ChangeShapes Go.WideShapes Go.ChangeAt Go.RowKit Go.Proofs.Ytfojcadooepgpaa.Rx Go.Proofs.Ytfojcadooepgpaa.NodeOwnx
open Go.ChangeMaps (open_string shut_string)
set_option linter.unusedVariables false
theorem own : ownKnob Try.prog.godebug = none := by kernel_rfl
theorem laidOut : laidOutB Try.prog = true := by kernel_rfl
theorem NodeOwn_pure (x0_0 : Int) (x0_1 : Int) (x0_2 : Int) (x0_3 : Int) (x0_4 : Int) (x0_5 : Int) (x0_6 : Int) (x1_0 : Bool) (x1_1 : (List S47)) (x1_2 : (List S53)) (h0_0 : Ok tab Pr (.int .i64) x0_0) (h0_1 : Ok tab Pr (.int .i64) x0_1) (h0_2 : Ok tab Pr (.int .i64) x0_2) (h0_3 : Ok tab Pr (.int .i64) x0_3) (h0_4 : Ok tab Pr (.int .i64) x0_4) (h0_5 : Ok tab Pr (.int .i64) x0_5) (h0_6 : Ok tab Pr (.int .i64) x0_6) (h1_1 : Ok tab Pr (.sl 47 (.st 47)) x1_1) (h1_2 : Ok tab Pr (.sl 53 (.st 53)) x1_2) : F4_lethelaw06_NodeOwn x0_0 x0_1 x0_2 x0_3 x0_4 x0_5 x0_6 x1_0 x1_1 x1_2 = some (true, ()) := NodeOwnp.law x0_0 x0_1 x0_2 x0_3 x0_4 x0_5 x0_6 x1_0 x1_1 x1_2 h0_0 h0_1 h0_2 h0_3 h0_4 h0_5 h0_6 h1_1 h1_2
set_option maxRecDepth 100000 in
theorem lifted (os : Os) (started : os.Started) (H : Type) (enc : TypeId × Value → H) :
    ReturnsInHanded {} Try.checked os 4 .any (Rows.nodeOwnSpec.pre6 enc Try.prog Try.f4 Rows.nodeOwnRow.domain false) (Rows.nodeOwnSpec.post enc Try.prog Try.f4 false true false false) := by
  refine returnsInHanded_of_change_sized (C := Try.checked) own started (by kernel_rfl) Try.func4
    (ChangeSpec.witness6 (enc := enc) (C := Try.checked) false ⟨#[], #[.agg #[.int .i64 0, .int .i64 0, .int .i64 0, .int .i64 0, .int .i64 0, .int .i64 0, .int .i64 0], .agg #[.bool false, .slice none 0 0, .slice none 0 0]], []⟩ 8 (by kernel_rfl) (by kernel_rfl) (by kernel_rfl) (by kernel_rfl)) ?_
  intro W base args ds gs before hval0 hW hcnd hsz0 _
  have hsz : (DataW.weightsEach Try.prog (Try.f4.params.toList ++ Rows.nodeOwnSpec.plain.varTypes Try.prog) (ds ++ gs)).all (· ≤ reachBytes) = true := hsz0
  have hval : ∀ (j : Nat) t v, Try.f4.params[j]? = some t → args[j]? = some v → Value.okWide Try.prog W .any base t v := hval0
  have hW' := hW
  obtain ⟨p, q, hA0, hV, rfl, hfz, hnd⟩ := hW
  have hA : DataW.TrodAll enc Try.prog W 0 (fun _ => true) true Try.f4.params.toList args.toList ds p := hA0
  rw [Try.params4] at hA hval hsz
  obtain ⟨v0, vs0, d0, ds0, p0, q0, hargs, rfl, rfl, h0, r0⟩ := trodAll_cons hA
  obtain ⟨v1, vs1, d1, ds1, p1, q1, rfl, rfl, rfl, h1, r1⟩ := trodAll_cons r0
  obtain ⟨rfl, rfl, rfl⟩ := trodAll_nil r1
  obtain rfl : args = #[v0, v1] := by cases args; simp_all
  obtain ⟨rfl, rfl⟩ := trodVars_none hV
  have lt0 : ∀ x ∈ p0, x.block < W.heap.size := by obtain ⟨m, hm⟩ := h0; exact DataW.trod_lt m _ _ _ hm
  obtain ⟨x0, hQ0, hX0, hB0⟩ := arg_agg (T := tab) okL (t := 34) (ls := [(.int .i64), (.int .i64), (.int .i64), (.int .i64), (.int .i64), (.int .i64), (.int .i64)]) (by kernel_rfl) (by kernel_rfl) Try.underlying34 (hval 0 34 v0 rfl rfl) h0 (sized_arg hsz (j := 0) (t := 34) rfl rfl)
  have lt1 : ∀ x ∈ p1, x.block < W.heap.size := by obtain ⟨m, hm⟩ := h1; exact DataW.trod_lt m _ _ _ hm
  obtain ⟨x1, hQ1, hX1, hB1⟩ := arg_agg (T := tab) okL (t := 38) (ls := [.bool, (.sl 47 (.st 47)), (.sl 53 (.st 53))]) (by kernel_rfl) (by kernel_rfl) Try.underlying38 (hval 1 38 v1 rfl rfl) h1 (sized_arg hsz (j := 1) (t := 38) rfl rfl)
  have hp := NodeOwn_pure x0.1 x0.2.1 x0.2.2.1 x0.2.2.2.1 x0.2.2.2.2.1 x0.2.2.2.2.2.1 x0.2.2.2.2.2.2.1 x1.1 x1.2.1 x1.2.2.1 (hQ0 ⟨(.int .i64), x0.1⟩ (.head _)) (hQ0 ⟨(.int .i64), x0.2.1⟩ (.tail _ (.head _))) (hQ0 ⟨(.int .i64), x0.2.2.1⟩ (.tail _ (.tail _ (.head _)))) (hQ0 ⟨(.int .i64), x0.2.2.2.1⟩ (.tail _ (.tail _ (.tail _ (.head _))))) (hQ0 ⟨(.int .i64), x0.2.2.2.2.1⟩ (.tail _ (.tail _ (.tail _ (.tail _ (.head _)))))) (hQ0 ⟨(.int .i64), x0.2.2.2.2.2.1⟩ (.tail _ (.tail _ (.tail _ (.tail _ (.tail _ (.head _))))))) (hQ0 ⟨(.int .i64), x0.2.2.2.2.2.2.1⟩ (.tail _ (.tail _ (.tail _ (.tail _ (.tail _ (.tail _ (.head _)))))))) (hQ1 ⟨(.sl 47 (.st 47)), x1.2.1⟩ (.tail _ (.head _))) (hQ1 ⟨(.sl 53 (.st 53)), x1.2.2.1⟩ (.tail _ (.tail _ (.head _))))
  refine (law_of (F_holds 0) (f := 4) (fx := fx0) rfl (y := (true, ())) (ds := [⟨(.int .i64), x0.1⟩, ⟨(.int .i64), x0.2.1⟩, ⟨(.int .i64), x0.2.2.1⟩, ⟨(.int .i64), x0.2.2.2.1⟩, ⟨(.int .i64), x0.2.2.2.2.1⟩, ⟨(.int .i64), x0.2.2.2.2.2.1⟩, ⟨(.int .i64), x0.2.2.2.2.2.2.1⟩, ⟨.bool, x1.1⟩, ⟨(.sl 47 (.st 47)), x1.2.1⟩, ⟨(.sl 53 (.st 53)), x1.2.2.1⟩]) (show F Pr tb G 0 _ = some (true, ()) from hp) (vs := [(true, (toDL tab [(.int .i64), (.int .i64), (.int .i64), (.int .i64), (.int .i64), (.int .i64), (.int .i64)] x0).map fun d => .d d.1 d.2), (true, (toDL tab [.bool, (.sl 47 (.st 47)), (.sl 53 (.st 53))] x1).map fun d => .d d.1 d.2)]) (by kernel_rfl) (by kernel_rfl) (W := W) (args := [v0, v1]) (fun m n => ⟨hX0 m n, hX1 m n, trivial⟩)).mono fun e W' ⟨he, bel⟩ => ?_
  subst he
  exact ⟨_, rfl, _, _, _, [], _, [], hW', trodAll_mk1 (shut_bool Try.underlying4 _), (trodAll_cons_mk (Below.trod laidOut (by kernel_rfl) (of_decide_eq_true (by kernel_rfl)) h0 bel lt0) (trodAll_cons_mk (Below.trod laidOut (by kernel_rfl) (of_decide_eq_true (by kernel_rfl)) h1 bel lt1) trodAll_mk0)), rfl, bel.frame _, fun h => by cases h⟩
theorem over : Rows.nodeOwnRow.holds Try.pinned (OpenSpec.ofChange Rows.nodeOwnSpec) :=
  OpenClaim.holds_of_wide 4 Try.f4 rfl rfl rfl rfl rfl rfl rfl ⟨rfl, rfl, rfl, rfl, rfl⟩ rfl rfl rfl rfl rfl (by kernel_rfl) Try.func4 (by kernel_rfl)
    (of_decide_eq_true (by kernel_rfl)) (by unfold Func.isWrapper; first | (rw [if_pos (by decide +kernel)]; kernel_rfl) | (rw [if_neg (by decide +kernel)]; exact ⟨rfl, rfl⟩))
    (fun os started H enc _ => lifted os started H enc)
theorem proved : Rows.NodeOwnSaid := over
#print axioms proved
end Go.Proofs.Ytfojcadooepgpaa.nodeOwn
namespace Go.Proofs.Ytfojcadooepgpaa
theorem nodeOwn_holds : Rows.NodeOwnSaid := nodeOwn.proved
end Go.Proofs.Ytfojcadooepgpaa

