/- The law BoxWraps: for every input it answers true, and its input reads behind it as it did. Under no condition. -/
import Derived.Test.YtfojcadooepgpaaRows
import Derived.Test.YtfojcadooepgpaaPureBoxWraps
import Derived.WalkKit
import Derived.ProofKit
import Derived.OpenShut
import Derived.ShutString
import Derived.ChangeOld
import Derived.Below
import Derived.SizedLaws
import Derived.Carry
set_option maxRecDepth 100000
namespace Go.Proofs.Ytfojcadooepgpaa.boxWraps
open Go.ChangeShapes Go.WideShapes Go.ChangeAt Go.RowKit Go.Proofs.Ytfojcadooepgpaa.Rx Go.Proofs.Ytfojcadooepgpaa.BoxWrapsx
open Go.ChangeMaps (open_string shut_string)
set_option linter.unusedVariables false
theorem own : ownKnob Try.prog.godebug = none := by kernel_rfl
theorem laidOut : laidOutB Try.prog = true := by kernel_rfl
theorem BoxWraps_pure (x0_0 : Int) (x0_1 : Int) (x0_2 : ByteArray) (x0_3 : (List S25)) (x1_0 : (List Int)) (h0_0 : Ok tab Pr (.int .i64) x0_0) (h0_1 : Ok tab Pr (.int .u64) x0_1) (h0_2 : Ok tab Pr .str x0_2) (h0_3 : Ok tab Pr (.sl 25 (.st 25)) x0_3) (h1_0 : Ok tab Pr (.sl 22 (.int .u64)) x1_0) : F3_lethelaw03_BoxWraps x0_0 x0_1 x0_2 x0_3 x1_0 = some (true, ()) := BoxWrapsp.law x0_0 x0_1 x0_2 x0_3 x1_0 h0_0 h0_1 h0_2 h0_3 h1_0
set_option maxRecDepth 100000 in
theorem lifted (os : Os) (started : os.Started) (H : Type) (enc : TypeId × Value → H) :
    ReturnsInHanded {} Try.checked os 3 .any (Rows.boxWrapsSpec.pre6 enc Try.prog Try.f3 Rows.boxWrapsRow.domain false) (Rows.boxWrapsSpec.post enc Try.prog Try.f3 false true false false) := by
  refine returnsInHanded_of_change_sized (C := Try.checked) own started (by kernel_rfl) Try.func3
    (ChangeSpec.witness6 (enc := enc) (C := Try.checked) false ⟨#[], #[.agg #[.int .i64 0, .int .u64 0, .string ByteArray.empty, .slice none 0 0], .slice none 0 0], []⟩ 8 (by kernel_rfl) (by kernel_rfl) (by kernel_rfl) (by kernel_rfl)) ?_
  intro W base args ds gs before hval0 hW hcnd hsz0 _
  have hsz : (DataW.weightsEach Try.prog (Try.f3.params.toList ++ Rows.boxWrapsSpec.plain.varTypes Try.prog) (ds ++ gs)).all (· ≤ reachBytes) = true := hsz0
  have hval : ∀ (j : Nat) t v, Try.f3.params[j]? = some t → args[j]? = some v → Value.okWide Try.prog W .any base t v := hval0
  have hW' := hW
  obtain ⟨p, q, hA0, hV, rfl, hfz, hnd⟩ := hW
  have hA : DataW.TrodAll enc Try.prog W 0 (fun _ => true) true Try.f3.params.toList args.toList ds p := hA0
  rw [Try.params3] at hA hval hsz
  obtain ⟨v0, vs0, d0, ds0, p0, q0, hargs, rfl, rfl, h0, r0⟩ := trodAll_cons hA
  obtain ⟨v1, vs1, d1, ds1, p1, q1, rfl, rfl, rfl, h1, r1⟩ := trodAll_cons r0
  obtain ⟨rfl, rfl, rfl⟩ := trodAll_nil r1
  obtain rfl : args = #[v0, v1] := by cases args; simp_all
  obtain ⟨rfl, rfl⟩ := trodVars_none hV
  have lt0 : ∀ x ∈ p0, x.block < W.heap.size := by obtain ⟨m, hm⟩ := h0; exact DataW.trod_lt m _ _ _ hm
  obtain ⟨x0, hQ0, hX0, hB0⟩ := arg_agg (T := tab) okL (t := 25) (ls := [(.int .i64), (.int .u64), .str, (.sl 25 (.st 25))]) (by kernel_rfl) (by kernel_rfl) Try.underlying25 (hval 0 25 v0 rfl rfl) h0 (sized_arg hsz (j := 0) (t := 25) rfl rfl)
  have lt1 : ∀ x ∈ p1, x.block < W.heap.size := by obtain ⟨m, hm⟩ := h1; exact DataW.trod_lt m _ _ _ hm
  obtain ⟨x1, hQ1, hX1, hB1⟩ := arg_one (T := tab) okL (t := 26) (ty := (.sl 22 (.int .u64))) (by kernel_rfl) (by kernel_rfl) (by kernel_rfl) (hval 1 26 v1 rfl rfl) h1 (sized_arg hsz (j := 1) (t := 26) rfl rfl)
  have hp := BoxWraps_pure x0.1 x0.2.1 x0.2.2.1 x0.2.2.2.1 x1.1 (hQ0 ⟨(.int .i64), x0.1⟩ (.head _)) (hQ0 ⟨(.int .u64), x0.2.1⟩ (.tail _ (.head _))) (hQ0 ⟨.str, x0.2.2.1⟩ (.tail _ (.tail _ (.head _)))) (hQ0 ⟨(.sl 25 (.st 25)), x0.2.2.2.1⟩ (.tail _ (.tail _ (.tail _ (.head _))))) (hQ1 ⟨(.sl 22 (.int .u64)), x1.1⟩ (.head _))
  refine (law_of (F_holds 0) (f := 3) (fx := fx0) rfl (y := (true, ())) (ds := [⟨(.int .i64), x0.1⟩, ⟨(.int .u64), x0.2.1⟩, ⟨.str, x0.2.2.1⟩, ⟨(.sl 25 (.st 25)), x0.2.2.2.1⟩, ⟨(.sl 22 (.int .u64)), x1.1⟩]) (show F Pr tb G 0 _ = some (true, ()) from hp) (vs := [(true, (toDL tab [(.int .i64), (.int .u64), .str, (.sl 25 (.st 25))] x0).map fun d => .d d.1 d.2), (false, (toDL tab [(.sl 22 (.int .u64))] x1).map fun d => .d d.1 d.2)]) (by kernel_rfl) (by kernel_rfl) (W := W) (args := [v0, v1]) (fun m n => ⟨hX0 m n, hX1 m n, trivial⟩)).mono fun e W' ⟨he, bel⟩ => ?_
  subst he
  exact ⟨_, rfl, _, _, _, [], _, [], hW', trodAll_mk1 (shut_bool Try.underlying4 _), (trodAll_cons_mk (Below.trod laidOut (by kernel_rfl) (of_decide_eq_true (by kernel_rfl)) h0 bel lt0) (trodAll_cons_mk (Below.trod laidOut (by kernel_rfl) (of_decide_eq_true (by kernel_rfl)) h1 bel lt1) trodAll_mk0)), rfl, bel.frame _, fun h => by cases h⟩
theorem over : Rows.boxWrapsRow.holds Try.pinned (OpenSpec.ofChange Rows.boxWrapsSpec) :=
  OpenClaim.holds_of_wide 3 Try.f3 rfl rfl rfl rfl rfl rfl rfl ⟨rfl, rfl, rfl, rfl, rfl⟩ rfl rfl rfl rfl rfl (by kernel_rfl) Try.func3 (by kernel_rfl)
    (of_decide_eq_true (by kernel_rfl)) (by unfold Func.isWrapper; first | (rw [if_pos (by decide +kernel)]; kernel_rfl) | (rw [if_neg (by decide +kernel)]; exact ⟨rfl, rfl⟩))
    (fun os started H enc _ => lifted os started H enc)
theorem proved : Rows.BoxWrapsSaid := over
#print axioms proved
end Go.Proofs.Ytfojcadooepgpaa.boxWraps
namespace Go.Proofs.Ytfojcadooepgpaa
theorem boxWraps_holds : Rows.BoxWrapsSaid := boxWraps.proved
end Go.Proofs.Ytfojcadooepgpaa

