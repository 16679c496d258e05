/- The law BookOwn: for every input it answers true, and its input reads behind it as it did. Under no condition. -/
import Derived.Test.YtckafnfidjfhjaaRows
import Derived.Test.YtckafnfidjfhjaaPureBookOwn
import Derived.WalkKit
import Derived.ProofKit
import Derived.OpenShut
import Derived.ShutString
import Derived.ChangeOld
import Derived.Below
import Derived.SizedLaws
import Derived.Carry
set_option maxRecDepth 100000
namespace Go.Proofs.Ytckafnfidjfhjaa.bookOwn
open Go.ChangeShapes Go.WideShapes Go.ChangeAt Go.RowKit Go.Proofs.Ytckafnfidjfhjaa.Rx Go.Proofs.Ytckafnfidjfhjaa.BookOwnx
open Go.ChangeMaps (open_string shut_string)
set_option linter.unusedVariables false
theorem own : ownKnob Try.prog.godebug = none := by kernel_rfl
theorem laidOut : laidOutB Try.prog = true := by kernel_rfl
theorem BookOwn_pure (x0_0 : Int) (x0_1 : Int) (x0_2 : Int) (x0_3 : Int) (x0_4 : Int) (x0_5 : Int) (x0_6 : Int) (x1_0 : (List (List S131))) (x2_0 : (List S131)) (h0_0 : Ok tab Pr (.int .i64) x0_0) (h0_1 : Ok tab Pr (.int .i64) x0_1) (h0_2 : Ok tab Pr (.int .i64) x0_2) (h0_3 : Ok tab Pr (.int .i64) x0_3) (h0_4 : Ok tab Pr (.int .i64) x0_4) (h0_5 : Ok tab Pr (.int .i64) x0_5) (h0_6 : Ok tab Pr (.int .i64) x0_6) (h1_0 : Ok tab Pr (.sl 55 (.sl 131 (.st 131))) x1_0) (h2_0 : Ok tab Pr (.sl 131 (.st 131)) x2_0) : F4_lethelaw09_BookOwn x0_0 x0_1 x0_2 x0_3 x0_4 x0_5 x0_6 x1_0 x2_0 = some (true, ()) := BookOwnp.law x0_0 x0_1 x0_2 x0_3 x0_4 x0_5 x0_6 x1_0 x2_0 h0_0 h0_1 h0_2 h0_3 h0_4 h0_5 h0_6 h1_0 h2_0
set_option maxRecDepth 100000 in
theorem lifted (os : Os) (started : os.Started) (H : Type) (enc : TypeId × Value → H) :
    ReturnsInHanded {} Try.checked os 4 .any (Rows.bookOwnSpec.pre6 enc Try.prog Try.f4 Rows.bookOwnRow.domain false) (Rows.bookOwnSpec.post enc Try.prog Try.f4 false true false false) := by
  refine returnsInHanded_of_change_sized (C := Try.checked) own started (by kernel_rfl) Try.func4
    (ChangeSpec.witness6 (enc := enc) (C := Try.checked) false ⟨#[], #[.agg #[.int .i64 0, .int .i64 0, .int .i64 0, .int .i64 0, .int .i64 0, .int .i64 0, .int .i64 0], .slice none 0 0, .slice none 0 0], []⟩ 8 (by kernel_rfl) (by kernel_rfl) (by kernel_rfl) (by kernel_rfl)) ?_
  intro W base args ds gs before hval0 hW hcnd hsz0 _
  have hsz : (DataW.weightsEach Try.prog (Try.f4.params.toList ++ Rows.bookOwnSpec.plain.varTypes Try.prog) (ds ++ gs)).all (· ≤ reachBytes) = true := hsz0
  have hval : ∀ (j : Nat) t v, Try.f4.params[j]? = some t → args[j]? = some v → Value.okWide Try.prog W .any base t v := hval0
  have hW' := hW
  obtain ⟨p, q, hA0, hV, rfl, hfz, hnd⟩ := hW
  have hA : DataW.TrodAll enc Try.prog W 0 (fun _ => true) true Try.f4.params.toList args.toList ds p := hA0
  rw [Try.params4] at hA hval hsz
  obtain ⟨v0, vs0, d0, ds0, p0, q0, hargs, rfl, rfl, h0, r0⟩ := trodAll_cons hA
  obtain ⟨v1, vs1, d1, ds1, p1, q1, rfl, rfl, rfl, h1, r1⟩ := trodAll_cons r0
  obtain ⟨v2, vs2, d2, ds2, p2, q2, rfl, rfl, rfl, h2, r2⟩ := trodAll_cons r1
  obtain ⟨rfl, rfl, rfl⟩ := trodAll_nil r2
  obtain rfl : args = #[v0, v1, v2] := by cases args; simp_all
  obtain ⟨rfl, rfl⟩ := trodVars_none hV
  have lt0 : ∀ x ∈ p0, x.block < W.heap.size := by obtain ⟨m, hm⟩ := h0; exact DataW.trod_lt m _ _ _ hm
  obtain ⟨x0, hQ0, hX0, hB0⟩ := arg_agg (T := tab) okL (t := 53) (ls := [(.int .i64), (.int .i64), (.int .i64), (.int .i64), (.int .i64), (.int .i64), (.int .i64)]) (by kernel_rfl) (by kernel_rfl) Try.underlying53 (hval 0 53 v0 rfl rfl) h0 (sized_arg hsz (j := 0) (t := 53) rfl rfl)
  have lt1 : ∀ x ∈ p1, x.block < W.heap.size := by obtain ⟨m, hm⟩ := h1; exact DataW.trod_lt m _ _ _ hm
  obtain ⟨x1, hQ1, hX1, hB1⟩ := arg_one (T := tab) okL (t := 54) (ty := (.sl 55 (.sl 131 (.st 131)))) (by kernel_rfl) (by kernel_rfl) (by kernel_rfl) (hval 1 54 v1 rfl rfl) h1 (sized_arg hsz (j := 1) (t := 54) rfl rfl)
  have lt2 : ∀ x ∈ p2, x.block < W.heap.size := by obtain ⟨m, hm⟩ := h2; exact DataW.trod_lt m _ _ _ hm
  obtain ⟨x2, hQ2, hX2, hB2⟩ := arg_one (T := tab) okL (t := 55) (ty := (.sl 131 (.st 131))) (by kernel_rfl) (by kernel_rfl) (by kernel_rfl) (hval 2 55 v2 rfl rfl) h2 (sized_arg hsz (j := 2) (t := 55) rfl rfl)
  have hp := BookOwn_pure x0.1 x0.2.1 x0.2.2.1 x0.2.2.2.1 x0.2.2.2.2.1 x0.2.2.2.2.2.1 x0.2.2.2.2.2.2.1 x1.1 x2.1 (hQ0 ⟨(.int .i64), x0.1⟩ (.head _)) (hQ0 ⟨(.int .i64), x0.2.1⟩ (.tail _ (.head _))) (hQ0 ⟨(.int .i64), x0.2.2.1⟩ (.tail _ (.tail _ (.head _)))) (hQ0 ⟨(.int .i64), x0.2.2.2.1⟩ (.tail _ (.tail _ (.tail _ (.head _))))) (hQ0 ⟨(.int .i64), x0.2.2.2.2.1⟩ (.tail _ (.tail _ (.tail _ (.tail _ (.head _)))))) (hQ0 ⟨(.int .i64), x0.2.2.2.2.2.1⟩ (.tail _ (.tail _ (.tail _ (.tail _ (.tail _ (.head _))))))) (hQ0 ⟨(.int .i64), x0.2.2.2.2.2.2.1⟩ (.tail _ (.tail _ (.tail _ (.tail _ (.tail _ (.tail _ (.head _)))))))) (hQ1 ⟨(.sl 55 (.sl 131 (.st 131))), x1.1⟩ (.head _)) (hQ2 ⟨(.sl 131 (.st 131)), x2.1⟩ (.head _))
  refine (law_of (F_holds 0) (f := 4) (fx := fx0) rfl (y := (true, ())) (ds := [⟨(.int .i64), x0.1⟩, ⟨(.int .i64), x0.2.1⟩, ⟨(.int .i64), x0.2.2.1⟩, ⟨(.int .i64), x0.2.2.2.1⟩, ⟨(.int .i64), x0.2.2.2.2.1⟩, ⟨(.int .i64), x0.2.2.2.2.2.1⟩, ⟨(.int .i64), x0.2.2.2.2.2.2.1⟩, ⟨(.sl 55 (.sl 131 (.st 131))), x1.1⟩, ⟨(.sl 131 (.st 131)), x2.1⟩]) (show F Pr tb G 0 _ = some (true, ()) from hp) (vs := [(true, (toDL tab [(.int .i64), (.int .i64), (.int .i64), (.int .i64), (.int .i64), (.int .i64), (.int .i64)] x0).map fun d => .d d.1 d.2), (false, (toDL tab [(.sl 55 (.sl 131 (.st 131)))] x1).map fun d => .d d.1 d.2), (false, (toDL tab [(.sl 131 (.st 131))] x2).map fun d => .d d.1 d.2)]) (by kernel_rfl) (by kernel_rfl) (W := W) (args := [v0, v1, v2]) (fun m n => ⟨hX0 m n, hX1 m n, hX2 m n, trivial⟩)).mono fun e W' ⟨he, bel⟩ => ?_
  subst he
  exact ⟨_, rfl, _, _, _, [], _, [], hW', trodAll_mk1 (shut_bool Try.underlying4 _), (trodAll_cons_mk (Below.trod laidOut (by kernel_rfl) (of_decide_eq_true (by kernel_rfl)) h0 bel lt0) (trodAll_cons_mk (Below.trod laidOut (by kernel_rfl) (of_decide_eq_true (by kernel_rfl)) h1 bel lt1) (trodAll_cons_mk (Below.trod laidOut (by kernel_rfl) (of_decide_eq_true (by kernel_rfl)) h2 bel lt2) trodAll_mk0))), rfl, bel.frame _, fun h => by cases h⟩
theorem over : Rows.bookOwnRow.holds Try.pinned (OpenSpec.ofChange Rows.bookOwnSpec) :=
  OpenClaim.holds_of_wide 4 Try.f4 rfl rfl rfl rfl rfl rfl rfl ⟨rfl, rfl, rfl, rfl, rfl⟩ rfl rfl rfl rfl rfl (by kernel_rfl) Try.func4 (by kernel_rfl)
    (of_decide_eq_true (by kernel_rfl)) (by unfold Func.isWrapper; first | (rw [if_pos (by decide +kernel)]; kernel_rfl) | (rw [if_neg (by decide +kernel)]; exact ⟨rfl, rfl⟩))
    (fun os started H enc _ => lifted os started H enc)
theorem proved : Rows.BookOwnSaid := over
#print axioms proved
end Go.Proofs.Ytckafnfidjfhjaa.bookOwn
namespace Go.Proofs.Ytckafnfidjfhjaa
theorem bookOwn_holds : Rows.BookOwnSaid := bookOwn.proved
end Go.Proofs.Ytckafnfidjfhjaa

