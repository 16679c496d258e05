/- The law EntryRights: for every input it answers true, and its input reads behind it as it did. Under no condition. -/
import Derived.Test.YtpnjchejnghplaaRows
import Derived.Test.YtpnjchejnghplaaFn7
import Derived.Test.YtpnjchejnghplaaOpenT
import Derived.Test.YtpnjchejnghplaaPureEntryRights
import Derived.WalkKit
import Derived.ProofKit
import Derived.OpenShut
import Derived.ShutString
import Derived.ChangeOld
import Derived.Below
import Derived.SizedLaws
import Derived.Carry
namespace Go.Proofs.Ytpnjchejnghplaa.entryRights
open Go.ChangeShapes Go.WideShapes Go.ChangeAt Go.RowKit
open Go.RowKit Go.Proofs.Ytpnjchejnghplaa.F Go.Proofs.Ytpnjchejnghplaa.Open Go.Proofs.YtpnjchejnghplaaW.PrintWords Go.Proofs.YtpnjchejnghplaaW.PrintLast Go.Proofs.YtpnjchejnghplaaW.PrintMore
open Go.ChangeMaps (open_string shut_string)
set_option linter.unusedVariables false
theorem own : ownKnob Try.prog.godebug = none := by kernel_rfl
theorem laidOut : laidOutB Try.prog = true := by kernel_rfl
set_option maxRecDepth 100000 in
theorem lifted (os : Os) (started : os.Started) (H : Type) (enc : TypeId × Value → H) :
    ReturnsInHanded {} Try.checked os 7 .any (Rows.entryRightsSpec.pre6 enc Try.prog Try.f7 Rows.entryRightsRow.domain false) (Rows.entryRightsSpec.post enc Try.prog Try.f7 false true false false) := by
  refine returnsInHanded_of_change_sized (C := Try.checked) own started (by kernel_rfl) Try.func7
    (ChangeSpec.witness6 (enc := enc) (C := Try.checked) false ⟨#[], #[.agg #[.int .i64 0, .int .i64 0, .int .i64 0, .int .i64 0, .int .i64 0, .int .i64 0, .int .i64 0], .agg #[.string ByteArray.empty, .slice none 0 0]], []⟩ 8 (by kernel_rfl) (by kernel_rfl) (by kernel_rfl) (by kernel_rfl)) ?_
  intro W base args ds gs before hval0 hW hcnd hsz0 _
  have hsz : (DataW.weightsEach Try.prog (Try.f7.params.toList ++ Rows.entryRightsSpec.plain.varTypes Try.prog) (ds ++ gs)).all (· ≤ reachBytes) = true := hsz0
  have hval : ∀ (j : Nat) t v, Try.f7.params[j]? = some t → args[j]? = some v → Value.okWide Try.prog W .any base t v := hval0
  have hW' := hW
  obtain ⟨p, q, hA0, hV, rfl, hfz, hnd⟩ := hW
  have hA : DataW.TrodAll enc Try.prog W 0 (fun _ => true) true Try.f7.params.toList args.toList ds p := hA0
  rw [Try.params7] at hA hval hsz
  obtain ⟨v0, vs0, d0, ds0, p0, q0, hargs, rfl, rfl, h0, r0⟩ := trodAll_cons hA
  obtain ⟨v1, vs1, d1, ds1, p1, q1, rfl, rfl, rfl, h1, r1⟩ := trodAll_cons r0
  obtain ⟨rfl, rfl, rfl⟩ := trodAll_nil r1
  obtain rfl : args = #[v0, v1] := by cases args; simp_all
  obtain ⟨rfl, rfl⟩ := trodVars_none hV
  have k0 := h0
  have lt0 : ∀ x ∈ p0, x.block < W.heap.size := by obtain ⟨m, hm⟩ := k0; exact DataW.trod_lt m _ _ _ hm
  obtain ⟨x0, hK0, hQ0⟩ := opens (fun n => o47 n) h0 (sized_arg hsz (j := 0) (t := 47) rfl rfl)
  obtain ⟨cs0, rfl, hcs0⟩ := agg_of Try.underlying47 (hval 0 47 v0 rfl rfl)
  rw [hcs0] at hK0
  obtain rfl := k47_open hK0
  have k1 := h1
  have lt1 : ∀ x ∈ p1, x.block < W.heap.size := by obtain ⟨m, hm⟩ := k1; exact DataW.trod_lt m _ _ _ hm
  obtain ⟨x1, hK1, hQ1⟩ := opens (fun n => o24 n) h1 (sized_arg hsz (j := 1) (t := 24) rfl rfl)
  obtain ⟨cs1, rfl, hcs1⟩ := agg_of Try.underlying24 (hval 1 24 v1 rfl rfl)
  rw [hcs1] at hK1
  obtain ⟨A1_1, c1_1, rfl, l1_1, g1_1⟩ := k24_open hK1
  obtain ⟨k, hp⟩ := Pure.EntryRights x0 x1 hQ0 hQ1
  refine (lethelaw05_EntryRights.calls k x0.f0 x0.f1 x0.f2 x0.f3 x0.f4 x0.f5 x0.f6 x1.f0 _ _ x1.f1 true W g1_1 l1_1 hp).mono fun e W' ⟨he, bel0⟩ => ?_
  have bel : Below W.heap.size W W' := bel0
  subst he
  exact ⟨_, rfl, _, _, _, [], _, [], hW', trodAll_mk1 (shut_bool Try.underlying4 _), (trodAll_cons_mk (Below.trod laidOut (by kernel_rfl) (of_decide_eq_true (by kernel_rfl)) k0 bel lt0) (trodAll_cons_mk (Below.trod laidOut (by kernel_rfl) (of_decide_eq_true (by kernel_rfl)) k1 bel lt1) trodAll_mk0)), rfl, bel.frame _, fun h => by cases h⟩
theorem over : Rows.entryRightsRow.holds Try.pinned (OpenSpec.ofChange Rows.entryRightsSpec) :=
  OpenClaim.holds_of_wide 7 Try.f7 rfl rfl rfl rfl rfl rfl rfl ⟨rfl, rfl, rfl, rfl, rfl⟩ rfl rfl rfl rfl rfl (by kernel_rfl) Try.func7 (by kernel_rfl)
    (of_decide_eq_true (by kernel_rfl)) (by unfold Func.isWrapper; first | (rw [if_pos (by decide +kernel)]; kernel_rfl) | (rw [if_neg (by decide +kernel)]; exact ⟨rfl, rfl⟩))
    (fun os started H enc _ => lifted os started H enc)
theorem proved : Rows.EntryRightsSaid := over
#print axioms proved
end Go.Proofs.Ytpnjchejnghplaa.entryRights
namespace Go.Proofs.Ytpnjchejnghplaa
theorem entryRights_holds : Rows.EntryRightsSaid := entryRights.proved
end Go.Proofs.Ytpnjchejnghplaa
