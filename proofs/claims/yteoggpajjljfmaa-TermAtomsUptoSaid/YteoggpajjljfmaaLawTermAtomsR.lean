/- The law TermAtoms: for every input of bulk at most 1048576 it answers true, and its input reads behind it as it did. -/
import Derived.Test.YteoggpajjljfmaaRows
import Derived.Test.YteoggpajjljfmaaPureTermAtoms
import Derived.WalkKit
import Derived.ProofKit
import Derived.OpenShut
import Derived.ShutString
import Derived.ChangeOld
import Derived.Below
import Derived.SizedLaws
import Derived.Carry
set_option maxRecDepth 100000
namespace Go.Proofs.Yteoggpajjljfmaa.termAtomsUpto
open Go.ChangeShapes Go.WideShapes Go.ChangeAt Go.RowKit Go.Proofs.Yteoggpajjljfmaa.Rx Go.Proofs.Yteoggpajjljfmaa.TermAtomsx
open Go.ChangeMaps (open_string shut_string)
set_option linter.unusedVariables false
theorem own : ownKnob Try.prog.godebug = none := by kernel_rfl
theorem laidOut : laidOutB Try.prog = true := by kernel_rfl
mutual
theorem up1 {H : Type} : ∀ d : DataW H, Rows.uptoBulk d = bulk d
  | .lit (.string _) => by simp only [Rows.uptoBulk, bulk]
  | .lit (.int _ _) => by simp only [Rows.uptoBulk, bulk]
  | .lit (.bool _) => by simp only [Rows.uptoBulk, bulk]
  | .lit (.float _ _) => by simp only [Rows.uptoBulk, bulk]
  | .lit .nil => by simp only [Rows.uptoBulk, bulk]
  | .nil => by simp only [Rows.uptoBulk, bulk]
  | .ptr d => by simp only [Rows.uptoBulk, bulk, up1 d]
  | .slice a b => by simp only [Rows.uptoBulk, bulk, up2 a, up2 b]
  | .agg a => by simp only [Rows.uptoBulk, bulk, up2 a]
  | .iface _ d => by simp only [Rows.uptoBulk, bulk, up1 d]
  | .map e => by simp only [Rows.uptoBulk, bulk, up3 e]
  | .held _ => by simp only [Rows.uptoBulk, bulk]
theorem up2 {H : Type} : ∀ l : List (DataW H), Rows.uptoBulkAll l = bulkAll l
  | [] => by simp only [Rows.uptoBulkAll, bulkAll]
  | d :: r => by simp only [Rows.uptoBulkAll, bulkAll, up1 d, up2 r]
theorem up3 {H : Type} : ∀ l : List (Lit × DataW H), Rows.uptoBulkEntries l = bulkEntries l
  | [] => by simp only [Rows.uptoBulkEntries, bulkEntries]
  | x :: r => by simp only [Rows.uptoBulkEntries, bulkEntries, up4 x, up3 r]
theorem up4 {H : Type} : ∀ x : Lit × DataW H, Rows.uptoBulkEntry x = bulkEntry x
  | (.string _, d) => by simp only [Rows.uptoBulkEntry, bulkEntry, up1 d]
  | (.int _ _, d) => by simp only [Rows.uptoBulkEntry, bulkEntry, up1 d]
  | (.bool _, d) => by simp only [Rows.uptoBulkEntry, bulkEntry, up1 d]
  | (.float _ _, d) => by simp only [Rows.uptoBulkEntry, bulkEntry, up1 d]
  | (.nil, d) => by simp only [Rows.uptoBulkEntry, bulkEntry, up1 d]
end
theorem TermAtoms_pure (x0_0 : (List S43)) (h0_0 : Ok tab Pr (.sl 43 (.st 43)) x0_0) (b0_0 : Bk tab [⟨(.sl 43 (.st 43)), x0_0⟩] 1048576) : F6_lethelaw02_TermAtoms x0_0 = some (true, ()) := TermAtomsp.law x0_0 h0_0 b0_0
set_option maxRecDepth 100000 in
theorem lifted (os : Os) (started : os.Started) (H : Type) (enc : TypeId × Value → H) (Fi : Stop.Interp) :
    ReturnsInHanded {} Try.checked os 6 .any ((Rows.OpenSpec.upto Rows.termAtomsSpec).pre6 enc Try.prog Try.f6 Rows.termAtomsUptoRow.domain false) (((Rows.OpenSpec.upto Rows.termAtomsSpec).at Fi).post enc Try.prog Try.f6 false true false false) := by
  refine handed_of_cond (C := Try.checked) (s := Rows.OpenSpec.upto Rows.termAtomsSpec) (k := Rows.uptoSmall) rfl (F := Fi) own started (by kernel_rfl) Try.func6
    (OpenSpec.witness (enc := enc) (C := Try.checked) (s := Rows.OpenSpec.upto Rows.termAtomsSpec) (k := Rows.uptoSmall) (x := ([.nil], [], [])) rfl false ⟨#[], #[.slice none 0 0], []⟩ 8 (by kernel_rfl) (by kernel_rfl) (by kernel_rfl) (by kernel_rfl) (by kernel_rfl) (by kernel_rfl)) ?_
  intro W base args ds gs before hval0 hW hsz0 hk0
  have hsz : (DataW.weightsEach Try.prog (Try.f6.params.toList ++ Rows.termAtomsSpec.plain.varTypes Try.prog) (ds ++ gs)).all (· ≤ reachBytes) = true := hsz0
  have hval : ∀ (j : Nat) t v, Try.f6.params[j]? = some t → args[j]? = some v → Value.okWide Try.prog W .any base t v := hval0
  have hW' := hW
  obtain ⟨p, q, hA0, hV, rfl, hfz, hnd⟩ := hW
  have hA : DataW.TrodAll enc Try.prog W 0 (fun _ => true) true Try.f6.params.toList args.toList ds p := hA0
  rw [Try.params6] at hA hval hsz
  obtain ⟨v0, vs0, d0, ds0, p0, q0, hargs, rfl, rfl, h0, r0⟩ := trodAll_cons hA
  obtain ⟨rfl, rfl, rfl⟩ := trodAll_nil r0
  obtain rfl : args = #[v0] := by cases args; simp_all
  obtain ⟨rfl, rfl⟩ := trodVars_none hV
  have hk1 := of_decide_eq_true hk0
  simp only [List.append_nil, up2, bulkAll] at hk1
  have lt0 : ∀ x ∈ p0, x.block < W.heap.size := by obtain ⟨m, hm⟩ := h0; exact DataW.trod_lt m _ _ _ hm
  obtain ⟨x0, hQ0, hX0, hB0⟩ := arg_one (T := tab) okL (t := 38) (ty := (.sl 43 (.st 43))) (by kernel_rfl) (by kernel_rfl) (by kernel_rfl) (hval 0 38 v0 rfl rfl) h0 (sized_arg hsz (j := 0) (t := 38) rfl rfl)
  have hp := TermAtoms_pure x0.1 (hQ0 ⟨(.sl 43 (.st 43)), x0.1⟩ (.head _)) (hB0.le (by omega))
  refine (law_of (F_holds 0) (f := 6) (fx := fx0) rfl (y := (true, ())) (ds := [⟨(.sl 43 (.st 43)), x0.1⟩]) (show F Pr tb G 0 _ = some (true, ()) from hp) (vs := [(false, (toDL tab [(.sl 43 (.st 43))] x0).map fun d => .d d.1 d.2)]) (by kernel_rfl) (by kernel_rfl) (W := W) (args := [v0]) (fun m n => ⟨hX0 m n, trivial⟩)).mono fun e W' ⟨he, bel⟩ => ?_
  subst he
  exact ⟨_, rfl, _, _, _, [], _, [], hW', trodAll_mk1 (shut_bool Try.underlying4 _), (trodAll_cons_mk (Below.trod laidOut (by kernel_rfl) (of_decide_eq_true (by kernel_rfl)) h0 bel lt0) trodAll_mk0), rfl, bel.frame _, fun h => by cases h⟩
theorem over : Rows.termAtomsUptoRow.holds Try.pinned (Rows.OpenSpec.upto Rows.termAtomsSpec) :=
  OpenClaim.holds_of_cond 6 Try.f6 rfl rfl rfl rfl rfl rfl rfl ⟨rfl, rfl, rfl, rfl, rfl⟩ rfl rfl rfl rfl rfl (by kernel_rfl) Try.func6 (by kernel_rfl)
    (of_decide_eq_true (by kernel_rfl)) (by unfold Func.isWrapper; first | (rw [if_pos (by decide +kernel)]; kernel_rfl) | (rw [if_neg (by decide +kernel)]; exact ⟨rfl, rfl⟩))
    (fun os started H enc _ F => lifted os started H enc F)
theorem proved : Rows.TermAtomsUptoSaid := over
#print axioms proved
end Go.Proofs.Yteoggpajjljfmaa.termAtomsUpto
namespace Go.Proofs.Yteoggpajjljfmaa
theorem termAtomsUpto_holds : Rows.TermAtomsUptoSaid := termAtomsUpto.proved
end Go.Proofs.Yteoggpajjljfmaa

