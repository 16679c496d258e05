/- The law DiceLong: types, signatures and names of the functions that it reaches. Under no condition. -/
import Derived.Test.YtpnjchejnghplaaRxI
import Derived.Test.YtpnjchejnghplaaRxC
import Derived.Test.YtpnjchejnghplaaProg
import Derived.KernelRfl
set_option linter.unusedVariables false
set_option maxRecDepth 100000
namespace Go.Proofs.Ytpnjchejnghplaa.DiceLongx
open Go Go.RowKit Go.Proofs.Ytpnjchejnghplaa.Rx Go.Proofs.Ytpnjchejnghplaa.DiceLongx
noncomputable section
noncomputable def S (n : Nat) : Type := Unit
noncomputable def fs (n : Nat) : List Ty := []
theorem fs_no {n : Nat}  : fs n = [] := by simp only [fs]
theorem S_no {n : Nat}  : S n = Unit := by simp only [S]
noncomputable def out (n : Nat) : S n → HL S (fs n) :=
  by intro _; rw [fs_no ]; exact ()
noncomputable def pk (n : Nat) : HL S (fs n) → S n :=
  by intro _; rw [S_no ]; exact ()
noncomputable def z (n : Nat) : S n :=
  by rw [S_no ]; exact ()
theorem out_pk (n : Nat) (h : HL S (fs n)) : out n (pk n h) = h := by
  have e : ∀ a b : HL S (fs n), a = b := by rw [fs_no ]; intro a b; rfl
  exact e _ _
theorem pk_out (n : Nat) (x : S n) : pk n (out n x) = x := by
  have e : ∀ a b : S n, a = b := by rw [S_no ]; intro a b; rfl
  exact e _ _
noncomputable def tab : Tab := { S := S, fs := fs, out := out, pk := pk, z := z, out_pk := out_pk, pk_out := pk_out }
noncomputable abbrev Pr := Go.Proofs.Try.prog
noncomputable def fx0 : Fx := ⟨[(false, [.d (.int .i64)])], [], [(false, [.d .bool])], [], [(4, ⟨[(0, [.d (.int .i64)]), (3, [.k]), (4, [.d (.int .i64)])], [[.o 39 (.int .u64), .d (.int .i64)]]⟩)], none⟩
noncomputable def fx1 : Fx := ⟨[(false, [.d (.sl 39 (.int .u64))])], [], [(false, [.pn]), (false, [.d (.int .i64)])], [], [], some ([(false, [.p 0 0]), (false, [.d (.int .i64)])], [.box 65 [.g 1 0 .bool, .d (.int .i64)], .gr 39 (.int .u64) false])⟩
noncomputable def fx2 : Fx := ⟨[(false, [.d (.sl 39 (.int .u64))])], [], [(false, [.g 0 39 (.int .u64)])], [.gr 39 (.int .u64) false], [], none⟩
noncomputable def fx3 : Fx := ⟨[(false, [.p 0 0])], [.box 65 [.g 1 0 .bool, .d (.int .i64)], .gr 39 (.int .u64) false], [(false, [.d (.int .i64)])], [.box 65 [.g 1 0 .bool, .d (.int .i64)], .gr 39 (.int .u64) false], [], none⟩
noncomputable def tb : List (FuncId × Fx) := [(4, fx0), (17, fx1), (33, fx2), (18, fx3)]
theorem tbOk : TbOk Pr tb := tbOk_of (by kernel_rfl)
theorem fn0 : fnAt Pr tb 0 = some Go.Proofs.Try.f4 := by kernel_rfl
theorem fn1 : fnAt Pr tb 1 = some Go.Proofs.Try.f17 := by kernel_rfl
theorem fn2 : fnAt Pr tb 2 = some Go.Proofs.Try.f33 := by kernel_rfl
theorem fn3 : fnAt Pr tb 3 = some Go.Proofs.Try.f18 := by kernel_rfl
noncomputable def G : Giv tab tb := fun _ => none
theorem F_holds (key : Nat) : Snd Pr tb key (F Pr tb G key) := F_ok tbOk (fun _ _ h => by cases h) key
theorem okL : okS Pr tab.fs [] [] = true := by kernel_rfl
noncomputable def F4_lethelaw01_DiceLong (x0 : Int) : Option (Bool × Unit) := F Pr tb G 0 [⟨(.int .i64), x0⟩]
noncomputable def F4_lethelaw01_DiceLong_l4 (v0 : Int) (v4 : Int) : Option (Bool × Unit) :=
  run Pr tb G fx0.fin Go.Proofs.Try.f4 fx0 ⟨todoAt Go.Proofs.Try.f4 4, [(0, .v (false, [.d (.int .i64) v0])), (3, .v (false, [.pn])), (4, .v (false, [.d (.int .i64) v4]))], []⟩
noncomputable def F4_lethelaw01_DiceLong_l4_1 (v0 : Int) (v4 : Int) (h0_1 : Int) (g1 : (List Int)) : Option (Bool × Unit) :=
  run Pr tb G fx0.fin Go.Proofs.Try.f4 fx0 ⟨todoAt Go.Proofs.Try.f4 4, [(0, .v (false, [.d (.int .i64) v0])), (3, .v (false, [.p 0 0])), (4, .v (false, [.d (.int .i64) v4]))], [.box 65 [.g 1, .d (.int .i64) h0_1], .gr 39 (.int .u64) g1 false]⟩
noncomputable def F17_dice_New (x0 : (List Int)) : Option (Bool × Int × Int × Int × (List Int) × Unit) := F Pr tb G 1 [⟨(.sl 39 (.int .u64)), x0⟩]
noncomputable def F33_slices_Clone (x0 : (List Int)) : Option ((List Int) × Unit) := F Pr tb G 2 [⟨(.sl 39 (.int .u64)), x0⟩]
noncomputable def F18_dice_Dice_Taken (h0_1 : Int) (g1 : (List Int)) : Option (Int × Int × (List Int) × Unit) := F Pr tb G 3 [⟨(.int .i64), h0_1⟩, ⟨(.sl 39 (.int .u64)), g1⟩]
end
end Go.Proofs.Ytpnjchejnghplaa.DiceLongx
