/- The law DicePlays: types, signatures and names of the functions that it reaches. Under no condition. -/
import Derived.Test.YtpnjchejnghplaaRxI
import Derived.Test.YtpnjchejnghplaaRxC
import Derived.Test.YtpnjchejnghplaaProg
import Derived.KernelRfl
set_option linter.unusedVariables false
set_option maxRecDepth 100000
namespace Go.Proofs.Ytpnjchejnghplaa.DicePlaysx
open Go Go.RowKit Go.Proofs.Ytpnjchejnghplaa.Rx Go.Proofs.Ytpnjchejnghplaa.DicePlaysx
noncomputable section
noncomputable def S (n : Nat) : Type := Unit
noncomputable def fs (n : Nat) : List Ty := []
theorem fs_no {n : Nat}  : fs n = [] := by simp only [fs]
theorem S_no {n : Nat}  : S n = Unit := by simp only [S]
noncomputable def out (n : Nat) : S n → HL S (fs n) :=
  by intro _; rw [fs_no ]; exact ()
noncomputable def pk (n : Nat) : HL S (fs n) → S n :=
  by intro _; rw [S_no ]; exact ()
noncomputable def z (n : Nat) : S n :=
  by rw [S_no ]; exact ()
theorem out_pk (n : Nat) (h : HL S (fs n)) : out n (pk n h) = h := by
  have e : ∀ a b : HL S (fs n), a = b := by rw [fs_no ]; intro a b; rfl
  exact e _ _
theorem pk_out (n : Nat) (x : S n) : pk n (out n x) = x := by
  have e : ∀ a b : S n, a = b := by rw [S_no ]; intro a b; rfl
  exact e _ _
noncomputable def tab : Tab := { S := S, fs := fs, out := out, pk := pk, z := z, out_pk := out_pk, pk_out := pk_out }
noncomputable abbrev Pr := Go.Proofs.Try.prog
noncomputable def fx0 : Fx := ⟨[(false, [.d (.sl 39 (.int .u64))]), (false, [.d (.sl 3 (.int .i64))])], [], [(false, [.d .bool])], [], [(1000007, ⟨[(1, [.d (.sl 3 (.int .i64))]), (5, [.d (.sl 39 (.int .u64))]), (6, [.k]), (8, [.d (.int .i64)]), (9, [.d (.int .i64)])], [[.o 39 (.int .u64), .d (.int .i64)]]⟩)], none⟩
noncomputable def fx1 : Fx := ⟨[(false, [.d (.sl 39 (.int .u64))]), (false, [.d (.int .i64)])], [], [(false, [.d (.sl 39 (.int .u64))])], [], [], none⟩
noncomputable def fx2 : Fx := ⟨[(false, [.d (.sl 39 (.int .u64))])], [], [(false, [.pn]), (false, [.d (.int .i64)])], [], [], some ([(false, [.p 0 0]), (false, [.d (.int .i64)])], [.box 65 [.g 1 0 .bool, .d (.int .i64)], .gr 39 (.int .u64) false])⟩
noncomputable def fx3 : Fx := ⟨[(false, [.d (.sl 39 (.int .u64))])], [], [(false, [.g 0 39 (.int .u64)])], [.gr 39 (.int .u64) false], [], none⟩
noncomputable def fx4 : Fx := ⟨[(false, [.p 0 0])], [.box 65 [.g 1 0 .bool, .d (.int .i64)], .gr 39 (.int .u64) false], [(false, [.d (.int .i64)])], [.box 65 [.g 1 0 .bool, .d (.int .i64)], .gr 39 (.int .u64) false], [], none⟩
noncomputable def fx5 : Fx := ⟨[(false, [.p 0 0])], [.box 65 [.g 1 0 .bool, .d (.int .i64)], .gr 39 (.int .u64) false], [(false, [.p 2 0])], [.box 65 [.g 1 0 .bool, .d (.int .i64)], .gr 39 (.int .u64) false, .box 65 [.g 1 0 .bool, .d (.int .i64)]], [], none⟩
noncomputable def fx6 : Fx := ⟨[(false, [.p 0 0])], [.box 65 [.g 1 0 .bool, .d (.int .i64)], .gr 39 (.int .u64) false], [(false, [.d (.int .u64)])], [.box 65 [.g 1 0 .bool, .d (.int .i64)], .gr 39 (.int .u64) false], [], none⟩
noncomputable def fx7 : Fx := ⟨[(false, [.d (.sl 39 (.int .u64))]), (false, [.d (.int .i64)])], [], [(false, [.d (.int .u64)])], [], [], none⟩
noncomputable def tb : List (FuncId × Fx) := [(6, fx0), (19, fx1), (17, fx2), (33, fx3), (18, fx4), (22, fx5), (20, fx6), (21, fx7)]
theorem tbOk : TbOk Pr tb := tbOk_of (by kernel_rfl)
theorem fn0 : fnAt Pr tb 0 = some Go.Proofs.Try.f6 := by kernel_rfl
theorem fn1 : fnAt Pr tb 1 = some Go.Proofs.Try.f19 := by kernel_rfl
theorem fn2 : fnAt Pr tb 2 = some Go.Proofs.Try.f17 := by kernel_rfl
theorem fn3 : fnAt Pr tb 3 = some Go.Proofs.Try.f33 := by kernel_rfl
theorem fn4 : fnAt Pr tb 4 = some Go.Proofs.Try.f18 := by kernel_rfl
theorem fn5 : fnAt Pr tb 5 = some Go.Proofs.Try.f22 := by kernel_rfl
theorem fn6 : fnAt Pr tb 6 = some Go.Proofs.Try.f20 := by kernel_rfl
theorem fn7 : fnAt Pr tb 7 = some Go.Proofs.Try.f21 := by kernel_rfl
noncomputable def G : Giv tab tb := fun _ => none
theorem F_holds (key : Nat) : Snd Pr tb key (F Pr tb G key) := F_ok tbOk (fun _ _ h => by cases h) key
theorem okL : okS Pr tab.fs [] [] = true := by kernel_rfl
noncomputable def F6_lethelaw01_DicePlays (x0 : (List Int)) (x1 : (List Int)) : Option (Bool × Unit) := F Pr tb G 0 [⟨(.sl 39 (.int .u64)), x0⟩, ⟨(.sl 3 (.int .i64)), x1⟩]
noncomputable def F6_lethelaw01_DicePlays_l1000007 (v1 : (List Int)) (v5 : (List Int)) (v8 : Int) (v9 : Int) (h0_1 : Int) (g1 : (List Int)) : Option (Bool × Unit) :=
  run Pr tb G fx0.fin Go.Proofs.Try.f6 fx0 ⟨todoAt Go.Proofs.Try.f6 1000007, [(1, .v (false, [.d (.sl 3 (.int .i64)) v1])), (5, .v (false, [.d (.sl 39 (.int .u64)) v5])), (6, .v (false, [.p 0 0])), (8, .v (false, [.d (.int .i64) v8])), (9, .v (false, [.d (.int .i64) v9]))], [.box 65 [.g 1, .d (.int .i64) h0_1], .gr 39 (.int .u64) g1 false]⟩
noncomputable def F19_lethelaw01_short (x0 : (List Int)) (x1 : Int) : Option ((List Int) × Unit) := F Pr tb G 1 [⟨(.sl 39 (.int .u64)), x0⟩, ⟨(.int .i64), x1⟩]
noncomputable def F17_dice_New (x0 : (List Int)) : Option (Bool × Int × Int × Int × (List Int) × Unit) := F Pr tb G 2 [⟨(.sl 39 (.int .u64)), x0⟩]
noncomputable def F33_slices_Clone (x0 : (List Int)) : Option ((List Int) × Unit) := F Pr tb G 3 [⟨(.sl 39 (.int .u64)), x0⟩]
noncomputable def F18_dice_Dice_Taken (h0_1 : Int) (g1 : (List Int)) : Option (Int × Int × (List Int) × Unit) := F Pr tb G 4 [⟨(.int .i64), h0_1⟩, ⟨(.sl 39 (.int .u64)), g1⟩]
noncomputable def F22_dice_Dice_Copy (h0_1 : Int) (g1 : (List Int)) : Option (Int × (List Int) × Int × Unit) := F Pr tb G 5 [⟨(.int .i64), h0_1⟩, ⟨(.sl 39 (.int .u64)), g1⟩]
noncomputable def F20_dice_Dice_Next (h0_1 : Int) (g1 : (List Int)) : Option (Int × Int × (List Int) × Unit) := F Pr tb G 6 [⟨(.int .i64), h0_1⟩, ⟨(.sl 39 (.int .u64)), g1⟩]
noncomputable def F21_letheref01_Draw (x0 : (List Int)) (x1 : Int) : Option (Int × Unit) := F Pr tb G 7 [⟨(.sl 39 (.int .u64)), x0⟩, ⟨(.int .i64), x1⟩]
end
end Go.Proofs.Ytpnjchejnghplaa.DicePlaysx
