/- The law DiceOwn: types, signatures and names of the functions that it reaches. Under no condition. -/
import Derived.Test.YtpnjchejnghplaaRxI
import Derived.Test.YtpnjchejnghplaaRxC
import Derived.Test.YtpnjchejnghplaaProg
import Derived.KernelRfl
set_option linter.unusedVariables false
set_option maxRecDepth 100000
namespace Go.Proofs.Ytpnjchejnghplaa.DiceOwnx
open Go Go.RowKit Go.Proofs.Ytpnjchejnghplaa.Rx Go.Proofs.Ytpnjchejnghplaa.DiceOwnx
noncomputable section
noncomputable def S (n : Nat) : Type := Unit
noncomputable def fs (n : Nat) : List Ty := []
theorem fs_no {n : Nat}  : fs n = [] := by simp only [fs]
theorem S_no {n : Nat}  : S n = Unit := by simp only [S]
noncomputable def out (n : Nat) : S n → HL S (fs n) :=
  by intro _; rw [fs_no ]; exact ()
noncomputable def pk (n : Nat) : HL S (fs n) → S n :=
  by intro _; rw [S_no ]; exact ()
noncomputable def z (n : Nat) : S n :=
  by rw [S_no ]; exact ()
theorem out_pk (n : Nat) (h : HL S (fs n)) : out n (pk n h) = h := by
  have e : ∀ a b : HL S (fs n), a = b := by rw [fs_no ]; intro a b; rfl
  exact e _ _
theorem pk_out (n : Nat) (x : S n) : pk n (out n x) = x := by
  have e : ∀ a b : S n, a = b := by rw [S_no ]; intro a b; rfl
  exact e _ _
noncomputable def tab : Tab := { S := S, fs := fs, out := out, pk := pk, z := z, out_pk := out_pk, pk_out := pk_out }
noncomputable abbrev Pr := Go.Proofs.Try.prog
noncomputable def fx0 : Fx := ⟨[(false, [.d (.sl 39 (.int .u64))])], [], [(false, [.d .bool])], [], [(1000007, ⟨[(3, [.o 39 (.int .u64)]), (4, [.k]), (6, [.o 39 (.int .u64)]), (28, [.d (.int .i64)]), (29, [.d (.int .i64)])], [[], [.o 39 (.int .u64), .d (.int .i64)]]⟩), (1000012, ⟨[(4, [.k]), (6, [.o 39 (.int .u64)]), (37, [.d (.int .i64)]), (38, [.d (.int .i64)])], [[.o 39 (.int .u64), .d (.int .i64)]]⟩)], none⟩
noncomputable def fx1 : Fx := ⟨[(false, [.d (.sl 39 (.int .u64))]), (false, [.d (.int .i64)])], [], [(false, [.d (.sl 39 (.int .u64))])], [], [], none⟩
noncomputable def fx2 : Fx := ⟨[(false, [.g 0 39 (.int .u64)])], [.gr 39 (.int .u64) false], [(false, [.pn]), (false, [.d (.int .i64)])], [.gr 39 (.int .u64) false], [], some ([(false, [.p 1 0]), (false, [.d (.int .i64)])], [.gr 39 (.int .u64) false, .box 65 [.g 2 0 .bool, .d (.int .i64)], .gr 39 (.int .u64) false])⟩
noncomputable def fx3 : Fx := ⟨[(false, [.g 0 39 (.int .u64)])], [.gr 39 (.int .u64) false], [(false, [.g 1 39 (.int .u64)])], [.gr 39 (.int .u64) false, .gr 39 (.int .u64) false], [], none⟩
noncomputable def fx4 : Fx := ⟨[(false, [.p 0 0])], [.box 65 [.g 1 0 .bool, .d (.int .i64)], .gr 39 (.int .u64) false], [(false, [.d (.int .u64)])], [.box 65 [.g 1 0 .bool, .d (.int .i64)], .gr 39 (.int .u64) false], [], none⟩
noncomputable def fx5 : Fx := ⟨[(false, [.d (.sl 39 (.int .u64))]), (false, [.d (.int .i64)])], [], [(false, [.d (.int .u64)])], [], [], none⟩
noncomputable def tb : List (FuncId × Fx) := [(5, fx0), (19, fx1), (17, fx2), (33, fx3), (20, fx4), (21, fx5)]
theorem tbOk : TbOk Pr tb := tbOk_of (by kernel_rfl)
theorem fn0 : fnAt Pr tb 0 = some Go.Proofs.Try.f5 := by kernel_rfl
theorem fn1 : fnAt Pr tb 1 = some Go.Proofs.Try.f19 := by kernel_rfl
theorem fn2 : fnAt Pr tb 2 = some Go.Proofs.Try.f17 := by kernel_rfl
theorem fn3 : fnAt Pr tb 3 = some Go.Proofs.Try.f33 := by kernel_rfl
theorem fn4 : fnAt Pr tb 4 = some Go.Proofs.Try.f20 := by kernel_rfl
theorem fn5 : fnAt Pr tb 5 = some Go.Proofs.Try.f21 := by kernel_rfl
noncomputable def G : Giv tab tb := fun _ => none
theorem F_holds (key : Nat) : Snd Pr tb key (F Pr tb G key) := F_ok tbOk (fun _ _ h => by cases h) key
theorem okL : okS Pr tab.fs [] [] = true := by kernel_rfl
noncomputable def F5_lethelaw01_DiceOwn (x0 : (List Int)) : Option (Bool × Unit) := F Pr tb G 0 [⟨(.sl 39 (.int .u64)), x0⟩]
noncomputable def F5_lethelaw01_DiceOwn_l1000007 (v28 : Int) (v29 : Int) (g0 : (List Int)) (h1_1 : Int) (g2 : (List Int)) (g3 : (List Int)) : Option (Bool × Unit) :=
  run Pr tb G fx0.fin Go.Proofs.Try.f5 fx0 ⟨todoAt Go.Proofs.Try.f5 1000007, [(3, .v (false, [.g 0])), (4, .v (false, [.p 1 0])), (6, .v (false, [.g 2])), (28, .v (false, [.d (.int .i64) v28])), (29, .v (false, [.d (.int .i64) v29]))], [.gr 39 (.int .u64) g0 false, .box 65 [.g 3, .d (.int .i64) h1_1], .gr 39 (.int .u64) g2 false, .gr 39 (.int .u64) g3 false]⟩
noncomputable def F5_lethelaw01_DiceOwn_l1000012 (v37 : Int) (v38 : Int) (h0_1 : Int) (g1 : (List Int)) (g2 : (List Int)) : Option (Bool × Unit) :=
  run Pr tb G fx0.fin Go.Proofs.Try.f5 fx0 ⟨todoAt Go.Proofs.Try.f5 1000012, [(4, .v (false, [.p 0 0])), (6, .v (false, [.g 1])), (37, .v (false, [.d (.int .i64) v37])), (38, .v (false, [.d (.int .i64) v38]))], [.box 65 [.g 2, .d (.int .i64) h0_1], .gr 39 (.int .u64) g1 false, .gr 39 (.int .u64) g2 false]⟩
noncomputable def F19_lethelaw01_short (x0 : (List Int)) (x1 : Int) : Option ((List Int) × Unit) := F Pr tb G 1 [⟨(.sl 39 (.int .u64)), x0⟩, ⟨(.int .i64), x1⟩]
noncomputable def F17_dice_New (g0 : (List Int)) : Option (Bool × Int × (List Int) × Int × (List Int) × Int × (List Int) × Unit) := F Pr tb G 2 [⟨(.sl 39 (.int .u64)), g0⟩]
noncomputable def F33_slices_Clone (g0 : (List Int)) : Option ((List Int) × (List Int) × Unit) := F Pr tb G 3 [⟨(.sl 39 (.int .u64)), g0⟩]
noncomputable def F20_dice_Dice_Next (h0_1 : Int) (g1 : (List Int)) : Option (Int × Int × (List Int) × Unit) := F Pr tb G 4 [⟨(.int .i64), h0_1⟩, ⟨(.sl 39 (.int .u64)), g1⟩]
noncomputable def F21_letheref01_Draw (x0 : (List Int)) (x1 : Int) : Option (Int × Unit) := F Pr tb G 5 [⟨(.sl 39 (.int .u64)), x0⟩, ⟨(.int .i64), x1⟩]
end
end Go.Proofs.Ytpnjchejnghplaa.DiceOwnx
