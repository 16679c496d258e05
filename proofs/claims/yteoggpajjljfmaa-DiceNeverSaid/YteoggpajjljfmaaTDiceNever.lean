/- The law DiceNever: types, signatures and names of the functions that it reaches. Under no condition. -/
import Derived.Test.YteoggpajjljfmaaRxI
import Derived.Test.YteoggpajjljfmaaRxC
import Derived.Test.YteoggpajjljfmaaProg
import Derived.KernelRfl
set_option linter.unusedVariables false
set_option maxRecDepth 100000
namespace Go.Proofs.Yteoggpajjljfmaa.DiceNeverx
open Go Go.RowKit Go.Proofs.Yteoggpajjljfmaa.Rx Go.Proofs.Yteoggpajjljfmaa.DiceNeverx
noncomputable section
noncomputable def S (n : Nat) : Type := Unit
noncomputable def fs (n : Nat) : List Ty := []
theorem fs_no {n : Nat}  : fs n = [] := by simp only [fs]
theorem S_no {n : Nat}  : S n = Unit := by simp only [S]
noncomputable def out (n : Nat) : S n → HL S (fs n) :=
  by intro _; rw [fs_no ]; exact ()
noncomputable def pk (n : Nat) : HL S (fs n) → S n :=
  by intro _; rw [S_no ]; exact ()
noncomputable def z (n : Nat) : S n :=
  by rw [S_no ]; exact ()
theorem out_pk (n : Nat) (h : HL S (fs n)) : out n (pk n h) = h := by
  have e : ∀ a b : HL S (fs n), a = b := by rw [fs_no ]; intro a b; rfl
  exact e _ _
theorem pk_out (n : Nat) (x : S n) : pk n (out n x) = x := by
  have e : ∀ a b : S n, a = b := by rw [S_no ]; intro a b; rfl
  exact e _ _
noncomputable def tab : Tab := { S := S, fs := fs, out := out, pk := pk, z := z, out_pk := out_pk, pk_out := pk_out }
noncomputable abbrev Pr := Go.Proofs.Try.prog
noncomputable def fx0 : Fx := ⟨[(false, [.d (.sl 29 (.int .u64))]), (false, [.d (.int .i64)])], [], [(false, [.d .bool])], [], [(1000011, ⟨[(5, [.d (.sl 29 (.int .u64))]), (6, [.k]), (8, [.d (.int .i64)]), (9, [.o 29 (.int .u64)]), (10, [.d .bool]), (11, [.d (.int .i64)])], [[.o 29 (.int .u64), .d (.int .i64)]]⟩), (1000015, ⟨[(5, [.d (.sl 29 (.int .u64))]), (6, [.k]), (8, [.d (.int .i64)]), (9, [.o 29 (.int .u64)]), (10, [.d .bool]), (11, [.d (.int .i64)]), (12, [.d (.int .u64)]), (50, [.o 29 (.int .u64)]), (51, [.d (.int .i64)]), (52, [.d (.int .i64)])], [[.o 29 (.int .u64), .d (.int .i64)]]⟩), (1000022, ⟨[(5, [.d (.sl 29 (.int .u64))]), (8, [.d (.int .i64)]), (9, [.o 29 (.int .u64)]), (10, [.d .bool]), (15, [.d .bool]), (68, [.d (.int .i64)]), (69, [.d (.int .i64)])], []⟩), (1000025, ⟨[(5, [.d (.sl 29 (.int .u64))]), (8, [.d (.int .i64)]), (9, [.o 29 (.int .u64)]), (10, [.d .bool]), (15, [.d .bool]), (16, [.d (.int .i64)]), (17, [.d (.int .i64)]), (68, [.d (.int .i64)]), (69, [.d (.int .i64)])], []⟩)], none⟩
noncomputable def fx1 : Fx := ⟨[(false, [.d (.sl 29 (.int .u64))]), (false, [.d (.int .i64)])], [], [(false, [.d (.sl 29 (.int .u64))])], [], [], none⟩
noncomputable def fx2 : Fx := ⟨[(false, [.d (.sl 29 (.int .u64))])], [], [(false, [.pn]), (false, [.d (.int .i64)])], [], [], some ([(false, [.p 0 0]), (false, [.d (.int .i64)])], [.box 53 [.g 1 0 .bool, .d (.int .i64)], .gr 29 (.int .u64) false])⟩
noncomputable def fx3 : Fx := ⟨[(false, [.d (.sl 29 (.int .u64))])], [], [(false, [.g 0 29 (.int .u64)])], [.gr 29 (.int .u64) false], [], none⟩
noncomputable def fx4 : Fx := ⟨[(false, [.p 0 0])], [.box 53 [.g 1 0 .bool, .d (.int .i64)], .gr 29 (.int .u64) false], [(false, [.d (.int .u64)])], [.box 53 [.g 1 0 .bool, .d (.int .i64)], .gr 29 (.int .u64) false], [], none⟩
noncomputable def fx5 : Fx := ⟨[(false, [.d (.sl 29 (.int .u64))])], [], [(false, [.d .bool])], [], [(1000004, ⟨[(3, [.o 29 (.int .u64)]), (10, [.o 29 (.int .u64)]), (11, [.d (.int .i64)]), (12, [.d (.int .i64)])], []⟩)], none⟩
noncomputable def fx6 : Fx := ⟨[(false, [.g 0 29 (.int .u64)])], [.gr 29 (.int .u64) false], [], [.gr 29 (.int .u64) false], [], none⟩
noncomputable def fx7 : Fx := ⟨[(false, [.d (.int .u64)])], [], [(false, [.d (.int .i64)])], [], [], none⟩
noncomputable def fx8 : Fx := ⟨[(false, [.g 0 29 (.int .u64)]), (false, [.d (.int .i64)]), (false, [.d (.int .i64)]), (false, [.d (.int .i64)])], [.gr 29 (.int .u64) false], [], [.gr 29 (.int .u64) false], [(15, ⟨[(0, [.o 29 (.int .u64)]), (1, [.d (.int .i64)]), (2, [.d (.int .i64)]), (3, [.d (.int .i64)]), (8, [.d .bool]), (9, [.d .bool]), (10, [.d (.int .i64)]), (11, [.d (.int .i64)]), (12, [.d (.int .i64)])], []⟩), (17, ⟨[(0, [.o 29 (.int .u64)]), (1, [.d (.int .i64)]), (2, [.d (.int .i64)]), (3, [.d (.int .i64)]), (8, [.d .bool]), (9, [.d .bool]), (10, [.d (.int .i64)]), (11, [.d (.int .i64)])], []⟩), (20, ⟨[(0, [.o 29 (.int .u64)]), (1, [.d (.int .i64)]), (2, [.d (.int .i64)]), (3, [.d (.int .i64)]), (10, [.d (.int .i64)]), (11, [.d (.int .i64)])], []⟩), (1000002, ⟨[(0, [.o 29 (.int .u64)]), (1, [.d (.int .i64)]), (2, [.d (.int .i64)]), (3, [.d (.int .i64)]), (8, [.d .bool]), (9, [.d .bool])], []⟩)], none⟩
noncomputable def fx9 : Fx := ⟨[(false, [.g 0 29 (.int .u64)]), (false, [.d (.int .i64)]), (false, [.d (.int .i64)])], [.gr 29 (.int .u64) false], [], [.gr 29 (.int .u64) false], [(1000001, ⟨[(0, [.o 29 (.int .u64)]), (1, [.d (.int .i64)]), (2, [.d (.int .i64)]), (6, [.d (.int .i64)])], []⟩), (1000004, ⟨[(0, [.o 29 (.int .u64)]), (1, [.d (.int .i64)]), (2, [.d (.int .i64)]), (6, [.d (.int .i64)]), (7, [.d (.int .i64)])], []⟩)], none⟩
noncomputable def fx10 : Fx := ⟨[(false, [.g 0 29 (.int .u64)]), (false, [.d (.int .i64)]), (false, [.d (.int .i64)])], [.gr 29 (.int .u64) false], [], [.gr 29 (.int .u64) false], [(1000004, ⟨[(0, [.o 29 (.int .u64)]), (6, [.d (.int .i64)]), (7, [.d (.int .i64)]), (8, [.d (.int .i64)]), (9, [.d (.int .i64)])], []⟩), (1000008, ⟨[(0, [.o 29 (.int .u64)]), (6, [.d (.int .i64)]), (7, [.d (.int .i64)]), (10, [.d (.int .i64)])], []⟩)], none⟩
noncomputable def fx11 : Fx := ⟨[(false, [.g 0 29 (.int .u64)]), (false, [.d (.int .i64)]), (false, [.d (.int .i64)])], [.gr 29 (.int .u64) false], [], [.gr 29 (.int .u64) false], [(1000005, ⟨[(0, [.o 29 (.int .u64)]), (1, [.d (.int .i64)]), (6, [.d (.int .i64)]), (7, [.k]), (8, [.d (.int .u64)]), (9, [.d (.int .i64)])], [[], [.d (.int .u64)]]⟩)], none⟩
noncomputable def fx12 : Fx := ⟨[(false, [.g 0 29 (.int .u64)]), (false, [.d (.int .i64)]), (false, [.d (.int .i64)])], [.gr 29 (.int .u64) false], [(false, [.d (.int .i64)]), (false, [.d (.int .i64)])], [.gr 29 (.int .u64) false], [], none⟩
noncomputable def fx13 : Fx := ⟨[(false, [.g 0 29 (.int .u64)]), (false, [.d (.int .i64)]), (false, [.d (.int .i64)])], [.gr 29 (.int .u64) false], [], [.gr 29 (.int .u64) false], [(1000002, ⟨[(0, [.o 29 (.int .u64)]), (6, [.d (.int .i64)]), (7, [.d (.int .i64)])], []⟩)], none⟩
noncomputable def fx14 : Fx := ⟨[(false, [.g 0 29 (.int .u64)]), (false, [.d (.int .i64)]), (false, [.d (.int .i64)])], [.gr 29 (.int .u64) false], [(false, [.d .bool])], [.gr 29 (.int .u64) false], [(1000003, ⟨[(0, [.o 29 (.int .u64)]), (1, [.d (.int .i64)]), (2, [.d (.int .i64)]), (7, [.d (.int .i64)]), (8, [.d (.int .i64)])], []⟩), (1000005, ⟨[(0, [.o 29 (.int .u64)]), (1, [.d (.int .i64)]), (2, [.d (.int .i64)]), (7, [.d (.int .i64)]), (8, [.d (.int .i64)])], []⟩), (1000014, ⟨[(0, [.o 29 (.int .u64)]), (1, [.d (.int .i64)]), (2, [.d (.int .i64)]), (7, [.d (.int .i64)]), (8, [.d (.int .i64)]), (9, [.d (.int .i64)])], []⟩), (1000020, ⟨[(0, [.o 29 (.int .u64)]), (1, [.d (.int .i64)]), (2, [.d (.int .i64)]), (7, [.d (.int .i64)]), (8, [.d (.int .i64)]), (10, [.d (.int .i64)])], []⟩)], none⟩
noncomputable def fx15 : Fx := ⟨[(false, [.d (.int .u64)]), (false, [.d (.int .u64)])], [], [(false, [.d .bool])], [], [], none⟩
noncomputable def fx16 : Fx := ⟨[(false, [.g 0 29 (.int .u64)]), (false, [.d (.int .i64)]), (false, [.d (.int .i64)]), (false, [.d (.int .i64)])], [.gr 29 (.int .u64) false], [(false, [.d (.int .i64)])], [.gr 29 (.int .u64) false], [(1000003, ⟨[(0, [.o 29 (.int .u64)]), (1, [.d (.int .i64)]), (9, [.d (.int .i64)]), (10, [.d (.int .i64)])], []⟩), (1000005, ⟨[(0, [.o 29 (.int .u64)]), (1, [.d (.int .i64)]), (9, [.d (.int .i64)]), (10, [.d (.int .i64)])], []⟩), (1100003, ⟨[(0, [.o 29 (.int .u64)]), (1, [.d (.int .i64)]), (9, [.d (.int .i64)]), (10, [.d (.int .i64)])], []⟩)], none⟩
noncomputable def fx17 : Fx := ⟨[(false, [.g 0 29 (.int .u64)]), (false, [.d (.int .i64)]), (false, [.d (.int .i64)]), (false, [.d (.int .i64)])], [.gr 29 (.int .u64) false], [(false, [.d (.int .i64)]), (false, [.d .bool])], [.gr 29 (.int .u64) false], [(1000003, ⟨[(0, [.o 29 (.int .u64)]), (1, [.d (.int .i64)]), (10, [.d (.int .i64)]), (11, [.d (.int .i64)])], []⟩), (1000005, ⟨[(0, [.o 29 (.int .u64)]), (1, [.d (.int .i64)]), (10, [.d (.int .i64)]), (11, [.d (.int .i64)])], []⟩), (1000013, ⟨[(0, [.o 29 (.int .u64)]), (1, [.d (.int .i64)]), (10, [.d (.int .i64)]), (11, [.d (.int .i64)])], []⟩), (1000015, ⟨[(0, [.o 29 (.int .u64)]), (1, [.d (.int .i64)]), (10, [.d (.int .i64)]), (11, [.d (.int .i64)])], []⟩), (1100013, ⟨[(0, [.o 29 (.int .u64)]), (1, [.d (.int .i64)]), (10, [.d (.int .i64)]), (11, [.d (.int .i64)])], []⟩)], none⟩
noncomputable def fx18 : Fx := ⟨[(false, [.d (.int .u64)])], [], [(false, [.d .bool])], [], [], none⟩
noncomputable def fx19 : Fx := ⟨[(false, [.g 0 29 (.int .u64)]), (false, [.d (.int .i64)]), (false, [.p 1 0])], [.gr 29 (.int .u64) false, .box 3 [.d (.int .i64)]], [(false, [.d (.int .i64)])], [.gr 29 (.int .u64) false, .box 3 [.d (.int .i64)]], [], none⟩
noncomputable def fx20 : Fx := ⟨[(false, [.g 0 29 (.int .u64)]), (false, [.d (.int .i64)]), (false, [.d (.int .i64)]), (false, [.d (.int .i64)]), (false, [.p 1 0])], [.gr 29 (.int .u64) false, .box 3 [.d (.int .i64)]], [(false, [.d (.int .i64)])], [.gr 29 (.int .u64) false, .box 3 [.d (.int .i64)]], [], none⟩
noncomputable def fx21 : Fx := ⟨[(false, [.g 0 29 (.int .u64)]), (false, [.d (.int .i64)]), (false, [.d (.int .i64)]), (false, [.p 1 0])], [.gr 29 (.int .u64) false, .box 3 [.d (.int .i64)]], [(false, [.d (.int .i64)]), (false, [.d (.int .i64)])], [.gr 29 (.int .u64) false, .box 3 [.d (.int .i64)]], [], none⟩
noncomputable def fx22 : Fx := ⟨[(false, [.d (.int .i64)])], [], [(false, [.d (.int .u64)])], [], [], none⟩
noncomputable def fx23 : Fx := ⟨[(false, [.p 0 0])], [.box 88 [.d (.int .u64)]], [(false, [.d (.int .u64)])], [.box 88 [.d (.int .u64)]], [], none⟩
noncomputable def fx24 : Fx := ⟨[(false, [.g 0 29 (.int .u64)]), (false, [.d (.int .i64)]), (false, [.d (.int .i64)]), (false, [.d (.int .i64)])], [.gr 29 (.int .u64) false], [], [.gr 29 (.int .u64) false], [(1000001, ⟨[(0, [.o 29 (.int .u64)]), (2, [.d (.int .i64)]), (3, [.d (.int .i64)]), (8, [.d (.int .i64)])], []⟩)], none⟩
noncomputable def fx25 : Fx := ⟨[(false, [.d (.int .u64)])], [], [(false, [.d (.int .i64)])], [], [(7, ⟨[(0, [.d (.int .u64)]), (2, [.d (.int .i64)])], []⟩), (10, ⟨[(0, [.d (.int .u64)]), (2, [.d (.int .i64)])], []⟩)], none⟩
noncomputable def tb : List (FuncId × Fx) := [(4, fx0), (8, fx1), (11, fx2), (23, fx3), (12, fx4), (9, fx5), (24, fx6), (37, fx7), (36, fx8), (43, fx9), (44, fx10), (45, fx11), (46, fx12), (47, fx13), (48, fx14), (49, fx15), (50, fx16), (51, fx17), (70, fx18), (68, fx19), (69, fx20), (76, fx21), (66, fx22), (67, fx23), (65, fx24), (53, fx25)]
theorem tbOk : TbOk Pr tb := tbOk_of (by kernel_rfl)
theorem fn0 : fnAt Pr tb 0 = some Go.Proofs.Try.f4 := by kernel_rfl
theorem fn1 : fnAt Pr tb 1 = some Go.Proofs.Try.f8 := by kernel_rfl
theorem fn2 : fnAt Pr tb 2 = some Go.Proofs.Try.f11 := by kernel_rfl
theorem fn3 : fnAt Pr tb 3 = some Go.Proofs.Try.f23 := by kernel_rfl
theorem fn4 : fnAt Pr tb 4 = some Go.Proofs.Try.f12 := by kernel_rfl
theorem fn5 : fnAt Pr tb 5 = some Go.Proofs.Try.f9 := by kernel_rfl
theorem fn6 : fnAt Pr tb 6 = some Go.Proofs.Try.f24 := by kernel_rfl
theorem fn7 : fnAt Pr tb 7 = some Go.Proofs.Try.f37 := by kernel_rfl
theorem fn8 : fnAt Pr tb 8 = some Go.Proofs.Try.f36 := by kernel_rfl
theorem fn9 : fnAt Pr tb 9 = some Go.Proofs.Try.f43 := by kernel_rfl
theorem fn10 : fnAt Pr tb 10 = some Go.Proofs.Try.f44 := by kernel_rfl
theorem fn11 : fnAt Pr tb 11 = some Go.Proofs.Try.f45 := by kernel_rfl
theorem fn12 : fnAt Pr tb 12 = some Go.Proofs.Try.f46 := by kernel_rfl
theorem fn13 : fnAt Pr tb 13 = some Go.Proofs.Try.f47 := by kernel_rfl
theorem fn14 : fnAt Pr tb 14 = some Go.Proofs.Try.f48 := by kernel_rfl
theorem fn15 : fnAt Pr tb 15 = some Go.Proofs.Try.f49 := by kernel_rfl
theorem fn16 : fnAt Pr tb 16 = some Go.Proofs.Try.f50 := by kernel_rfl
theorem fn17 : fnAt Pr tb 17 = some Go.Proofs.Try.f51 := by kernel_rfl
theorem fn18 : fnAt Pr tb 18 = some Go.Proofs.Try.f70 := by kernel_rfl
theorem fn19 : fnAt Pr tb 19 = some Go.Proofs.Try.f68 := by kernel_rfl
theorem fn20 : fnAt Pr tb 20 = some Go.Proofs.Try.f69 := by kernel_rfl
theorem fn21 : fnAt Pr tb 21 = some Go.Proofs.Try.f76 := by kernel_rfl
theorem fn22 : fnAt Pr tb 22 = some Go.Proofs.Try.f66 := by kernel_rfl
theorem fn23 : fnAt Pr tb 23 = some Go.Proofs.Try.f67 := by kernel_rfl
theorem fn24 : fnAt Pr tb 24 = some Go.Proofs.Try.f65 := by kernel_rfl
theorem fn25 : fnAt Pr tb 25 = some Go.Proofs.Try.f53 := by kernel_rfl
noncomputable def G : Giv tab tb := fun _ => none
theorem F_holds (key : Nat) : Snd Pr tb key (F Pr tb G key) := F_ok tbOk (fun _ _ h => by cases h) key
theorem okL : okS Pr tab.fs [] [] = true := by kernel_rfl
noncomputable def F4_lethelaw01_DiceNever (x0 : (List Int)) (x1 : Int) : Option (Bool × Unit) := F Pr tb G 0 [⟨(.sl 29 (.int .u64)), x0⟩, ⟨(.int .i64), x1⟩]
noncomputable def F4_lethelaw01_DiceNever_l1000011 (v5 : (List Int)) (v8 : Int) (v10 : Bool) (v11 : Int) (h0_1 : Int) (g1 : (List Int)) (g2 : (List Int)) : Option (Bool × Unit) :=
  run Pr tb G fx0.fin Go.Proofs.Try.f4 fx0 ⟨todoAt Go.Proofs.Try.f4 1000011, [(5, .v (false, [.d (.sl 29 (.int .u64)) v5])), (6, .v (false, [.p 0 0])), (8, .v (false, [.d (.int .i64) v8])), (9, .v (false, [.g 1])), (10, .v (false, [.d .bool v10])), (11, .v (false, [.d (.int .i64) v11]))], [.box 53 [.g 2, .d (.int .i64) h0_1], .gr 29 (.int .u64) g1 false, .gr 29 (.int .u64) g2 false]⟩
noncomputable def F4_lethelaw01_DiceNever_l1000015 (v5 : (List Int)) (v8 : Int) (v10 : Bool) (v11 : Int) (v12 : Int) (v51 : Int) (v52 : Int) (h0_1 : Int) (g1 : (List Int)) (g2 : (List Int)) : Option (Bool × Unit) :=
  run Pr tb G fx0.fin Go.Proofs.Try.f4 fx0 ⟨todoAt Go.Proofs.Try.f4 1000015, [(5, .v (false, [.d (.sl 29 (.int .u64)) v5])), (6, .v (false, [.p 0 0])), (8, .v (false, [.d (.int .i64) v8])), (9, .v (false, [.g 1])), (10, .v (false, [.d .bool v10])), (11, .v (false, [.d (.int .i64) v11])), (12, .v (false, [.d (.int .u64) v12])), (50, .v (false, [.g 1])), (51, .v (false, [.d (.int .i64) v51])), (52, .v (false, [.d (.int .i64) v52]))], [.box 53 [.g 2, .d (.int .i64) h0_1], .gr 29 (.int .u64) g1 false, .gr 29 (.int .u64) g2 false]⟩
noncomputable def F4_lethelaw01_DiceNever_l1000022 (v5 : (List Int)) (v8 : Int) (v10 : Bool) (v15 : Bool) (v68 : Int) (v69 : Int) (g0 : (List Int)) : Option (Bool × Unit) :=
  run Pr tb G fx0.fin Go.Proofs.Try.f4 fx0 ⟨todoAt Go.Proofs.Try.f4 1000022, [(5, .v (false, [.d (.sl 29 (.int .u64)) v5])), (8, .v (false, [.d (.int .i64) v8])), (9, .v (false, [.g 0])), (10, .v (false, [.d .bool v10])), (15, .v (false, [.d .bool v15])), (68, .v (false, [.d (.int .i64) v68])), (69, .v (false, [.d (.int .i64) v69]))], [.gr 29 (.int .u64) g0 false]⟩
noncomputable def F4_lethelaw01_DiceNever_l1000025 (v5 : (List Int)) (v8 : Int) (v10 : Bool) (v15 : Bool) (v16 : Int) (v17 : Int) (v68 : Int) (v69 : Int) (g0 : (List Int)) : Option (Bool × Unit) :=
  run Pr tb G fx0.fin Go.Proofs.Try.f4 fx0 ⟨todoAt Go.Proofs.Try.f4 1000025, [(5, .v (false, [.d (.sl 29 (.int .u64)) v5])), (8, .v (false, [.d (.int .i64) v8])), (9, .v (false, [.g 0])), (10, .v (false, [.d .bool v10])), (15, .v (false, [.d .bool v15])), (16, .v (false, [.d (.int .i64) v16])), (17, .v (false, [.d (.int .i64) v17])), (68, .v (false, [.d (.int .i64) v68])), (69, .v (false, [.d (.int .i64) v69]))], [.gr 29 (.int .u64) g0 false]⟩
noncomputable def F8_lethelaw01_short (x0 : (List Int)) (x1 : Int) : Option ((List Int) × Unit) := F Pr tb G 1 [⟨(.sl 29 (.int .u64)), x0⟩, ⟨(.int .i64), x1⟩]
noncomputable def F11_dice_New (x0 : (List Int)) : Option (Bool × Int × Int × Int × (List Int) × Unit) := F Pr tb G 2 [⟨(.sl 29 (.int .u64)), x0⟩]
noncomputable def F23_slices_Clone (x0 : (List Int)) : Option ((List Int) × Unit) := F Pr tb G 3 [⟨(.sl 29 (.int .u64)), x0⟩]
noncomputable def F12_dice_Dice_Next (h0_1 : Int) (g1 : (List Int)) : Option (Int × Int × (List Int) × Unit) := F Pr tb G 4 [⟨(.int .i64), h0_1⟩, ⟨(.sl 29 (.int .u64)), g1⟩]
noncomputable def F9_dice_Fresh (x0 : (List Int)) : Option (Bool × Unit) := F Pr tb G 5 [⟨(.sl 29 (.int .u64)), x0⟩]
noncomputable def F9_dice_Fresh_l1000004 (v11 : Int) (v12 : Int) (g0 : (List Int)) : Option (Bool × Unit) :=
  run Pr tb G fx5.fin Go.Proofs.Try.f9 fx5 ⟨todoAt Go.Proofs.Try.f9 1000004, [(3, .v (false, [.g 0])), (10, .v (false, [.g 0])), (11, .v (false, [.d (.int .i64) v11])), (12, .v (false, [.d (.int .i64) v12]))], [.gr 29 (.int .u64) g0 false]⟩
noncomputable def F24_slices_Sort (g0 : (List Int)) : Option ((List Int) × Unit) := F Pr tb G 6 [⟨(.sl 29 (.int .u64)), g0⟩]
noncomputable def F37_bits_Len (x0 : Int) : Option (Int × Unit) := F Pr tb G 7 [⟨(.int .u64), x0⟩]
noncomputable def F36_slices_pdqsortOrdered (x1 : Int) (x2 : Int) (x3 : Int) (g0 : (List Int)) : Option ((List Int) × Unit) := F Pr tb G 8 [⟨(.int .i64), x1⟩, ⟨(.int .i64), x2⟩, ⟨(.int .i64), x3⟩, ⟨(.sl 29 (.int .u64)), g0⟩]
noncomputable def F36_slices_pdqsortOrdered_l15 (v1 : Int) (v2 : Int) (v3 : Int) (v8 : Bool) (v9 : Bool) (v10 : Int) (v11 : Int) (v12 : Int) (g0 : (List Int)) : Option ((List Int) × Unit) :=
  run Pr tb G fx8.fin Go.Proofs.Try.f36 fx8 ⟨todoAt Go.Proofs.Try.f36 15, [(0, .v (false, [.g 0])), (1, .v (false, [.d (.int .i64) v1])), (2, .v (false, [.d (.int .i64) v2])), (3, .v (false, [.d (.int .i64) v3])), (8, .v (false, [.d .bool v8])), (9, .v (false, [.d .bool v9])), (10, .v (false, [.d (.int .i64) v10])), (11, .v (false, [.d (.int .i64) v11])), (12, .v (false, [.d (.int .i64) v12]))], [.gr 29 (.int .u64) g0 false]⟩
noncomputable def F36_slices_pdqsortOrdered_l17 (v1 : Int) (v2 : Int) (v3 : Int) (v8 : Bool) (v9 : Bool) (v10 : Int) (v11 : Int) (g0 : (List Int)) : Option ((List Int) × Unit) :=
  run Pr tb G fx8.fin Go.Proofs.Try.f36 fx8 ⟨todoAt Go.Proofs.Try.f36 17, [(0, .v (false, [.g 0])), (1, .v (false, [.d (.int .i64) v1])), (2, .v (false, [.d (.int .i64) v2])), (3, .v (false, [.d (.int .i64) v3])), (8, .v (false, [.d .bool v8])), (9, .v (false, [.d .bool v9])), (10, .v (false, [.d (.int .i64) v10])), (11, .v (false, [.d (.int .i64) v11]))], [.gr 29 (.int .u64) g0 false]⟩
noncomputable def F36_slices_pdqsortOrdered_l20 (v1 : Int) (v2 : Int) (v3 : Int) (v10 : Int) (v11 : Int) (g0 : (List Int)) : Option ((List Int) × Unit) :=
  run Pr tb G fx8.fin Go.Proofs.Try.f36 fx8 ⟨todoAt Go.Proofs.Try.f36 20, [(0, .v (false, [.g 0])), (1, .v (false, [.d (.int .i64) v1])), (2, .v (false, [.d (.int .i64) v2])), (3, .v (false, [.d (.int .i64) v3])), (10, .v (false, [.d (.int .i64) v10])), (11, .v (false, [.d (.int .i64) v11]))], [.gr 29 (.int .u64) g0 false]⟩
noncomputable def F36_slices_pdqsortOrdered_l1000002 (v1 : Int) (v2 : Int) (v3 : Int) (v8 : Bool) (v9 : Bool) (g0 : (List Int)) : Option ((List Int) × Unit) :=
  run Pr tb G fx8.fin Go.Proofs.Try.f36 fx8 ⟨todoAt Go.Proofs.Try.f36 1000002, [(0, .v (false, [.g 0])), (1, .v (false, [.d (.int .i64) v1])), (2, .v (false, [.d (.int .i64) v2])), (3, .v (false, [.d (.int .i64) v3])), (8, .v (false, [.d .bool v8])), (9, .v (false, [.d .bool v9]))], [.gr 29 (.int .u64) g0 false]⟩
noncomputable def F43_slices_insertionSortOrdered (x1 : Int) (x2 : Int) (g0 : (List Int)) : Option ((List Int) × Unit) := F Pr tb G 9 [⟨(.int .i64), x1⟩, ⟨(.int .i64), x2⟩, ⟨(.sl 29 (.int .u64)), g0⟩]
noncomputable def F43_slices_insertionSortOrdered_l1000001 (v1 : Int) (v2 : Int) (v6 : Int) (g0 : (List Int)) : Option ((List Int) × Unit) :=
  run Pr tb G fx9.fin Go.Proofs.Try.f43 fx9 ⟨todoAt Go.Proofs.Try.f43 1000001, [(0, .v (false, [.g 0])), (1, .v (false, [.d (.int .i64) v1])), (2, .v (false, [.d (.int .i64) v2])), (6, .v (false, [.d (.int .i64) v6]))], [.gr 29 (.int .u64) g0 false]⟩
noncomputable def F43_slices_insertionSortOrdered_l1000004 (v1 : Int) (v2 : Int) (v6 : Int) (v7 : Int) (g0 : (List Int)) : Option ((List Int) × Unit) :=
  run Pr tb G fx9.fin Go.Proofs.Try.f43 fx9 ⟨todoAt Go.Proofs.Try.f43 1000004, [(0, .v (false, [.g 0])), (1, .v (false, [.d (.int .i64) v1])), (2, .v (false, [.d (.int .i64) v2])), (6, .v (false, [.d (.int .i64) v6])), (7, .v (false, [.d (.int .i64) v7]))], [.gr 29 (.int .u64) g0 false]⟩
noncomputable def F44_slices_heapSortOrdered (x1 : Int) (x2 : Int) (g0 : (List Int)) : Option ((List Int) × Unit) := F Pr tb G 10 [⟨(.int .i64), x1⟩, ⟨(.int .i64), x2⟩, ⟨(.sl 29 (.int .u64)), g0⟩]
noncomputable def F44_slices_heapSortOrdered_l1000004 (v6 : Int) (v7 : Int) (v8 : Int) (v9 : Int) (g0 : (List Int)) : Option ((List Int) × Unit) :=
  run Pr tb G fx10.fin Go.Proofs.Try.f44 fx10 ⟨todoAt Go.Proofs.Try.f44 1000004, [(0, .v (false, [.g 0])), (6, .v (false, [.d (.int .i64) v6])), (7, .v (false, [.d (.int .i64) v7])), (8, .v (false, [.d (.int .i64) v8])), (9, .v (false, [.d (.int .i64) v9]))], [.gr 29 (.int .u64) g0 false]⟩
noncomputable def F44_slices_heapSortOrdered_l1000008 (v6 : Int) (v7 : Int) (v10 : Int) (g0 : (List Int)) : Option ((List Int) × Unit) :=
  run Pr tb G fx10.fin Go.Proofs.Try.f44 fx10 ⟨todoAt Go.Proofs.Try.f44 1000008, [(0, .v (false, [.g 0])), (6, .v (false, [.d (.int .i64) v6])), (7, .v (false, [.d (.int .i64) v7])), (10, .v (false, [.d (.int .i64) v10]))], [.gr 29 (.int .u64) g0 false]⟩
noncomputable def F45_slices_breakPatternsOrdered (x1 : Int) (x2 : Int) (g0 : (List Int)) : Option ((List Int) × Unit) := F Pr tb G 11 [⟨(.int .i64), x1⟩, ⟨(.int .i64), x2⟩, ⟨(.sl 29 (.int .u64)), g0⟩]
noncomputable def F45_slices_breakPatternsOrdered_l1000005 (v1 : Int) (v6 : Int) (v8 : Int) (v9 : Int) (g0 : (List Int)) (h1_0 : Int) : Option ((List Int) × Unit) :=
  run Pr tb G fx11.fin Go.Proofs.Try.f45 fx11 ⟨todoAt Go.Proofs.Try.f45 1000005, [(0, .v (false, [.g 0])), (1, .v (false, [.d (.int .i64) v1])), (6, .v (false, [.d (.int .i64) v6])), (7, .v (false, [.p 1 0])), (8, .v (false, [.d (.int .u64) v8])), (9, .v (false, [.d (.int .i64) v9]))], [.gr 29 (.int .u64) g0 false, .box 88 [.d (.int .u64) h1_0]]⟩
noncomputable def F46_slices_choosePivotOrdered (x1 : Int) (x2 : Int) (g0 : (List Int)) : Option (Int × Int × (List Int) × Unit) := F Pr tb G 12 [⟨(.int .i64), x1⟩, ⟨(.int .i64), x2⟩, ⟨(.sl 29 (.int .u64)), g0⟩]
noncomputable def F47_slices_reverseRangeOrdered (x1 : Int) (x2 : Int) (g0 : (List Int)) : Option ((List Int) × Unit) := F Pr tb G 13 [⟨(.int .i64), x1⟩, ⟨(.int .i64), x2⟩, ⟨(.sl 29 (.int .u64)), g0⟩]
noncomputable def F47_slices_reverseRangeOrdered_l1000002 (v6 : Int) (v7 : Int) (g0 : (List Int)) : Option ((List Int) × Unit) :=
  run Pr tb G fx13.fin Go.Proofs.Try.f47 fx13 ⟨todoAt Go.Proofs.Try.f47 1000002, [(0, .v (false, [.g 0])), (6, .v (false, [.d (.int .i64) v6])), (7, .v (false, [.d (.int .i64) v7]))], [.gr 29 (.int .u64) g0 false]⟩
noncomputable def F48_slices_partialInsertionSortOrdered (x1 : Int) (x2 : Int) (g0 : (List Int)) : Option (Bool × (List Int) × Unit) := F Pr tb G 14 [⟨(.int .i64), x1⟩, ⟨(.int .i64), x2⟩, ⟨(.sl 29 (.int .u64)), g0⟩]
noncomputable def F48_slices_partialInsertionSortOrdered_l1000003 (v1 : Int) (v2 : Int) (v7 : Int) (v8 : Int) (g0 : (List Int)) : Option (Bool × (List Int) × Unit) :=
  run Pr tb G fx14.fin Go.Proofs.Try.f48 fx14 ⟨todoAt Go.Proofs.Try.f48 1000003, [(0, .v (false, [.g 0])), (1, .v (false, [.d (.int .i64) v1])), (2, .v (false, [.d (.int .i64) v2])), (7, .v (false, [.d (.int .i64) v7])), (8, .v (false, [.d (.int .i64) v8]))], [.gr 29 (.int .u64) g0 false]⟩
noncomputable def F48_slices_partialInsertionSortOrdered_l1000005 (v1 : Int) (v2 : Int) (v7 : Int) (v8 : Int) (g0 : (List Int)) : Option (Bool × (List Int) × Unit) :=
  run Pr tb G fx14.fin Go.Proofs.Try.f48 fx14 ⟨todoAt Go.Proofs.Try.f48 1000005, [(0, .v (false, [.g 0])), (1, .v (false, [.d (.int .i64) v1])), (2, .v (false, [.d (.int .i64) v2])), (7, .v (false, [.d (.int .i64) v7])), (8, .v (false, [.d (.int .i64) v8]))], [.gr 29 (.int .u64) g0 false]⟩
noncomputable def F48_slices_partialInsertionSortOrdered_l1000014 (v1 : Int) (v2 : Int) (v7 : Int) (v8 : Int) (v9 : Int) (g0 : (List Int)) : Option (Bool × (List Int) × Unit) :=
  run Pr tb G fx14.fin Go.Proofs.Try.f48 fx14 ⟨todoAt Go.Proofs.Try.f48 1000014, [(0, .v (false, [.g 0])), (1, .v (false, [.d (.int .i64) v1])), (2, .v (false, [.d (.int .i64) v2])), (7, .v (false, [.d (.int .i64) v7])), (8, .v (false, [.d (.int .i64) v8])), (9, .v (false, [.d (.int .i64) v9]))], [.gr 29 (.int .u64) g0 false]⟩
noncomputable def F48_slices_partialInsertionSortOrdered_l1000020 (v1 : Int) (v2 : Int) (v7 : Int) (v8 : Int) (v10 : Int) (g0 : (List Int)) : Option (Bool × (List Int) × Unit) :=
  run Pr tb G fx14.fin Go.Proofs.Try.f48 fx14 ⟨todoAt Go.Proofs.Try.f48 1000020, [(0, .v (false, [.g 0])), (1, .v (false, [.d (.int .i64) v1])), (2, .v (false, [.d (.int .i64) v2])), (7, .v (false, [.d (.int .i64) v7])), (8, .v (false, [.d (.int .i64) v8])), (10, .v (false, [.d (.int .i64) v10]))], [.gr 29 (.int .u64) g0 false]⟩
noncomputable def F49_cmp_Less (x0 : Int) (x1 : Int) : Option (Bool × Unit) := F Pr tb G 15 [⟨(.int .u64), x0⟩, ⟨(.int .u64), x1⟩]
noncomputable def F50_slices_partitionEqualOrdered (x1 : Int) (x2 : Int) (x3 : Int) (g0 : (List Int)) : Option (Int × (List Int) × Unit) := F Pr tb G 16 [⟨(.int .i64), x1⟩, ⟨(.int .i64), x2⟩, ⟨(.int .i64), x3⟩, ⟨(.sl 29 (.int .u64)), g0⟩]
noncomputable def F50_slices_partitionEqualOrdered_l1000003 (v1 : Int) (v9 : Int) (v10 : Int) (g0 : (List Int)) : Option (Int × (List Int) × Unit) :=
  run Pr tb G fx16.fin Go.Proofs.Try.f50 fx16 ⟨todoAt Go.Proofs.Try.f50 1000003, [(0, .v (false, [.g 0])), (1, .v (false, [.d (.int .i64) v1])), (9, .v (false, [.d (.int .i64) v9])), (10, .v (false, [.d (.int .i64) v10]))], [.gr 29 (.int .u64) g0 false]⟩
noncomputable def F50_slices_partitionEqualOrdered_l1000005 (v1 : Int) (v9 : Int) (v10 : Int) (g0 : (List Int)) : Option (Int × (List Int) × Unit) :=
  run Pr tb G fx16.fin Go.Proofs.Try.f50 fx16 ⟨todoAt Go.Proofs.Try.f50 1000005, [(0, .v (false, [.g 0])), (1, .v (false, [.d (.int .i64) v1])), (9, .v (false, [.d (.int .i64) v9])), (10, .v (false, [.d (.int .i64) v10]))], [.gr 29 (.int .u64) g0 false]⟩
noncomputable def F50_slices_partitionEqualOrdered_l1100003 (v1 : Int) (v9 : Int) (v10 : Int) (g0 : (List Int)) : Option (Int × (List Int) × Unit) :=
  run Pr tb G fx16.fin Go.Proofs.Try.f50 fx16 ⟨todoAt Go.Proofs.Try.f50 1100003, [(0, .v (false, [.g 0])), (1, .v (false, [.d (.int .i64) v1])), (9, .v (false, [.d (.int .i64) v9])), (10, .v (false, [.d (.int .i64) v10]))], [.gr 29 (.int .u64) g0 false]⟩
noncomputable def F51_slices_partitionOrdered (x1 : Int) (x2 : Int) (x3 : Int) (g0 : (List Int)) : Option (Int × Bool × (List Int) × Unit) := F Pr tb G 17 [⟨(.int .i64), x1⟩, ⟨(.int .i64), x2⟩, ⟨(.int .i64), x3⟩, ⟨(.sl 29 (.int .u64)), g0⟩]
noncomputable def F51_slices_partitionOrdered_l1000003 (v1 : Int) (v10 : Int) (v11 : Int) (g0 : (List Int)) : Option (Int × Bool × (List Int) × Unit) :=
  run Pr tb G fx17.fin Go.Proofs.Try.f51 fx17 ⟨todoAt Go.Proofs.Try.f51 1000003, [(0, .v (false, [.g 0])), (1, .v (false, [.d (.int .i64) v1])), (10, .v (false, [.d (.int .i64) v10])), (11, .v (false, [.d (.int .i64) v11]))], [.gr 29 (.int .u64) g0 false]⟩
noncomputable def F51_slices_partitionOrdered_l1000005 (v1 : Int) (v10 : Int) (v11 : Int) (g0 : (List Int)) : Option (Int × Bool × (List Int) × Unit) :=
  run Pr tb G fx17.fin Go.Proofs.Try.f51 fx17 ⟨todoAt Go.Proofs.Try.f51 1000005, [(0, .v (false, [.g 0])), (1, .v (false, [.d (.int .i64) v1])), (10, .v (false, [.d (.int .i64) v10])), (11, .v (false, [.d (.int .i64) v11]))], [.gr 29 (.int .u64) g0 false]⟩
noncomputable def F51_slices_partitionOrdered_l1000013 (v1 : Int) (v10 : Int) (v11 : Int) (g0 : (List Int)) : Option (Int × Bool × (List Int) × Unit) :=
  run Pr tb G fx17.fin Go.Proofs.Try.f51 fx17 ⟨todoAt Go.Proofs.Try.f51 1000013, [(0, .v (false, [.g 0])), (1, .v (false, [.d (.int .i64) v1])), (10, .v (false, [.d (.int .i64) v10])), (11, .v (false, [.d (.int .i64) v11]))], [.gr 29 (.int .u64) g0 false]⟩
noncomputable def F51_slices_partitionOrdered_l1000015 (v1 : Int) (v10 : Int) (v11 : Int) (g0 : (List Int)) : Option (Int × Bool × (List Int) × Unit) :=
  run Pr tb G fx17.fin Go.Proofs.Try.f51 fx17 ⟨todoAt Go.Proofs.Try.f51 1000015, [(0, .v (false, [.g 0])), (1, .v (false, [.d (.int .i64) v1])), (10, .v (false, [.d (.int .i64) v10])), (11, .v (false, [.d (.int .i64) v11]))], [.gr 29 (.int .u64) g0 false]⟩
noncomputable def F51_slices_partitionOrdered_l1100013 (v1 : Int) (v10 : Int) (v11 : Int) (g0 : (List Int)) : Option (Int × Bool × (List Int) × Unit) :=
  run Pr tb G fx17.fin Go.Proofs.Try.f51 fx17 ⟨todoAt Go.Proofs.Try.f51 1100013, [(0, .v (false, [.g 0])), (1, .v (false, [.d (.int .i64) v1])), (10, .v (false, [.d (.int .i64) v10])), (11, .v (false, [.d (.int .i64) v11]))], [.gr 29 (.int .u64) g0 false]⟩
noncomputable def F70_cmp_isNaN (x0 : Int) : Option (Bool × Unit) := F Pr tb G 18 [⟨(.int .u64), x0⟩]
noncomputable def F68_slices_medianAdjacentOrdered (x1 : Int) (g0 : (List Int)) (h1_0 : Int) : Option (Int × (List Int) × Int × Unit) := F Pr tb G 19 [⟨(.int .i64), x1⟩, ⟨(.sl 29 (.int .u64)), g0⟩, ⟨(.int .i64), h1_0⟩]
noncomputable def F69_slices_medianOrdered (x1 : Int) (x2 : Int) (x3 : Int) (g0 : (List Int)) (h1_0 : Int) : Option (Int × (List Int) × Int × Unit) := F Pr tb G 20 [⟨(.int .i64), x1⟩, ⟨(.int .i64), x2⟩, ⟨(.int .i64), x3⟩, ⟨(.sl 29 (.int .u64)), g0⟩, ⟨(.int .i64), h1_0⟩]
noncomputable def F76_slices_order2Ordered (x1 : Int) (x2 : Int) (g0 : (List Int)) (h1_0 : Int) : Option (Int × Int × (List Int) × Int × Unit) := F Pr tb G 21 [⟨(.int .i64), x1⟩, ⟨(.int .i64), x2⟩, ⟨(.sl 29 (.int .u64)), g0⟩, ⟨(.int .i64), h1_0⟩]
noncomputable def F66_slices_nextPowerOfTwo (x0 : Int) : Option (Int × Unit) := F Pr tb G 22 [⟨(.int .i64), x0⟩]
noncomputable def F67_slices_xorshift_Next (h0_0 : Int) : Option (Int × Int × Unit) := F Pr tb G 23 [⟨(.int .u64), h0_0⟩]
noncomputable def F65_slices_siftDownOrdered (x1 : Int) (x2 : Int) (x3 : Int) (g0 : (List Int)) : Option ((List Int) × Unit) := F Pr tb G 24 [⟨(.int .i64), x1⟩, ⟨(.int .i64), x2⟩, ⟨(.int .i64), x3⟩, ⟨(.sl 29 (.int .u64)), g0⟩]
noncomputable def F65_slices_siftDownOrdered_l1000001 (v2 : Int) (v3 : Int) (v8 : Int) (g0 : (List Int)) : Option ((List Int) × Unit) :=
  run Pr tb G fx24.fin Go.Proofs.Try.f65 fx24 ⟨todoAt Go.Proofs.Try.f65 1000001, [(0, .v (false, [.g 0])), (2, .v (false, [.d (.int .i64) v2])), (3, .v (false, [.d (.int .i64) v3])), (8, .v (false, [.d (.int .i64) v8]))], [.gr 29 (.int .u64) g0 false]⟩
noncomputable def F53_bits_Len64 (x0 : Int) : Option (Int × Unit) := F Pr tb G 25 [⟨(.int .u64), x0⟩]
noncomputable def F53_bits_Len64_l7 (v0 : Int) (v2 : Int) : Option (Int × Unit) :=
  run Pr tb G fx25.fin Go.Proofs.Try.f53 fx25 ⟨todoAt Go.Proofs.Try.f53 7, [(0, .v (false, [.d (.int .u64) v0])), (2, .v (false, [.d (.int .i64) v2]))], []⟩
noncomputable def F53_bits_Len64_l10 (v0 : Int) (v2 : Int) : Option (Int × Unit) :=
  run Pr tb G fx25.fin Go.Proofs.Try.f53 fx25 ⟨todoAt Go.Proofs.Try.f53 10, [(0, .v (false, [.d (.int .u64) v0])), (2, .v (false, [.d (.int .i64) v2]))], []⟩
end
end Go.Proofs.Yteoggpajjljfmaa.DiceNeverx
