/- The sort of numbers: signatures and names of the functions that it reaches. Under no condition. -/
import Derived.Test.YtckafnfidjfhjaaRxI
import Derived.Test.YtckafnfidjfhjaaRxC
import Derived.Test.YtckafnfidjfhjaaProg
import Derived.Test.YtckafnfidjfhjaaRxHu
import Derived.KernelRfl
set_option linter.unusedVariables false
set_option maxRecDepth 100000
namespace Go.Proofs.Ytckafnfidjfhjaa.Srtx
open Go Go.RowKit Go.Proofs.Ytckafnfidjfhjaa.Rx Go.Proofs.Ytckafnfidjfhjaa.Srtx
noncomputable section
noncomputable def S (n : Nat) : Type := Unit
noncomputable def fs (n : Nat) : List Ty := []
theorem fs_no {n : Nat}  : fs n = [] := by simp only [fs]
theorem S_no {n : Nat}  : S n = Unit := by simp only [S]
noncomputable def out (n : Nat) : S n → HL S (fs n) :=
  by intro _; rw [fs_no ]; exact ()
noncomputable def pk (n : Nat) : HL S (fs n) → S n :=
  by intro _; rw [S_no ]; exact ()
noncomputable def z (n : Nat) : S n :=
  by rw [S_no ]; exact ()
theorem out_pk (n : Nat) (h : HL S (fs n)) : out n (pk n h) = h := by
  have e : ∀ a b : HL S (fs n), a = b := by rw [fs_no ]; intro a b; rfl
  exact e _ _
theorem pk_out (n : Nat) (x : S n) : pk n (out n x) = x := by
  have e : ∀ a b : S n, a = b := by rw [S_no ]; intro a b; rfl
  exact e _ _
noncomputable def tab : Tab := { S := S, fs := fs, out := out, pk := pk, z := z, out_pk := out_pk, pk_out := pk_out }
noncomputable abbrev Pr := Go.Proofs.Try.prog
noncomputable def fx0 : Fx := ⟨[(false, [.g 0 28 (.int .u64)])], [.gr 28 (.int .u64) false], [], [.gr 28 (.int .u64) false], [], none⟩
noncomputable def fx1 : Fx := ⟨[(false, [.d (.int .u64)])], [], [(false, [.d (.int .i64)])], [], [], none⟩
noncomputable def fx2 : Fx := ⟨[(false, [.g 0 28 (.int .u64)]), (false, [.d (.int .i64)]), (false, [.d (.int .i64)]), (false, [.d (.int .i64)])], [.gr 28 (.int .u64) false], [], [.gr 28 (.int .u64) false], [(15, ⟨[(0, [.o 28 (.int .u64)]), (1, [.d (.int .i64)]), (2, [.d (.int .i64)]), (3, [.d (.int .i64)]), (8, [.d .bool]), (9, [.d .bool]), (10, [.d (.int .i64)]), (11, [.d (.int .i64)]), (12, [.d (.int .i64)])], []⟩), (17, ⟨[(0, [.o 28 (.int .u64)]), (1, [.d (.int .i64)]), (2, [.d (.int .i64)]), (3, [.d (.int .i64)]), (8, [.d .bool]), (9, [.d .bool]), (10, [.d (.int .i64)]), (11, [.d (.int .i64)])], []⟩), (20, ⟨[(0, [.o 28 (.int .u64)]), (1, [.d (.int .i64)]), (2, [.d (.int .i64)]), (3, [.d (.int .i64)]), (10, [.d (.int .i64)]), (11, [.d (.int .i64)])], []⟩), (1000002, ⟨[(0, [.o 28 (.int .u64)]), (1, [.d (.int .i64)]), (2, [.d (.int .i64)]), (3, [.d (.int .i64)]), (8, [.d .bool]), (9, [.d .bool])], []⟩)], none⟩
noncomputable def fx3 : Fx := ⟨[(false, [.g 0 28 (.int .u64)]), (false, [.d (.int .i64)]), (false, [.d (.int .i64)])], [.gr 28 (.int .u64) false], [], [.gr 28 (.int .u64) false], [(1000001, ⟨[(0, [.o 28 (.int .u64)]), (1, [.d (.int .i64)]), (2, [.d (.int .i64)]), (6, [.d (.int .i64)])], []⟩), (1000004, ⟨[(0, [.o 28 (.int .u64)]), (1, [.d (.int .i64)]), (2, [.d (.int .i64)]), (6, [.d (.int .i64)]), (7, [.d (.int .i64)])], []⟩)], none⟩
noncomputable def fx4 : Fx := ⟨[(false, [.g 0 28 (.int .u64)]), (false, [.d (.int .i64)]), (false, [.d (.int .i64)])], [.gr 28 (.int .u64) false], [], [.gr 28 (.int .u64) false], [(1000004, ⟨[(0, [.o 28 (.int .u64)]), (6, [.d (.int .i64)]), (7, [.d (.int .i64)]), (8, [.d (.int .i64)]), (9, [.d (.int .i64)])], []⟩), (1000008, ⟨[(0, [.o 28 (.int .u64)]), (6, [.d (.int .i64)]), (7, [.d (.int .i64)]), (10, [.d (.int .i64)])], []⟩)], none⟩
noncomputable def fx5 : Fx := ⟨[(false, [.g 0 28 (.int .u64)]), (false, [.d (.int .i64)]), (false, [.d (.int .i64)])], [.gr 28 (.int .u64) false], [], [.gr 28 (.int .u64) false], [(1000005, ⟨[(0, [.o 28 (.int .u64)]), (1, [.d (.int .i64)]), (6, [.d (.int .i64)]), (7, [.k]), (8, [.d (.int .u64)]), (9, [.d (.int .i64)])], [[], [.d (.int .u64)]]⟩)], none⟩
noncomputable def fx6 : Fx := ⟨[(false, [.g 0 28 (.int .u64)]), (false, [.d (.int .i64)]), (false, [.d (.int .i64)])], [.gr 28 (.int .u64) false], [(false, [.d (.int .i64)]), (false, [.d (.int .i64)])], [.gr 28 (.int .u64) false], [], none⟩
noncomputable def fx7 : Fx := ⟨[(false, [.g 0 28 (.int .u64)]), (false, [.d (.int .i64)]), (false, [.d (.int .i64)])], [.gr 28 (.int .u64) false], [], [.gr 28 (.int .u64) false], [(1000002, ⟨[(0, [.o 28 (.int .u64)]), (6, [.d (.int .i64)]), (7, [.d (.int .i64)])], []⟩)], none⟩
noncomputable def fx8 : Fx := ⟨[(false, [.g 0 28 (.int .u64)]), (false, [.d (.int .i64)]), (false, [.d (.int .i64)])], [.gr 28 (.int .u64) false], [(false, [.d .bool])], [.gr 28 (.int .u64) false], [(1000003, ⟨[(0, [.o 28 (.int .u64)]), (1, [.d (.int .i64)]), (2, [.d (.int .i64)]), (7, [.d (.int .i64)]), (8, [.d (.int .i64)])], []⟩), (1000005, ⟨[(0, [.o 28 (.int .u64)]), (1, [.d (.int .i64)]), (2, [.d (.int .i64)]), (7, [.d (.int .i64)]), (8, [.d (.int .i64)])], []⟩), (1000014, ⟨[(0, [.o 28 (.int .u64)]), (1, [.d (.int .i64)]), (2, [.d (.int .i64)]), (7, [.d (.int .i64)]), (8, [.d (.int .i64)]), (9, [.d (.int .i64)])], []⟩), (1000020, ⟨[(0, [.o 28 (.int .u64)]), (1, [.d (.int .i64)]), (2, [.d (.int .i64)]), (7, [.d (.int .i64)]), (8, [.d (.int .i64)]), (10, [.d (.int .i64)])], []⟩)], none⟩
noncomputable def fx9 : Fx := ⟨[(false, [.d (.int .u64)]), (false, [.d (.int .u64)])], [], [(false, [.d .bool])], [], [], none⟩
noncomputable def fx10 : Fx := ⟨[(false, [.g 0 28 (.int .u64)]), (false, [.d (.int .i64)]), (false, [.d (.int .i64)]), (false, [.d (.int .i64)])], [.gr 28 (.int .u64) false], [(false, [.d (.int .i64)])], [.gr 28 (.int .u64) false], [(1000003, ⟨[(0, [.o 28 (.int .u64)]), (1, [.d (.int .i64)]), (9, [.d (.int .i64)]), (10, [.d (.int .i64)])], []⟩), (1000005, ⟨[(0, [.o 28 (.int .u64)]), (1, [.d (.int .i64)]), (9, [.d (.int .i64)]), (10, [.d (.int .i64)])], []⟩), (1100003, ⟨[(0, [.o 28 (.int .u64)]), (1, [.d (.int .i64)]), (9, [.d (.int .i64)]), (10, [.d (.int .i64)])], []⟩)], none⟩
noncomputable def fx11 : Fx := ⟨[(false, [.g 0 28 (.int .u64)]), (false, [.d (.int .i64)]), (false, [.d (.int .i64)]), (false, [.d (.int .i64)])], [.gr 28 (.int .u64) false], [(false, [.d (.int .i64)]), (false, [.d .bool])], [.gr 28 (.int .u64) false], [(1000003, ⟨[(0, [.o 28 (.int .u64)]), (1, [.d (.int .i64)]), (10, [.d (.int .i64)]), (11, [.d (.int .i64)])], []⟩), (1000005, ⟨[(0, [.o 28 (.int .u64)]), (1, [.d (.int .i64)]), (10, [.d (.int .i64)]), (11, [.d (.int .i64)])], []⟩), (1000013, ⟨[(0, [.o 28 (.int .u64)]), (1, [.d (.int .i64)]), (10, [.d (.int .i64)]), (11, [.d (.int .i64)])], []⟩), (1000015, ⟨[(0, [.o 28 (.int .u64)]), (1, [.d (.int .i64)]), (10, [.d (.int .i64)]), (11, [.d (.int .i64)])], []⟩), (1100013, ⟨[(0, [.o 28 (.int .u64)]), (1, [.d (.int .i64)]), (10, [.d (.int .i64)]), (11, [.d (.int .i64)])], []⟩)], none⟩
noncomputable def fx12 : Fx := ⟨[(false, [.d (.int .u64)])], [], [(false, [.d .bool])], [], [], none⟩
noncomputable def fx13 : Fx := ⟨[(false, [.g 0 28 (.int .u64)]), (false, [.d (.int .i64)]), (false, [.p 1 0])], [.gr 28 (.int .u64) false, .box 3 [.d (.int .i64)]], [(false, [.d (.int .i64)])], [.gr 28 (.int .u64) false, .box 3 [.d (.int .i64)]], [], none⟩
noncomputable def fx14 : Fx := ⟨[(false, [.g 0 28 (.int .u64)]), (false, [.d (.int .i64)]), (false, [.d (.int .i64)]), (false, [.d (.int .i64)]), (false, [.p 1 0])], [.gr 28 (.int .u64) false, .box 3 [.d (.int .i64)]], [(false, [.d (.int .i64)])], [.gr 28 (.int .u64) false, .box 3 [.d (.int .i64)]], [], none⟩
noncomputable def fx15 : Fx := ⟨[(false, [.g 0 28 (.int .u64)]), (false, [.d (.int .i64)]), (false, [.d (.int .i64)]), (false, [.p 1 0])], [.gr 28 (.int .u64) false, .box 3 [.d (.int .i64)]], [(false, [.d (.int .i64)]), (false, [.d (.int .i64)])], [.gr 28 (.int .u64) false, .box 3 [.d (.int .i64)]], [], none⟩
noncomputable def fx16 : Fx := ⟨[(false, [.d (.int .i64)])], [], [(false, [.d (.int .u64)])], [], [], none⟩
noncomputable def fx17 : Fx := ⟨[(false, [.p 0 0])], [.box 181 [.d (.int .u64)]], [(false, [.d (.int .u64)])], [.box 181 [.d (.int .u64)]], [], none⟩
noncomputable def fx18 : Fx := ⟨[(false, [.g 0 28 (.int .u64)]), (false, [.d (.int .i64)]), (false, [.d (.int .i64)]), (false, [.d (.int .i64)])], [.gr 28 (.int .u64) false], [], [.gr 28 (.int .u64) false], [(1000001, ⟨[(0, [.o 28 (.int .u64)]), (2, [.d (.int .i64)]), (3, [.d (.int .i64)]), (8, [.d (.int .i64)])], []⟩)], none⟩
noncomputable def fx19 : Fx := ⟨[(false, [.d (.int .u64)])], [], [(false, [.d (.int .i64)])], [], [(7, ⟨[(0, [.d (.int .u64)]), (2, [.d (.int .i64)])], []⟩), (10, ⟨[(0, [.d (.int .u64)]), (2, [.d (.int .i64)])], []⟩)], none⟩
noncomputable def tb : List (FuncId × Fx) := [(47, fx0), (70, fx1), (69, fx2), (81, fx3), (82, fx4), (83, fx5), (84, fx6), (85, fx7), (86, fx8), (87, fx9), (88, fx10), (89, fx11), (112, fx12), (110, fx13), (111, fx14), (122, fx15), (108, fx16), (109, fx17), (107, fx18), (91, fx19)]
theorem tbOk : TbOk Pr tb := tbOk_of (by kernel_rfl)
theorem fn0 : fnAt Pr tb 0 = some Go.Proofs.Try.f47 := by kernel_rfl
theorem fn1 : fnAt Pr tb 1 = some Go.Proofs.Try.f70 := by kernel_rfl
theorem fn2 : fnAt Pr tb 2 = some Go.Proofs.Try.f69 := by kernel_rfl
theorem fn3 : fnAt Pr tb 3 = some Go.Proofs.Try.f81 := by kernel_rfl
theorem fn4 : fnAt Pr tb 4 = some Go.Proofs.Try.f82 := by kernel_rfl
theorem fn5 : fnAt Pr tb 5 = some Go.Proofs.Try.f83 := by kernel_rfl
theorem fn6 : fnAt Pr tb 6 = some Go.Proofs.Try.f84 := by kernel_rfl
theorem fn7 : fnAt Pr tb 7 = some Go.Proofs.Try.f85 := by kernel_rfl
theorem fn8 : fnAt Pr tb 8 = some Go.Proofs.Try.f86 := by kernel_rfl
theorem fn9 : fnAt Pr tb 9 = some Go.Proofs.Try.f87 := by kernel_rfl
theorem fn10 : fnAt Pr tb 10 = some Go.Proofs.Try.f88 := by kernel_rfl
theorem fn11 : fnAt Pr tb 11 = some Go.Proofs.Try.f89 := by kernel_rfl
theorem fn12 : fnAt Pr tb 12 = some Go.Proofs.Try.f112 := by kernel_rfl
theorem fn13 : fnAt Pr tb 13 = some Go.Proofs.Try.f110 := by kernel_rfl
theorem fn14 : fnAt Pr tb 14 = some Go.Proofs.Try.f111 := by kernel_rfl
theorem fn15 : fnAt Pr tb 15 = some Go.Proofs.Try.f122 := by kernel_rfl
theorem fn16 : fnAt Pr tb 16 = some Go.Proofs.Try.f108 := by kernel_rfl
theorem fn17 : fnAt Pr tb 17 = some Go.Proofs.Try.f109 := by kernel_rfl
theorem fn18 : fnAt Pr tb 18 = some Go.Proofs.Try.f107 := by kernel_rfl
theorem fn19 : fnAt Pr tb 19 = some Go.Proofs.Try.f91 := by kernel_rfl
noncomputable def G : Giv tab tb := fun _ => none
theorem F_holds (key : Nat) : Snd Pr tb key (F Pr tb G key) := F_ok tbOk (fun _ _ h => by cases h) key
noncomputable def F47_slices_Sort (g0 : (List Int)) : Option ((List Int) × Unit) := F Pr tb G 0 [⟨(.sl 28 (.int .u64)), g0⟩]
noncomputable def F70_bits_Len (x0 : Int) : Option (Int × Unit) := F Pr tb G 1 [⟨(.int .u64), x0⟩]
noncomputable def F69_slices_pdqsortOrdered (x1 : Int) (x2 : Int) (x3 : Int) (g0 : (List Int)) : Option ((List Int) × Unit) := F Pr tb G 2 [⟨(.int .i64), x1⟩, ⟨(.int .i64), x2⟩, ⟨(.int .i64), x3⟩, ⟨(.sl 28 (.int .u64)), g0⟩]
noncomputable def F69_slices_pdqsortOrdered_l15 (v1 : Int) (v2 : Int) (v3 : Int) (v8 : Bool) (v9 : Bool) (v10 : Int) (v11 : Int) (v12 : Int) (g0 : (List Int)) : Option ((List Int) × Unit) :=
  run Pr tb G fx2.fin Go.Proofs.Try.f69 fx2 ⟨todoAt Go.Proofs.Try.f69 15, [(0, .v (false, [.g 0])), (1, .v (false, [.d (.int .i64) v1])), (2, .v (false, [.d (.int .i64) v2])), (3, .v (false, [.d (.int .i64) v3])), (8, .v (false, [.d .bool v8])), (9, .v (false, [.d .bool v9])), (10, .v (false, [.d (.int .i64) v10])), (11, .v (false, [.d (.int .i64) v11])), (12, .v (false, [.d (.int .i64) v12]))], [.gr 28 (.int .u64) g0 false]⟩
noncomputable def F69_slices_pdqsortOrdered_l17 (v1 : Int) (v2 : Int) (v3 : Int) (v8 : Bool) (v9 : Bool) (v10 : Int) (v11 : Int) (g0 : (List Int)) : Option ((List Int) × Unit) :=
  run Pr tb G fx2.fin Go.Proofs.Try.f69 fx2 ⟨todoAt Go.Proofs.Try.f69 17, [(0, .v (false, [.g 0])), (1, .v (false, [.d (.int .i64) v1])), (2, .v (false, [.d (.int .i64) v2])), (3, .v (false, [.d (.int .i64) v3])), (8, .v (false, [.d .bool v8])), (9, .v (false, [.d .bool v9])), (10, .v (false, [.d (.int .i64) v10])), (11, .v (false, [.d (.int .i64) v11]))], [.gr 28 (.int .u64) g0 false]⟩
noncomputable def F69_slices_pdqsortOrdered_l20 (v1 : Int) (v2 : Int) (v3 : Int) (v10 : Int) (v11 : Int) (g0 : (List Int)) : Option ((List Int) × Unit) :=
  run Pr tb G fx2.fin Go.Proofs.Try.f69 fx2 ⟨todoAt Go.Proofs.Try.f69 20, [(0, .v (false, [.g 0])), (1, .v (false, [.d (.int .i64) v1])), (2, .v (false, [.d (.int .i64) v2])), (3, .v (false, [.d (.int .i64) v3])), (10, .v (false, [.d (.int .i64) v10])), (11, .v (false, [.d (.int .i64) v11]))], [.gr 28 (.int .u64) g0 false]⟩
noncomputable def F69_slices_pdqsortOrdered_l1000002 (v1 : Int) (v2 : Int) (v3 : Int) (v8 : Bool) (v9 : Bool) (g0 : (List Int)) : Option ((List Int) × Unit) :=
  run Pr tb G fx2.fin Go.Proofs.Try.f69 fx2 ⟨todoAt Go.Proofs.Try.f69 1000002, [(0, .v (false, [.g 0])), (1, .v (false, [.d (.int .i64) v1])), (2, .v (false, [.d (.int .i64) v2])), (3, .v (false, [.d (.int .i64) v3])), (8, .v (false, [.d .bool v8])), (9, .v (false, [.d .bool v9]))], [.gr 28 (.int .u64) g0 false]⟩
noncomputable def F81_slices_insertionSortOrdered (x1 : Int) (x2 : Int) (g0 : (List Int)) : Option ((List Int) × Unit) := F Pr tb G 3 [⟨(.int .i64), x1⟩, ⟨(.int .i64), x2⟩, ⟨(.sl 28 (.int .u64)), g0⟩]
noncomputable def F81_slices_insertionSortOrdered_l1000001 (v1 : Int) (v2 : Int) (v6 : Int) (g0 : (List Int)) : Option ((List Int) × Unit) :=
  run Pr tb G fx3.fin Go.Proofs.Try.f81 fx3 ⟨todoAt Go.Proofs.Try.f81 1000001, [(0, .v (false, [.g 0])), (1, .v (false, [.d (.int .i64) v1])), (2, .v (false, [.d (.int .i64) v2])), (6, .v (false, [.d (.int .i64) v6]))], [.gr 28 (.int .u64) g0 false]⟩
noncomputable def F81_slices_insertionSortOrdered_l1000004 (v1 : Int) (v2 : Int) (v6 : Int) (v7 : Int) (g0 : (List Int)) : Option ((List Int) × Unit) :=
  run Pr tb G fx3.fin Go.Proofs.Try.f81 fx3 ⟨todoAt Go.Proofs.Try.f81 1000004, [(0, .v (false, [.g 0])), (1, .v (false, [.d (.int .i64) v1])), (2, .v (false, [.d (.int .i64) v2])), (6, .v (false, [.d (.int .i64) v6])), (7, .v (false, [.d (.int .i64) v7]))], [.gr 28 (.int .u64) g0 false]⟩
noncomputable def F82_slices_heapSortOrdered (x1 : Int) (x2 : Int) (g0 : (List Int)) : Option ((List Int) × Unit) := F Pr tb G 4 [⟨(.int .i64), x1⟩, ⟨(.int .i64), x2⟩, ⟨(.sl 28 (.int .u64)), g0⟩]
noncomputable def F82_slices_heapSortOrdered_l1000004 (v6 : Int) (v7 : Int) (v8 : Int) (v9 : Int) (g0 : (List Int)) : Option ((List Int) × Unit) :=
  run Pr tb G fx4.fin Go.Proofs.Try.f82 fx4 ⟨todoAt Go.Proofs.Try.f82 1000004, [(0, .v (false, [.g 0])), (6, .v (false, [.d (.int .i64) v6])), (7, .v (false, [.d (.int .i64) v7])), (8, .v (false, [.d (.int .i64) v8])), (9, .v (false, [.d (.int .i64) v9]))], [.gr 28 (.int .u64) g0 false]⟩
noncomputable def F82_slices_heapSortOrdered_l1000008 (v6 : Int) (v7 : Int) (v10 : Int) (g0 : (List Int)) : Option ((List Int) × Unit) :=
  run Pr tb G fx4.fin Go.Proofs.Try.f82 fx4 ⟨todoAt Go.Proofs.Try.f82 1000008, [(0, .v (false, [.g 0])), (6, .v (false, [.d (.int .i64) v6])), (7, .v (false, [.d (.int .i64) v7])), (10, .v (false, [.d (.int .i64) v10]))], [.gr 28 (.int .u64) g0 false]⟩
noncomputable def F83_slices_breakPatternsOrdered (x1 : Int) (x2 : Int) (g0 : (List Int)) : Option ((List Int) × Unit) := F Pr tb G 5 [⟨(.int .i64), x1⟩, ⟨(.int .i64), x2⟩, ⟨(.sl 28 (.int .u64)), g0⟩]
noncomputable def F83_slices_breakPatternsOrdered_l1000005 (v1 : Int) (v6 : Int) (v8 : Int) (v9 : Int) (g0 : (List Int)) (h1_0 : Int) : Option ((List Int) × Unit) :=
  run Pr tb G fx5.fin Go.Proofs.Try.f83 fx5 ⟨todoAt Go.Proofs.Try.f83 1000005, [(0, .v (false, [.g 0])), (1, .v (false, [.d (.int .i64) v1])), (6, .v (false, [.d (.int .i64) v6])), (7, .v (false, [.p 1 0])), (8, .v (false, [.d (.int .u64) v8])), (9, .v (false, [.d (.int .i64) v9]))], [.gr 28 (.int .u64) g0 false, .box 181 [.d (.int .u64) h1_0]]⟩
noncomputable def F84_slices_choosePivotOrdered (x1 : Int) (x2 : Int) (g0 : (List Int)) : Option (Int × Int × (List Int) × Unit) := F Pr tb G 6 [⟨(.int .i64), x1⟩, ⟨(.int .i64), x2⟩, ⟨(.sl 28 (.int .u64)), g0⟩]
noncomputable def F85_slices_reverseRangeOrdered (x1 : Int) (x2 : Int) (g0 : (List Int)) : Option ((List Int) × Unit) := F Pr tb G 7 [⟨(.int .i64), x1⟩, ⟨(.int .i64), x2⟩, ⟨(.sl 28 (.int .u64)), g0⟩]
noncomputable def F85_slices_reverseRangeOrdered_l1000002 (v6 : Int) (v7 : Int) (g0 : (List Int)) : Option ((List Int) × Unit) :=
  run Pr tb G fx7.fin Go.Proofs.Try.f85 fx7 ⟨todoAt Go.Proofs.Try.f85 1000002, [(0, .v (false, [.g 0])), (6, .v (false, [.d (.int .i64) v6])), (7, .v (false, [.d (.int .i64) v7]))], [.gr 28 (.int .u64) g0 false]⟩
noncomputable def F86_slices_partialInsertionSortOrdered (x1 : Int) (x2 : Int) (g0 : (List Int)) : Option (Bool × (List Int) × Unit) := F Pr tb G 8 [⟨(.int .i64), x1⟩, ⟨(.int .i64), x2⟩, ⟨(.sl 28 (.int .u64)), g0⟩]
noncomputable def F86_slices_partialInsertionSortOrdered_l1000003 (v1 : Int) (v2 : Int) (v7 : Int) (v8 : Int) (g0 : (List Int)) : Option (Bool × (List Int) × Unit) :=
  run Pr tb G fx8.fin Go.Proofs.Try.f86 fx8 ⟨todoAt Go.Proofs.Try.f86 1000003, [(0, .v (false, [.g 0])), (1, .v (false, [.d (.int .i64) v1])), (2, .v (false, [.d (.int .i64) v2])), (7, .v (false, [.d (.int .i64) v7])), (8, .v (false, [.d (.int .i64) v8]))], [.gr 28 (.int .u64) g0 false]⟩
noncomputable def F86_slices_partialInsertionSortOrdered_l1000005 (v1 : Int) (v2 : Int) (v7 : Int) (v8 : Int) (g0 : (List Int)) : Option (Bool × (List Int) × Unit) :=
  run Pr tb G fx8.fin Go.Proofs.Try.f86 fx8 ⟨todoAt Go.Proofs.Try.f86 1000005, [(0, .v (false, [.g 0])), (1, .v (false, [.d (.int .i64) v1])), (2, .v (false, [.d (.int .i64) v2])), (7, .v (false, [.d (.int .i64) v7])), (8, .v (false, [.d (.int .i64) v8]))], [.gr 28 (.int .u64) g0 false]⟩
noncomputable def F86_slices_partialInsertionSortOrdered_l1000014 (v1 : Int) (v2 : Int) (v7 : Int) (v8 : Int) (v9 : Int) (g0 : (List Int)) : Option (Bool × (List Int) × Unit) :=
  run Pr tb G fx8.fin Go.Proofs.Try.f86 fx8 ⟨todoAt Go.Proofs.Try.f86 1000014, [(0, .v (false, [.g 0])), (1, .v (false, [.d (.int .i64) v1])), (2, .v (false, [.d (.int .i64) v2])), (7, .v (false, [.d (.int .i64) v7])), (8, .v (false, [.d (.int .i64) v8])), (9, .v (false, [.d (.int .i64) v9]))], [.gr 28 (.int .u64) g0 false]⟩
noncomputable def F86_slices_partialInsertionSortOrdered_l1000020 (v1 : Int) (v2 : Int) (v7 : Int) (v8 : Int) (v10 : Int) (g0 : (List Int)) : Option (Bool × (List Int) × Unit) :=
  run Pr tb G fx8.fin Go.Proofs.Try.f86 fx8 ⟨todoAt Go.Proofs.Try.f86 1000020, [(0, .v (false, [.g 0])), (1, .v (false, [.d (.int .i64) v1])), (2, .v (false, [.d (.int .i64) v2])), (7, .v (false, [.d (.int .i64) v7])), (8, .v (false, [.d (.int .i64) v8])), (10, .v (false, [.d (.int .i64) v10]))], [.gr 28 (.int .u64) g0 false]⟩
noncomputable def F87_cmp_Less (x0 : Int) (x1 : Int) : Option (Bool × Unit) := F Pr tb G 9 [⟨(.int .u64), x0⟩, ⟨(.int .u64), x1⟩]
noncomputable def F88_slices_partitionEqualOrdered (x1 : Int) (x2 : Int) (x3 : Int) (g0 : (List Int)) : Option (Int × (List Int) × Unit) := F Pr tb G 10 [⟨(.int .i64), x1⟩, ⟨(.int .i64), x2⟩, ⟨(.int .i64), x3⟩, ⟨(.sl 28 (.int .u64)), g0⟩]
noncomputable def F88_slices_partitionEqualOrdered_l1000003 (v1 : Int) (v9 : Int) (v10 : Int) (g0 : (List Int)) : Option (Int × (List Int) × Unit) :=
  run Pr tb G fx10.fin Go.Proofs.Try.f88 fx10 ⟨todoAt Go.Proofs.Try.f88 1000003, [(0, .v (false, [.g 0])), (1, .v (false, [.d (.int .i64) v1])), (9, .v (false, [.d (.int .i64) v9])), (10, .v (false, [.d (.int .i64) v10]))], [.gr 28 (.int .u64) g0 false]⟩
noncomputable def F88_slices_partitionEqualOrdered_l1000005 (v1 : Int) (v9 : Int) (v10 : Int) (g0 : (List Int)) : Option (Int × (List Int) × Unit) :=
  run Pr tb G fx10.fin Go.Proofs.Try.f88 fx10 ⟨todoAt Go.Proofs.Try.f88 1000005, [(0, .v (false, [.g 0])), (1, .v (false, [.d (.int .i64) v1])), (9, .v (false, [.d (.int .i64) v9])), (10, .v (false, [.d (.int .i64) v10]))], [.gr 28 (.int .u64) g0 false]⟩
noncomputable def F88_slices_partitionEqualOrdered_l1100003 (v1 : Int) (v9 : Int) (v10 : Int) (g0 : (List Int)) : Option (Int × (List Int) × Unit) :=
  run Pr tb G fx10.fin Go.Proofs.Try.f88 fx10 ⟨todoAt Go.Proofs.Try.f88 1100003, [(0, .v (false, [.g 0])), (1, .v (false, [.d (.int .i64) v1])), (9, .v (false, [.d (.int .i64) v9])), (10, .v (false, [.d (.int .i64) v10]))], [.gr 28 (.int .u64) g0 false]⟩
noncomputable def F89_slices_partitionOrdered (x1 : Int) (x2 : Int) (x3 : Int) (g0 : (List Int)) : Option (Int × Bool × (List Int) × Unit) := F Pr tb G 11 [⟨(.int .i64), x1⟩, ⟨(.int .i64), x2⟩, ⟨(.int .i64), x3⟩, ⟨(.sl 28 (.int .u64)), g0⟩]
noncomputable def F89_slices_partitionOrdered_l1000003 (v1 : Int) (v10 : Int) (v11 : Int) (g0 : (List Int)) : Option (Int × Bool × (List Int) × Unit) :=
  run Pr tb G fx11.fin Go.Proofs.Try.f89 fx11 ⟨todoAt Go.Proofs.Try.f89 1000003, [(0, .v (false, [.g 0])), (1, .v (false, [.d (.int .i64) v1])), (10, .v (false, [.d (.int .i64) v10])), (11, .v (false, [.d (.int .i64) v11]))], [.gr 28 (.int .u64) g0 false]⟩
noncomputable def F89_slices_partitionOrdered_l1000005 (v1 : Int) (v10 : Int) (v11 : Int) (g0 : (List Int)) : Option (Int × Bool × (List Int) × Unit) :=
  run Pr tb G fx11.fin Go.Proofs.Try.f89 fx11 ⟨todoAt Go.Proofs.Try.f89 1000005, [(0, .v (false, [.g 0])), (1, .v (false, [.d (.int .i64) v1])), (10, .v (false, [.d (.int .i64) v10])), (11, .v (false, [.d (.int .i64) v11]))], [.gr 28 (.int .u64) g0 false]⟩
noncomputable def F89_slices_partitionOrdered_l1000013 (v1 : Int) (v10 : Int) (v11 : Int) (g0 : (List Int)) : Option (Int × Bool × (List Int) × Unit) :=
  run Pr tb G fx11.fin Go.Proofs.Try.f89 fx11 ⟨todoAt Go.Proofs.Try.f89 1000013, [(0, .v (false, [.g 0])), (1, .v (false, [.d (.int .i64) v1])), (10, .v (false, [.d (.int .i64) v10])), (11, .v (false, [.d (.int .i64) v11]))], [.gr 28 (.int .u64) g0 false]⟩
noncomputable def F89_slices_partitionOrdered_l1000015 (v1 : Int) (v10 : Int) (v11 : Int) (g0 : (List Int)) : Option (Int × Bool × (List Int) × Unit) :=
  run Pr tb G fx11.fin Go.Proofs.Try.f89 fx11 ⟨todoAt Go.Proofs.Try.f89 1000015, [(0, .v (false, [.g 0])), (1, .v (false, [.d (.int .i64) v1])), (10, .v (false, [.d (.int .i64) v10])), (11, .v (false, [.d (.int .i64) v11]))], [.gr 28 (.int .u64) g0 false]⟩
noncomputable def F89_slices_partitionOrdered_l1100013 (v1 : Int) (v10 : Int) (v11 : Int) (g0 : (List Int)) : Option (Int × Bool × (List Int) × Unit) :=
  run Pr tb G fx11.fin Go.Proofs.Try.f89 fx11 ⟨todoAt Go.Proofs.Try.f89 1100013, [(0, .v (false, [.g 0])), (1, .v (false, [.d (.int .i64) v1])), (10, .v (false, [.d (.int .i64) v10])), (11, .v (false, [.d (.int .i64) v11]))], [.gr 28 (.int .u64) g0 false]⟩
noncomputable def F112_cmp_isNaN (x0 : Int) : Option (Bool × Unit) := F Pr tb G 12 [⟨(.int .u64), x0⟩]
noncomputable def F110_slices_medianAdjacentOrdered (x1 : Int) (g0 : (List Int)) (h1_0 : Int) : Option (Int × (List Int) × Int × Unit) := F Pr tb G 13 [⟨(.int .i64), x1⟩, ⟨(.sl 28 (.int .u64)), g0⟩, ⟨(.int .i64), h1_0⟩]
noncomputable def F111_slices_medianOrdered (x1 : Int) (x2 : Int) (x3 : Int) (g0 : (List Int)) (h1_0 : Int) : Option (Int × (List Int) × Int × Unit) := F Pr tb G 14 [⟨(.int .i64), x1⟩, ⟨(.int .i64), x2⟩, ⟨(.int .i64), x3⟩, ⟨(.sl 28 (.int .u64)), g0⟩, ⟨(.int .i64), h1_0⟩]
noncomputable def F122_slices_order2Ordered (x1 : Int) (x2 : Int) (g0 : (List Int)) (h1_0 : Int) : Option (Int × Int × (List Int) × Int × Unit) := F Pr tb G 15 [⟨(.int .i64), x1⟩, ⟨(.int .i64), x2⟩, ⟨(.sl 28 (.int .u64)), g0⟩, ⟨(.int .i64), h1_0⟩]
noncomputable def F108_slices_nextPowerOfTwo (x0 : Int) : Option (Int × Unit) := F Pr tb G 16 [⟨(.int .i64), x0⟩]
noncomputable def F109_slices_xorshift_Next (h0_0 : Int) : Option (Int × Int × Unit) := F Pr tb G 17 [⟨(.int .u64), h0_0⟩]
noncomputable def F107_slices_siftDownOrdered (x1 : Int) (x2 : Int) (x3 : Int) (g0 : (List Int)) : Option ((List Int) × Unit) := F Pr tb G 18 [⟨(.int .i64), x1⟩, ⟨(.int .i64), x2⟩, ⟨(.int .i64), x3⟩, ⟨(.sl 28 (.int .u64)), g0⟩]
noncomputable def F107_slices_siftDownOrdered_l1000001 (v2 : Int) (v3 : Int) (v8 : Int) (g0 : (List Int)) : Option ((List Int) × Unit) :=
  run Pr tb G fx18.fin Go.Proofs.Try.f107 fx18 ⟨todoAt Go.Proofs.Try.f107 1000001, [(0, .v (false, [.g 0])), (2, .v (false, [.d (.int .i64) v2])), (3, .v (false, [.d (.int .i64) v3])), (8, .v (false, [.d (.int .i64) v8]))], [.gr 28 (.int .u64) g0 false]⟩
noncomputable def F91_bits_Len64 (x0 : Int) : Option (Int × Unit) := F Pr tb G 19 [⟨(.int .u64), x0⟩]
noncomputable def F91_bits_Len64_l7 (v0 : Int) (v2 : Int) : Option (Int × Unit) :=
  run Pr tb G fx19.fin Go.Proofs.Try.f91 fx19 ⟨todoAt Go.Proofs.Try.f91 7, [(0, .v (false, [.d (.int .u64) v0])), (2, .v (false, [.d (.int .i64) v2]))], []⟩
noncomputable def F91_bits_Len64_l10 (v0 : Int) (v2 : Int) : Option (Int × Unit) :=
  run Pr tb G fx19.fin Go.Proofs.Try.f91 fx19 ⟨todoAt Go.Proofs.Try.f91 10, [(0, .v (false, [.d (.int .u64) v0])), (2, .v (false, [.d (.int .i64) v2]))], []⟩
end
end Go.Proofs.Ytckafnfidjfhjaa.Srtx
