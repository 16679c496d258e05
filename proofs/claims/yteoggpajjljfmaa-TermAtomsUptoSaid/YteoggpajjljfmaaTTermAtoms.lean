/- The law TermAtoms: types, signatures and names of the functions that it reaches. Under no condition. -/
import Derived.Test.YteoggpajjljfmaaRxI
import Derived.Test.YteoggpajjljfmaaRxC
import Derived.Test.YteoggpajjljfmaaProg
import Derived.Test.YteoggpajjljfmaaRxG
import Derived.Ground.NamesProg
import Derived.Ground.Names2Prog
import Derived.Shelf.Lay
import Derived.KernelRfl
set_option linter.unusedVariables false
set_option maxRecDepth 100000
namespace Go.Proofs.Yteoggpajjljfmaa.TermAtomsx
open Go Go.RowKit Go.Proofs.Yteoggpajjljfmaa.Rx Go.Proofs.Yteoggpajjljfmaa.TermAtomsx
noncomputable section
inductive S43 where | mk (f0 : Int) (f1 : Int) (f2 : ByteArray) (f3 : (List S43))
noncomputable def S43.f0 : S43 → Int | mk x _ _ _ => x
noncomputable def S43.f1 : S43 → Int | mk _ x _ _ => x
noncomputable def S43.f2 : S43 → ByteArray | mk _ _ x _ => x
noncomputable def S43.f3 : S43 → (List S43) | mk _ _ _ x => x
theorem S43.eta (x : S43) : S43.mk x.f0 x.f1 x.f2 x.f3 = x := by cases x; rfl
noncomputable def S43.z : S43 := S43.mk (0 : Int) (0 : Int) ByteArray.empty []
noncomputable def S (n : Nat) : Type := if n = 43 then S43 else Unit
noncomputable def fs (n : Nat) : List Ty := if n = 43 then [(.int .i64), (.int .u64), .str, (.sl 43 (.st 43))] else []
theorem fs_no {n : Nat} (h43 : ¬ n = 43) : fs n = [] := by simp only [fs, h43, if_false]
theorem S_no {n : Nat} (h43 : ¬ n = 43) : S n = Unit := by simp only [S, h43, if_false]
noncomputable def out (n : Nat) : S n → HL S (fs n) :=
  if h43 : n = 43 then by subst h43; exact fun (x : S43) => (x.f0, x.f1, x.f2, x.f3, ()) else by intro _; rw [fs_no h43]; exact ()
noncomputable def pk (n : Nat) : HL S (fs n) → S n :=
  if h43 : n = 43 then by subst h43; exact fun (x : Int × Int × ByteArray × (List S43) × Unit) => S43.mk x.1 x.2.1 x.2.2.1 x.2.2.2.1 else by intro _; rw [S_no h43]; exact ()
noncomputable def z (n : Nat) : S n :=
  if h43 : n = 43 then by subst h43; exact S43.z else by rw [S_no h43]; exact ()
theorem out_pk (n : Nat) (h : HL S (fs n)) : out n (pk n h) = h := by
  by_cases h43 : n = 43
  · subst h43; rfl
  have e : ∀ a b : HL S (fs n), a = b := by rw [fs_no h43]; intro a b; rfl
  exact e _ _
theorem pk_out (n : Nat) (x : S n) : pk n (out n x) = x := by
  by_cases h43 : n = 43
  · subst h43; exact S43.eta x
  have e : ∀ a b : S n, a = b := by rw [S_no h43]; intro a b; rfl
  exact e _ _
noncomputable def tab : Tab := { S := S, fs := fs, out := out, pk := pk, z := z, out_pk := out_pk, pk_out := pk_out }
noncomputable abbrev Pr := Go.Proofs.Try.prog
noncomputable def fx0 : Fx := ⟨[(false, [.d (.sl 43 (.st 43))])], [], [(false, [.d .bool])], [], [], none⟩
noncomputable def fx1 : Fx := ⟨[(false, [.d (.sl 43 (.st 43))])], [], [(false, [.d (.sl 9 .str)])], [], [(1000003, ⟨[(3, [.o 9 .str]), (6, [.d (.sl 43 (.st 43))]), (7, [.d (.int .i64)]), (8, [.d (.int .i64)])], []⟩)], none⟩
noncomputable def fx2 : Fx := ⟨[(false, [.d (.sl 43 (.st 43))])], [], [(false, [.d (.sl 9 .str)])], [], [(1000003, ⟨[(3, [.d (.sl 9 .str)]), (7, [.d (.sl 43 (.st 43))]), (8, [.d (.int .i64)]), (9, [.d (.int .i64)])], []⟩)], none⟩
noncomputable def fx3 : Fx := ⟨[(false, [.d (.sl 9 .str)]), (false, [.d (.sl 9 .str)])], [], [(false, [.d .bool])], [], [(1000004, ⟨[(0, [.d (.sl 9 .str)]), (1, [.d (.sl 9 .str)]), (12, [.d (.int .i64)]), (13, [.d (.int .i64)])], []⟩)], none⟩
noncomputable def fx4 : Fx := ⟨[(true, [.d (.int .i64), .d (.int .u64), .d .str, .d (.sl 43 (.st 43))])], [], [(false, [.d (.int .i64)])], [], [], none⟩
noncomputable def fx5 : Fx := ⟨[(false, [.d (.sl 9 .str)]), (true, [.d (.int .i64), .d (.int .u64), .d .str, .d (.sl 43 (.st 43))])], [], [(false, [.d (.sl 9 .str)])], [], [(1000004, ⟨[(0, [.d (.sl 9 .str)]), (15, [.d (.sl 43 (.st 43))]), (16, [.d (.int .i64)]), (17, [.d (.int .i64)])], []⟩)], none⟩
noncomputable def fx6 : Fx := ⟨[(false, [.d (.sl 9 .str)]), (false, [.d .str])], [], [(false, [.g 0 9 .str])], [.gr 9 .str false], [(10, ⟨[(1, [.d .str]), (5, [.o 9 .str]), (6, [.d .bool]), (8, [.d .str]), (10, [.d (.sl 9 .str)]), (11, [.d (.int .i64)]), (12, [.d (.int .i64)])], []⟩), (1000004, ⟨[(1, [.d .str]), (5, [.o 9 .str]), (6, [.d .bool]), (10, [.d (.sl 9 .str)]), (11, [.d (.int .i64)]), (12, [.d (.int .i64)])], []⟩)], none⟩
noncomputable def fx7 : Fx := ⟨[(true, [.d (.int .i64), .d (.int .u64), .d .str, .d (.sl 43 (.st 43))]), (false, [.d (.int .i64)])], [], [(false, [.d (.int .i64)])], [], [(1000003, ⟨[(1, [.d (.int .i64)]), (5, [.d (.int .i64)]), (9, [.d (.sl 43 (.st 43))]), (10, [.d (.int .i64)]), (11, [.d (.int .i64)])], []⟩)], none⟩
noncomputable def fx8 : Fx := ⟨[(true, [.d (.int .i64), .d (.int .u64), .d .str, .d (.sl 43 (.st 43))]), (false, [.d (.int .i64)])], [], [(false, [.d (.int .i64)])], [], [(1000005, ⟨[(1, [.d (.int .i64)]), (5, [.d (.int .i64)]), (13, [.d (.sl 43 (.st 43))]), (14, [.d (.int .i64)]), (15, [.d (.int .i64)])], []⟩)], none⟩
noncomputable def fx9 : Fx := ⟨[(true, [.d (.int .i64), .d (.int .u64), .d .str, .d (.sl 43 (.st 43))])], [], [(false, [.d .bool])], [], [(1000004, ⟨[(9, [.d (.sl 43 (.st 43))]), (10, [.d (.int .i64)]), (11, [.d (.int .i64)])], []⟩)], none⟩
noncomputable def fx10 : Fx := ⟨[(true, [.d (.int .i64), .d (.int .u64), .d .str, .d (.sl 43 (.st 43))])], [], [(false, [.d .bool])], [], [], none⟩
noncomputable def fx11 : Fx := ⟨[(true, [.d (.int .i64), .d (.int .u64), .d .str, .d (.sl 43 (.st 43))])], [], [(false, [.d (.int .i64)])], [], [], none⟩
noncomputable def fx12 : Fx := ⟨[(false, [.g 0 9 .str]), (true, [.d (.int .i64), .d (.int .u64), .d .str, .d (.sl 43 (.st 43))])], [.gr 9 .str false], [(false, [.g 1 9 .str])], [.no, .gr 9 .str false], [(1000004, ⟨[(0, [.o 9 .str]), (16, [.d (.sl 43 (.st 43))]), (17, [.d (.int .i64)]), (18, [.d (.int .i64)])], []⟩)], some ([(false, [.g 0 9 .str])], [.gr 9 .str false])⟩
noncomputable def fx13 : Fx := ⟨[(false, [.g 0 9 .str])], [.gr 9 .str false], [], [.gr 9 .str false], [], none⟩
noncomputable def fx14 : Fx := ⟨[(false, [.g 0 9 .str])], [.gr 9 .str false], [(false, [.g 1 9 .str])], [.no, .gr 9 .str false], [], none⟩
noncomputable def fx15 : Fx := ⟨[(false, [.d (.sl 9 .str)])], [], [(false, [.d (.sl 9 .str)])], [], [], none⟩
noncomputable def fx16 : Fx := ⟨[(true, [.d (.int .i64), .d (.int .u64), .d .str, .d (.sl 43 (.st 43))]), (false, [.d (.int .i64)])], [], [(false, [.d (.int .i64)])], [], [(1000003, ⟨[(1, [.d (.int .i64)]), (5, [.d (.int .i64)]), (9, [.d (.sl 43 (.st 43))]), (10, [.d (.int .i64)]), (11, [.d (.int .i64)])], []⟩)], none⟩
noncomputable def fx17 : Fx := ⟨[(true, [.d (.int .i64), .d (.int .u64), .d .str, .d (.sl 43 (.st 43))]), (false, [.d (.int .i64)])], [], [(false, [.d (.int .i64)])], [], [(1000004, ⟨[(1, [.d (.int .i64)]), (5, [.d (.int .i64)]), (11, [.d (.sl 43 (.st 43))]), (12, [.d (.int .i64)]), (13, [.d (.int .i64)])], []⟩)], none⟩
noncomputable def fx18 : Fx := ⟨[(true, [.d (.int .i64), .d (.int .u64), .d .str, .d (.sl 43 (.st 43))])], [], [(false, [.d .bool])], [], [(12, ⟨[(1, [.k]), (3, [.d .bool])], [[.d (.int .i64), .d (.int .u64), .d .str, .d (.sl 43 (.st 43))]]⟩)], none⟩
noncomputable def fx19 : Fx := ⟨[(false, [.d (.sl 43 (.st 43))]), (false, [.f 64 []])], [], [(false, [.d .bool])], [], [], none⟩
noncomputable def fx20 : Fx := ⟨[(false, [.d (.sl 43 (.st 43))]), (false, [.f 64 []])], [], [(false, [.d (.int .i64)])], [], [(1000002, ⟨[(0, [.d (.sl 43 (.st 43))]), (1, [.k]), (7, [.d (.int .i64)]), (8, [.d (.int .i64)])], []⟩)], none⟩
noncomputable def fx21 : Fx := ⟨[(true, [.d (.int .i64), .d (.int .u64), .d .str, .d (.sl 43 (.st 43))])], [], [(false, [.d .bool])], [], [], none⟩
noncomputable def tb : List (FuncId × Fx) := [(6, fx0), (16, fx1), (17, fx2), (13, fx3), (18, fx4), (31, fx5), (28, fx6), (32, fx7), (33, fx8), (34, fx9), (42, fx10), (29, fx11), (30, fx12), (25, fx13), (27, fx14), (26, fx15), (39, fx16), (40, fx17), (41, fx18), (63, fx19), (75, fx20), (64, fx21)]
theorem tbOk : TbOk Pr tb := tbOk_of (by kernel_rfl)
theorem fn0 : fnAt Pr tb 0 = some Go.Proofs.Try.f6 := by kernel_rfl
theorem fn1 : fnAt Pr tb 1 = some Go.Proofs.Try.f16 := by kernel_rfl
theorem fn2 : fnAt Pr tb 2 = some Go.Proofs.Try.f17 := by kernel_rfl
theorem fn3 : fnAt Pr tb 3 = some Go.Proofs.Try.f13 := by kernel_rfl
theorem fn4 : fnAt Pr tb 4 = some Go.Proofs.Try.f18 := by kernel_rfl
theorem fn5 : fnAt Pr tb 5 = some Go.Proofs.Try.f31 := by kernel_rfl
theorem fn6 : fnAt Pr tb 6 = some Go.Proofs.Try.f28 := by kernel_rfl
theorem fn7 : fnAt Pr tb 7 = some Go.Proofs.Try.f32 := by kernel_rfl
theorem fn8 : fnAt Pr tb 8 = some Go.Proofs.Try.f33 := by kernel_rfl
theorem fn9 : fnAt Pr tb 9 = some Go.Proofs.Try.f34 := by kernel_rfl
theorem fn10 : fnAt Pr tb 10 = some Go.Proofs.Try.f42 := by kernel_rfl
theorem fn11 : fnAt Pr tb 11 = some Go.Proofs.Try.f29 := by kernel_rfl
theorem fn12 : fnAt Pr tb 12 = some Go.Proofs.Try.f30 := by kernel_rfl
theorem fn13 : fnAt Pr tb 13 = some Go.Proofs.Try.f25 := by kernel_rfl
theorem fn14 : fnAt Pr tb 14 = some Go.Proofs.Try.f27 := by kernel_rfl
theorem fn15 : fnAt Pr tb 15 = some Go.Proofs.Try.f26 := by kernel_rfl
theorem fn16 : fnAt Pr tb 16 = some Go.Proofs.Try.f39 := by kernel_rfl
theorem fn17 : fnAt Pr tb 17 = some Go.Proofs.Try.f40 := by kernel_rfl
theorem fn18 : fnAt Pr tb 18 = some Go.Proofs.Try.f41 := by kernel_rfl
theorem fn19 : fnAt Pr tb 19 = some Go.Proofs.Try.f63 := by kernel_rfl
theorem fn20 : fnAt Pr tb 20 = some Go.Proofs.Try.f75 := by kernel_rfl
theorem fn21 : fnAt Pr tb 21 = some Go.Proofs.Try.f64 := by kernel_rfl
shelf_lay Lays.n194 Nm 194 at Try as sh_comp
shelf_lay Lays.n190 Nm 190 at Try as sh_sort
noncomputable def gl : List (Nat × GOp tab) := [(13, sortOp), (14, compOp)]
theorem gAll : GAll Pr tb gl := (GAll.cons (p := (13, sortOp)) (gone (p := (13, sortOp)) (f := 25) (fx := fx13) rfl (show GOk Pr 25 sortOp from sort_ok sh_sort)) (GAll.cons (p := (14, compOp)) (gone (p := (14, compOp)) (f := 27) (fx := fx14) rfl (show GOk Pr 27 compOp from comp_ok sh_comp)) GAll.nil))
noncomputable def G : Giv tab tb := giv tb gl
theorem F_holds (key : Nat) : Snd Pr tb key (F Pr tb G key) := F_ok tbOk (giv_ok gAll) key
theorem okL : okS Pr tab.fs [43] [43] = true := by kernel_rfl
noncomputable def F6_lethelaw02_TermAtoms (x0 : (List S43)) : Option (Bool × Unit) := F Pr tb G 0 [⟨(.sl 43 (.st 43)), x0⟩]
noncomputable def F16_term_Atoms (x0 : (List S43)) : Option ((List ByteArray) × Unit) := F Pr tb G 1 [⟨(.sl 43 (.st 43)), x0⟩]
noncomputable def F16_term_Atoms_l1000003 (v6 : (List S43)) (v7 : Int) (v8 : Int) (g0 : (List ByteArray)) : Option ((List ByteArray) × Unit) :=
  run Pr tb G fx1.fin Go.Proofs.Try.f16 fx1 ⟨todoAt Go.Proofs.Try.f16 1000003, [(3, .v (false, [.g 0])), (6, .v (false, [.d (.sl 43 (.st 43)) v6])), (7, .v (false, [.d (.int .i64) v7])), (8, .v (false, [.d (.int .i64) v8]))], [.gr 9 .str g0 false]⟩
noncomputable def F17_letheref02_Atoms (x0 : (List S43)) : Option ((List ByteArray) × Unit) := F Pr tb G 2 [⟨(.sl 43 (.st 43)), x0⟩]
noncomputable def F17_letheref02_Atoms_l1000003 (v3 : (List ByteArray)) (v7 : (List S43)) (v8 : Int) (v9 : Int) : Option ((List ByteArray) × Unit) :=
  run Pr tb G fx2.fin Go.Proofs.Try.f17 fx2 ⟨todoAt Go.Proofs.Try.f17 1000003, [(3, .v (false, [.d (.sl 9 .str) v3])), (7, .v (false, [.d (.sl 43 (.st 43)) v7])), (8, .v (false, [.d (.int .i64) v8])), (9, .v (false, [.d (.int .i64) v9]))], []⟩
noncomputable def F13_letheref02_SameTexts (x0 : (List ByteArray)) (x1 : (List ByteArray)) : Option (Bool × Unit) := F Pr tb G 3 [⟨(.sl 9 .str), x0⟩, ⟨(.sl 9 .str), x1⟩]
noncomputable def F13_letheref02_SameTexts_l1000004 (v0 : (List ByteArray)) (v1 : (List ByteArray)) (v12 : Int) (v13 : Int) : Option (Bool × Unit) :=
  run Pr tb G fx3.fin Go.Proofs.Try.f13 fx3 ⟨todoAt Go.Proofs.Try.f13 1000004, [(0, .v (false, [.d (.sl 9 .str) v0])), (1, .v (false, [.d (.sl 9 .str) v1])), (12, .v (false, [.d (.int .i64) v12])), (13, .v (false, [.d (.int .i64) v13]))], []⟩
noncomputable def F18_letheref02_Right (x0_0 : Int) (x0_1 : Int) (x0_2 : ByteArray) (x0_3 : (List S43)) : Option (Int × Unit) := F Pr tb G 4 [⟨(.int .i64), x0_0⟩, ⟨(.int .u64), x0_1⟩, ⟨.str, x0_2⟩, ⟨(.sl 43 (.st 43)), x0_3⟩]
noncomputable def F31_letheref02_gather (x0 : (List ByteArray)) (x1_0 : Int) (x1_1 : Int) (x1_2 : ByteArray) (x1_3 : (List S43)) : Option ((List ByteArray) × Unit) := F Pr tb G 5 [⟨(.sl 9 .str), x0⟩, ⟨(.int .i64), x1_0⟩, ⟨(.int .u64), x1_1⟩, ⟨.str, x1_2⟩, ⟨(.sl 43 (.st 43)), x1_3⟩]
noncomputable def F31_letheref02_gather_l1000004 (v0 : (List ByteArray)) (v15 : (List S43)) (v16 : Int) (v17 : Int) : Option ((List ByteArray) × Unit) :=
  run Pr tb G fx5.fin Go.Proofs.Try.f31 fx5 ⟨todoAt Go.Proofs.Try.f31 1000004, [(0, .v (false, [.d (.sl 9 .str) v0])), (15, .v (false, [.d (.sl 43 (.st 43)) v15])), (16, .v (false, [.d (.int .i64) v16])), (17, .v (false, [.d (.int .i64) v17]))], []⟩
noncomputable def F28_letheref02_Insert (x0 : (List ByteArray)) (x1 : ByteArray) : Option ((List ByteArray) × Unit) := F Pr tb G 6 [⟨(.sl 9 .str), x0⟩, ⟨.str, x1⟩]
noncomputable def F28_letheref02_Insert_l10 (v1 : ByteArray) (v6 : Bool) (v8 : ByteArray) (v10 : (List ByteArray)) (v11 : Int) (v12 : Int) (g0 : (List ByteArray)) : Option ((List ByteArray) × Unit) :=
  run Pr tb G fx6.fin Go.Proofs.Try.f28 fx6 ⟨todoAt Go.Proofs.Try.f28 10, [(1, .v (false, [.d .str v1])), (5, .v (false, [.g 0])), (6, .v (false, [.d .bool v6])), (8, .v (false, [.d .str v8])), (10, .v (false, [.d (.sl 9 .str) v10])), (11, .v (false, [.d (.int .i64) v11])), (12, .v (false, [.d (.int .i64) v12]))], [.gr 9 .str g0 false]⟩
noncomputable def F28_letheref02_Insert_l1000004 (v1 : ByteArray) (v6 : Bool) (v10 : (List ByteArray)) (v11 : Int) (v12 : Int) (g0 : (List ByteArray)) : Option ((List ByteArray) × Unit) :=
  run Pr tb G fx6.fin Go.Proofs.Try.f28 fx6 ⟨todoAt Go.Proofs.Try.f28 1000004, [(1, .v (false, [.d .str v1])), (5, .v (false, [.g 0])), (6, .v (false, [.d .bool v6])), (10, .v (false, [.d (.sl 9 .str) v10])), (11, .v (false, [.d (.int .i64) v11])), (12, .v (false, [.d (.int .i64) v12]))], [.gr 9 .str g0 false]⟩
noncomputable def F32_letheref02_Parts (x0_0 : Int) (x0_1 : Int) (x0_2 : ByteArray) (x0_3 : (List S43)) (x1 : Int) : Option (Int × Unit) := F Pr tb G 7 [⟨(.int .i64), x0_0⟩, ⟨(.int .u64), x0_1⟩, ⟨.str, x0_2⟩, ⟨(.sl 43 (.st 43)), x0_3⟩, ⟨(.int .i64), x1⟩]
noncomputable def F32_letheref02_Parts_l1000003 (v1 : Int) (v5 : Int) (v9 : (List S43)) (v10 : Int) (v11 : Int) : Option (Int × Unit) :=
  run Pr tb G fx7.fin Go.Proofs.Try.f32 fx7 ⟨todoAt Go.Proofs.Try.f32 1000003, [(1, .v (false, [.d (.int .i64) v1])), (5, .v (false, [.d (.int .i64) v5])), (9, .v (false, [.d (.sl 43 (.st 43)) v9])), (10, .v (false, [.d (.int .i64) v10])), (11, .v (false, [.d (.int .i64) v11]))], []⟩
noncomputable def F33_letheref02_Deep (x0_0 : Int) (x0_1 : Int) (x0_2 : ByteArray) (x0_3 : (List S43)) (x1 : Int) : Option (Int × Unit) := F Pr tb G 8 [⟨(.int .i64), x0_0⟩, ⟨(.int .u64), x0_1⟩, ⟨.str, x0_2⟩, ⟨(.sl 43 (.st 43)), x0_3⟩, ⟨(.int .i64), x1⟩]
noncomputable def F33_letheref02_Deep_l1000005 (v1 : Int) (v5 : Int) (v13 : (List S43)) (v14 : Int) (v15 : Int) : Option (Int × Unit) :=
  run Pr tb G fx8.fin Go.Proofs.Try.f33 fx8 ⟨todoAt Go.Proofs.Try.f33 1000005, [(1, .v (false, [.d (.int .i64) v1])), (5, .v (false, [.d (.int .i64) v5])), (13, .v (false, [.d (.sl 43 (.st 43)) v13])), (14, .v (false, [.d (.int .i64) v14])), (15, .v (false, [.d (.int .i64) v15]))], []⟩
noncomputable def F34_letheref02_shaped (x0_0 : Int) (x0_1 : Int) (x0_2 : ByteArray) (x0_3 : (List S43)) : Option (Bool × Unit) := F Pr tb G 9 [⟨(.int .i64), x0_0⟩, ⟨(.int .u64), x0_1⟩, ⟨.str, x0_2⟩, ⟨(.sl 43 (.st 43)), x0_3⟩]
noncomputable def F34_letheref02_shaped_l1000004 (v9 : (List S43)) (v10 : Int) (v11 : Int) : Option (Bool × Unit) :=
  run Pr tb G fx9.fin Go.Proofs.Try.f34 fx9 ⟨todoAt Go.Proofs.Try.f34 1000004, [(9, .v (false, [.d (.sl 43 (.st 43)) v9])), (10, .v (false, [.d (.int .i64) v10])), (11, .v (false, [.d (.int .i64) v11]))], []⟩
noncomputable def F42_letheref02_One (x0_0 : Int) (x0_1 : Int) (x0_2 : ByteArray) (x0_3 : (List S43)) : Option (Bool × Unit) := F Pr tb G 10 [⟨(.int .i64), x0_0⟩, ⟨(.int .u64), x0_1⟩, ⟨.str, x0_2⟩, ⟨(.sl 43 (.st 43)), x0_3⟩]
noncomputable def F29_term_Right (x0_0 : Int) (x0_1 : Int) (x0_2 : ByteArray) (x0_3 : (List S43)) : Option (Int × Unit) := F Pr tb G 11 [⟨(.int .i64), x0_0⟩, ⟨(.int .u64), x0_1⟩, ⟨.str, x0_2⟩, ⟨(.sl 43 (.st 43)), x0_3⟩]
noncomputable def F30_term_gather (x1_0 : Int) (x1_1 : Int) (x1_2 : ByteArray) (x1_3 : (List S43)) (g0 : (List ByteArray)) : Option (Bool × (List ByteArray) × (List ByteArray) × Unit) := F Pr tb G 12 [⟨(.int .i64), x1_0⟩, ⟨(.int .u64), x1_1⟩, ⟨.str, x1_2⟩, ⟨(.sl 43 (.st 43)), x1_3⟩, ⟨(.sl 9 .str), g0⟩]
noncomputable def F30_term_gather_l1000004 (v16 : (List S43)) (v17 : Int) (v18 : Int) (g0 : (List ByteArray)) : Option (Bool × (List ByteArray) × (List ByteArray) × Unit) :=
  run Pr tb G fx12.fin Go.Proofs.Try.f30 fx12 ⟨todoAt Go.Proofs.Try.f30 1000004, [(0, .v (false, [.g 0])), (16, .v (false, [.d (.sl 43 (.st 43)) v16])), (17, .v (false, [.d (.int .i64) v17])), (18, .v (false, [.d (.int .i64) v18]))], [.gr 9 .str g0 false]⟩
noncomputable def F30_term_gather_l1000004_1 (v16 : (List S43)) (v17 : Int) (v18 : Int) (g1 : (List ByteArray)) : Option (Bool × (List ByteArray) × (List ByteArray) × Unit) :=
  run Pr tb G fx12.fin Go.Proofs.Try.f30 fx12 ⟨todoAt Go.Proofs.Try.f30 1000004, [(0, .v (false, [.g 1])), (16, .v (false, [.d (.sl 43 (.st 43)) v16])), (17, .v (false, [.d (.int .i64) v17])), (18, .v (false, [.d (.int .i64) v18]))], [.no, .gr 9 .str g1 false]⟩
noncomputable def F25_slices_Sort (g0 : (List ByteArray)) : Option ((List ByteArray) × Unit) := F Pr tb G 13 [⟨(.sl 9 .str), g0⟩]
noncomputable def F27_slices_Compact (g0 : (List ByteArray)) : Option ((List ByteArray) × Unit) := F Pr tb G 14 [⟨(.sl 9 .str), g0⟩]
noncomputable def F26_slices_Clip (x0 : (List ByteArray)) : Option ((List ByteArray) × Unit) := F Pr tb G 15 [⟨(.sl 9 .str), x0⟩]
noncomputable def F39_term_parts (x0_0 : Int) (x0_1 : Int) (x0_2 : ByteArray) (x0_3 : (List S43)) (x1 : Int) : Option (Int × Unit) := F Pr tb G 16 [⟨(.int .i64), x0_0⟩, ⟨(.int .u64), x0_1⟩, ⟨.str, x0_2⟩, ⟨(.sl 43 (.st 43)), x0_3⟩, ⟨(.int .i64), x1⟩]
noncomputable def F39_term_parts_l1000003 (v1 : Int) (v5 : Int) (v9 : (List S43)) (v10 : Int) (v11 : Int) : Option (Int × Unit) :=
  run Pr tb G fx16.fin Go.Proofs.Try.f39 fx16 ⟨todoAt Go.Proofs.Try.f39 1000003, [(1, .v (false, [.d (.int .i64) v1])), (5, .v (false, [.d (.int .i64) v5])), (9, .v (false, [.d (.sl 43 (.st 43)) v9])), (10, .v (false, [.d (.int .i64) v10])), (11, .v (false, [.d (.int .i64) v11]))], []⟩
noncomputable def F40_term_deep (x0_0 : Int) (x0_1 : Int) (x0_2 : ByteArray) (x0_3 : (List S43)) (x1 : Int) : Option (Int × Unit) := F Pr tb G 17 [⟨(.int .i64), x0_0⟩, ⟨(.int .u64), x0_1⟩, ⟨.str, x0_2⟩, ⟨(.sl 43 (.st 43)), x0_3⟩, ⟨(.int .i64), x1⟩]
noncomputable def F40_term_deep_l1000004 (v1 : Int) (v5 : Int) (v11 : (List S43)) (v12 : Int) (v13 : Int) : Option (Int × Unit) :=
  run Pr tb G fx17.fin Go.Proofs.Try.f40 fx17 ⟨todoAt Go.Proofs.Try.f40 1000004, [(1, .v (false, [.d (.int .i64) v1])), (5, .v (false, [.d (.int .i64) v5])), (11, .v (false, [.d (.sl 43 (.st 43)) v11])), (12, .v (false, [.d (.int .i64) v12])), (13, .v (false, [.d (.int .i64) v13]))], []⟩
noncomputable def F41_term_shaped (x0_0 : Int) (x0_1 : Int) (x0_2 : ByteArray) (x0_3 : (List S43)) : Option (Bool × Unit) := F Pr tb G 18 [⟨(.int .i64), x0_0⟩, ⟨(.int .u64), x0_1⟩, ⟨.str, x0_2⟩, ⟨(.sl 43 (.st 43)), x0_3⟩]
noncomputable def F41_term_shaped_l12 (v3 : Bool) (h0_0 : Int) (h0_1 : Int) (h0_2 : ByteArray) (h0_3 : (List S43)) : Option (Bool × Unit) :=
  run Pr tb G fx18.fin Go.Proofs.Try.f41 fx18 ⟨todoAt Go.Proofs.Try.f41 12, [(1, .v (false, [.p 0 0])), (3, .v (false, [.d .bool v3]))], [.box 43 [.d (.int .i64) h0_0, .d (.int .u64) h0_1, .d .str h0_2, .d (.sl 43 (.st 43)) h0_3]]⟩
noncomputable def F63_slices_ContainsFunc_64 (x0 : (List S43)) : Option (Bool × Unit) := F Pr tb G 19 [⟨(.sl 43 (.st 43)), x0⟩]
noncomputable def F75_slices_IndexFunc_64 (x0 : (List S43)) : Option (Int × Unit) := F Pr tb G 20 [⟨(.sl 43 (.st 43)), x0⟩]
noncomputable def F75_slices_IndexFunc_64_l1000002 (v0 : (List S43)) (v7 : Int) (v8 : Int) : Option (Int × Unit) :=
  run Pr tb G fx20.fin Go.Proofs.Try.f75 fx20 ⟨todoAt Go.Proofs.Try.f75 1000002, [(0, .v (false, [.d (.sl 43 (.st 43)) v0])), (1, .v (false, [.f 64 []])), (7, .v (false, [.d (.int .i64) v7])), (8, .v (false, [.d (.int .i64) v8]))], []⟩
noncomputable def F64_term_shaped_1 (x0_0 : Int) (x0_1 : Int) (x0_2 : ByteArray) (x0_3 : (List S43)) : Option (Bool × Unit) := F Pr tb G 21 [⟨(.int .i64), x0_0⟩, ⟨(.int .u64), x0_1⟩, ⟨.str, x0_2⟩, ⟨(.sl 43 (.st 43)), x0_3⟩]
end
end Go.Proofs.Yteoggpajjljfmaa.TermAtomsx
