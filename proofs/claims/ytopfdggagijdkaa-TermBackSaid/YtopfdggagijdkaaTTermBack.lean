/- The law TermBack: types, signatures and names of the functions that it reaches. Under no condition. -/
import Derived.Test.YtopfdggagijdkaaRxI
import Derived.Test.YtopfdggagijdkaaRxC
import Derived.Test.YtopfdggagijdkaaProg
import Derived.KernelRfl
set_option linter.unusedVariables false
set_option maxRecDepth 100000
namespace Go.Proofs.Ytopfdggagijdkaa.TermBackx
open Go Go.RowKit Go.Proofs.Ytopfdggagijdkaa.Rx Go.Proofs.Ytopfdggagijdkaa.TermBackx
noncomputable section
inductive S25 where | mk (f0 : Int) (f1 : Int) (f2 : ByteArray) (f3 : (List S25))
noncomputable def S25.f0 : S25 → Int | mk x _ _ _ => x
noncomputable def S25.f1 : S25 → Int | mk _ x _ _ => x
noncomputable def S25.f2 : S25 → ByteArray | mk _ _ x _ => x
noncomputable def S25.f3 : S25 → (List S25) | mk _ _ _ x => x
theorem S25.eta (x : S25) : S25.mk x.f0 x.f1 x.f2 x.f3 = x := by cases x; rfl
noncomputable def S25.z : S25 := S25.mk (0 : Int) (0 : Int) ByteArray.empty []
noncomputable def S (n : Nat) : Type := if n = 25 then S25 else Unit
noncomputable def fs (n : Nat) : List Ty := if n = 25 then [(.int .i64), (.int .u64), .str, (.sl 25 (.st 25))] else []
theorem fs_no {n : Nat} (h25 : ¬ n = 25) : fs n = [] := by simp only [fs, h25, if_false]
theorem S_no {n : Nat} (h25 : ¬ n = 25) : S n = Unit := by simp only [S, h25, if_false]
noncomputable def out (n : Nat) : S n → HL S (fs n) :=
  if h25 : n = 25 then by subst h25; exact fun (x : S25) => (x.f0, x.f1, x.f2, x.f3, ()) else by intro _; rw [fs_no h25]; exact ()
noncomputable def pk (n : Nat) : HL S (fs n) → S n :=
  if h25 : n = 25 then by subst h25; exact fun (x : Int × Int × ByteArray × (List S25) × Unit) => S25.mk x.1 x.2.1 x.2.2.1 x.2.2.2.1 else by intro _; rw [S_no h25]; exact ()
noncomputable def z (n : Nat) : S n :=
  if h25 : n = 25 then by subst h25; exact S25.z else by rw [S_no h25]; exact ()
theorem out_pk (n : Nat) (h : HL S (fs n)) : out n (pk n h) = h := by
  by_cases h25 : n = 25
  · subst h25; rfl
  have e : ∀ a b : HL S (fs n), a = b := by rw [fs_no h25]; intro a b; rfl
  exact e _ _
theorem pk_out (n : Nat) (x : S n) : pk n (out n x) = x := by
  by_cases h25 : n = 25
  · subst h25; exact S25.eta x
  have e : ∀ a b : S n, a = b := by rw [S_no h25]; intro a b; rfl
  exact e _ _
noncomputable def tab : Tab := { S := S, fs := fs, out := out, pk := pk, z := z, out_pk := out_pk, pk_out := pk_out }
noncomputable abbrev Pr := Go.Proofs.Try.prog
noncomputable def fx0 : Fx := ⟨[(true, [.d (.int .i64), .d (.int .u64), .d .str, .d (.sl 25 (.st 25))]), (true, [.d (.int .i64), .d (.int .u64), .d .str, .d (.sl 25 (.st 25))])], [], [(false, [.d .bool])], [], [], none⟩
noncomputable def fx1 : Fx := ⟨[(true, [.d (.int .i64), .d (.int .u64), .d .str, .d (.sl 25 (.st 25))])], [], [(false, [.d .str]), (false, [.d (.int .i64)])], [], [], none⟩
noncomputable def fx2 : Fx := ⟨[(true, [.d (.int .i64), .d (.int .u64), .d .str, .d (.sl 25 (.st 25))])], [], [(false, [.d (.int .i64)])], [], [], none⟩
noncomputable def fx3 : Fx := ⟨[(false, [.d .str])], [], [(true, [.d (.int .i64), .d (.int .u64), .d .str, .d (.sl 25 (.st 25))]), (false, [.d (.int .i64)])], [], [], none⟩
noncomputable def fx4 : Fx := ⟨[(true, [.d (.int .i64), .d (.int .u64), .d .str, .d (.sl 25 (.st 25))]), (true, [.d (.int .i64), .d (.int .u64), .d .str, .d (.sl 25 (.st 25))])], [], [(false, [.d .bool])], [], [], none⟩
noncomputable def fx5 : Fx := ⟨[(true, [.d (.int .i64), .d (.int .u64), .d .str, .d (.sl 25 (.st 25))])], [], [(false, [.d (.int .i64)])], [], [], none⟩
noncomputable def fx6 : Fx := ⟨[(true, [.d (.int .i64), .d (.int .u64), .d .str, .d (.sl 25 (.st 25))]), (true, [.d (.int .i64), .d (.int .u64), .d .str, .d (.sl 25 (.st 25))])], [], [(false, [.d .bool])], [], [], none⟩
noncomputable def fx7 : Fx := ⟨[(false, [.d (.sl 25 (.st 25))]), (false, [.d (.sl 25 (.st 25))]), (false, [.f 61])], [], [(false, [.d .bool])], [], [(1000004, ⟨[(1, [.d (.sl 25 (.st 25))]), (2, [.k]), (15, [.d (.sl 25 (.st 25))]), (16, [.d (.int .i64)]), (17, [.d (.int .i64)])], []⟩)], none⟩
noncomputable def fx8 : Fx := ⟨[(true, [.d (.int .i64), .d (.int .u64), .d .str, .d (.sl 25 (.st 25))]), (false, [.d (.int .i64)])], [], [(false, [.d (.int .i64)])], [], [(1000003, ⟨[(1, [.d (.int .i64)]), (5, [.d (.int .i64)]), (9, [.d (.sl 25 (.st 25))]), (10, [.d (.int .i64)]), (11, [.d (.int .i64)])], []⟩)], none⟩
noncomputable def fx9 : Fx := ⟨[(true, [.d (.int .i64), .d (.int .u64), .d .str, .d (.sl 25 (.st 25))]), (false, [.d (.int .i64)])], [], [(false, [.d (.int .i64)])], [], [(1000004, ⟨[(1, [.d (.int .i64)]), (5, [.d (.int .i64)]), (11, [.d (.sl 25 (.st 25))]), (12, [.d (.int .i64)]), (13, [.d (.int .i64)])], []⟩)], none⟩
noncomputable def fx10 : Fx := ⟨[(true, [.d (.int .i64), .d (.int .u64), .d .str, .d (.sl 25 (.st 25))])], [], [(false, [.d .bool])], [], [(12, ⟨[(1, [.k]), (3, [.d .bool])], [[.d (.int .i64), .d (.int .u64), .d .str, .d (.sl 25 (.st 25))]]⟩)], none⟩
noncomputable def fx11 : Fx := ⟨[(false, [.d (.sl 25 (.st 25))]), (false, [.f 68])], [], [(false, [.d .bool])], [], [], none⟩
noncomputable def fx12 : Fx := ⟨[(false, [.d (.sl 25 (.st 25))]), (false, [.f 68])], [], [(false, [.d (.int .i64)])], [], [(1000002, ⟨[(0, [.d (.sl 25 (.st 25))]), (1, [.k]), (7, [.d (.int .i64)]), (8, [.d (.int .i64)])], []⟩)], none⟩
noncomputable def fx13 : Fx := ⟨[(true, [.d (.int .i64), .d (.int .u64), .d .str, .d (.sl 25 (.st 25))])], [], [(false, [.d .bool])], [], [], none⟩
noncomputable def fx14 : Fx := ⟨[(false, [.p 0 0]), (false, [.d (.int .i64)])], [.box 63 [.d .str, .d (.int .i64)]], [(true, [.d (.int .i64), .d (.int .u64), .d .str, .d (.sl 25 (.st 25))]), (false, [.d (.int .i64)])], [.box 63 [.d .str, .d (.int .i64)]], [(1000022, ⟨[(0, [.k]), (1, [.d (.int .i64)]), (4, [.k]), (9, [.k]), (10, [.d (.int .u64)])], [[.d .str, .d (.int .i64)], [.d (.int .i64), .d (.int .u64), .d .str, .o 25 (.st 25)], [.d (.int .i64), .d (.int .u64), .d .str, .o 25 (.st 25)]]⟩)], none⟩
noncomputable def fx15 : Fx := ⟨[(false, [.p 0 0]), (false, [.d (.int .i64)])], [.box 63 [.d .str, .d (.int .i64)]], [(false, [.d (.int .i64)]), (false, [.d (.int .u64)]), (false, [.d (.int .i64)])], [.box 63 [.d .str, .d (.int .i64)]], [], none⟩
noncomputable def fx16 : Fx := ⟨[(false, [.d .str])], [], [(false, [.d (.int .u64)]), (false, [.d (.int .i64)]), (false, [.d (.int .i64)])], [], [(12, ⟨[(5, [.d (.int .u64)]), (6, [.d (.int .i64)])], []⟩), (1000003, ⟨[(0, [.d .str]), (5, [.d (.int .u64)]), (6, [.d (.int .i64)])], []⟩)], none⟩
noncomputable def fx17 : Fx := ⟨[(true, [.d (.int .i64), .d (.int .u64), .d .str, .d (.sl 25 (.st 25))]), (false, [.d (.int .i64)])], [], [(false, [.d (.int .i64)])], [], [(1000003, ⟨[(1, [.d (.int .i64)]), (5, [.d (.int .i64)]), (9, [.d (.sl 25 (.st 25))]), (10, [.d (.int .i64)]), (11, [.d (.int .i64)])], []⟩)], none⟩
noncomputable def fx18 : Fx := ⟨[(true, [.d (.int .i64), .d (.int .u64), .d .str, .d (.sl 25 (.st 25))]), (false, [.d (.int .i64)])], [], [(false, [.d (.int .i64)])], [], [(1000005, ⟨[(1, [.d (.int .i64)]), (5, [.d (.int .i64)]), (13, [.d (.sl 25 (.st 25))]), (14, [.d (.int .i64)]), (15, [.d (.int .i64)])], []⟩)], none⟩
noncomputable def fx19 : Fx := ⟨[(true, [.d (.int .i64), .d (.int .u64), .d .str, .d (.sl 25 (.st 25))])], [], [(false, [.d .bool])], [], [(1000004, ⟨[(9, [.d (.sl 25 (.st 25))]), (10, [.d (.int .i64)]), (11, [.d (.int .i64)])], []⟩)], none⟩
noncomputable def fx20 : Fx := ⟨[(true, [.d (.int .i64), .d (.int .u64), .d .str, .d (.sl 25 (.st 25))])], [], [(false, [.d .bool])], [], [], none⟩
noncomputable def fx21 : Fx := ⟨[(false, [.g 0 5 (.int .u8)]), (true, [.d (.int .i64), .d (.int .u64), .d .str, .d (.sl 25 (.st 25))])], [.gr 5 (.int .u8) false], [(false, [.g 1 5 (.int .u8)])], [.no, .gr 5 (.int .u8) false], [(11, ⟨[(0, [.o 5 (.int .u8)]), (3, [.k])], [[], [], [.d (.int .i64), .d (.int .u64), .d .str, .d (.sl 25 (.st 25))]]⟩), (1000012, ⟨[(0, [.o 5 (.int .u8)]), (46, [.d (.sl 25 (.st 25))]), (47, [.d (.int .i64)]), (48, [.d (.int .i64)])], []⟩)], none⟩
noncomputable def fx22 : Fx := ⟨[(false, [.d (.int .u64)])], [], [(false, [.d .str])], [], [(1000002, ⟨[(0, [.d (.int .u64)]), (3, [.o 5 (.int .u8)])], []⟩)], none⟩
noncomputable def tb : List (FuncId × Fx) := [(14, fx0), (28, fx1), (35, fx2), (26, fx3), (41, fx4), (40, fx5), (61, fx6), (69, fx7), (58, fx8), (59, fx9), (60, fx10), (67, fx11), (70, fx12), (68, fx13), (47, fx14), (62, fx15), (22, fx16), (54, fx17), (55, fx18), (56, fx19), (66, fx20), (49, fx21), (24, fx22)]
theorem tbOk : TbOk Pr tb := tbOk_of (by kernel_rfl)
theorem fn0 : fnAt Pr tb 0 = some Go.Proofs.Try.f14 := by kernel_rfl
theorem fn1 : fnAt Pr tb 1 = some Go.Proofs.Try.f28 := by kernel_rfl
theorem fn2 : fnAt Pr tb 2 = some Go.Proofs.Try.f35 := by kernel_rfl
theorem fn3 : fnAt Pr tb 3 = some Go.Proofs.Try.f26 := by kernel_rfl
theorem fn4 : fnAt Pr tb 4 = some Go.Proofs.Try.f41 := by kernel_rfl
theorem fn5 : fnAt Pr tb 5 = some Go.Proofs.Try.f40 := by kernel_rfl
theorem fn6 : fnAt Pr tb 6 = some Go.Proofs.Try.f61 := by kernel_rfl
theorem fn7 : fnAt Pr tb 7 = some Go.Proofs.Try.f69 := by kernel_rfl
theorem fn8 : fnAt Pr tb 8 = some Go.Proofs.Try.f58 := by kernel_rfl
theorem fn9 : fnAt Pr tb 9 = some Go.Proofs.Try.f59 := by kernel_rfl
theorem fn10 : fnAt Pr tb 10 = some Go.Proofs.Try.f60 := by kernel_rfl
theorem fn11 : fnAt Pr tb 11 = some Go.Proofs.Try.f67 := by kernel_rfl
theorem fn12 : fnAt Pr tb 12 = some Go.Proofs.Try.f70 := by kernel_rfl
theorem fn13 : fnAt Pr tb 13 = some Go.Proofs.Try.f68 := by kernel_rfl
theorem fn14 : fnAt Pr tb 14 = some Go.Proofs.Try.f47 := by kernel_rfl
theorem fn15 : fnAt Pr tb 15 = some Go.Proofs.Try.f62 := by kernel_rfl
theorem fn16 : fnAt Pr tb 16 = some Go.Proofs.Try.f22 := by kernel_rfl
theorem fn17 : fnAt Pr tb 17 = some Go.Proofs.Try.f54 := by kernel_rfl
theorem fn18 : fnAt Pr tb 18 = some Go.Proofs.Try.f55 := by kernel_rfl
theorem fn19 : fnAt Pr tb 19 = some Go.Proofs.Try.f56 := by kernel_rfl
theorem fn20 : fnAt Pr tb 20 = some Go.Proofs.Try.f66 := by kernel_rfl
theorem fn21 : fnAt Pr tb 21 = some Go.Proofs.Try.f49 := by kernel_rfl
theorem fn22 : fnAt Pr tb 22 = some Go.Proofs.Try.f24 := by kernel_rfl
noncomputable def G : Giv tab tb := fun _ => none
theorem F_holds (key : Nat) : Snd Pr tb key (F Pr tb G key) := F_ok tbOk (fun _ _ h => by cases h) key
theorem okL : okS Pr tab.fs [25] [25] = true := by kernel_rfl
noncomputable def F14_lethelaw02_TermBack (x0_0 : Int) (x0_1 : Int) (x0_2 : ByteArray) (x0_3 : (List S25)) (x1_0 : Int) (x1_1 : Int) (x1_2 : ByteArray) (x1_3 : (List S25)) : Option (Bool × Unit) := F Pr tb G 0 [⟨(.int .i64), x0_0⟩, ⟨(.int .u64), x0_1⟩, ⟨.str, x0_2⟩, ⟨(.sl 25 (.st 25)), x0_3⟩, ⟨(.int .i64), x1_0⟩, ⟨(.int .u64), x1_1⟩, ⟨.str, x1_2⟩, ⟨(.sl 25 (.st 25)), x1_3⟩]
noncomputable def F28_term_Encode (x0_0 : Int) (x0_1 : Int) (x0_2 : ByteArray) (x0_3 : (List S25)) : Option (ByteArray × Int × Unit) := F Pr tb G 1 [⟨(.int .i64), x0_0⟩, ⟨(.int .u64), x0_1⟩, ⟨.str, x0_2⟩, ⟨(.sl 25 (.st 25)), x0_3⟩]
noncomputable def F35_letheref02_Right (x0_0 : Int) (x0_1 : Int) (x0_2 : ByteArray) (x0_3 : (List S25)) : Option (Int × Unit) := F Pr tb G 2 [⟨(.int .i64), x0_0⟩, ⟨(.int .u64), x0_1⟩, ⟨.str, x0_2⟩, ⟨(.sl 25 (.st 25)), x0_3⟩]
noncomputable def F26_term_Decode (x0 : ByteArray) : Option (Int × Int × ByteArray × (List S25) × Int × Unit) := F Pr tb G 3 [⟨.str, x0⟩]
noncomputable def F41_term_Same (x0_0 : Int) (x0_1 : Int) (x0_2 : ByteArray) (x0_3 : (List S25)) (x1_0 : Int) (x1_1 : Int) (x1_2 : ByteArray) (x1_3 : (List S25)) : Option (Bool × Unit) := F Pr tb G 4 [⟨(.int .i64), x0_0⟩, ⟨(.int .u64), x0_1⟩, ⟨.str, x0_2⟩, ⟨(.sl 25 (.st 25)), x0_3⟩, ⟨(.int .i64), x1_0⟩, ⟨(.int .u64), x1_1⟩, ⟨.str, x1_2⟩, ⟨(.sl 25 (.st 25)), x1_3⟩]
noncomputable def F40_term_Right (x0_0 : Int) (x0_1 : Int) (x0_2 : ByteArray) (x0_3 : (List S25)) : Option (Int × Unit) := F Pr tb G 5 [⟨(.int .i64), x0_0⟩, ⟨(.int .u64), x0_1⟩, ⟨.str, x0_2⟩, ⟨(.sl 25 (.st 25)), x0_3⟩]
noncomputable def F61_term_same (x0_0 : Int) (x0_1 : Int) (x0_2 : ByteArray) (x0_3 : (List S25)) (x1_0 : Int) (x1_1 : Int) (x1_2 : ByteArray) (x1_3 : (List S25)) : Option (Bool × Unit) := F Pr tb G 6 [⟨(.int .i64), x0_0⟩, ⟨(.int .u64), x0_1⟩, ⟨.str, x0_2⟩, ⟨(.sl 25 (.st 25)), x0_3⟩, ⟨(.int .i64), x1_0⟩, ⟨(.int .u64), x1_1⟩, ⟨.str, x1_2⟩, ⟨(.sl 25 (.st 25)), x1_3⟩]
noncomputable def F69_slices_EqualFunc_61 (x0 : (List S25)) (x1 : (List S25)) : Option (Bool × Unit) := F Pr tb G 7 [⟨(.sl 25 (.st 25)), x0⟩, ⟨(.sl 25 (.st 25)), x1⟩]
noncomputable def F69_slices_EqualFunc_61_l1000004 (v1 : (List S25)) (v15 : (List S25)) (v16 : Int) (v17 : Int) : Option (Bool × Unit) :=
  run Pr tb G fx7.fin Go.Proofs.Try.f69 fx7 ⟨todoAt Go.Proofs.Try.f69 1000004, [(1, .v (false, [.d (.sl 25 (.st 25)) v1])), (2, .v (false, [.f 61 []])), (15, .v (false, [.d (.sl 25 (.st 25)) v15])), (16, .v (false, [.d (.int .i64) v16])), (17, .v (false, [.d (.int .i64) v17]))], []⟩
noncomputable def F58_term_parts (x0_0 : Int) (x0_1 : Int) (x0_2 : ByteArray) (x0_3 : (List S25)) (x1 : Int) : Option (Int × Unit) := F Pr tb G 8 [⟨(.int .i64), x0_0⟩, ⟨(.int .u64), x0_1⟩, ⟨.str, x0_2⟩, ⟨(.sl 25 (.st 25)), x0_3⟩, ⟨(.int .i64), x1⟩]
noncomputable def F58_term_parts_l1000003 (v1 : Int) (v5 : Int) (v9 : (List S25)) (v10 : Int) (v11 : Int) : Option (Int × Unit) :=
  run Pr tb G fx8.fin Go.Proofs.Try.f58 fx8 ⟨todoAt Go.Proofs.Try.f58 1000003, [(1, .v (false, [.d (.int .i64) v1])), (5, .v (false, [.d (.int .i64) v5])), (9, .v (false, [.d (.sl 25 (.st 25)) v9])), (10, .v (false, [.d (.int .i64) v10])), (11, .v (false, [.d (.int .i64) v11]))], []⟩
noncomputable def F59_term_deep (x0_0 : Int) (x0_1 : Int) (x0_2 : ByteArray) (x0_3 : (List S25)) (x1 : Int) : Option (Int × Unit) := F Pr tb G 9 [⟨(.int .i64), x0_0⟩, ⟨(.int .u64), x0_1⟩, ⟨.str, x0_2⟩, ⟨(.sl 25 (.st 25)), x0_3⟩, ⟨(.int .i64), x1⟩]
noncomputable def F59_term_deep_l1000004 (v1 : Int) (v5 : Int) (v11 : (List S25)) (v12 : Int) (v13 : Int) : Option (Int × Unit) :=
  run Pr tb G fx9.fin Go.Proofs.Try.f59 fx9 ⟨todoAt Go.Proofs.Try.f59 1000004, [(1, .v (false, [.d (.int .i64) v1])), (5, .v (false, [.d (.int .i64) v5])), (11, .v (false, [.d (.sl 25 (.st 25)) v11])), (12, .v (false, [.d (.int .i64) v12])), (13, .v (false, [.d (.int .i64) v13]))], []⟩
noncomputable def F60_term_shaped (x0_0 : Int) (x0_1 : Int) (x0_2 : ByteArray) (x0_3 : (List S25)) : Option (Bool × Unit) := F Pr tb G 10 [⟨(.int .i64), x0_0⟩, ⟨(.int .u64), x0_1⟩, ⟨.str, x0_2⟩, ⟨(.sl 25 (.st 25)), x0_3⟩]
noncomputable def F60_term_shaped_l12 (v3 : Bool) (h0_0 : Int) (h0_1 : Int) (h0_2 : ByteArray) (h0_3 : (List S25)) : Option (Bool × Unit) :=
  run Pr tb G fx10.fin Go.Proofs.Try.f60 fx10 ⟨todoAt Go.Proofs.Try.f60 12, [(1, .v (false, [.p 0 0])), (3, .v (false, [.d .bool v3]))], [.box 25 [.d (.int .i64) h0_0, .d (.int .u64) h0_1, .d .str h0_2, .d (.sl 25 (.st 25)) h0_3]]⟩
noncomputable def F67_slices_ContainsFunc_68 (x0 : (List S25)) : Option (Bool × Unit) := F Pr tb G 11 [⟨(.sl 25 (.st 25)), x0⟩]
noncomputable def F70_slices_IndexFunc_68 (x0 : (List S25)) : Option (Int × Unit) := F Pr tb G 12 [⟨(.sl 25 (.st 25)), x0⟩]
noncomputable def F70_slices_IndexFunc_68_l1000002 (v0 : (List S25)) (v7 : Int) (v8 : Int) : Option (Int × Unit) :=
  run Pr tb G fx12.fin Go.Proofs.Try.f70 fx12 ⟨todoAt Go.Proofs.Try.f70 1000002, [(0, .v (false, [.d (.sl 25 (.st 25)) v0])), (1, .v (false, [.f 68 []])), (7, .v (false, [.d (.int .i64) v7])), (8, .v (false, [.d (.int .i64) v8]))], []⟩
noncomputable def F68_term_shaped_1 (x0_0 : Int) (x0_1 : Int) (x0_2 : ByteArray) (x0_3 : (List S25)) : Option (Bool × Unit) := F Pr tb G 13 [⟨(.int .i64), x0_0⟩, ⟨(.int .u64), x0_1⟩, ⟨.str, x0_2⟩, ⟨(.sl 25 (.st 25)), x0_3⟩]
noncomputable def F47_term_reader_term (x1 : Int) (h0_0 : ByteArray) (h0_1 : Int) : Option (Int × Int × ByteArray × (List S25) × Int × ByteArray × Int × Unit) := F Pr tb G 14 [⟨(.int .i64), x1⟩, ⟨.str, h0_0⟩, ⟨(.int .i64), h0_1⟩]
noncomputable def F47_term_reader_term_l1000022 (v1 : Int) (v10 : Int) (h0_0 : ByteArray) (h0_1 : Int) (h1_0 : Int) (h1_1 : Int) (h1_2 : ByteArray) (h2_0 : Int) (h2_1 : Int) (h2_2 : ByteArray) (g3 : (List S25)) (g4 : (List S25)) : Option (Int × Int × ByteArray × (List S25) × Int × ByteArray × Int × Unit) :=
  run Pr tb G fx14.fin Go.Proofs.Try.f47 fx14 ⟨todoAt Go.Proofs.Try.f47 1000022, [(0, .v (false, [.p 0 0])), (1, .v (false, [.d (.int .i64) v1])), (4, .v (false, [.p 1 0])), (9, .v (false, [.p 2 0])), (10, .v (false, [.d (.int .u64) v10]))], [.box 63 [.d .str h0_0, .d (.int .i64) h0_1], .box 25 [.d (.int .i64) h1_0, .d (.int .u64) h1_1, .d .str h1_2, .g 3], .box 25 [.d (.int .i64) h2_0, .d (.int .u64) h2_1, .d .str h2_2, .g 4], .gr 25 (.st 25) g3 false, .gr 25 (.st 25) g4 false]⟩
noncomputable def F62_term_reader_head (x1 : Int) (h0_0 : ByteArray) (h0_1 : Int) : Option (Int × Int × Int × ByteArray × Int × Unit) := F Pr tb G 15 [⟨(.int .i64), x1⟩, ⟨.str, h0_0⟩, ⟨(.int .i64), h0_1⟩]
noncomputable def F22_term_GetNum (x0 : ByteArray) : Option (Int × Int × Int × Unit) := F Pr tb G 16 [⟨.str, x0⟩]
noncomputable def F22_term_GetNum_l12 (v5 : Int) (v6 : Int) : Option (Int × Int × Int × Unit) :=
  run Pr tb G fx16.fin Go.Proofs.Try.f22 fx16 ⟨todoAt Go.Proofs.Try.f22 12, [(5, .v (false, [.d (.int .u64) v5])), (6, .v (false, [.d (.int .i64) v6]))], []⟩
noncomputable def F22_term_GetNum_l1000003 (v0 : ByteArray) (v5 : Int) (v6 : Int) : Option (Int × Int × Int × Unit) :=
  run Pr tb G fx16.fin Go.Proofs.Try.f22 fx16 ⟨todoAt Go.Proofs.Try.f22 1000003, [(0, .v (false, [.d .str v0])), (5, .v (false, [.d (.int .u64) v5])), (6, .v (false, [.d (.int .i64) v6]))], []⟩
noncomputable def F54_letheref02_Parts (x0_0 : Int) (x0_1 : Int) (x0_2 : ByteArray) (x0_3 : (List S25)) (x1 : Int) : Option (Int × Unit) := F Pr tb G 17 [⟨(.int .i64), x0_0⟩, ⟨(.int .u64), x0_1⟩, ⟨.str, x0_2⟩, ⟨(.sl 25 (.st 25)), x0_3⟩, ⟨(.int .i64), x1⟩]
noncomputable def F54_letheref02_Parts_l1000003 (v1 : Int) (v5 : Int) (v9 : (List S25)) (v10 : Int) (v11 : Int) : Option (Int × Unit) :=
  run Pr tb G fx17.fin Go.Proofs.Try.f54 fx17 ⟨todoAt Go.Proofs.Try.f54 1000003, [(1, .v (false, [.d (.int .i64) v1])), (5, .v (false, [.d (.int .i64) v5])), (9, .v (false, [.d (.sl 25 (.st 25)) v9])), (10, .v (false, [.d (.int .i64) v10])), (11, .v (false, [.d (.int .i64) v11]))], []⟩
noncomputable def F55_letheref02_Deep (x0_0 : Int) (x0_1 : Int) (x0_2 : ByteArray) (x0_3 : (List S25)) (x1 : Int) : Option (Int × Unit) := F Pr tb G 18 [⟨(.int .i64), x0_0⟩, ⟨(.int .u64), x0_1⟩, ⟨.str, x0_2⟩, ⟨(.sl 25 (.st 25)), x0_3⟩, ⟨(.int .i64), x1⟩]
noncomputable def F55_letheref02_Deep_l1000005 (v1 : Int) (v5 : Int) (v13 : (List S25)) (v14 : Int) (v15 : Int) : Option (Int × Unit) :=
  run Pr tb G fx18.fin Go.Proofs.Try.f55 fx18 ⟨todoAt Go.Proofs.Try.f55 1000005, [(1, .v (false, [.d (.int .i64) v1])), (5, .v (false, [.d (.int .i64) v5])), (13, .v (false, [.d (.sl 25 (.st 25)) v13])), (14, .v (false, [.d (.int .i64) v14])), (15, .v (false, [.d (.int .i64) v15]))], []⟩
noncomputable def F56_letheref02_shaped (x0_0 : Int) (x0_1 : Int) (x0_2 : ByteArray) (x0_3 : (List S25)) : Option (Bool × Unit) := F Pr tb G 19 [⟨(.int .i64), x0_0⟩, ⟨(.int .u64), x0_1⟩, ⟨.str, x0_2⟩, ⟨(.sl 25 (.st 25)), x0_3⟩]
noncomputable def F56_letheref02_shaped_l1000004 (v9 : (List S25)) (v10 : Int) (v11 : Int) : Option (Bool × Unit) :=
  run Pr tb G fx19.fin Go.Proofs.Try.f56 fx19 ⟨todoAt Go.Proofs.Try.f56 1000004, [(9, .v (false, [.d (.sl 25 (.st 25)) v9])), (10, .v (false, [.d (.int .i64) v10])), (11, .v (false, [.d (.int .i64) v11]))], []⟩
noncomputable def F66_letheref02_One (x0_0 : Int) (x0_1 : Int) (x0_2 : ByteArray) (x0_3 : (List S25)) : Option (Bool × Unit) := F Pr tb G 20 [⟨(.int .i64), x0_0⟩, ⟨(.int .u64), x0_1⟩, ⟨.str, x0_2⟩, ⟨(.sl 25 (.st 25)), x0_3⟩]
noncomputable def F49_term_write (x1_0 : Int) (x1_1 : Int) (x1_2 : ByteArray) (x1_3 : (List S25)) (g0 : (List Int)) : Option ((List Int) × Unit) := F Pr tb G 21 [⟨(.int .i64), x1_0⟩, ⟨(.int .u64), x1_1⟩, ⟨.str, x1_2⟩, ⟨(.sl 25 (.st 25)), x1_3⟩, ⟨(.sl 5 (.int .u8)), g0⟩]
noncomputable def F49_term_write_l11 (g1 : (List Int)) (h2_0 : Int) (h2_1 : Int) (h2_2 : ByteArray) (h2_3 : (List S25)) : Option ((List Int) × Unit) :=
  run Pr tb G fx21.fin Go.Proofs.Try.f49 fx21 ⟨todoAt Go.Proofs.Try.f49 11, [(0, .v (false, [.g 1])), (3, .v (false, [.p 2 0]))], [.no, .gr 5 (.int .u8) g1 false, .box 25 [.d (.int .i64) h2_0, .d (.int .u64) h2_1, .d .str h2_2, .d (.sl 25 (.st 25)) h2_3]]⟩
noncomputable def F49_term_write_l1000012 (v46 : (List S25)) (v47 : Int) (v48 : Int) (g1 : (List Int)) : Option ((List Int) × Unit) :=
  run Pr tb G fx21.fin Go.Proofs.Try.f49 fx21 ⟨todoAt Go.Proofs.Try.f49 1000012, [(0, .v (false, [.g 1])), (46, .v (false, [.d (.sl 25 (.st 25)) v46])), (47, .v (false, [.d (.int .i64) v47])), (48, .v (false, [.d (.int .i64) v48]))], [.no, .gr 5 (.int .u8) g1 false]⟩
noncomputable def F24_term_PutNum (x0 : Int) : Option (ByteArray × Unit) := F Pr tb G 22 [⟨(.int .u64), x0⟩]
noncomputable def F24_term_PutNum_l1000002 (v0 : Int) (g0 : (List Int)) : Option (ByteArray × Unit) :=
  run Pr tb G fx22.fin Go.Proofs.Try.f24 fx22 ⟨todoAt Go.Proofs.Try.f24 1000002, [(0, .v (false, [.d (.int .u64) v0])), (3, .v (false, [.g 0]))], [.gr 5 (.int .u8) g0 false]⟩
end
end Go.Proofs.Ytopfdggagijdkaa.TermBackx
