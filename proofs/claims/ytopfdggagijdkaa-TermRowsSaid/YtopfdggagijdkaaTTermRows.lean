/- The law TermRows: types, signatures and names of the functions that it reaches. Under no condition. -/
import Derived.Test.YtopfdggagijdkaaRxI
import Derived.Test.YtopfdggagijdkaaRxC
import Derived.Test.YtopfdggagijdkaaProg
import Derived.KernelRfl
set_option linter.unusedVariables false
set_option maxRecDepth 100000
namespace Go.Proofs.Ytopfdggagijdkaa.TermRowsx
open Go Go.RowKit Go.Proofs.Ytopfdggagijdkaa.Rx Go.Proofs.Ytopfdggagijdkaa.TermRowsx
noncomputable section
inductive S25 where | mk (f0 : Int) (f1 : Int) (f2 : ByteArray) (f3 : (List S25))
noncomputable def S25.f0 : S25 → Int | mk x _ _ _ => x
noncomputable def S25.f1 : S25 → Int | mk _ x _ _ => x
noncomputable def S25.f2 : S25 → ByteArray | mk _ _ x _ => x
noncomputable def S25.f3 : S25 → (List S25) | mk _ _ _ x => x
theorem S25.eta (x : S25) : S25.mk x.f0 x.f1 x.f2 x.f3 = x := by cases x; rfl
noncomputable def S25.z : S25 := S25.mk (0 : Int) (0 : Int) ByteArray.empty []
noncomputable def S (n : Nat) : Type := if n = 25 then S25 else Unit
noncomputable def fs (n : Nat) : List Ty := if n = 25 then [(.int .i64), (.int .u64), .str, (.sl 25 (.st 25))] else []
theorem fs_no {n : Nat} (h25 : ¬ n = 25) : fs n = [] := by simp only [fs, h25, if_false]
theorem S_no {n : Nat} (h25 : ¬ n = 25) : S n = Unit := by simp only [S, h25, if_false]
noncomputable def out (n : Nat) : S n → HL S (fs n) :=
  if h25 : n = 25 then by subst h25; exact fun (x : S25) => (x.f0, x.f1, x.f2, x.f3, ()) else by intro _; rw [fs_no h25]; exact ()
noncomputable def pk (n : Nat) : HL S (fs n) → S n :=
  if h25 : n = 25 then by subst h25; exact fun (x : Int × Int × ByteArray × (List S25) × Unit) => S25.mk x.1 x.2.1 x.2.2.1 x.2.2.2.1 else by intro _; rw [S_no h25]; exact ()
noncomputable def z (n : Nat) : S n :=
  if h25 : n = 25 then by subst h25; exact S25.z else by rw [S_no h25]; exact ()
theorem out_pk (n : Nat) (h : HL S (fs n)) : out n (pk n h) = h := by
  by_cases h25 : n = 25
  · subst h25; rfl
  have e : ∀ a b : HL S (fs n), a = b := by rw [fs_no h25]; intro a b; rfl
  exact e _ _
theorem pk_out (n : Nat) (x : S n) : pk n (out n x) = x := by
  by_cases h25 : n = 25
  · subst h25; exact S25.eta x
  have e : ∀ a b : S n, a = b := by rw [S_no h25]; intro a b; rfl
  exact e _ _
noncomputable def tab : Tab := { S := S, fs := fs, out := out, pk := pk, z := z, out_pk := out_pk, pk_out := pk_out }
noncomputable abbrev Pr := Go.Proofs.Try.prog
noncomputable def fx0 : Fx := ⟨[(false, [.d (.sl 25 (.st 25))]), (false, [.d (.int .u64)])], [], [(false, [.d .bool])], [], [(1000011, ⟨[(1, [.d (.int .u64)]), (5, [.k]), (6, [.d .str]), (8, [.d .str]), (43, [.d (.sl 25 (.st 25))]), (44, [.d (.int .i64)]), (45, [.d (.int .i64)])], [[.d (.int .i64), .d (.int .u64), .d .str, .d (.sl 25 (.st 25))]]⟩)], none⟩
noncomputable def fx1 : Fx := ⟨[(false, [.d (.sl 25 (.st 25))])], [], [(true, [.d (.int .i64), .d (.int .u64), .d .str, .d (.sl 25 (.st 25))])], [], [], none⟩
noncomputable def fx2 : Fx := ⟨[(true, [.d (.int .i64), .d (.int .u64), .d .str, .d (.sl 25 (.st 25))])], [], [(false, [.d .str]), (false, [.d (.int .i64)])], [], [], none⟩
noncomputable def fx3 : Fx := ⟨[(true, [.d (.int .i64), .d (.int .u64), .d .str, .d (.sl 25 (.st 25))])], [], [(false, [.d (.int .i64)])], [], [], none⟩
noncomputable def fx4 : Fx := ⟨[(false, [.d (.int .u64)])], [], [(false, [.d .str])], [], [(1000002, ⟨[(0, [.d (.int .u64)]), (3, [.o 5 (.int .u8)])], []⟩)], none⟩
noncomputable def fx5 : Fx := ⟨[(true, [.d (.int .i64), .d (.int .u64), .d .str, .d (.sl 25 (.st 25))])], [], [(false, [.d (.int .i64)]), (false, [.d (.int .i64)])], [], [], none⟩
noncomputable def fx6 : Fx := ⟨[(true, [.d (.int .i64), .d (.int .u64), .d .str, .d (.sl 25 (.st 25))]), (false, [.d (.int .i64)])], [], [(false, [.d (.int .i64)])], [], [(1000003, ⟨[(1, [.d (.int .i64)]), (5, [.d (.int .i64)]), (9, [.d (.sl 25 (.st 25))]), (10, [.d (.int .i64)]), (11, [.d (.int .i64)])], []⟩)], none⟩
noncomputable def fx7 : Fx := ⟨[(true, [.d (.int .i64), .d (.int .u64), .d .str, .d (.sl 25 (.st 25))]), (false, [.d (.int .i64)])], [], [(false, [.d (.int .i64)])], [], [(1000005, ⟨[(1, [.d (.int .i64)]), (5, [.d (.int .i64)]), (13, [.d (.sl 25 (.st 25))]), (14, [.d (.int .i64)]), (15, [.d (.int .i64)])], []⟩)], none⟩
noncomputable def fx8 : Fx := ⟨[(true, [.d (.int .i64), .d (.int .u64), .d .str, .d (.sl 25 (.st 25))])], [], [(false, [.d .bool])], [], [(1000004, ⟨[(9, [.d (.sl 25 (.st 25))]), (10, [.d (.int .i64)]), (11, [.d (.int .i64)])], []⟩)], none⟩
noncomputable def fx9 : Fx := ⟨[(true, [.d (.int .i64), .d (.int .u64), .d .str, .d (.sl 25 (.st 25))])], [], [(false, [.d .bool])], [], [], none⟩
noncomputable def fx10 : Fx := ⟨[(true, [.d (.int .i64), .d (.int .u64), .d .str, .d (.sl 25 (.st 25))])], [], [(false, [.d (.int .i64)])], [], [], none⟩
noncomputable def fx11 : Fx := ⟨[(false, [.g 0 5 (.int .u8)]), (true, [.d (.int .i64), .d (.int .u64), .d .str, .d (.sl 25 (.st 25))])], [.gr 5 (.int .u8) false], [(false, [.g 1 5 (.int .u8)])], [.no, .gr 5 (.int .u8) false], [(11, ⟨[(0, [.o 5 (.int .u8)]), (3, [.k])], [[], [], [.d (.int .i64), .d (.int .u64), .d .str, .d (.sl 25 (.st 25))]]⟩), (1000012, ⟨[(0, [.o 5 (.int .u8)]), (46, [.d (.sl 25 (.st 25))]), (47, [.d (.int .i64)]), (48, [.d (.int .i64)])], []⟩)], none⟩
noncomputable def fx12 : Fx := ⟨[(true, [.d (.int .i64), .d (.int .u64), .d .str, .d (.sl 25 (.st 25))]), (false, [.d (.int .i64)])], [], [(false, [.d (.int .i64)])], [], [(1000003, ⟨[(1, [.d (.int .i64)]), (5, [.d (.int .i64)]), (9, [.d (.sl 25 (.st 25))]), (10, [.d (.int .i64)]), (11, [.d (.int .i64)])], []⟩)], none⟩
noncomputable def fx13 : Fx := ⟨[(true, [.d (.int .i64), .d (.int .u64), .d .str, .d (.sl 25 (.st 25))]), (false, [.d (.int .i64)])], [], [(false, [.d (.int .i64)])], [], [(1000004, ⟨[(1, [.d (.int .i64)]), (5, [.d (.int .i64)]), (11, [.d (.sl 25 (.st 25))]), (12, [.d (.int .i64)]), (13, [.d (.int .i64)])], []⟩)], none⟩
noncomputable def fx14 : Fx := ⟨[(true, [.d (.int .i64), .d (.int .u64), .d .str, .d (.sl 25 (.st 25))])], [], [(false, [.d .bool])], [], [(12, ⟨[(1, [.k]), (3, [.d .bool])], [[.d (.int .i64), .d (.int .u64), .d .str, .d (.sl 25 (.st 25))]]⟩)], none⟩
noncomputable def fx15 : Fx := ⟨[(false, [.d (.sl 25 (.st 25))]), (false, [.f 68])], [], [(false, [.d .bool])], [], [], none⟩
noncomputable def fx16 : Fx := ⟨[(false, [.d (.sl 25 (.st 25))]), (false, [.f 68])], [], [(false, [.d (.int .i64)])], [], [(1000002, ⟨[(0, [.d (.sl 25 (.st 25))]), (1, [.k]), (7, [.d (.int .i64)]), (8, [.d (.int .i64)])], []⟩)], none⟩
noncomputable def fx17 : Fx := ⟨[(true, [.d (.int .i64), .d (.int .u64), .d .str, .d (.sl 25 (.st 25))])], [], [(false, [.d .bool])], [], [], none⟩
noncomputable def fx18 : Fx := ⟨[(true, [.d (.int .i64), .d (.int .u64), .d .str, .d (.sl 25 (.st 25))])], [], [(true, [.d (.int .i64), .d (.int .u64), .d .str, .d (.sl 25 (.st 25))])], [], [(1000003, ⟨[(1, [.k]), (2, [.k]), (3, [.o 25 (.st 25)]), (7, [.d (.sl 25 (.st 25))]), (8, [.d (.int .i64)]), (9, [.d (.int .i64)])], [[.d (.int .i64), .d (.int .u64), .d .str, .d (.sl 25 (.st 25))], [.d (.int .i64), .d (.int .u64), .d .str, .o 25 (.st 25)]]⟩)], none⟩
noncomputable def tb : List (FuncId × Fx) := [(9, fx0), (17, fx1), (28, fx2), (35, fx3), (24, fx4), (30, fx5), (54, fx6), (55, fx7), (56, fx8), (66, fx9), (40, fx10), (49, fx11), (58, fx12), (59, fx13), (60, fx14), (67, fx15), (70, fx16), (68, fx17), (46, fx18)]
theorem tbOk : TbOk Pr tb := tbOk_of (by kernel_rfl)
theorem fn0 : fnAt Pr tb 0 = some Go.Proofs.Try.f9 := by kernel_rfl
theorem fn1 : fnAt Pr tb 1 = some Go.Proofs.Try.f17 := by kernel_rfl
theorem fn2 : fnAt Pr tb 2 = some Go.Proofs.Try.f28 := by kernel_rfl
theorem fn3 : fnAt Pr tb 3 = some Go.Proofs.Try.f35 := by kernel_rfl
theorem fn4 : fnAt Pr tb 4 = some Go.Proofs.Try.f24 := by kernel_rfl
theorem fn5 : fnAt Pr tb 5 = some Go.Proofs.Try.f30 := by kernel_rfl
theorem fn6 : fnAt Pr tb 6 = some Go.Proofs.Try.f54 := by kernel_rfl
theorem fn7 : fnAt Pr tb 7 = some Go.Proofs.Try.f55 := by kernel_rfl
theorem fn8 : fnAt Pr tb 8 = some Go.Proofs.Try.f56 := by kernel_rfl
theorem fn9 : fnAt Pr tb 9 = some Go.Proofs.Try.f66 := by kernel_rfl
theorem fn10 : fnAt Pr tb 10 = some Go.Proofs.Try.f40 := by kernel_rfl
theorem fn11 : fnAt Pr tb 11 = some Go.Proofs.Try.f49 := by kernel_rfl
theorem fn12 : fnAt Pr tb 12 = some Go.Proofs.Try.f58 := by kernel_rfl
theorem fn13 : fnAt Pr tb 13 = some Go.Proofs.Try.f59 := by kernel_rfl
theorem fn14 : fnAt Pr tb 14 = some Go.Proofs.Try.f60 := by kernel_rfl
theorem fn15 : fnAt Pr tb 15 = some Go.Proofs.Try.f67 := by kernel_rfl
theorem fn16 : fnAt Pr tb 16 = some Go.Proofs.Try.f70 := by kernel_rfl
theorem fn17 : fnAt Pr tb 17 = some Go.Proofs.Try.f68 := by kernel_rfl
theorem fn18 : fnAt Pr tb 18 = some Go.Proofs.Try.f46 := by kernel_rfl
noncomputable def G : Giv tab tb := fun _ => none
theorem F_holds (key : Nat) : Snd Pr tb key (F Pr tb G key) := F_ok tbOk (fun _ _ h => by cases h) key
theorem okL : okS Pr tab.fs [25] [25] = true := by kernel_rfl
noncomputable def F9_lethelaw02_TermRows (x0 : (List S25)) (x1 : Int) : Option (Bool × Unit) := F Pr tb G 0 [⟨(.sl 25 (.st 25)), x0⟩, ⟨(.int .u64), x1⟩]
noncomputable def F9_lethelaw02_TermRows_l1000011 (v1 : Int) (v6 : ByteArray) (v8 : ByteArray) (v43 : (List S25)) (v44 : Int) (v45 : Int) (h0_0 : Int) (h0_1 : Int) (h0_2 : ByteArray) (h0_3 : (List S25)) : Option (Bool × Unit) :=
  run Pr tb G fx0.fin Go.Proofs.Try.f9 fx0 ⟨todoAt Go.Proofs.Try.f9 1000011, [(1, .v (false, [.d (.int .u64) v1])), (5, .v (false, [.p 0 0])), (6, .v (false, [.d .str v6])), (8, .v (false, [.d .str v8])), (43, .v (false, [.d (.sl 25 (.st 25)) v43])), (44, .v (false, [.d (.int .i64) v44])), (45, .v (false, [.d (.int .i64) v45]))], [.box 25 [.d (.int .i64) h0_0, .d (.int .u64) h0_1, .d .str h0_2, .d (.sl 25 (.st 25)) h0_3]]⟩
noncomputable def F17_term_Of (x0 : (List S25)) : Option (Int × Int × ByteArray × (List S25) × Unit) := F Pr tb G 1 [⟨(.sl 25 (.st 25)), x0⟩]
noncomputable def F28_term_Encode (x0_0 : Int) (x0_1 : Int) (x0_2 : ByteArray) (x0_3 : (List S25)) : Option (ByteArray × Int × Unit) := F Pr tb G 2 [⟨(.int .i64), x0_0⟩, ⟨(.int .u64), x0_1⟩, ⟨.str, x0_2⟩, ⟨(.sl 25 (.st 25)), x0_3⟩]
noncomputable def F35_letheref02_Right (x0_0 : Int) (x0_1 : Int) (x0_2 : ByteArray) (x0_3 : (List S25)) : Option (Int × Unit) := F Pr tb G 3 [⟨(.int .i64), x0_0⟩, ⟨(.int .u64), x0_1⟩, ⟨.str, x0_2⟩, ⟨(.sl 25 (.st 25)), x0_3⟩]
noncomputable def F24_term_PutNum (x0 : Int) : Option (ByteArray × Unit) := F Pr tb G 4 [⟨(.int .u64), x0⟩]
noncomputable def F24_term_PutNum_l1000002 (v0 : Int) (g0 : (List Int)) : Option (ByteArray × Unit) :=
  run Pr tb G fx4.fin Go.Proofs.Try.f24 fx4 ⟨todoAt Go.Proofs.Try.f24 1000002, [(0, .v (false, [.d (.int .u64) v0])), (3, .v (false, [.g 0]))], [.gr 5 (.int .u8) g0 false]⟩
noncomputable def F30_term_Size (x0_0 : Int) (x0_1 : Int) (x0_2 : ByteArray) (x0_3 : (List S25)) : Option (Int × Int × Unit) := F Pr tb G 5 [⟨(.int .i64), x0_0⟩, ⟨(.int .u64), x0_1⟩, ⟨.str, x0_2⟩, ⟨(.sl 25 (.st 25)), x0_3⟩]
noncomputable def F54_letheref02_Parts (x0_0 : Int) (x0_1 : Int) (x0_2 : ByteArray) (x0_3 : (List S25)) (x1 : Int) : Option (Int × Unit) := F Pr tb G 6 [⟨(.int .i64), x0_0⟩, ⟨(.int .u64), x0_1⟩, ⟨.str, x0_2⟩, ⟨(.sl 25 (.st 25)), x0_3⟩, ⟨(.int .i64), x1⟩]
noncomputable def F54_letheref02_Parts_l1000003 (v1 : Int) (v5 : Int) (v9 : (List S25)) (v10 : Int) (v11 : Int) : Option (Int × Unit) :=
  run Pr tb G fx6.fin Go.Proofs.Try.f54 fx6 ⟨todoAt Go.Proofs.Try.f54 1000003, [(1, .v (false, [.d (.int .i64) v1])), (5, .v (false, [.d (.int .i64) v5])), (9, .v (false, [.d (.sl 25 (.st 25)) v9])), (10, .v (false, [.d (.int .i64) v10])), (11, .v (false, [.d (.int .i64) v11]))], []⟩
noncomputable def F55_letheref02_Deep (x0_0 : Int) (x0_1 : Int) (x0_2 : ByteArray) (x0_3 : (List S25)) (x1 : Int) : Option (Int × Unit) := F Pr tb G 7 [⟨(.int .i64), x0_0⟩, ⟨(.int .u64), x0_1⟩, ⟨.str, x0_2⟩, ⟨(.sl 25 (.st 25)), x0_3⟩, ⟨(.int .i64), x1⟩]
noncomputable def F55_letheref02_Deep_l1000005 (v1 : Int) (v5 : Int) (v13 : (List S25)) (v14 : Int) (v15 : Int) : Option (Int × Unit) :=
  run Pr tb G fx7.fin Go.Proofs.Try.f55 fx7 ⟨todoAt Go.Proofs.Try.f55 1000005, [(1, .v (false, [.d (.int .i64) v1])), (5, .v (false, [.d (.int .i64) v5])), (13, .v (false, [.d (.sl 25 (.st 25)) v13])), (14, .v (false, [.d (.int .i64) v14])), (15, .v (false, [.d (.int .i64) v15]))], []⟩
noncomputable def F56_letheref02_shaped (x0_0 : Int) (x0_1 : Int) (x0_2 : ByteArray) (x0_3 : (List S25)) : Option (Bool × Unit) := F Pr tb G 8 [⟨(.int .i64), x0_0⟩, ⟨(.int .u64), x0_1⟩, ⟨.str, x0_2⟩, ⟨(.sl 25 (.st 25)), x0_3⟩]
noncomputable def F56_letheref02_shaped_l1000004 (v9 : (List S25)) (v10 : Int) (v11 : Int) : Option (Bool × Unit) :=
  run Pr tb G fx8.fin Go.Proofs.Try.f56 fx8 ⟨todoAt Go.Proofs.Try.f56 1000004, [(9, .v (false, [.d (.sl 25 (.st 25)) v9])), (10, .v (false, [.d (.int .i64) v10])), (11, .v (false, [.d (.int .i64) v11]))], []⟩
noncomputable def F66_letheref02_One (x0_0 : Int) (x0_1 : Int) (x0_2 : ByteArray) (x0_3 : (List S25)) : Option (Bool × Unit) := F Pr tb G 9 [⟨(.int .i64), x0_0⟩, ⟨(.int .u64), x0_1⟩, ⟨.str, x0_2⟩, ⟨(.sl 25 (.st 25)), x0_3⟩]
noncomputable def F40_term_Right (x0_0 : Int) (x0_1 : Int) (x0_2 : ByteArray) (x0_3 : (List S25)) : Option (Int × Unit) := F Pr tb G 10 [⟨(.int .i64), x0_0⟩, ⟨(.int .u64), x0_1⟩, ⟨.str, x0_2⟩, ⟨(.sl 25 (.st 25)), x0_3⟩]
noncomputable def F49_term_write (x1_0 : Int) (x1_1 : Int) (x1_2 : ByteArray) (x1_3 : (List S25)) (g0 : (List Int)) : Option ((List Int) × Unit) := F Pr tb G 11 [⟨(.int .i64), x1_0⟩, ⟨(.int .u64), x1_1⟩, ⟨.str, x1_2⟩, ⟨(.sl 25 (.st 25)), x1_3⟩, ⟨(.sl 5 (.int .u8)), g0⟩]
noncomputable def F49_term_write_l11 (g1 : (List Int)) (h2_0 : Int) (h2_1 : Int) (h2_2 : ByteArray) (h2_3 : (List S25)) : Option ((List Int) × Unit) :=
  run Pr tb G fx11.fin Go.Proofs.Try.f49 fx11 ⟨todoAt Go.Proofs.Try.f49 11, [(0, .v (false, [.g 1])), (3, .v (false, [.p 2 0]))], [.no, .gr 5 (.int .u8) g1 false, .box 25 [.d (.int .i64) h2_0, .d (.int .u64) h2_1, .d .str h2_2, .d (.sl 25 (.st 25)) h2_3]]⟩
noncomputable def F49_term_write_l1000012 (v46 : (List S25)) (v47 : Int) (v48 : Int) (g1 : (List Int)) : Option ((List Int) × Unit) :=
  run Pr tb G fx11.fin Go.Proofs.Try.f49 fx11 ⟨todoAt Go.Proofs.Try.f49 1000012, [(0, .v (false, [.g 1])), (46, .v (false, [.d (.sl 25 (.st 25)) v46])), (47, .v (false, [.d (.int .i64) v47])), (48, .v (false, [.d (.int .i64) v48]))], [.no, .gr 5 (.int .u8) g1 false]⟩
noncomputable def F58_term_parts (x0_0 : Int) (x0_1 : Int) (x0_2 : ByteArray) (x0_3 : (List S25)) (x1 : Int) : Option (Int × Unit) := F Pr tb G 12 [⟨(.int .i64), x0_0⟩, ⟨(.int .u64), x0_1⟩, ⟨.str, x0_2⟩, ⟨(.sl 25 (.st 25)), x0_3⟩, ⟨(.int .i64), x1⟩]
noncomputable def F58_term_parts_l1000003 (v1 : Int) (v5 : Int) (v9 : (List S25)) (v10 : Int) (v11 : Int) : Option (Int × Unit) :=
  run Pr tb G fx12.fin Go.Proofs.Try.f58 fx12 ⟨todoAt Go.Proofs.Try.f58 1000003, [(1, .v (false, [.d (.int .i64) v1])), (5, .v (false, [.d (.int .i64) v5])), (9, .v (false, [.d (.sl 25 (.st 25)) v9])), (10, .v (false, [.d (.int .i64) v10])), (11, .v (false, [.d (.int .i64) v11]))], []⟩
noncomputable def F59_term_deep (x0_0 : Int) (x0_1 : Int) (x0_2 : ByteArray) (x0_3 : (List S25)) (x1 : Int) : Option (Int × Unit) := F Pr tb G 13 [⟨(.int .i64), x0_0⟩, ⟨(.int .u64), x0_1⟩, ⟨.str, x0_2⟩, ⟨(.sl 25 (.st 25)), x0_3⟩, ⟨(.int .i64), x1⟩]
noncomputable def F59_term_deep_l1000004 (v1 : Int) (v5 : Int) (v11 : (List S25)) (v12 : Int) (v13 : Int) : Option (Int × Unit) :=
  run Pr tb G fx13.fin Go.Proofs.Try.f59 fx13 ⟨todoAt Go.Proofs.Try.f59 1000004, [(1, .v (false, [.d (.int .i64) v1])), (5, .v (false, [.d (.int .i64) v5])), (11, .v (false, [.d (.sl 25 (.st 25)) v11])), (12, .v (false, [.d (.int .i64) v12])), (13, .v (false, [.d (.int .i64) v13]))], []⟩
noncomputable def F60_term_shaped (x0_0 : Int) (x0_1 : Int) (x0_2 : ByteArray) (x0_3 : (List S25)) : Option (Bool × Unit) := F Pr tb G 14 [⟨(.int .i64), x0_0⟩, ⟨(.int .u64), x0_1⟩, ⟨.str, x0_2⟩, ⟨(.sl 25 (.st 25)), x0_3⟩]
noncomputable def F60_term_shaped_l12 (v3 : Bool) (h0_0 : Int) (h0_1 : Int) (h0_2 : ByteArray) (h0_3 : (List S25)) : Option (Bool × Unit) :=
  run Pr tb G fx14.fin Go.Proofs.Try.f60 fx14 ⟨todoAt Go.Proofs.Try.f60 12, [(1, .v (false, [.p 0 0])), (3, .v (false, [.d .bool v3]))], [.box 25 [.d (.int .i64) h0_0, .d (.int .u64) h0_1, .d .str h0_2, .d (.sl 25 (.st 25)) h0_3]]⟩
noncomputable def F67_slices_ContainsFunc_68 (x0 : (List S25)) : Option (Bool × Unit) := F Pr tb G 15 [⟨(.sl 25 (.st 25)), x0⟩]
noncomputable def F70_slices_IndexFunc_68 (x0 : (List S25)) : Option (Int × Unit) := F Pr tb G 16 [⟨(.sl 25 (.st 25)), x0⟩]
noncomputable def F70_slices_IndexFunc_68_l1000002 (v0 : (List S25)) (v7 : Int) (v8 : Int) : Option (Int × Unit) :=
  run Pr tb G fx16.fin Go.Proofs.Try.f70 fx16 ⟨todoAt Go.Proofs.Try.f70 1000002, [(0, .v (false, [.d (.sl 25 (.st 25)) v0])), (1, .v (false, [.f 68 []])), (7, .v (false, [.d (.int .i64) v7])), (8, .v (false, [.d (.int .i64) v8]))], []⟩
noncomputable def F68_term_shaped_1 (x0_0 : Int) (x0_1 : Int) (x0_2 : ByteArray) (x0_3 : (List S25)) : Option (Bool × Unit) := F Pr tb G 17 [⟨(.int .i64), x0_0⟩, ⟨(.int .u64), x0_1⟩, ⟨.str, x0_2⟩, ⟨(.sl 25 (.st 25)), x0_3⟩]
noncomputable def F46_term_clone (x0_0 : Int) (x0_1 : Int) (x0_2 : ByteArray) (x0_3 : (List S25)) : Option (Int × Int × ByteArray × (List S25) × Unit) := F Pr tb G 18 [⟨(.int .i64), x0_0⟩, ⟨(.int .u64), x0_1⟩, ⟨.str, x0_2⟩, ⟨(.sl 25 (.st 25)), x0_3⟩]
noncomputable def F46_term_clone_l1000003 (v7 : (List S25)) (v8 : Int) (v9 : Int) (h0_0 : Int) (h0_1 : Int) (h0_2 : ByteArray) (h0_3 : (List S25)) (h1_0 : Int) (h1_1 : Int) (h1_2 : ByteArray) (g2 : (List S25)) (g3 : (List S25)) : Option (Int × Int × ByteArray × (List S25) × Unit) :=
  run Pr tb G fx18.fin Go.Proofs.Try.f46 fx18 ⟨todoAt Go.Proofs.Try.f46 1000003, [(1, .v (false, [.p 0 0])), (2, .v (false, [.p 1 0])), (3, .v (false, [.g 2])), (7, .v (false, [.d (.sl 25 (.st 25)) v7])), (8, .v (false, [.d (.int .i64) v8])), (9, .v (false, [.d (.int .i64) v9]))], [.box 25 [.d (.int .i64) h0_0, .d (.int .u64) h0_1, .d .str h0_2, .d (.sl 25 (.st 25)) h0_3], .box 25 [.d (.int .i64) h1_0, .d (.int .u64) h1_1, .d .str h1_2, .g 3], .gr 25 (.st 25) g2 false, .gr 25 (.st 25) g3 false]⟩
end
end Go.Proofs.Ytopfdggagijdkaa.TermRowsx
