/- The law BoxWraps: types, signatures and names of the functions that it reaches. Under no condition. -/
import Derived.Test.YtfojcadooepgpaaRxI
import Derived.Test.YtfojcadooepgpaaRxC
import Derived.Test.YtfojcadooepgpaaProg
import Derived.KernelRfl
set_option linter.unusedVariables false
set_option maxRecDepth 100000
namespace Go.Proofs.Ytfojcadooepgpaa.BoxWrapsx
open Go Go.RowKit Go.Proofs.Ytfojcadooepgpaa.Rx Go.Proofs.Ytfojcadooepgpaa.BoxWrapsx
noncomputable section
inductive S25 where | mk (f0 : Int) (f1 : Int) (f2 : ByteArray) (f3 : (List S25))
noncomputable def S25.f0 : S25 → Int | mk x _ _ _ => x
noncomputable def S25.f1 : S25 → Int | mk _ x _ _ => x
noncomputable def S25.f2 : S25 → ByteArray | mk _ _ x _ => x
noncomputable def S25.f3 : S25 → (List S25) | mk _ _ _ x => x
theorem S25.eta (x : S25) : S25.mk x.f0 x.f1 x.f2 x.f3 = x := by cases x; rfl
noncomputable def S25.z : S25 := S25.mk (0 : Int) (0 : Int) ByteArray.empty []
noncomputable def S (n : Nat) : Type := if n = 25 then S25 else Unit
noncomputable def fs (n : Nat) : List Ty := if n = 25 then [(.int .i64), (.int .u64), .str, (.sl 25 (.st 25))] else []
theorem fs_no {n : Nat} (h25 : ¬ n = 25) : fs n = [] := by simp only [fs, h25, if_false]
theorem S_no {n : Nat} (h25 : ¬ n = 25) : S n = Unit := by simp only [S, h25, if_false]
noncomputable def out (n : Nat) : S n → HL S (fs n) :=
  if h25 : n = 25 then by subst h25; exact fun (x : S25) => (x.f0, x.f1, x.f2, x.f3, ()) else by intro _; rw [fs_no h25]; exact ()
noncomputable def pk (n : Nat) : HL S (fs n) → S n :=
  if h25 : n = 25 then by subst h25; exact fun (x : Int × Int × ByteArray × (List S25) × Unit) => S25.mk x.1 x.2.1 x.2.2.1 x.2.2.2.1 else by intro _; rw [S_no h25]; exact ()
noncomputable def z (n : Nat) : S n :=
  if h25 : n = 25 then by subst h25; exact S25.z else by rw [S_no h25]; exact ()
theorem out_pk (n : Nat) (h : HL S (fs n)) : out n (pk n h) = h := by
  by_cases h25 : n = 25
  · subst h25; rfl
  have e : ∀ a b : HL S (fs n), a = b := by rw [fs_no h25]; intro a b; rfl
  exact e _ _
theorem pk_out (n : Nat) (x : S n) : pk n (out n x) = x := by
  by_cases h25 : n = 25
  · subst h25; exact S25.eta x
  have e : ∀ a b : S n, a = b := by rw [S_no h25]; intro a b; rfl
  exact e _ _
noncomputable def tab : Tab := { S := S, fs := fs, out := out, pk := pk, z := z, out_pk := out_pk, pk_out := pk_out }
noncomputable abbrev Pr := Go.Proofs.Try.prog
noncomputable def fx0 : Fx := ⟨[(true, [.d (.int .i64), .d (.int .u64), .d .str, .d (.sl 25 (.st 25))]), (false, [.d (.sl 22 (.int .u64))])], [], [(false, [.d .bool])], [], [], none⟩
noncomputable def fx1 : Fx := ⟨[(true, [.d (.int .i64), .d (.int .u64), .d .str, .d (.sl 25 (.st 25))]), (false, [.d (.sl 22 (.int .u64))])], [], [(true, [.d (.int .i64), .d (.int .u64), .d .str, .d (.sl 25 (.st 25))]), (false, [.d (.int .i64)])], [], [], none⟩
noncomputable def fx2 : Fx := ⟨[(true, [.d (.int .i64), .d (.int .u64), .d .str, .d (.sl 25 (.st 25))]), (false, [.d (.sl 22 (.int .u64))])], [], [(true, [.d (.int .i64), .d (.int .u64), .d .str, .d (.sl 25 (.st 25))]), (false, [.d (.int .i64)])], [], [(1000006, ⟨[(2, [.k]), (4, [.k]), (20, [.d (.sl 22 (.int .u64))]), (21, [.d (.int .i64)]), (22, [.d (.int .i64)])], [[.d (.int .i64), .d (.int .u64), .d .str, .d (.sl 25 (.st 25))], [.d (.int .i64), .d (.int .u64), .d .str, .o 25 (.st 25)]]⟩)], none⟩
noncomputable def fx3 : Fx := ⟨[(true, [.d (.int .i64), .d (.int .u64), .d .str, .d (.sl 25 (.st 25))]), (false, [.d (.sl 22 (.int .u64))])], [], [(true, [.d (.int .i64), .d (.int .u64), .d .str, .d (.sl 25 (.st 25))]), (false, [.d (.int .i64)])], [], [(1000003, ⟨[(1, [.d (.sl 22 (.int .u64))]), (2, [.k]), (4, [.k]), (6, [.o 22 (.int .u64)]), (12, [.d (.int .i64)]), (13, [.d (.int .i64)])], [[.d (.int .i64), .d (.int .u64), .d .str, .d (.sl 25 (.st 25))], [.d (.int .i64), .d (.int .u64), .d .str, .o 25 (.st 25)]]⟩)], none⟩
noncomputable def fx4 : Fx := ⟨[(true, [.d (.int .i64), .d (.int .u64), .d .str, .d (.sl 25 (.st 25))]), (false, [.d (.sl 22 (.int .u64))])], [], [(true, [.d (.int .i64), .d (.int .u64), .d .str, .d (.sl 25 (.st 25))]), (false, [.d (.int .i64)])], [], [(1000006, ⟨[(1, [.d (.sl 22 (.int .u64))]), (2, [.k]), (4, [.k]), (6, [.d (.int .i64)])], [[.d (.int .i64), .d (.int .u64), .d .str, .d (.sl 25 (.st 25))], [.d (.int .i64), .d (.int .u64), .d .str, .o 25 (.st 25)]]⟩)], none⟩
noncomputable def fx5 : Fx := ⟨[(true, [.d (.int .i64), .d (.int .u64), .d .str, .d (.sl 25 (.st 25))]), (true, [.d (.int .i64), .d (.int .u64), .d .str, .d (.sl 25 (.st 25))])], [], [(false, [.d .bool])], [], [(2, ⟨[], []⟩), (1000004, ⟨[(2, [.k]), (3, [.k]), (36, [.d (.int .i64)]), (37, [.d (.int .i64)])], [[.d (.int .i64), .d (.int .u64), .d .str, .d (.sl 25 (.st 25))], [.d (.int .i64), .d (.int .u64), .d .str, .d (.sl 25 (.st 25))]]⟩)], none⟩
noncomputable def fx6 : Fx := ⟨[(true, [.d (.int .i64), .d (.int .u64), .d .str, .d (.sl 25 (.st 25))])], [], [(false, [.d (.int .i64)])], [], [], none⟩
noncomputable def fx7 : Fx := ⟨[(false, [.d (.int .u64)]), (true, [.d (.int .i64), .d (.int .u64), .d .str, .d (.sl 25 (.st 25))])], [], [(true, [.d (.int .i64), .d (.int .u64), .d .str, .d (.sl 25 (.st 25))]), (false, [.d (.int .i64)])], [], [], none⟩
noncomputable def fx8 : Fx := ⟨[(true, [.d (.int .i64), .d (.int .u64), .d .str, .d (.sl 25 (.st 25))])], [], [(true, [.d (.int .i64), .d (.int .u64), .d .str, .d (.sl 25 (.st 25))])], [], [(1000003, ⟨[(2, [.k]), (3, [.k]), (15, [.d (.sl 25 (.st 25))]), (16, [.d (.int .i64)]), (17, [.d (.int .i64)])], [[.d (.int .i64), .d (.int .u64), .d .str, .o 25 (.st 25)], [.d (.int .i64), .d (.int .u64), .d .str, .o 25 (.st 25)]]⟩)], none⟩
noncomputable def fx9 : Fx := ⟨[(true, [.d (.int .i64), .d (.int .u64), .d .str, .d (.sl 25 (.st 25))]), (false, [.d (.int .i64)])], [], [(false, [.d (.int .i64)])], [], [(1000003, ⟨[(1, [.d (.int .i64)]), (5, [.d (.int .i64)]), (9, [.d (.sl 25 (.st 25))]), (10, [.d (.int .i64)]), (11, [.d (.int .i64)])], []⟩)], none⟩
noncomputable def fx10 : Fx := ⟨[(true, [.d (.int .i64), .d (.int .u64), .d .str, .d (.sl 25 (.st 25))]), (false, [.d (.int .i64)])], [], [(false, [.d (.int .i64)])], [], [(1000005, ⟨[(1, [.d (.int .i64)]), (5, [.d (.int .i64)]), (13, [.d (.sl 25 (.st 25))]), (14, [.d (.int .i64)]), (15, [.d (.int .i64)])], []⟩)], none⟩
noncomputable def fx11 : Fx := ⟨[(true, [.d (.int .i64), .d (.int .u64), .d .str, .d (.sl 25 (.st 25))])], [], [(false, [.d .bool])], [], [(1000004, ⟨[(9, [.d (.sl 25 (.st 25))]), (10, [.d (.int .i64)]), (11, [.d (.int .i64)])], []⟩)], none⟩
noncomputable def fx12 : Fx := ⟨[(true, [.d (.int .i64), .d (.int .u64), .d .str, .d (.sl 25 (.st 25))])], [], [(false, [.d .bool])], [], [], none⟩
noncomputable def fx13 : Fx := ⟨[(true, [.d (.int .i64), .d (.int .u64), .d .str, .d (.sl 25 (.st 25))]), (false, [.d (.sl 22 (.int .u64))]), (false, [.f 19 []])], [], [(true, [.d (.int .i64), .d (.int .u64), .d .str, .d (.sl 25 (.st 25))]), (false, [.d (.int .i64)])], [], [(1000005, ⟨[(2, [.k]), (3, [.k]), (6, [.k]), (8, [.d (.int .i64)]), (20, [.d (.sl 22 (.int .u64))]), (21, [.d (.int .i64)]), (22, [.d (.int .i64)])], [[.d (.int .i64), .d (.int .u64), .d .str, .d (.sl 25 (.st 25))], [.d (.int .i64), .d (.int .u64), .d .str, .o 25 (.st 25)]]⟩)], none⟩
noncomputable def fx14 : Fx := ⟨[(true, [.d (.int .i64), .d (.int .u64), .d .str, .d (.sl 25 (.st 25))])], [], [(true, [.d (.int .i64), .d (.int .u64), .d .str, .d (.sl 25 (.st 25))]), (false, [.d (.int .i64)])], [], [], none⟩
noncomputable def fx15 : Fx := ⟨[(false, [.d (.int .u64)]), (true, [.d (.int .i64), .d (.int .u64), .d .str, .d (.sl 25 (.st 25))])], [], [(true, [.d (.int .i64), .d (.int .u64), .d .str, .d (.sl 25 (.st 25))]), (false, [.d (.int .i64)])], [], [], none⟩
noncomputable def fx16 : Fx := ⟨[(true, [.d (.int .i64), .d (.int .u64), .d .str, .d (.sl 25 (.st 25))])], [], [(false, [.d (.int .i64)])], [], [], none⟩
noncomputable def fx17 : Fx := ⟨[(true, [.d (.int .i64), .d (.int .u64), .d .str, .d (.sl 25 (.st 25))]), (false, [.d (.int .i64)])], [], [(false, [.d (.int .i64)])], [], [(1000003, ⟨[(1, [.d (.int .i64)]), (5, [.d (.int .i64)]), (9, [.d (.sl 25 (.st 25))]), (10, [.d (.int .i64)]), (11, [.d (.int .i64)])], []⟩)], none⟩
noncomputable def fx18 : Fx := ⟨[(true, [.d (.int .i64), .d (.int .u64), .d .str, .d (.sl 25 (.st 25))]), (false, [.d (.int .i64)])], [], [(false, [.d (.int .i64)])], [], [(1000004, ⟨[(1, [.d (.int .i64)]), (5, [.d (.int .i64)]), (11, [.d (.sl 25 (.st 25))]), (12, [.d (.int .i64)]), (13, [.d (.int .i64)])], []⟩)], none⟩
noncomputable def fx19 : Fx := ⟨[(true, [.d (.int .i64), .d (.int .u64), .d .str, .d (.sl 25 (.st 25))])], [], [(false, [.d .bool])], [], [(12, ⟨[(1, [.k]), (3, [.d .bool])], [[.d (.int .i64), .d (.int .u64), .d .str, .d (.sl 25 (.st 25))]]⟩)], none⟩
noncomputable def fx20 : Fx := ⟨[(false, [.d (.sl 25 (.st 25))]), (false, [.f 78 []])], [], [(false, [.d .bool])], [], [], none⟩
noncomputable def fx21 : Fx := ⟨[(false, [.d (.sl 25 (.st 25))]), (false, [.f 78 []])], [], [(false, [.d (.int .i64)])], [], [(1000002, ⟨[(0, [.d (.sl 25 (.st 25))]), (1, [.k]), (7, [.d (.int .i64)]), (8, [.d (.int .i64)])], []⟩)], none⟩
noncomputable def fx22 : Fx := ⟨[(true, [.d (.int .i64), .d (.int .u64), .d .str, .d (.sl 25 (.st 25))])], [], [(false, [.d .bool])], [], [], none⟩
noncomputable def fx23 : Fx := ⟨[(false, [.d (.sl 25 (.st 25))])], [], [(true, [.d (.int .i64), .d (.int .u64), .d .str, .d (.sl 25 (.st 25))])], [], [], none⟩
noncomputable def fx24 : Fx := ⟨[(true, [.d (.int .i64), .d (.int .u64), .d .str, .d (.sl 25 (.st 25))])], [], [(true, [.d (.int .i64), .d (.int .u64), .d .str, .d (.sl 25 (.st 25))])], [], [(1000003, ⟨[(1, [.k]), (2, [.k]), (3, [.o 25 (.st 25)]), (7, [.d (.sl 25 (.st 25))]), (8, [.d (.int .i64)]), (9, [.d (.int .i64)])], [[.d (.int .i64), .d (.int .u64), .d .str, .d (.sl 25 (.st 25))], [.d (.int .i64), .d (.int .u64), .d .str, .o 25 (.st 25)]]⟩)], none⟩
noncomputable def fx25 : Fx := ⟨[(false, [.d (.int .u64)]), (true, [.d (.int .i64), .d (.int .u64), .d .str, .d (.sl 25 (.st 25))])], [], [(true, [.d (.int .i64), .d (.int .u64), .d .str, .d (.sl 25 (.st 25))]), (false, [.d (.int .i64)])], [], [], none⟩
noncomputable def fx26 : Fx := ⟨[(false, [.d (.int .u64)]), (true, [.d (.int .i64), .d (.int .u64), .d .str, .d (.sl 25 (.st 25))])], [], [(true, [.d (.int .i64), .d (.int .u64), .d .str, .d (.sl 25 (.st 25))])], [], [], none⟩
noncomputable def fx27 : Fx := ⟨[(true, [.d (.int .i64), .d (.int .u64), .d .str, .d (.sl 25 (.st 25))]), (false, [.d (.sl 22 (.int .u64))]), (false, [.f 16 []])], [], [(true, [.d (.int .i64), .d (.int .u64), .d .str, .d (.sl 25 (.st 25))]), (false, [.d (.int .i64)])], [], [(1000005, ⟨[(2, [.k]), (3, [.k]), (6, [.k]), (8, [.d (.int .i64)]), (20, [.d (.sl 22 (.int .u64))]), (21, [.d (.int .i64)]), (22, [.d (.int .i64)])], [[.d (.int .i64), .d (.int .u64), .d .str, .d (.sl 25 (.st 25))], [.d (.int .i64), .d (.int .u64), .d .str, .o 25 (.st 25)]]⟩)], none⟩
noncomputable def fx28 : Fx := ⟨[(false, [.d (.int .u64)]), (true, [.d (.int .i64), .d (.int .u64), .d .str, .d (.sl 25 (.st 25))])], [], [(true, [.d (.int .i64), .d (.int .u64), .d .str, .d (.sl 25 (.st 25))]), (false, [.d (.int .i64)])], [], [], none⟩
noncomputable def tb : List (FuncId × Fx) := [(3, fx0), (5, fx1), (6, fx2), (7, fx3), (8, fx4), (9, fx5), (17, fx6), (20, fx7), (45, fx8), (41, fx9), (42, fx10), (43, fx11), (63, fx12), (15, fx13), (39, fx14), (19, fx15), (40, fx16), (60, fx17), (61, fx18), (62, fx19), (77, fx20), (85, fx21), (78, fx22), (31, fx23), (52, fx24), (18, fx25), (44, fx26), (15, fx27), (16, fx28)]
theorem tbOk : TbOk Pr tb := tbOk_of (by kernel_rfl)
theorem fn0 : fnAt Pr tb 0 = some Go.Proofs.Try.f3 := by kernel_rfl
theorem fn1 : fnAt Pr tb 1 = some Go.Proofs.Try.f5 := by kernel_rfl
theorem fn2 : fnAt Pr tb 2 = some Go.Proofs.Try.f6 := by kernel_rfl
theorem fn3 : fnAt Pr tb 3 = some Go.Proofs.Try.f7 := by kernel_rfl
theorem fn4 : fnAt Pr tb 4 = some Go.Proofs.Try.f8 := by kernel_rfl
theorem fn5 : fnAt Pr tb 5 = some Go.Proofs.Try.f9 := by kernel_rfl
theorem fn6 : fnAt Pr tb 6 = some Go.Proofs.Try.f17 := by kernel_rfl
theorem fn7 : fnAt Pr tb 7 = some Go.Proofs.Try.f20 := by kernel_rfl
theorem fn8 : fnAt Pr tb 8 = some Go.Proofs.Try.f45 := by kernel_rfl
theorem fn9 : fnAt Pr tb 9 = some Go.Proofs.Try.f41 := by kernel_rfl
theorem fn10 : fnAt Pr tb 10 = some Go.Proofs.Try.f42 := by kernel_rfl
theorem fn11 : fnAt Pr tb 11 = some Go.Proofs.Try.f43 := by kernel_rfl
theorem fn12 : fnAt Pr tb 12 = some Go.Proofs.Try.f63 := by kernel_rfl
theorem fn13 : fnAt Pr tb 13 = some Go.Proofs.Try.f15 := by kernel_rfl
theorem fn14 : fnAt Pr tb 14 = some Go.Proofs.Try.f39 := by kernel_rfl
theorem fn15 : fnAt Pr tb 15 = some Go.Proofs.Try.f19 := by kernel_rfl
theorem fn16 : fnAt Pr tb 16 = some Go.Proofs.Try.f40 := by kernel_rfl
theorem fn17 : fnAt Pr tb 17 = some Go.Proofs.Try.f60 := by kernel_rfl
theorem fn18 : fnAt Pr tb 18 = some Go.Proofs.Try.f61 := by kernel_rfl
theorem fn19 : fnAt Pr tb 19 = some Go.Proofs.Try.f62 := by kernel_rfl
theorem fn20 : fnAt Pr tb 20 = some Go.Proofs.Try.f77 := by kernel_rfl
theorem fn21 : fnAt Pr tb 21 = some Go.Proofs.Try.f85 := by kernel_rfl
theorem fn22 : fnAt Pr tb 22 = some Go.Proofs.Try.f78 := by kernel_rfl
theorem fn23 : fnAt Pr tb 23 = some Go.Proofs.Try.f31 := by kernel_rfl
theorem fn24 : fnAt Pr tb 24 = some Go.Proofs.Try.f52 := by kernel_rfl
theorem fn25 : fnAt Pr tb 25 = some Go.Proofs.Try.f18 := by kernel_rfl
theorem fn26 : fnAt Pr tb 26 = some Go.Proofs.Try.f44 := by kernel_rfl
theorem fn27 : fnAt Pr tb 27 = some Go.Proofs.Try.f15 := by kernel_rfl
theorem fn28 : fnAt Pr tb 28 = some Go.Proofs.Try.f16 := by kernel_rfl
noncomputable def G : Giv tab tb := fun _ => none
theorem F_holds (key : Nat) : Snd Pr tb key (F Pr tb G key) := F_ok tbOk (fun _ _ h => by cases h) key
theorem okL : okS Pr tab.fs [25] [25] = true := by kernel_rfl
noncomputable def F3_lethelaw03_BoxWraps (x0_0 : Int) (x0_1 : Int) (x0_2 : ByteArray) (x0_3 : (List S25)) (x1 : (List Int)) : Option (Bool × Unit) := F Pr tb G 0 [⟨(.int .i64), x0_0⟩, ⟨(.int .u64), x0_1⟩, ⟨.str, x0_2⟩, ⟨(.sl 25 (.st 25)), x0_3⟩, ⟨(.sl 22 (.int .u64)), x1⟩]
noncomputable def F5_box_Wrap (x0_0 : Int) (x0_1 : Int) (x0_2 : ByteArray) (x0_3 : (List S25)) (x1 : (List Int)) : Option (Int × Int × ByteArray × (List S25) × Int × Unit) := F Pr tb G 1 [⟨(.int .i64), x0_0⟩, ⟨(.int .u64), x0_1⟩, ⟨.str, x0_2⟩, ⟨(.sl 25 (.st 25)), x0_3⟩, ⟨(.sl 22 (.int .u64)), x1⟩]
noncomputable def F6_letheref03_Wrap (x0_0 : Int) (x0_1 : Int) (x0_2 : ByteArray) (x0_3 : (List S25)) (x1 : (List Int)) : Option (Int × Int × ByteArray × (List S25) × Int × Unit) := F Pr tb G 2 [⟨(.int .i64), x0_0⟩, ⟨(.int .u64), x0_1⟩, ⟨.str, x0_2⟩, ⟨(.sl 25 (.st 25)), x0_3⟩, ⟨(.sl 22 (.int .u64)), x1⟩]
noncomputable def F6_letheref03_Wrap_l1000006 (v20 : (List Int)) (v21 : Int) (v22 : Int) (h0_0 : Int) (h0_1 : Int) (h0_2 : ByteArray) (h0_3 : (List S25)) (h1_0 : Int) (h1_1 : Int) (h1_2 : ByteArray) (g2 : (List S25)) : Option (Int × Int × ByteArray × (List S25) × Int × Unit) :=
  run Pr tb G fx2.fin Go.Proofs.Try.f6 fx2 ⟨todoAt Go.Proofs.Try.f6 1000006, [(2, .v (false, [.p 0 0])), (4, .v (false, [.p 1 0])), (20, .v (false, [.d (.sl 22 (.int .u64)) v20])), (21, .v (false, [.d (.int .i64) v21])), (22, .v (false, [.d (.int .i64) v22]))], [.box 25 [.d (.int .i64) h0_0, .d (.int .u64) h0_1, .d .str h0_2, .d (.sl 25 (.st 25)) h0_3], .box 25 [.d (.int .i64) h1_0, .d (.int .u64) h1_1, .d .str h1_2, .g 2], .gr 25 (.st 25) g2 false]⟩
noncomputable def F7_box_Unwrap (x0_0 : Int) (x0_1 : Int) (x0_2 : ByteArray) (x0_3 : (List S25)) (x1 : (List Int)) : Option (Int × Int × ByteArray × (List S25) × Int × Unit) := F Pr tb G 3 [⟨(.int .i64), x0_0⟩, ⟨(.int .u64), x0_1⟩, ⟨.str, x0_2⟩, ⟨(.sl 25 (.st 25)), x0_3⟩, ⟨(.sl 22 (.int .u64)), x1⟩]
noncomputable def F7_box_Unwrap_l1000003 (v1 : (List Int)) (v12 : Int) (v13 : Int) (h0_0 : Int) (h0_1 : Int) (h0_2 : ByteArray) (h0_3 : (List S25)) (h1_0 : Int) (h1_1 : Int) (h1_2 : ByteArray) (g2 : (List Int)) (g3 : (List S25)) : Option (Int × Int × ByteArray × (List S25) × Int × Unit) :=
  run Pr tb G fx3.fin Go.Proofs.Try.f7 fx3 ⟨todoAt Go.Proofs.Try.f7 1000003, [(1, .v (false, [.d (.sl 22 (.int .u64)) v1])), (2, .v (false, [.p 0 0])), (4, .v (false, [.p 1 0])), (6, .v (false, [.g 2])), (12, .v (false, [.d (.int .i64) v12])), (13, .v (false, [.d (.int .i64) v13]))], [.box 25 [.d (.int .i64) h0_0, .d (.int .u64) h0_1, .d .str h0_2, .d (.sl 25 (.st 25)) h0_3], .box 25 [.d (.int .i64) h1_0, .d (.int .u64) h1_1, .d .str h1_2, .g 3], .gr 22 (.int .u64) g2 false, .gr 25 (.st 25) g3 false]⟩
noncomputable def F8_letheref03_Unwrap (x0_0 : Int) (x0_1 : Int) (x0_2 : ByteArray) (x0_3 : (List S25)) (x1 : (List Int)) : Option (Int × Int × ByteArray × (List S25) × Int × Unit) := F Pr tb G 4 [⟨(.int .i64), x0_0⟩, ⟨(.int .u64), x0_1⟩, ⟨.str, x0_2⟩, ⟨(.sl 25 (.st 25)), x0_3⟩, ⟨(.sl 22 (.int .u64)), x1⟩]
noncomputable def F8_letheref03_Unwrap_l1000006 (v1 : (List Int)) (v6 : Int) (h0_0 : Int) (h0_1 : Int) (h0_2 : ByteArray) (h0_3 : (List S25)) (h1_0 : Int) (h1_1 : Int) (h1_2 : ByteArray) (g2 : (List S25)) : Option (Int × Int × ByteArray × (List S25) × Int × Unit) :=
  run Pr tb G fx4.fin Go.Proofs.Try.f8 fx4 ⟨todoAt Go.Proofs.Try.f8 1000006, [(1, .v (false, [.d (.sl 22 (.int .u64)) v1])), (2, .v (false, [.p 0 0])), (4, .v (false, [.p 1 0])), (6, .v (false, [.d (.int .i64) v6]))], [.box 25 [.d (.int .i64) h0_0, .d (.int .u64) h0_1, .d .str h0_2, .d (.sl 25 (.st 25)) h0_3], .box 25 [.d (.int .i64) h1_0, .d (.int .u64) h1_1, .d .str h1_2, .g 2], .gr 25 (.st 25) g2 false]⟩
noncomputable def F9_letheref02_Like (x0_0 : Int) (x0_1 : Int) (x0_2 : ByteArray) (x0_3 : (List S25)) (x1_0 : Int) (x1_1 : Int) (x1_2 : ByteArray) (x1_3 : (List S25)) : Option (Bool × Unit) := F Pr tb G 5 [⟨(.int .i64), x0_0⟩, ⟨(.int .u64), x0_1⟩, ⟨.str, x0_2⟩, ⟨(.sl 25 (.st 25)), x0_3⟩, ⟨(.int .i64), x1_0⟩, ⟨(.int .u64), x1_1⟩, ⟨.str, x1_2⟩, ⟨(.sl 25 (.st 25)), x1_3⟩]
noncomputable def F9_letheref02_Like_l2  : Option (Bool × Unit) :=
  run Pr tb G fx5.fin Go.Proofs.Try.f9 fx5 ⟨todoAt Go.Proofs.Try.f9 2, [], []⟩
noncomputable def F9_letheref02_Like_l1000004 (v36 : Int) (v37 : Int) (h0_0 : Int) (h0_1 : Int) (h0_2 : ByteArray) (h0_3 : (List S25)) (h1_0 : Int) (h1_1 : Int) (h1_2 : ByteArray) (h1_3 : (List S25)) : Option (Bool × Unit) :=
  run Pr tb G fx5.fin Go.Proofs.Try.f9 fx5 ⟨todoAt Go.Proofs.Try.f9 1000004, [(2, .v (false, [.p 0 0])), (3, .v (false, [.p 1 0])), (36, .v (false, [.d (.int .i64) v36])), (37, .v (false, [.d (.int .i64) v37]))], [.box 25 [.d (.int .i64) h0_0, .d (.int .u64) h0_1, .d .str h0_2, .d (.sl 25 (.st 25)) h0_3], .box 25 [.d (.int .i64) h1_0, .d (.int .u64) h1_1, .d .str h1_2, .d (.sl 25 (.st 25)) h1_3]]⟩
noncomputable def F17_letheref02_Right (x0_0 : Int) (x0_1 : Int) (x0_2 : ByteArray) (x0_3 : (List S25)) : Option (Int × Unit) := F Pr tb G 6 [⟨(.int .i64), x0_0⟩, ⟨(.int .u64), x0_1⟩, ⟨.str, x0_2⟩, ⟨(.sl 25 (.st 25)), x0_3⟩]
noncomputable def F20_letheref03_Open (x0 : Int) (x1_0 : Int) (x1_1 : Int) (x1_2 : ByteArray) (x1_3 : (List S25)) : Option (Int × Int × ByteArray × (List S25) × Int × Unit) := F Pr tb G 7 [⟨(.int .u64), x0⟩, ⟨(.int .i64), x1_0⟩, ⟨(.int .u64), x1_1⟩, ⟨.str, x1_2⟩, ⟨(.sl 25 (.st 25)), x1_3⟩]
noncomputable def F45_letheref02_Copy (x0_0 : Int) (x0_1 : Int) (x0_2 : ByteArray) (x0_3 : (List S25)) : Option (Int × Int × ByteArray × (List S25) × Unit) := F Pr tb G 8 [⟨(.int .i64), x0_0⟩, ⟨(.int .u64), x0_1⟩, ⟨.str, x0_2⟩, ⟨(.sl 25 (.st 25)), x0_3⟩]
noncomputable def F45_letheref02_Copy_l1000003 (v15 : (List S25)) (v16 : Int) (v17 : Int) (h0_0 : Int) (h0_1 : Int) (h0_2 : ByteArray) (h1_0 : Int) (h1_1 : Int) (h1_2 : ByteArray) (g2 : (List S25)) (g3 : (List S25)) : Option (Int × Int × ByteArray × (List S25) × Unit) :=
  run Pr tb G fx8.fin Go.Proofs.Try.f45 fx8 ⟨todoAt Go.Proofs.Try.f45 1000003, [(2, .v (false, [.p 0 0])), (3, .v (false, [.p 1 0])), (15, .v (false, [.d (.sl 25 (.st 25)) v15])), (16, .v (false, [.d (.int .i64) v16])), (17, .v (false, [.d (.int .i64) v17]))], [.box 25 [.d (.int .i64) h0_0, .d (.int .u64) h0_1, .d .str h0_2, .g 2], .box 25 [.d (.int .i64) h1_0, .d (.int .u64) h1_1, .d .str h1_2, .g 3], .gr 25 (.st 25) g2 false, .gr 25 (.st 25) g3 false]⟩
noncomputable def F41_letheref02_Parts (x0_0 : Int) (x0_1 : Int) (x0_2 : ByteArray) (x0_3 : (List S25)) (x1 : Int) : Option (Int × Unit) := F Pr tb G 9 [⟨(.int .i64), x0_0⟩, ⟨(.int .u64), x0_1⟩, ⟨.str, x0_2⟩, ⟨(.sl 25 (.st 25)), x0_3⟩, ⟨(.int .i64), x1⟩]
noncomputable def F41_letheref02_Parts_l1000003 (v1 : Int) (v5 : Int) (v9 : (List S25)) (v10 : Int) (v11 : Int) : Option (Int × Unit) :=
  run Pr tb G fx9.fin Go.Proofs.Try.f41 fx9 ⟨todoAt Go.Proofs.Try.f41 1000003, [(1, .v (false, [.d (.int .i64) v1])), (5, .v (false, [.d (.int .i64) v5])), (9, .v (false, [.d (.sl 25 (.st 25)) v9])), (10, .v (false, [.d (.int .i64) v10])), (11, .v (false, [.d (.int .i64) v11]))], []⟩
noncomputable def F42_letheref02_Deep (x0_0 : Int) (x0_1 : Int) (x0_2 : ByteArray) (x0_3 : (List S25)) (x1 : Int) : Option (Int × Unit) := F Pr tb G 10 [⟨(.int .i64), x0_0⟩, ⟨(.int .u64), x0_1⟩, ⟨.str, x0_2⟩, ⟨(.sl 25 (.st 25)), x0_3⟩, ⟨(.int .i64), x1⟩]
noncomputable def F42_letheref02_Deep_l1000005 (v1 : Int) (v5 : Int) (v13 : (List S25)) (v14 : Int) (v15 : Int) : Option (Int × Unit) :=
  run Pr tb G fx10.fin Go.Proofs.Try.f42 fx10 ⟨todoAt Go.Proofs.Try.f42 1000005, [(1, .v (false, [.d (.int .i64) v1])), (5, .v (false, [.d (.int .i64) v5])), (13, .v (false, [.d (.sl 25 (.st 25)) v13])), (14, .v (false, [.d (.int .i64) v14])), (15, .v (false, [.d (.int .i64) v15]))], []⟩
noncomputable def F43_letheref02_shaped (x0_0 : Int) (x0_1 : Int) (x0_2 : ByteArray) (x0_3 : (List S25)) : Option (Bool × Unit) := F Pr tb G 11 [⟨(.int .i64), x0_0⟩, ⟨(.int .u64), x0_1⟩, ⟨.str, x0_2⟩, ⟨(.sl 25 (.st 25)), x0_3⟩]
noncomputable def F43_letheref02_shaped_l1000004 (v9 : (List S25)) (v10 : Int) (v11 : Int) : Option (Bool × Unit) :=
  run Pr tb G fx11.fin Go.Proofs.Try.f43 fx11 ⟨todoAt Go.Proofs.Try.f43 1000004, [(9, .v (false, [.d (.sl 25 (.st 25)) v9])), (10, .v (false, [.d (.int .i64) v10])), (11, .v (false, [.d (.int .i64) v11]))], []⟩
noncomputable def F63_letheref02_One (x0_0 : Int) (x0_1 : Int) (x0_2 : ByteArray) (x0_3 : (List S25)) : Option (Bool × Unit) := F Pr tb G 12 [⟨(.int .i64), x0_0⟩, ⟨(.int .u64), x0_1⟩, ⟨.str, x0_2⟩, ⟨(.sl 25 (.st 25)), x0_3⟩]
noncomputable def F15_box_each_19 (x0_0 : Int) (x0_1 : Int) (x0_2 : ByteArray) (x0_3 : (List S25)) (x1 : (List Int)) : Option (Int × Int × ByteArray × (List S25) × Int × Unit) := F Pr tb G 13 [⟨(.int .i64), x0_0⟩, ⟨(.int .u64), x0_1⟩, ⟨.str, x0_2⟩, ⟨(.sl 25 (.st 25)), x0_3⟩, ⟨(.sl 22 (.int .u64)), x1⟩]
noncomputable def F15_box_each_19_l1000005 (v8 : Int) (v20 : (List Int)) (v21 : Int) (v22 : Int) (h0_0 : Int) (h0_1 : Int) (h0_2 : ByteArray) (h0_3 : (List S25)) (h1_0 : Int) (h1_1 : Int) (h1_2 : ByteArray) (g2 : (List S25)) : Option (Int × Int × ByteArray × (List S25) × Int × Unit) :=
  run Pr tb G fx13.fin Go.Proofs.Try.f15 fx13 ⟨todoAt Go.Proofs.Try.f15 1000005, [(2, .v (false, [.f 19 []])), (3, .v (false, [.p 0 0])), (6, .v (false, [.p 1 0])), (8, .v (false, [.d (.int .i64) v8])), (20, .v (false, [.d (.sl 22 (.int .u64)) v20])), (21, .v (false, [.d (.int .i64) v21])), (22, .v (false, [.d (.int .i64) v22]))], [.box 25 [.d (.int .i64) h0_0, .d (.int .u64) h0_1, .d .str h0_2, .d (.sl 25 (.st 25)) h0_3], .box 25 [.d (.int .i64) h1_0, .d (.int .u64) h1_1, .d .str h1_2, .g 2], .gr 25 (.st 25) g2 false]⟩
noncomputable def F39_box_own (x0_0 : Int) (x0_1 : Int) (x0_2 : ByteArray) (x0_3 : (List S25)) : Option (Int × Int × ByteArray × (List S25) × Int × Unit) := F Pr tb G 14 [⟨(.int .i64), x0_0⟩, ⟨(.int .u64), x0_1⟩, ⟨.str, x0_2⟩, ⟨(.sl 25 (.st 25)), x0_3⟩]
noncomputable def F19_box_Open (x0 : Int) (x1_0 : Int) (x1_1 : Int) (x1_2 : ByteArray) (x1_3 : (List S25)) : Option (Int × Int × ByteArray × (List S25) × Int × Unit) := F Pr tb G 15 [⟨(.int .u64), x0⟩, ⟨(.int .i64), x1_0⟩, ⟨(.int .u64), x1_1⟩, ⟨.str, x1_2⟩, ⟨(.sl 25 (.st 25)), x1_3⟩]
noncomputable def F40_term_Right (x0_0 : Int) (x0_1 : Int) (x0_2 : ByteArray) (x0_3 : (List S25)) : Option (Int × Unit) := F Pr tb G 16 [⟨(.int .i64), x0_0⟩, ⟨(.int .u64), x0_1⟩, ⟨.str, x0_2⟩, ⟨(.sl 25 (.st 25)), x0_3⟩]
noncomputable def F60_term_parts (x0_0 : Int) (x0_1 : Int) (x0_2 : ByteArray) (x0_3 : (List S25)) (x1 : Int) : Option (Int × Unit) := F Pr tb G 17 [⟨(.int .i64), x0_0⟩, ⟨(.int .u64), x0_1⟩, ⟨.str, x0_2⟩, ⟨(.sl 25 (.st 25)), x0_3⟩, ⟨(.int .i64), x1⟩]
noncomputable def F60_term_parts_l1000003 (v1 : Int) (v5 : Int) (v9 : (List S25)) (v10 : Int) (v11 : Int) : Option (Int × Unit) :=
  run Pr tb G fx17.fin Go.Proofs.Try.f60 fx17 ⟨todoAt Go.Proofs.Try.f60 1000003, [(1, .v (false, [.d (.int .i64) v1])), (5, .v (false, [.d (.int .i64) v5])), (9, .v (false, [.d (.sl 25 (.st 25)) v9])), (10, .v (false, [.d (.int .i64) v10])), (11, .v (false, [.d (.int .i64) v11]))], []⟩
noncomputable def F61_term_deep (x0_0 : Int) (x0_1 : Int) (x0_2 : ByteArray) (x0_3 : (List S25)) (x1 : Int) : Option (Int × Unit) := F Pr tb G 18 [⟨(.int .i64), x0_0⟩, ⟨(.int .u64), x0_1⟩, ⟨.str, x0_2⟩, ⟨(.sl 25 (.st 25)), x0_3⟩, ⟨(.int .i64), x1⟩]
noncomputable def F61_term_deep_l1000004 (v1 : Int) (v5 : Int) (v11 : (List S25)) (v12 : Int) (v13 : Int) : Option (Int × Unit) :=
  run Pr tb G fx18.fin Go.Proofs.Try.f61 fx18 ⟨todoAt Go.Proofs.Try.f61 1000004, [(1, .v (false, [.d (.int .i64) v1])), (5, .v (false, [.d (.int .i64) v5])), (11, .v (false, [.d (.sl 25 (.st 25)) v11])), (12, .v (false, [.d (.int .i64) v12])), (13, .v (false, [.d (.int .i64) v13]))], []⟩
noncomputable def F62_term_shaped (x0_0 : Int) (x0_1 : Int) (x0_2 : ByteArray) (x0_3 : (List S25)) : Option (Bool × Unit) := F Pr tb G 19 [⟨(.int .i64), x0_0⟩, ⟨(.int .u64), x0_1⟩, ⟨.str, x0_2⟩, ⟨(.sl 25 (.st 25)), x0_3⟩]
noncomputable def F62_term_shaped_l12 (v3 : Bool) (h0_0 : Int) (h0_1 : Int) (h0_2 : ByteArray) (h0_3 : (List S25)) : Option (Bool × Unit) :=
  run Pr tb G fx19.fin Go.Proofs.Try.f62 fx19 ⟨todoAt Go.Proofs.Try.f62 12, [(1, .v (false, [.p 0 0])), (3, .v (false, [.d .bool v3]))], [.box 25 [.d (.int .i64) h0_0, .d (.int .u64) h0_1, .d .str h0_2, .d (.sl 25 (.st 25)) h0_3]]⟩
noncomputable def F77_slices_ContainsFunc_78 (x0 : (List S25)) : Option (Bool × Unit) := F Pr tb G 20 [⟨(.sl 25 (.st 25)), x0⟩]
noncomputable def F85_slices_IndexFunc_78 (x0 : (List S25)) : Option (Int × Unit) := F Pr tb G 21 [⟨(.sl 25 (.st 25)), x0⟩]
noncomputable def F85_slices_IndexFunc_78_l1000002 (v0 : (List S25)) (v7 : Int) (v8 : Int) : Option (Int × Unit) :=
  run Pr tb G fx21.fin Go.Proofs.Try.f85 fx21 ⟨todoAt Go.Proofs.Try.f85 1000002, [(0, .v (false, [.d (.sl 25 (.st 25)) v0])), (1, .v (false, [.f 78 []])), (7, .v (false, [.d (.int .i64) v7])), (8, .v (false, [.d (.int .i64) v8]))], []⟩
noncomputable def F78_term_shaped_1 (x0_0 : Int) (x0_1 : Int) (x0_2 : ByteArray) (x0_3 : (List S25)) : Option (Bool × Unit) := F Pr tb G 22 [⟨(.int .i64), x0_0⟩, ⟨(.int .u64), x0_1⟩, ⟨.str, x0_2⟩, ⟨(.sl 25 (.st 25)), x0_3⟩]
noncomputable def F31_term_Of (x0 : (List S25)) : Option (Int × Int × ByteArray × (List S25) × Unit) := F Pr tb G 23 [⟨(.sl 25 (.st 25)), x0⟩]
noncomputable def F52_term_clone (x0_0 : Int) (x0_1 : Int) (x0_2 : ByteArray) (x0_3 : (List S25)) : Option (Int × Int × ByteArray × (List S25) × Unit) := F Pr tb G 24 [⟨(.int .i64), x0_0⟩, ⟨(.int .u64), x0_1⟩, ⟨.str, x0_2⟩, ⟨(.sl 25 (.st 25)), x0_3⟩]
noncomputable def F52_term_clone_l1000003 (v7 : (List S25)) (v8 : Int) (v9 : Int) (h0_0 : Int) (h0_1 : Int) (h0_2 : ByteArray) (h0_3 : (List S25)) (h1_0 : Int) (h1_1 : Int) (h1_2 : ByteArray) (g2 : (List S25)) (g3 : (List S25)) : Option (Int × Int × ByteArray × (List S25) × Unit) :=
  run Pr tb G fx24.fin Go.Proofs.Try.f52 fx24 ⟨todoAt Go.Proofs.Try.f52 1000003, [(1, .v (false, [.p 0 0])), (2, .v (false, [.p 1 0])), (3, .v (false, [.g 2])), (7, .v (false, [.d (.sl 25 (.st 25)) v7])), (8, .v (false, [.d (.int .i64) v8])), (9, .v (false, [.d (.int .i64) v9]))], [.box 25 [.d (.int .i64) h0_0, .d (.int .u64) h0_1, .d .str h0_2, .d (.sl 25 (.st 25)) h0_3], .box 25 [.d (.int .i64) h1_0, .d (.int .u64) h1_1, .d .str h1_2, .g 3], .gr 25 (.st 25) g2 false, .gr 25 (.st 25) g3 false]⟩
noncomputable def F18_letheref03_Seal (x0 : Int) (x1_0 : Int) (x1_1 : Int) (x1_2 : ByteArray) (x1_3 : (List S25)) : Option (Int × Int × ByteArray × (List S25) × Int × Unit) := F Pr tb G 25 [⟨(.int .u64), x0⟩, ⟨(.int .i64), x1_0⟩, ⟨(.int .u64), x1_1⟩, ⟨.str, x1_2⟩, ⟨(.sl 25 (.st 25)), x1_3⟩]
noncomputable def F44_letheref03_Box (x0 : Int) (x1_0 : Int) (x1_1 : Int) (x1_2 : ByteArray) (x1_3 : (List S25)) : Option (Int × Int × ByteArray × (List S25) × Unit) := F Pr tb G 26 [⟨(.int .u64), x0⟩, ⟨(.int .i64), x1_0⟩, ⟨(.int .u64), x1_1⟩, ⟨.str, x1_2⟩, ⟨(.sl 25 (.st 25)), x1_3⟩]
noncomputable def F15_box_each_16 (x0_0 : Int) (x0_1 : Int) (x0_2 : ByteArray) (x0_3 : (List S25)) (x1 : (List Int)) : Option (Int × Int × ByteArray × (List S25) × Int × Unit) := F Pr tb G 27 [⟨(.int .i64), x0_0⟩, ⟨(.int .u64), x0_1⟩, ⟨.str, x0_2⟩, ⟨(.sl 25 (.st 25)), x0_3⟩, ⟨(.sl 22 (.int .u64)), x1⟩]
noncomputable def F15_box_each_16_l1000005 (v8 : Int) (v20 : (List Int)) (v21 : Int) (v22 : Int) (h0_0 : Int) (h0_1 : Int) (h0_2 : ByteArray) (h0_3 : (List S25)) (h1_0 : Int) (h1_1 : Int) (h1_2 : ByteArray) (g2 : (List S25)) : Option (Int × Int × ByteArray × (List S25) × Int × Unit) :=
  run Pr tb G fx27.fin Go.Proofs.Try.f15 fx27 ⟨todoAt Go.Proofs.Try.f15 1000005, [(2, .v (false, [.f 16 []])), (3, .v (false, [.p 0 0])), (6, .v (false, [.p 1 0])), (8, .v (false, [.d (.int .i64) v8])), (20, .v (false, [.d (.sl 22 (.int .u64)) v20])), (21, .v (false, [.d (.int .i64) v21])), (22, .v (false, [.d (.int .i64) v22]))], [.box 25 [.d (.int .i64) h0_0, .d (.int .u64) h0_1, .d .str h0_2, .d (.sl 25 (.st 25)) h0_3], .box 25 [.d (.int .i64) h1_0, .d (.int .u64) h1_1, .d .str h1_2, .g 2], .gr 25 (.st 25) g2 false]⟩
noncomputable def F16_box_Seal (x0 : Int) (x1_0 : Int) (x1_1 : Int) (x1_2 : ByteArray) (x1_3 : (List S25)) : Option (Int × Int × ByteArray × (List S25) × Int × Unit) := F Pr tb G 28 [⟨(.int .u64), x0⟩, ⟨(.int .i64), x1_0⟩, ⟨(.int .u64), x1_1⟩, ⟨.str, x1_2⟩, ⟨(.sl 25 (.st 25)), x1_3⟩]
end
end Go.Proofs.Ytfojcadooepgpaa.BoxWrapsx
