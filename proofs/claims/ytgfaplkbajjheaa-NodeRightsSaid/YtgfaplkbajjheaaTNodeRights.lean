/- The law NodeRights: types, signatures and names of the functions that it reaches. Under no condition. -/
import Derived.Test.YtgfaplkbajjheaaRxI
import Derived.Test.YtgfaplkbajjheaaRxC
import Derived.Test.YtgfaplkbajjheaaProg
import Derived.KernelRfl
set_option linter.unusedVariables false
set_option maxRecDepth 100000
namespace Go.Proofs.Ytgfaplkbajjheaa.NodeRightsx
open Go Go.RowKit Go.Proofs.Ytgfaplkbajjheaa.Rx Go.Proofs.Ytgfaplkbajjheaa.NodeRightsx
noncomputable section
structure S98 where mk ::
  (f0 : Int) (f1 : ByteArray) (f2 : ByteArray)
theorem S98.eta (x : S98) : S98.mk x.f0 x.f1 x.f2 = x := rfl
noncomputable def S98.z : S98 := S98.mk (0 : Int) ByteArray.empty ByteArray.empty
structure S96 where mk ::
  (f0 : ByteArray) (f1 : (List S98))
theorem S96.eta (x : S96) : S96.mk x.f0 x.f1 = x := rfl
noncomputable def S96.z : S96 := S96.mk ByteArray.empty []
structure S100 where mk ::
  (f0 : ByteArray) (f1 : Int) (f2 : Int) (f3 : Int) (f4 : Int)
theorem S100.eta (x : S100) : S100.mk x.f0 x.f1 x.f2 x.f3 x.f4 = x := rfl
noncomputable def S100.z : S100 := S100.mk ByteArray.empty (0 : Int) (0 : Int) (0 : Int) (0 : Int)
noncomputable def S (n : Nat) : Type := if n = 98 then S98 else if n = 96 then S96 else if n = 100 then S100 else Unit
noncomputable def fs (n : Nat) : List Ty := if n = 98 then [(.int .i64), .str, .str] else if n = 96 then [.str, (.sl 98 (.st 98))] else if n = 100 then [.str, (.int .u64), (.int .i64), (.int .i64), (.int .i64)] else []
theorem fs_no {n : Nat} (h98 : ¬ n = 98) (h96 : ¬ n = 96) (h100 : ¬ n = 100) : fs n = [] := by simp only [fs, h98, h96, h100, if_false]
theorem S_no {n : Nat} (h98 : ¬ n = 98) (h96 : ¬ n = 96) (h100 : ¬ n = 100) : S n = Unit := by simp only [S, h98, h96, h100, if_false]
noncomputable def out (n : Nat) : S n → HL S (fs n) :=
  if h98 : n = 98 then by subst h98; exact fun (x : S98) => (x.f0, x.f1, x.f2, ()) else if h96 : n = 96 then by subst h96; exact fun (x : S96) => (x.f0, x.f1, ()) else if h100 : n = 100 then by subst h100; exact fun (x : S100) => (x.f0, x.f1, x.f2, x.f3, x.f4, ()) else by intro _; rw [fs_no h98 h96 h100]; exact ()
noncomputable def pk (n : Nat) : HL S (fs n) → S n :=
  if h98 : n = 98 then by subst h98; exact fun (x : Int × ByteArray × ByteArray × Unit) => S98.mk x.1 x.2.1 x.2.2.1 else if h96 : n = 96 then by subst h96; exact fun (x : ByteArray × (List S98) × Unit) => S96.mk x.1 x.2.1 else if h100 : n = 100 then by subst h100; exact fun (x : ByteArray × Int × Int × Int × Int × Unit) => S100.mk x.1 x.2.1 x.2.2.1 x.2.2.2.1 x.2.2.2.2.1 else by intro _; rw [S_no h98 h96 h100]; exact ()
noncomputable def z (n : Nat) : S n :=
  if h98 : n = 98 then by subst h98; exact S98.z else if h96 : n = 96 then by subst h96; exact S96.z else if h100 : n = 100 then by subst h100; exact S100.z else by rw [S_no h98 h96 h100]; exact ()
theorem out_pk (n : Nat) (h : HL S (fs n)) : out n (pk n h) = h := by
  by_cases h98 : n = 98
  · subst h98; rfl
  by_cases h96 : n = 96
  · subst h96; rfl
  by_cases h100 : n = 100
  · subst h100; rfl
  have e : ∀ a b : HL S (fs n), a = b := by rw [fs_no h98 h96 h100]; intro a b; rfl
  exact e _ _
theorem pk_out (n : Nat) (x : S n) : pk n (out n x) = x := by
  by_cases h98 : n = 98
  · subst h98; exact S98.eta x
  by_cases h96 : n = 96
  · subst h96; exact S96.eta x
  by_cases h100 : n = 100
  · subst h100; exact S100.eta x
  have e : ∀ a b : S n, a = b := by rw [S_no h98 h96 h100]; intro a b; rfl
  exact e _ _
noncomputable def tab : Tab := { S := S, fs := fs, out := out, pk := pk, z := z, out_pk := out_pk, pk_out := pk_out }
noncomputable abbrev Pr := Go.Proofs.Try.prog
noncomputable def fx0 : Fx := ⟨[(true, [.d (.int .i64), .d (.int .i64), .d (.int .i64), .d (.int .i64), .d (.int .i64), .d (.int .i64), .d (.int .i64)]), (true, [.d .bool, .d (.sl 96 (.st 96)), .d (.sl 100 (.st 100))]), (true, [.d (.int .u64), .d (.int .i64), .d (.int .i64), .d (.int .i64)])], [], [(false, [.d .bool])], [], []⟩
noncomputable def fx1 : Fx := ⟨[(true, [.d (.int .i64), .d (.int .i64), .d (.int .i64), .d (.int .i64), .d (.int .i64), .d (.int .i64), .d (.int .i64)]), (true, [.d .bool, .d (.sl 96 (.st 96)), .d (.sl 100 (.st 100))])], [], [(false, [.d (.int .i64)])], [], [(1000008, ⟨[(2, [.k]), (3, [.k]), (32, [.d (.sl 100 (.st 100))]), (33, [.d (.int .i64)]), (34, [.d (.int .i64)])], [[.d (.int .i64), .d (.int .i64), .d (.int .i64), .d (.int .i64), .d (.int .i64), .d (.int .i64), .d (.int .i64)], [.d .bool, .d (.sl 96 (.st 96)), .d (.sl 100 (.st 100))]]⟩)]⟩
noncomputable def fx2 : Fx := ⟨[(true, [.d (.int .i64), .d (.int .i64), .d (.int .i64), .d (.int .i64), .d (.int .i64), .d (.int .i64), .d (.int .i64)]), (true, [.d .bool, .d (.sl 96 (.st 96)), .d (.sl 100 (.st 100))])], [], [(false, [.d (.int .i64)])], [], []⟩
noncomputable def fx3 : Fx := ⟨[(true, [.d (.int .u64), .d (.int .i64), .d (.int .i64), .d (.int .i64)])], [], [(false, [.d .bool])], [], []⟩
noncomputable def fx4 : Fx := ⟨[(true, [.d (.int .u64), .d (.int .i64), .d (.int .i64), .d (.int .i64)])], [], [(false, [.d .bool])], [], []⟩
noncomputable def fx5 : Fx := ⟨[(true, [.d .bool, .d (.sl 96 (.st 96)), .d (.sl 100 (.st 100))])], [], [(false, [.d .str])], [], [(5, ⟨[], []⟩)]⟩
noncomputable def fx6 : Fx := ⟨[(true, [.d .bool, .d (.sl 96 (.st 96)), .d (.sl 100 (.st 100))])], [], [(false, [.d .str])], [], []⟩
noncomputable def fx7 : Fx := ⟨[(true, [.d (.int .i64), .d (.int .i64), .d (.int .i64), .d (.int .i64), .d (.int .i64), .d (.int .i64), .d (.int .i64)])], [], [(false, [.d .bool])], [], [(2, ⟨[], []⟩)]⟩
noncomputable def fx8 : Fx := ⟨[(true, [.d (.int .i64), .d (.int .i64), .d (.int .i64), .d (.int .i64), .d (.int .i64), .d (.int .i64), .d (.int .i64)]), (true, [.d .bool, .d (.sl 96 (.st 96)), .d (.sl 100 (.st 100))])], [], [(false, [.d (.int .i64)])], [], [(1000004, ⟨[(2, [.k]), (3, [.k]), (19, [.d (.sl 96 (.st 96))]), (20, [.d (.int .i64)]), (21, [.d (.int .i64)])], [[.d (.int .i64), .d (.int .i64), .d (.int .i64), .d (.int .i64), .d (.int .i64), .d (.int .i64), .d (.int .i64)], [.d .bool, .d (.sl 96 (.st 96)), .d (.sl 100 (.st 100))]]⟩)]⟩
noncomputable def fx9 : Fx := ⟨[(true, [.d (.int .i64), .d (.int .i64), .d (.int .i64), .d (.int .i64), .d (.int .i64), .d (.int .i64), .d (.int .i64)]), (true, [.d .bool, .d (.sl 96 (.st 96)), .d (.sl 100 (.st 100))])], [], [(false, [.d (.int .i64)])], [], [(1000004, ⟨[(2, [.k]), (3, [.k]), (24, [.d (.sl 100 (.st 100))]), (25, [.d (.int .i64)]), (26, [.d (.int .i64)])], [[.d (.int .i64), .d (.int .i64), .d (.int .i64), .d (.int .i64), .d (.int .i64), .d (.int .i64), .d (.int .i64)], [.d .bool, .d (.sl 96 (.st 96)), .d (.sl 100 (.st 100))]]⟩)]⟩
noncomputable def fx10 : Fx := ⟨[(true, [.d (.int .i64), .d (.int .i64), .d (.int .i64), .d (.int .i64), .d (.int .i64), .d (.int .i64), .d (.int .i64)]), (true, [.d .str, .d (.sl 98 (.st 98))])], [], [(false, [.d (.int .i64)])], [], []⟩
noncomputable def fx11 : Fx := ⟨[(true, [.d (.int .i64), .d (.int .i64), .d (.int .i64), .d (.int .i64), .d (.int .i64), .d (.int .i64), .d (.int .i64)]), (true, [.d .str, .d (.sl 98 (.st 98))])], [], [(false, [.d (.int .i64)])], [], [(15, ⟨[], []⟩), (1000010, ⟨[(2, [.k]), (3, [.k]), (26, [.d (.sl 98 (.st 98))]), (27, [.d (.int .i64)]), (28, [.d (.int .i64)])], [[.d (.int .i64), .d (.int .i64), .d (.int .i64), .d (.int .i64), .d (.int .i64), .d (.int .i64), .d (.int .i64)], [.d .str, .d (.sl 98 (.st 98))]]⟩)]⟩
noncomputable def fx12 : Fx := ⟨[(true, [.d (.int .i64), .d (.int .i64), .d (.int .i64), .d (.int .i64), .d (.int .i64), .d (.int .i64), .d (.int .i64)])], [], [(false, [.d (.int .i64)])], [], [(3, ⟨[], []⟩)]⟩
noncomputable def fx13 : Fx := ⟨[(true, [.d (.int .i64), .d (.int .i64), .d (.int .i64), .d (.int .i64), .d (.int .i64), .d (.int .i64), .d (.int .i64)]), (true, [.d .bool, .d (.sl 96 (.st 96)), .d (.sl 100 (.st 100))])], [], [(false, [.d (.int .i64)])], [], [(1000004, ⟨[(2, [.k]), (3, [.k]), (19, [.d (.sl 96 (.st 96))]), (20, [.d (.int .i64)]), (21, [.d (.int .i64)])], [[.d (.int .i64), .d (.int .i64), .d (.int .i64), .d (.int .i64), .d (.int .i64), .d (.int .i64), .d (.int .i64)], [.d .bool, .d (.sl 96 (.st 96)), .d (.sl 100 (.st 100))]]⟩)]⟩
noncomputable def fx14 : Fx := ⟨[(true, [.d (.int .i64), .d (.int .i64), .d (.int .i64), .d (.int .i64), .d (.int .i64), .d (.int .i64), .d (.int .i64)]), (true, [.d .str, .d (.sl 98 (.st 98))])], [], [(false, [.d (.int .i64)])], [], []⟩
noncomputable def fx15 : Fx := ⟨[(true, [.d (.int .i64), .d (.int .i64), .d (.int .i64), .d (.int .i64), .d (.int .i64), .d (.int .i64), .d (.int .i64)]), (true, [.d .str, .d (.sl 98 (.st 98))])], [], [(false, [.d (.int .i64)])], [], [(1000011, ⟨[(2, [.k]), (5, [.d (.int .i64)]), (32, [.d (.sl 98 (.st 98))]), (33, [.d (.int .i64)]), (34, [.d (.int .i64)])], [[.d (.int .i64), .d (.int .i64), .d (.int .i64), .d (.int .i64), .d (.int .i64), .d (.int .i64), .d (.int .i64)]]⟩)]⟩
noncomputable def fx16 : Fx := ⟨[(true, [.d (.int .i64), .d (.int .i64), .d (.int .i64), .d (.int .i64), .d (.int .i64), .d (.int .i64), .d (.int .i64)]), (false, [.d .str]), (false, [.d .str])], [], [(false, [.d (.int .i64)])], [], []⟩
noncomputable def fx17 : Fx := ⟨[(false, [.d (.int .i64)]), (false, [.d (.int .i64)]), (false, [.d (.int .i64)])], [], [(false, [.d .bool])], [], []⟩
noncomputable def tb : List (FuncId × Fx) := [(3, fx0), (15, fx1), (16, fx2), (17, fx3), (18, fx4), (19, fx5), (20, fx6), (68, fx7), (69, fx8), (70, fx9), (123, fx10), (154, fx11), (66, fx12), (67, fx13), (122, fx14), (153, fx15), (184, fx16), (121, fx17)]
theorem tbOk : TbOk Pr tb := tbOk_of (by kernel_rfl)
theorem fn0 : fnAt Pr tb 0 = some Go.Proofs.Try.f3 := by kernel_rfl
theorem fn1 : fnAt Pr tb 1 = some Go.Proofs.Try.f15 := by kernel_rfl
theorem fn2 : fnAt Pr tb 2 = some Go.Proofs.Try.f16 := by kernel_rfl
theorem fn3 : fnAt Pr tb 3 = some Go.Proofs.Try.f17 := by kernel_rfl
theorem fn4 : fnAt Pr tb 4 = some Go.Proofs.Try.f18 := by kernel_rfl
theorem fn5 : fnAt Pr tb 5 = some Go.Proofs.Try.f19 := by kernel_rfl
theorem fn6 : fnAt Pr tb 6 = some Go.Proofs.Try.f20 := by kernel_rfl
theorem fn7 : fnAt Pr tb 7 = some Go.Proofs.Try.f68 := by kernel_rfl
theorem fn8 : fnAt Pr tb 8 = some Go.Proofs.Try.f69 := by kernel_rfl
theorem fn9 : fnAt Pr tb 9 = some Go.Proofs.Try.f70 := by kernel_rfl
theorem fn10 : fnAt Pr tb 10 = some Go.Proofs.Try.f123 := by kernel_rfl
theorem fn11 : fnAt Pr tb 11 = some Go.Proofs.Try.f154 := by kernel_rfl
theorem fn12 : fnAt Pr tb 12 = some Go.Proofs.Try.f66 := by kernel_rfl
theorem fn13 : fnAt Pr tb 13 = some Go.Proofs.Try.f67 := by kernel_rfl
theorem fn14 : fnAt Pr tb 14 = some Go.Proofs.Try.f122 := by kernel_rfl
theorem fn15 : fnAt Pr tb 15 = some Go.Proofs.Try.f153 := by kernel_rfl
theorem fn16 : fnAt Pr tb 16 = some Go.Proofs.Try.f184 := by kernel_rfl
theorem fn17 : fnAt Pr tb 17 = some Go.Proofs.Try.f121 := by kernel_rfl
noncomputable def G : Giv tab tb := fun _ => none
theorem F_holds (key : Nat) : Snd Pr tb key (F Pr tb G key) := F_ok tbOk (fun _ _ h => by cases h) key
theorem okL : okS Pr tab.fs [96, 98, 100] [96, 98, 100] = true := by kernel_rfl
noncomputable def F3_lethelaw06_NodeRights (x0_0 : Int) (x0_1 : Int) (x0_2 : Int) (x0_3 : Int) (x0_4 : Int) (x0_5 : Int) (x0_6 : Int) (x1_0 : Bool) (x1_1 : (List S96)) (x1_2 : (List S100)) (x2_0 : Int) (x2_1 : Int) (x2_2 : Int) (x2_3 : Int) : Option (Bool × Unit) := F Pr tb G 0 [⟨(.int .i64), x0_0⟩, ⟨(.int .i64), x0_1⟩, ⟨(.int .i64), x0_2⟩, ⟨(.int .i64), x0_3⟩, ⟨(.int .i64), x0_4⟩, ⟨(.int .i64), x0_5⟩, ⟨(.int .i64), x0_6⟩, ⟨.bool, x1_0⟩, ⟨(.sl 96 (.st 96)), x1_1⟩, ⟨(.sl 100 (.st 100)), x1_2⟩, ⟨(.int .u64), x2_0⟩, ⟨(.int .i64), x2_1⟩, ⟨(.int .i64), x2_2⟩, ⟨(.int .i64), x2_3⟩]
noncomputable def F15_node_Right (x0_0 : Int) (x0_1 : Int) (x0_2 : Int) (x0_3 : Int) (x0_4 : Int) (x0_5 : Int) (x0_6 : Int) (x1_0 : Bool) (x1_1 : (List S96)) (x1_2 : (List S100)) : Option (Int × Unit) := F Pr tb G 1 [⟨(.int .i64), x0_0⟩, ⟨(.int .i64), x0_1⟩, ⟨(.int .i64), x0_2⟩, ⟨(.int .i64), x0_3⟩, ⟨(.int .i64), x0_4⟩, ⟨(.int .i64), x0_5⟩, ⟨(.int .i64), x0_6⟩, ⟨.bool, x1_0⟩, ⟨(.sl 96 (.st 96)), x1_1⟩, ⟨(.sl 100 (.st 100)), x1_2⟩]
noncomputable def F15_node_Right_l1000008 (v32 : (List S100)) (v33 : Int) (v34 : Int) (h0_0 : Int) (h0_1 : Int) (h0_2 : Int) (h0_3 : Int) (h0_4 : Int) (h0_5 : Int) (h0_6 : Int) (h1_0 : Bool) (h1_1 : (List S96)) (h1_2 : (List S100)) : Option (Int × Unit) :=
  run Pr tb G fx1.fin Go.Proofs.Try.f15 fx1 ⟨todoAt Go.Proofs.Try.f15 1000008, [(2, .v (false, [.p 0 0])), (3, .v (false, [.p 1 0])), (32, .v (false, [.d (.sl 100 (.st 100)) v32])), (33, .v (false, [.d (.int .i64) v33])), (34, .v (false, [.d (.int .i64) v34]))], [.box 23 [.d (.int .i64) h0_0, .d (.int .i64) h0_1, .d (.int .i64) h0_2, .d (.int .i64) h0_3, .d (.int .i64) h0_4, .d (.int .i64) h0_5, .d (.int .i64) h0_6], .box 27 [.d .bool h1_0, .d (.sl 96 (.st 96)) h1_1, .d (.sl 100 (.st 100)) h1_2]]⟩
noncomputable def F16_letheref06_Right (x0_0 : Int) (x0_1 : Int) (x0_2 : Int) (x0_3 : Int) (x0_4 : Int) (x0_5 : Int) (x0_6 : Int) (x1_0 : Bool) (x1_1 : (List S96)) (x1_2 : (List S100)) : Option (Int × Unit) := F Pr tb G 2 [⟨(.int .i64), x0_0⟩, ⟨(.int .i64), x0_1⟩, ⟨(.int .i64), x0_2⟩, ⟨(.int .i64), x0_3⟩, ⟨(.int .i64), x0_4⟩, ⟨(.int .i64), x0_5⟩, ⟨(.int .i64), x0_6⟩, ⟨.bool, x1_0⟩, ⟨(.sl 96 (.st 96)), x1_1⟩, ⟨(.sl 100 (.st 100)), x1_2⟩]
noncomputable def F17_node_RefRight (x0_0 : Int) (x0_1 : Int) (x0_2 : Int) (x0_3 : Int) : Option (Bool × Unit) := F Pr tb G 3 [⟨(.int .u64), x0_0⟩, ⟨(.int .i64), x0_1⟩, ⟨(.int .i64), x0_2⟩, ⟨(.int .i64), x0_3⟩]
noncomputable def F18_letheref06_RefRight (x0_0 : Int) (x0_1 : Int) (x0_2 : Int) (x0_3 : Int) : Option (Bool × Unit) := F Pr tb G 4 [⟨(.int .u64), x0_0⟩, ⟨(.int .i64), x0_1⟩, ⟨(.int .i64), x0_2⟩, ⟨(.int .i64), x0_3⟩]
noncomputable def F19_node_Low (x0_0 : Bool) (x0_1 : (List S96)) (x0_2 : (List S100)) : Option (ByteArray × Unit) := F Pr tb G 5 [⟨.bool, x0_0⟩, ⟨(.sl 96 (.st 96)), x0_1⟩, ⟨(.sl 100 (.st 100)), x0_2⟩]
noncomputable def F19_node_Low_l5  : Option (ByteArray × Unit) :=
  run Pr tb G fx5.fin Go.Proofs.Try.f19 fx5 ⟨todoAt Go.Proofs.Try.f19 5, [], []⟩
noncomputable def F20_letheref06_Low (x0_0 : Bool) (x0_1 : (List S96)) (x0_2 : (List S100)) : Option (ByteArray × Unit) := F Pr tb G 6 [⟨.bool, x0_0⟩, ⟨(.sl 96 (.st 96)), x0_1⟩, ⟨(.sl 100 (.st 100)), x0_2⟩]
noncomputable def F68_letheref04_Right (x0_0 : Int) (x0_1 : Int) (x0_2 : Int) (x0_3 : Int) (x0_4 : Int) (x0_5 : Int) (x0_6 : Int) : Option (Bool × Unit) := F Pr tb G 7 [⟨(.int .i64), x0_0⟩, ⟨(.int .i64), x0_1⟩, ⟨(.int .i64), x0_2⟩, ⟨(.int .i64), x0_3⟩, ⟨(.int .i64), x0_4⟩, ⟨(.int .i64), x0_5⟩, ⟨(.int .i64), x0_6⟩]
noncomputable def F68_letheref04_Right_l2  : Option (Bool × Unit) :=
  run Pr tb G fx7.fin Go.Proofs.Try.f68 fx7 ⟨todoAt Go.Proofs.Try.f68 2, [], []⟩
noncomputable def F69_letheref06_leaf (x0_0 : Int) (x0_1 : Int) (x0_2 : Int) (x0_3 : Int) (x0_4 : Int) (x0_5 : Int) (x0_6 : Int) (x1_0 : Bool) (x1_1 : (List S96)) (x1_2 : (List S100)) : Option (Int × Unit) := F Pr tb G 8 [⟨(.int .i64), x0_0⟩, ⟨(.int .i64), x0_1⟩, ⟨(.int .i64), x0_2⟩, ⟨(.int .i64), x0_3⟩, ⟨(.int .i64), x0_4⟩, ⟨(.int .i64), x0_5⟩, ⟨(.int .i64), x0_6⟩, ⟨.bool, x1_0⟩, ⟨(.sl 96 (.st 96)), x1_1⟩, ⟨(.sl 100 (.st 100)), x1_2⟩]
noncomputable def F69_letheref06_leaf_l1000004 (v19 : (List S96)) (v20 : Int) (v21 : Int) (h0_0 : Int) (h0_1 : Int) (h0_2 : Int) (h0_3 : Int) (h0_4 : Int) (h0_5 : Int) (h0_6 : Int) (h1_0 : Bool) (h1_1 : (List S96)) (h1_2 : (List S100)) : Option (Int × Unit) :=
  run Pr tb G fx8.fin Go.Proofs.Try.f69 fx8 ⟨todoAt Go.Proofs.Try.f69 1000004, [(2, .v (false, [.p 0 0])), (3, .v (false, [.p 1 0])), (19, .v (false, [.d (.sl 96 (.st 96)) v19])), (20, .v (false, [.d (.int .i64) v20])), (21, .v (false, [.d (.int .i64) v21]))], [.box 23 [.d (.int .i64) h0_0, .d (.int .i64) h0_1, .d (.int .i64) h0_2, .d (.int .i64) h0_3, .d (.int .i64) h0_4, .d (.int .i64) h0_5, .d (.int .i64) h0_6], .box 27 [.d .bool h1_0, .d (.sl 96 (.st 96)) h1_1, .d (.sl 100 (.st 100)) h1_2]]⟩
noncomputable def F70_letheref06_inner (x0_0 : Int) (x0_1 : Int) (x0_2 : Int) (x0_3 : Int) (x0_4 : Int) (x0_5 : Int) (x0_6 : Int) (x1_0 : Bool) (x1_1 : (List S96)) (x1_2 : (List S100)) : Option (Int × Unit) := F Pr tb G 9 [⟨(.int .i64), x0_0⟩, ⟨(.int .i64), x0_1⟩, ⟨(.int .i64), x0_2⟩, ⟨(.int .i64), x0_3⟩, ⟨(.int .i64), x0_4⟩, ⟨(.int .i64), x0_5⟩, ⟨(.int .i64), x0_6⟩, ⟨.bool, x1_0⟩, ⟨(.sl 96 (.st 96)), x1_1⟩, ⟨(.sl 100 (.st 100)), x1_2⟩]
noncomputable def F70_letheref06_inner_l1000004 (v24 : (List S100)) (v25 : Int) (v26 : Int) (h0_0 : Int) (h0_1 : Int) (h0_2 : Int) (h0_3 : Int) (h0_4 : Int) (h0_5 : Int) (h0_6 : Int) (h1_0 : Bool) (h1_1 : (List S96)) (h1_2 : (List S100)) : Option (Int × Unit) :=
  run Pr tb G fx9.fin Go.Proofs.Try.f70 fx9 ⟨todoAt Go.Proofs.Try.f70 1000004, [(2, .v (false, [.p 0 0])), (3, .v (false, [.p 1 0])), (24, .v (false, [.d (.sl 100 (.st 100)) v24])), (25, .v (false, [.d (.int .i64) v25])), (26, .v (false, [.d (.int .i64) v26]))], [.box 23 [.d (.int .i64) h0_0, .d (.int .i64) h0_1, .d (.int .i64) h0_2, .d (.int .i64) h0_3, .d (.int .i64) h0_4, .d (.int .i64) h0_5, .d (.int .i64) h0_6], .box 27 [.d .bool h1_0, .d (.sl 96 (.st 96)) h1_1, .d (.sl 100 (.st 100)) h1_2]]⟩
noncomputable def F123_letheref05_Right (x0_0 : Int) (x0_1 : Int) (x0_2 : Int) (x0_3 : Int) (x0_4 : Int) (x0_5 : Int) (x0_6 : Int) (x1_0 : ByteArray) (x1_1 : (List S98)) : Option (Int × Unit) := F Pr tb G 10 [⟨(.int .i64), x0_0⟩, ⟨(.int .i64), x0_1⟩, ⟨(.int .i64), x0_2⟩, ⟨(.int .i64), x0_3⟩, ⟨(.int .i64), x0_4⟩, ⟨(.int .i64), x0_5⟩, ⟨(.int .i64), x0_6⟩, ⟨.str, x1_0⟩, ⟨(.sl 98 (.st 98)), x1_1⟩]
noncomputable def F154_letheref05_Named (x0_0 : Int) (x0_1 : Int) (x0_2 : Int) (x0_3 : Int) (x0_4 : Int) (x0_5 : Int) (x0_6 : Int) (x1_0 : ByteArray) (x1_1 : (List S98)) : Option (Int × Unit) := F Pr tb G 11 [⟨(.int .i64), x0_0⟩, ⟨(.int .i64), x0_1⟩, ⟨(.int .i64), x0_2⟩, ⟨(.int .i64), x0_3⟩, ⟨(.int .i64), x0_4⟩, ⟨(.int .i64), x0_5⟩, ⟨(.int .i64), x0_6⟩, ⟨.str, x1_0⟩, ⟨(.sl 98 (.st 98)), x1_1⟩]
noncomputable def F154_letheref05_Named_l15  : Option (Int × Unit) :=
  run Pr tb G fx11.fin Go.Proofs.Try.f154 fx11 ⟨todoAt Go.Proofs.Try.f154 15, [], []⟩
noncomputable def F154_letheref05_Named_l1000010 (v26 : (List S98)) (v27 : Int) (v28 : Int) (h0_0 : Int) (h0_1 : Int) (h0_2 : Int) (h0_3 : Int) (h0_4 : Int) (h0_5 : Int) (h0_6 : Int) (h1_0 : ByteArray) (h1_1 : (List S98)) : Option (Int × Unit) :=
  run Pr tb G fx11.fin Go.Proofs.Try.f154 fx11 ⟨todoAt Go.Proofs.Try.f154 1000010, [(2, .v (false, [.p 0 0])), (3, .v (false, [.p 1 0])), (26, .v (false, [.d (.sl 98 (.st 98)) v26])), (27, .v (false, [.d (.int .i64) v27])), (28, .v (false, [.d (.int .i64) v28]))], [.box 23 [.d (.int .i64) h0_0, .d (.int .i64) h0_1, .d (.int .i64) h0_2, .d (.int .i64) h0_3, .d (.int .i64) h0_4, .d (.int .i64) h0_5, .d (.int .i64) h0_6], .box 96 [.d .str h1_0, .d (.sl 98 (.st 98)) h1_1]]⟩
noncomputable def F66_quota_Right (x0_0 : Int) (x0_1 : Int) (x0_2 : Int) (x0_3 : Int) (x0_4 : Int) (x0_5 : Int) (x0_6 : Int) : Option (Int × Unit) := F Pr tb G 12 [⟨(.int .i64), x0_0⟩, ⟨(.int .i64), x0_1⟩, ⟨(.int .i64), x0_2⟩, ⟨(.int .i64), x0_3⟩, ⟨(.int .i64), x0_4⟩, ⟨(.int .i64), x0_5⟩, ⟨(.int .i64), x0_6⟩]
noncomputable def F66_quota_Right_l3  : Option (Int × Unit) :=
  run Pr tb G fx12.fin Go.Proofs.Try.f66 fx12 ⟨todoAt Go.Proofs.Try.f66 3, [], []⟩
noncomputable def F67_node_leafRight (x0_0 : Int) (x0_1 : Int) (x0_2 : Int) (x0_3 : Int) (x0_4 : Int) (x0_5 : Int) (x0_6 : Int) (x1_0 : Bool) (x1_1 : (List S96)) (x1_2 : (List S100)) : Option (Int × Unit) := F Pr tb G 13 [⟨(.int .i64), x0_0⟩, ⟨(.int .i64), x0_1⟩, ⟨(.int .i64), x0_2⟩, ⟨(.int .i64), x0_3⟩, ⟨(.int .i64), x0_4⟩, ⟨(.int .i64), x0_5⟩, ⟨(.int .i64), x0_6⟩, ⟨.bool, x1_0⟩, ⟨(.sl 96 (.st 96)), x1_1⟩, ⟨(.sl 100 (.st 100)), x1_2⟩]
noncomputable def F67_node_leafRight_l1000004 (v19 : (List S96)) (v20 : Int) (v21 : Int) (h0_0 : Int) (h0_1 : Int) (h0_2 : Int) (h0_3 : Int) (h0_4 : Int) (h0_5 : Int) (h0_6 : Int) (h1_0 : Bool) (h1_1 : (List S96)) (h1_2 : (List S100)) : Option (Int × Unit) :=
  run Pr tb G fx13.fin Go.Proofs.Try.f67 fx13 ⟨todoAt Go.Proofs.Try.f67 1000004, [(2, .v (false, [.p 0 0])), (3, .v (false, [.p 1 0])), (19, .v (false, [.d (.sl 96 (.st 96)) v19])), (20, .v (false, [.d (.int .i64) v20])), (21, .v (false, [.d (.int .i64) v21]))], [.box 23 [.d (.int .i64) h0_0, .d (.int .i64) h0_1, .d (.int .i64) h0_2, .d (.int .i64) h0_3, .d (.int .i64) h0_4, .d (.int .i64) h0_5, .d (.int .i64) h0_6], .box 27 [.d .bool h1_0, .d (.sl 96 (.st 96)) h1_1, .d (.sl 100 (.st 100)) h1_2]]⟩
noncomputable def F122_entry_Right (x0_0 : Int) (x0_1 : Int) (x0_2 : Int) (x0_3 : Int) (x0_4 : Int) (x0_5 : Int) (x0_6 : Int) (x1_0 : ByteArray) (x1_1 : (List S98)) : Option (Int × Unit) := F Pr tb G 14 [⟨(.int .i64), x0_0⟩, ⟨(.int .i64), x0_1⟩, ⟨(.int .i64), x0_2⟩, ⟨(.int .i64), x0_3⟩, ⟨(.int .i64), x0_4⟩, ⟨(.int .i64), x0_5⟩, ⟨(.int .i64), x0_6⟩, ⟨.str, x1_0⟩, ⟨(.sl 98 (.st 98)), x1_1⟩]
noncomputable def F153_entry_named (x0_0 : Int) (x0_1 : Int) (x0_2 : Int) (x0_3 : Int) (x0_4 : Int) (x0_5 : Int) (x0_6 : Int) (x1_0 : ByteArray) (x1_1 : (List S98)) : Option (Int × Unit) := F Pr tb G 15 [⟨(.int .i64), x0_0⟩, ⟨(.int .i64), x0_1⟩, ⟨(.int .i64), x0_2⟩, ⟨(.int .i64), x0_3⟩, ⟨(.int .i64), x0_4⟩, ⟨(.int .i64), x0_5⟩, ⟨(.int .i64), x0_6⟩, ⟨.str, x1_0⟩, ⟨(.sl 98 (.st 98)), x1_1⟩]
noncomputable def F153_entry_named_l1000011 (v5 : Int) (v32 : (List S98)) (v33 : Int) (v34 : Int) (h0_0 : Int) (h0_1 : Int) (h0_2 : Int) (h0_3 : Int) (h0_4 : Int) (h0_5 : Int) (h0_6 : Int) : Option (Int × Unit) :=
  run Pr tb G fx15.fin Go.Proofs.Try.f153 fx15 ⟨todoAt Go.Proofs.Try.f153 1000011, [(2, .v (false, [.p 0 0])), (5, .v (false, [.d (.int .i64) v5])), (32, .v (false, [.d (.sl 98 (.st 98)) v32])), (33, .v (false, [.d (.int .i64) v33])), (34, .v (false, [.d (.int .i64) v34]))], [.box 23 [.d (.int .i64) h0_0, .d (.int .i64) h0_1, .d (.int .i64) h0_2, .d (.int .i64) h0_3, .d (.int .i64) h0_4, .d (.int .i64) h0_5, .d (.int .i64) h0_6]]⟩
noncomputable def F184_entry_texts (x0_0 : Int) (x0_1 : Int) (x0_2 : Int) (x0_3 : Int) (x0_4 : Int) (x0_5 : Int) (x0_6 : Int) (x1 : ByteArray) (x2 : ByteArray) : Option (Int × Unit) := F Pr tb G 16 [⟨(.int .i64), x0_0⟩, ⟨(.int .i64), x0_1⟩, ⟨(.int .i64), x0_2⟩, ⟨(.int .i64), x0_3⟩, ⟨(.int .i64), x0_4⟩, ⟨(.int .i64), x0_5⟩, ⟨(.int .i64), x0_6⟩, ⟨.str, x1⟩, ⟨.str, x2⟩]
noncomputable def F121_quota_in (x0 : Int) (x1 : Int) (x2 : Int) : Option (Bool × Unit) := F Pr tb G 17 [⟨(.int .i64), x0⟩, ⟨(.int .i64), x1⟩, ⟨(.int .i64), x2⟩]
end
end Go.Proofs.Ytgfaplkbajjheaa.NodeRightsx
