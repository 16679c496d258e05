/- The law EntryTexts: types, signatures and names of the functions that it reaches. Under no condition. -/
import Derived.Test.YteoggpajjljfmaaRxI
import Derived.Test.YteoggpajjljfmaaRxC
import Derived.Test.YteoggpajjljfmaaProg
import Derived.Test.YteoggpajjljfmaaRxG
import Derived.Ground.NamesProg
import Derived.Ground.Names2Prog
import Derived.Shelf.Lay
import Derived.KernelRfl
set_option linter.unusedVariables false
set_option maxRecDepth 100000
namespace Go.Proofs.Yteoggpajjljfmaa.EntryTextsx
open Go Go.RowKit Go.Proofs.Yteoggpajjljfmaa.Rx Go.Proofs.Yteoggpajjljfmaa.EntryTextsx
noncomputable section
structure S58 where mk ::
  (f0 : Int) (f1 : ByteArray) (f2 : ByteArray)
theorem S58.eta (x : S58) : S58.mk x.f0 x.f1 x.f2 = x := rfl
noncomputable def S58.z : S58 := S58.mk (0 : Int) ByteArray.empty ByteArray.empty
structure S56 where mk ::
  (f0 : ByteArray) (f1 : (List S58))
theorem S56.eta (x : S56) : S56.mk x.f0 x.f1 = x := rfl
noncomputable def S56.z : S56 := S56.mk ByteArray.empty []
noncomputable def S (n : Nat) : Type := if n = 58 then S58 else if n = 56 then S56 else Unit
noncomputable def fs (n : Nat) : List Ty := if n = 58 then [(.int .i64), .str, .str] else if n = 56 then [.str, (.sl 58 (.st 58))] else []
theorem fs_no {n : Nat} (h58 : ¬ n = 58) (h56 : ¬ n = 56) : fs n = [] := by simp only [fs, h58, h56, if_false]
theorem S_no {n : Nat} (h58 : ¬ n = 58) (h56 : ¬ n = 56) : S n = Unit := by simp only [S, h58, h56, if_false]
noncomputable def out (n : Nat) : S n → HL S (fs n) :=
  if h58 : n = 58 then by subst h58; exact fun (x : S58) => (x.f0, x.f1, x.f2, ()) else if h56 : n = 56 then by subst h56; exact fun (x : S56) => (x.f0, x.f1, ()) else by intro _; rw [fs_no h58 h56]; exact ()
noncomputable def pk (n : Nat) : HL S (fs n) → S n :=
  if h58 : n = 58 then by subst h58; exact fun (x : Int × ByteArray × ByteArray × Unit) => S58.mk x.1 x.2.1 x.2.2.1 else if h56 : n = 56 then by subst h56; exact fun (x : ByteArray × (List S58) × Unit) => S56.mk x.1 x.2.1 else by intro _; rw [S_no h58 h56]; exact ()
noncomputable def z (n : Nat) : S n :=
  if h58 : n = 58 then by subst h58; exact S58.z else if h56 : n = 56 then by subst h56; exact S56.z else by rw [S_no h58 h56]; exact ()
theorem out_pk (n : Nat) (h : HL S (fs n)) : out n (pk n h) = h := by
  by_cases h58 : n = 58
  · subst h58; rfl
  by_cases h56 : n = 56
  · subst h56; rfl
  have e : ∀ a b : HL S (fs n), a = b := by rw [fs_no h58 h56]; intro a b; rfl
  exact e _ _
theorem pk_out (n : Nat) (x : S n) : pk n (out n x) = x := by
  by_cases h58 : n = 58
  · subst h58; exact S58.eta x
  by_cases h56 : n = 56
  · subst h56; exact S56.eta x
  have e : ∀ a b : S n, a = b := by rw [S_no h58 h56]; intro a b; rfl
  exact e _ _
noncomputable def tab : Tab := { S := S, fs := fs, out := out, pk := pk, z := z, out_pk := out_pk, pk_out := pk_out }
noncomputable abbrev Pr := Go.Proofs.Try.prog
noncomputable def fx0 : Fx := ⟨[(false, [.d (.sl 56 (.st 56))])], [], [(false, [.d .bool])], [], [], none⟩
noncomputable def fx1 : Fx := ⟨[(false, [.d (.sl 56 (.st 56))])], [], [(false, [.d (.sl 9 .str)])], [], [(1000003, ⟨[(3, [.o 9 .str]), (8, [.d (.sl 56 (.st 56))]), (9, [.d (.int .i64)]), (10, [.d (.int .i64)])], []⟩), (1000007, ⟨[(3, [.o 9 .str]), (8, [.d (.sl 56 (.st 56))]), (9, [.d (.int .i64)]), (10, [.d (.int .i64)]), (20, [.d (.sl 58 (.st 58))]), (21, [.d (.int .i64)]), (22, [.d (.int .i64)])], []⟩)], none⟩
noncomputable def fx2 : Fx := ⟨[(false, [.d (.sl 56 (.st 56))])], [], [(false, [.g 0 9 .str])], [.gr 9 .str false], [(1000003, ⟨[(3, [.o 9 .str]), (9, [.d (.sl 56 (.st 56))]), (10, [.d (.int .i64)]), (11, [.d (.int .i64)])], []⟩), (1000007, ⟨[(3, [.o 9 .str]), (9, [.d (.sl 56 (.st 56))]), (10, [.d (.int .i64)]), (11, [.d (.int .i64)]), (20, [.d (.sl 58 (.st 58))]), (21, [.d (.int .i64)]), (22, [.d (.int .i64)])], []⟩)], none⟩
noncomputable def fx3 : Fx := ⟨[(false, [.d (.sl 9 .str)]), (false, [.d (.sl 9 .str)])], [], [(false, [.d .bool])], [], [(1000004, ⟨[(0, [.d (.sl 9 .str)]), (1, [.d (.sl 9 .str)]), (12, [.d (.int .i64)]), (13, [.d (.int .i64)])], []⟩)], none⟩
noncomputable def fx4 : Fx := ⟨[(false, [.d (.sl 9 .str)]), (false, [.d .str])], [], [(false, [.g 0 9 .str])], [.gr 9 .str false], [(10, ⟨[(1, [.d .str]), (5, [.o 9 .str]), (6, [.d .bool]), (8, [.d .str]), (10, [.d (.sl 9 .str)]), (11, [.d (.int .i64)]), (12, [.d (.int .i64)])], []⟩), (1000004, ⟨[(1, [.d .str]), (5, [.o 9 .str]), (6, [.d .bool]), (10, [.d (.sl 9 .str)]), (11, [.d (.int .i64)]), (12, [.d (.int .i64)])], []⟩)], none⟩
noncomputable def fx5 : Fx := ⟨[(false, [.g 0 9 .str])], [.gr 9 .str false], [], [.gr 9 .str false], [], none⟩
noncomputable def fx6 : Fx := ⟨[(false, [.g 0 9 .str])], [.gr 9 .str false], [(false, [.g 1 9 .str])], [.no, .gr 9 .str false], [], none⟩
noncomputable def fx7 : Fx := ⟨[(false, [.d (.sl 9 .str)])], [], [(false, [.d (.sl 9 .str)])], [], [], none⟩
noncomputable def tb : List (FuncId × Fx) := [(5, fx0), (14, fx1), (15, fx2), (13, fx3), (28, fx4), (25, fx5), (27, fx6), (26, fx7)]
theorem tbOk : TbOk Pr tb := tbOk_of (by kernel_rfl)
theorem fn0 : fnAt Pr tb 0 = some Go.Proofs.Try.f5 := by kernel_rfl
theorem fn1 : fnAt Pr tb 1 = some Go.Proofs.Try.f14 := by kernel_rfl
theorem fn2 : fnAt Pr tb 2 = some Go.Proofs.Try.f15 := by kernel_rfl
theorem fn3 : fnAt Pr tb 3 = some Go.Proofs.Try.f13 := by kernel_rfl
theorem fn4 : fnAt Pr tb 4 = some Go.Proofs.Try.f28 := by kernel_rfl
theorem fn5 : fnAt Pr tb 5 = some Go.Proofs.Try.f25 := by kernel_rfl
theorem fn6 : fnAt Pr tb 6 = some Go.Proofs.Try.f27 := by kernel_rfl
theorem fn7 : fnAt Pr tb 7 = some Go.Proofs.Try.f26 := by kernel_rfl
shelf_lay Lays.n194 Nm 194 at Try as sh_comp
shelf_lay Lays.n190 Nm 190 at Try as sh_sort
noncomputable def gl : List (Nat × GOp tab) := [(5, sortOp), (6, compOp)]
theorem gAll : GAll Pr tb gl := (GAll.cons (p := (5, sortOp)) (gone (p := (5, sortOp)) (f := 25) (fx := fx5) rfl (show GOk Pr 25 sortOp from sort_ok sh_sort)) (GAll.cons (p := (6, compOp)) (gone (p := (6, compOp)) (f := 27) (fx := fx6) rfl (show GOk Pr 27 compOp from comp_ok sh_comp)) GAll.nil))
noncomputable def G : Giv tab tb := giv tb gl
theorem F_holds (key : Nat) : Snd Pr tb key (F Pr tb G key) := F_ok tbOk (giv_ok gAll) key
theorem okL : okS Pr tab.fs [56, 58] [56, 58] = true := by kernel_rfl
noncomputable def F5_lethelaw05_EntryTexts (x0 : (List S56)) : Option (Bool × Unit) := F Pr tb G 0 [⟨(.sl 56 (.st 56)), x0⟩]
noncomputable def F14_entry_Texts (x0 : (List S56)) : Option ((List ByteArray) × Unit) := F Pr tb G 1 [⟨(.sl 56 (.st 56)), x0⟩]
noncomputable def F14_entry_Texts_l1000003 (v8 : (List S56)) (v9 : Int) (v10 : Int) (g0 : (List ByteArray)) : Option ((List ByteArray) × Unit) :=
  run Pr tb G fx1.fin Go.Proofs.Try.f14 fx1 ⟨todoAt Go.Proofs.Try.f14 1000003, [(3, .v (false, [.g 0])), (8, .v (false, [.d (.sl 56 (.st 56)) v8])), (9, .v (false, [.d (.int .i64) v9])), (10, .v (false, [.d (.int .i64) v10]))], [.gr 9 .str g0 false]⟩
noncomputable def F14_entry_Texts_l1000007 (v8 : (List S56)) (v9 : Int) (v10 : Int) (v20 : (List S58)) (v21 : Int) (v22 : Int) (g0 : (List ByteArray)) : Option ((List ByteArray) × Unit) :=
  run Pr tb G fx1.fin Go.Proofs.Try.f14 fx1 ⟨todoAt Go.Proofs.Try.f14 1000007, [(3, .v (false, [.g 0])), (8, .v (false, [.d (.sl 56 (.st 56)) v8])), (9, .v (false, [.d (.int .i64) v9])), (10, .v (false, [.d (.int .i64) v10])), (20, .v (false, [.d (.sl 58 (.st 58)) v20])), (21, .v (false, [.d (.int .i64) v21])), (22, .v (false, [.d (.int .i64) v22]))], [.gr 9 .str g0 false]⟩
noncomputable def F15_letheref05_Texts (x0 : (List S56)) : Option ((List ByteArray) × Unit) := F Pr tb G 2 [⟨(.sl 56 (.st 56)), x0⟩]
noncomputable def F15_letheref05_Texts_l1000003 (v9 : (List S56)) (v10 : Int) (v11 : Int) (g0 : (List ByteArray)) : Option ((List ByteArray) × Unit) :=
  run Pr tb G fx2.fin Go.Proofs.Try.f15 fx2 ⟨todoAt Go.Proofs.Try.f15 1000003, [(3, .v (false, [.g 0])), (9, .v (false, [.d (.sl 56 (.st 56)) v9])), (10, .v (false, [.d (.int .i64) v10])), (11, .v (false, [.d (.int .i64) v11]))], [.gr 9 .str g0 false]⟩
noncomputable def F15_letheref05_Texts_l1000007 (v9 : (List S56)) (v10 : Int) (v11 : Int) (v20 : (List S58)) (v21 : Int) (v22 : Int) (g0 : (List ByteArray)) : Option ((List ByteArray) × Unit) :=
  run Pr tb G fx2.fin Go.Proofs.Try.f15 fx2 ⟨todoAt Go.Proofs.Try.f15 1000007, [(3, .v (false, [.g 0])), (9, .v (false, [.d (.sl 56 (.st 56)) v9])), (10, .v (false, [.d (.int .i64) v10])), (11, .v (false, [.d (.int .i64) v11])), (20, .v (false, [.d (.sl 58 (.st 58)) v20])), (21, .v (false, [.d (.int .i64) v21])), (22, .v (false, [.d (.int .i64) v22]))], [.gr 9 .str g0 false]⟩
noncomputable def F13_letheref02_SameTexts (x0 : (List ByteArray)) (x1 : (List ByteArray)) : Option (Bool × Unit) := F Pr tb G 3 [⟨(.sl 9 .str), x0⟩, ⟨(.sl 9 .str), x1⟩]
noncomputable def F13_letheref02_SameTexts_l1000004 (v0 : (List ByteArray)) (v1 : (List ByteArray)) (v12 : Int) (v13 : Int) : Option (Bool × Unit) :=
  run Pr tb G fx3.fin Go.Proofs.Try.f13 fx3 ⟨todoAt Go.Proofs.Try.f13 1000004, [(0, .v (false, [.d (.sl 9 .str) v0])), (1, .v (false, [.d (.sl 9 .str) v1])), (12, .v (false, [.d (.int .i64) v12])), (13, .v (false, [.d (.int .i64) v13]))], []⟩
noncomputable def F28_letheref02_Insert (x0 : (List ByteArray)) (x1 : ByteArray) : Option ((List ByteArray) × Unit) := F Pr tb G 4 [⟨(.sl 9 .str), x0⟩, ⟨.str, x1⟩]
noncomputable def F28_letheref02_Insert_l10 (v1 : ByteArray) (v6 : Bool) (v8 : ByteArray) (v10 : (List ByteArray)) (v11 : Int) (v12 : Int) (g0 : (List ByteArray)) : Option ((List ByteArray) × Unit) :=
  run Pr tb G fx4.fin Go.Proofs.Try.f28 fx4 ⟨todoAt Go.Proofs.Try.f28 10, [(1, .v (false, [.d .str v1])), (5, .v (false, [.g 0])), (6, .v (false, [.d .bool v6])), (8, .v (false, [.d .str v8])), (10, .v (false, [.d (.sl 9 .str) v10])), (11, .v (false, [.d (.int .i64) v11])), (12, .v (false, [.d (.int .i64) v12]))], [.gr 9 .str g0 false]⟩
noncomputable def F28_letheref02_Insert_l1000004 (v1 : ByteArray) (v6 : Bool) (v10 : (List ByteArray)) (v11 : Int) (v12 : Int) (g0 : (List ByteArray)) : Option ((List ByteArray) × Unit) :=
  run Pr tb G fx4.fin Go.Proofs.Try.f28 fx4 ⟨todoAt Go.Proofs.Try.f28 1000004, [(1, .v (false, [.d .str v1])), (5, .v (false, [.g 0])), (6, .v (false, [.d .bool v6])), (10, .v (false, [.d (.sl 9 .str) v10])), (11, .v (false, [.d (.int .i64) v11])), (12, .v (false, [.d (.int .i64) v12]))], [.gr 9 .str g0 false]⟩
noncomputable def F25_slices_Sort (g0 : (List ByteArray)) : Option ((List ByteArray) × Unit) := F Pr tb G 5 [⟨(.sl 9 .str), g0⟩]
noncomputable def F27_slices_Compact (g0 : (List ByteArray)) : Option ((List ByteArray) × Unit) := F Pr tb G 6 [⟨(.sl 9 .str), g0⟩]
noncomputable def F26_slices_Clip (x0 : (List ByteArray)) : Option ((List ByteArray) × Unit) := F Pr tb G 7 [⟨(.sl 9 .str), x0⟩]
end
end Go.Proofs.Yteoggpajjljfmaa.EntryTextsx
