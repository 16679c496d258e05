/- The law EntryKeeps: types, signatures and names of the functions that it reaches. Under no condition. -/
import Derived.Test.YtpnjchejnghplaaRxI
import Derived.Test.YtpnjchejnghplaaRxC
import Derived.Test.YtpnjchejnghplaaProg
import Derived.KernelRfl
set_option linter.unusedVariables false
set_option maxRecDepth 100000
namespace Go.Proofs.Ytpnjchejnghplaa.EntryKeepsx
open Go Go.RowKit Go.Proofs.Ytpnjchejnghplaa.Rx Go.Proofs.Ytpnjchejnghplaa.EntryKeepsx
noncomputable section
structure S26 where mk ::
  (f0 : Int) (f1 : ByteArray) (f2 : ByteArray)
theorem S26.eta (x : S26) : S26.mk x.f0 x.f1 x.f2 = x := rfl
noncomputable def S26.z : S26 := S26.mk (0 : Int) ByteArray.empty ByteArray.empty
noncomputable def S (n : Nat) : Type := if n = 26 then S26 else Unit
noncomputable def fs (n : Nat) : List Ty := if n = 26 then [(.int .i64), .str, .str] else []
theorem fs_no {n : Nat} (h26 : ¬ n = 26) : fs n = [] := by simp only [fs, h26, if_false]
theorem S_no {n : Nat} (h26 : ¬ n = 26) : S n = Unit := by simp only [S, h26, if_false]
noncomputable def out (n : Nat) : S n → HL S (fs n) :=
  if h26 : n = 26 then by subst h26; exact fun (x : S26) => (x.f0, x.f1, x.f2, ()) else by intro _; rw [fs_no h26]; exact ()
noncomputable def pk (n : Nat) : HL S (fs n) → S n :=
  if h26 : n = 26 then by subst h26; exact fun (x : Int × ByteArray × ByteArray × Unit) => S26.mk x.1 x.2.1 x.2.2.1 else by intro _; rw [S_no h26]; exact ()
noncomputable def z (n : Nat) : S n :=
  if h26 : n = 26 then by subst h26; exact S26.z else by rw [S_no h26]; exact ()
theorem out_pk (n : Nat) (h : HL S (fs n)) : out n (pk n h) = h := by
  by_cases h26 : n = 26
  · subst h26; rfl
  have e : ∀ a b : HL S (fs n), a = b := by rw [fs_no h26]; intro a b; rfl
  exact e _ _
theorem pk_out (n : Nat) (x : S n) : pk n (out n x) = x := by
  by_cases h26 : n = 26
  · subst h26; exact S26.eta x
  have e : ∀ a b : S n, a = b := by rw [S_no h26]; intro a b; rfl
  exact e _ _
noncomputable def tab : Tab := { S := S, fs := fs, out := out, pk := pk, z := z, out_pk := out_pk, pk_out := pk_out }
noncomputable abbrev Pr := Go.Proofs.Try.prog
noncomputable def fx0 : Fx := ⟨[(true, [.d (.int .i64), .d (.int .i64), .d (.int .i64), .d (.int .i64), .d (.int .i64), .d (.int .i64), .d (.int .i64)]), (true, [.d .str, .d (.sl 26 (.st 26))]), (false, [.d .str]), (false, [.d .str])], [], [(false, [.d .bool])], [], [(9, ⟨[], []⟩)]⟩
noncomputable def fx1 : Fx := ⟨[(true, [.d (.int .i64), .d (.int .i64), .d (.int .i64), .d (.int .i64), .d (.int .i64), .d (.int .i64), .d (.int .i64)]), (true, [.d .str, .d (.sl 26 (.st 26))]), (false, [.d .str]), (false, [.d .str])], [], [(true, [.d .str, .d (.sl 26 (.st 26)), .d (.sl 26 (.st 26)), .d (.int .i64)])], [], []⟩
noncomputable def fx2 : Fx := ⟨[(true, [.d (.int .i64), .d (.int .i64), .d (.int .i64), .d (.int .i64), .d (.int .i64), .d (.int .i64), .d (.int .i64)]), (true, [.d .str, .d (.sl 26 (.st 26))]), (false, [.d .str]), (false, [.d .str])], [], [(true, [.d .str, .d (.sl 26 (.st 26))]), (false, [.g 0 26 (.st 26)]), (false, [.d (.int .i64)])], [.gr 26 (.st 26) false], []⟩
noncomputable def fx3 : Fx := ⟨[(true, [.d (.int .i64), .d (.int .i64), .d (.int .i64), .d (.int .i64), .d (.int .i64), .d (.int .i64), .d (.int .i64)]), (true, [.d .str, .d (.sl 26 (.st 26))]), (false, [.d .str]), (false, [.d .str])], [], [(true, [.d .str, .d (.sl 26 (.st 26))]), (false, [.g 0 26 (.st 26)]), (false, [.d (.int .i64)])], [.gr 26 (.st 26) false], []⟩
noncomputable def fx4 : Fx := ⟨[(true, [.d .str, .d (.sl 26 (.st 26))])], [], [(true, [.d (.int .i64), .d .str, .d .str]), (false, [.d .bool])], [], []⟩
noncomputable def fx5 : Fx := ⟨[(true, [.d (.int .i64), .d (.int .i64), .d (.int .i64), .d (.int .i64), .d (.int .i64), .d (.int .i64), .d (.int .i64)]), (true, [.d .str, .d (.sl 26 (.st 26))])], [], [(false, [.d (.int .i64)])], [], []⟩
noncomputable def fx6 : Fx := ⟨[(false, [.d (.sl 26 (.st 26))]), (false, [.d (.sl 26 (.st 26))])], [], [(false, [.d .bool])], [], [(1000004, ⟨[(0, [.d (.sl 26 (.st 26))]), (1, [.d (.sl 26 (.st 26))]), (12, [.d (.int .i64)]), (13, [.d (.int .i64)])], []⟩)]⟩
noncomputable def fx7 : Fx := ⟨[(true, [.d (.int .i64), .d (.int .i64), .d (.int .i64), .d (.int .i64), .d (.int .i64), .d (.int .i64), .d (.int .i64)]), (true, [.d .str, .d (.sl 26 (.st 26))])], [], [(false, [.d (.int .i64)])], [], [(1000011, ⟨[(2, [.k]), (5, [.d (.int .i64)]), (32, [.d (.sl 26 (.st 26))]), (33, [.d (.int .i64)]), (34, [.d (.int .i64)])], [[.d (.int .i64), .d (.int .i64), .d (.int .i64), .d (.int .i64), .d (.int .i64), .d (.int .i64), .d (.int .i64)]]⟩)]⟩
noncomputable def fx8 : Fx := ⟨[(true, [.d (.int .i64), .d (.int .i64), .d (.int .i64), .d (.int .i64), .d (.int .i64), .d (.int .i64), .d (.int .i64)])], [], [(false, [.d (.int .i64)])], [], [(3, ⟨[], []⟩)]⟩
noncomputable def fx9 : Fx := ⟨[(true, [.d (.int .i64), .d (.int .i64), .d (.int .i64), .d (.int .i64), .d (.int .i64), .d (.int .i64), .d (.int .i64)]), (false, [.d .str]), (false, [.d .str])], [], [(false, [.d (.int .i64)])], [], []⟩
noncomputable def fx10 : Fx := ⟨[(false, [.d (.int .i64)]), (false, [.d (.int .i64)]), (false, [.d (.int .i64)])], [], [(false, [.d .bool])], [], []⟩
noncomputable def fx11 : Fx := ⟨[(true, [.d (.int .i64), .d (.int .i64), .d (.int .i64), .d (.int .i64), .d (.int .i64), .d (.int .i64), .d (.int .i64)]), (true, [.d .str, .d (.sl 26 (.st 26))]), (false, [.d .str]), (false, [.d .str]), (false, [.d (.int .i64)])], [], [(true, [.d .str, .d (.sl 26 (.st 26))]), (false, [.g 0 26 (.st 26)]), (false, [.d (.int .i64)])], [.gr 26 (.st 26) false], []⟩
noncomputable def fx12 : Fx := ⟨[(false, [.d (.sl 26 (.st 26))])], [], [(false, [.g 0 26 (.st 26)])], [.gr 26 (.st 26) false], []⟩
noncomputable def fx13 : Fx := ⟨[(true, [.d (.int .i64), .d (.int .i64), .d (.int .i64), .d (.int .i64), .d (.int .i64), .d (.int .i64), .d (.int .i64)]), (true, [.d .str, .d (.sl 26 (.st 26))]), (false, [.d .str]), (false, [.d .str]), (false, [.d (.int .i64)])], [], [(true, [.d .str, .d (.sl 26 (.st 26)), .d (.sl 26 (.st 26)), .d (.int .i64)])], [], [(1000014, ⟨[(2, [.d .str]), (3, [.d .str]), (4, [.d (.int .i64)]), (10, [.k]), (12, [.d (.int .i64)]), (13, [.d (.int .i64)]), (14, [.k]), (58, [.d (.sl 26 (.st 26))]), (59, [.d (.int .i64)]), (60, [.d (.int .i64)])], [[.d .str, .o 26 (.st 26), .o 26 (.st 26), .d (.int .i64)], [.d .str, .o 26 (.st 26), .o 26 (.st 26), .d (.int .i64)]]⟩)]⟩
noncomputable def fx14 : Fx := ⟨[(true, [.d (.int .i64), .d (.int .i64), .d (.int .i64), .d (.int .i64), .d (.int .i64), .d (.int .i64), .d (.int .i64)]), (true, [.d .str, .d (.sl 26 (.st 26))])], [], [(false, [.d (.int .i64)])], [], [(15, ⟨[], []⟩), (1000010, ⟨[(2, [.k]), (3, [.k]), (26, [.d (.sl 26 (.st 26))]), (27, [.d (.int .i64)]), (28, [.d (.int .i64)])], [[.d (.int .i64), .d (.int .i64), .d (.int .i64), .d (.int .i64), .d (.int .i64), .d (.int .i64), .d (.int .i64)], [.d .str, .d (.sl 26 (.st 26))]]⟩)]⟩
noncomputable def fx15 : Fx := ⟨[(true, [.d (.int .i64), .d (.int .i64), .d (.int .i64), .d (.int .i64), .d (.int .i64), .d (.int .i64), .d (.int .i64)])], [], [(false, [.d .bool])], [], [(2, ⟨[], []⟩)]⟩
noncomputable def tb : List (FuncId × Fx) := [(12, fx0), (26, fx1), (25, fx2), (27, fx3), (13, fx4), (23, fx5), (30, fx6), (34, fx7), (38, fx8), (39, fx9), (41, fx10), (35, fx11), (40, fx12), (36, fx13), (32, fx14), (37, fx15)]
theorem tbOk : TbOk Pr tb := tbOk_of (by kernel_rfl)
theorem fn0 : fnAt Pr tb 0 = some Go.Proofs.Try.f12 := by kernel_rfl
theorem fn1 : fnAt Pr tb 1 = some Go.Proofs.Try.f26 := by kernel_rfl
theorem fn2 : fnAt Pr tb 2 = some Go.Proofs.Try.f25 := by kernel_rfl
theorem fn3 : fnAt Pr tb 3 = some Go.Proofs.Try.f27 := by kernel_rfl
theorem fn4 : fnAt Pr tb 4 = some Go.Proofs.Try.f13 := by kernel_rfl
theorem fn5 : fnAt Pr tb 5 = some Go.Proofs.Try.f23 := by kernel_rfl
theorem fn6 : fnAt Pr tb 6 = some Go.Proofs.Try.f30 := by kernel_rfl
theorem fn7 : fnAt Pr tb 7 = some Go.Proofs.Try.f34 := by kernel_rfl
theorem fn8 : fnAt Pr tb 8 = some Go.Proofs.Try.f38 := by kernel_rfl
theorem fn9 : fnAt Pr tb 9 = some Go.Proofs.Try.f39 := by kernel_rfl
theorem fn10 : fnAt Pr tb 10 = some Go.Proofs.Try.f41 := by kernel_rfl
theorem fn11 : fnAt Pr tb 11 = some Go.Proofs.Try.f35 := by kernel_rfl
theorem fn12 : fnAt Pr tb 12 = some Go.Proofs.Try.f40 := by kernel_rfl
theorem fn13 : fnAt Pr tb 13 = some Go.Proofs.Try.f36 := by kernel_rfl
theorem fn14 : fnAt Pr tb 14 = some Go.Proofs.Try.f32 := by kernel_rfl
theorem fn15 : fnAt Pr tb 15 = some Go.Proofs.Try.f37 := by kernel_rfl
noncomputable def G : Giv tab tb := fun _ => none
theorem F_holds (key : Nat) : Snd Pr tb key (F Pr tb G key) := F_ok tbOk (fun _ _ h => by cases h) key
theorem okL : okS Pr tab.fs [26] [26] = true := by kernel_rfl
noncomputable def F12_lethelaw05_EntryKeeps (x0_0 : Int) (x0_1 : Int) (x0_2 : Int) (x0_3 : Int) (x0_4 : Int) (x0_5 : Int) (x0_6 : Int) (x1_0 : ByteArray) (x1_1 : (List S26)) (x2 : ByteArray) (x3 : ByteArray) : Option (Bool × Unit) := F Pr tb G 0 [⟨(.int .i64), x0_0⟩, ⟨(.int .i64), x0_1⟩, ⟨(.int .i64), x0_2⟩, ⟨(.int .i64), x0_3⟩, ⟨(.int .i64), x0_4⟩, ⟨(.int .i64), x0_5⟩, ⟨(.int .i64), x0_6⟩, ⟨.str, x1_0⟩, ⟨(.sl 26 (.st 26)), x1_1⟩, ⟨.str, x2⟩, ⟨.str, x3⟩]
noncomputable def F12_lethelaw05_EntryKeeps_l9  : Option (Bool × Unit) :=
  run Pr tb G fx0.fin Go.Proofs.Try.f12 fx0 ⟨todoAt Go.Proofs.Try.f12 9, [], []⟩
noncomputable def F26_letheref05_Put (x0_0 : Int) (x0_1 : Int) (x0_2 : Int) (x0_3 : Int) (x0_4 : Int) (x0_5 : Int) (x0_6 : Int) (x1_0 : ByteArray) (x1_1 : (List S26)) (x2 : ByteArray) (x3 : ByteArray) : Option (ByteArray × (List S26) × (List S26) × Int × Unit) := F Pr tb G 1 [⟨(.int .i64), x0_0⟩, ⟨(.int .i64), x0_1⟩, ⟨(.int .i64), x0_2⟩, ⟨(.int .i64), x0_3⟩, ⟨(.int .i64), x0_4⟩, ⟨(.int .i64), x0_5⟩, ⟨(.int .i64), x0_6⟩, ⟨.str, x1_0⟩, ⟨(.sl 26 (.st 26)), x1_1⟩, ⟨.str, x2⟩, ⟨.str, x3⟩]
noncomputable def F25_entry_Put (x0_0 : Int) (x0_1 : Int) (x0_2 : Int) (x0_3 : Int) (x0_4 : Int) (x0_5 : Int) (x0_6 : Int) (x1_0 : ByteArray) (x1_1 : (List S26)) (x2 : ByteArray) (x3 : ByteArray) : Option (ByteArray × (List S26) × Int × (List S26) × Unit) := F Pr tb G 2 [⟨(.int .i64), x0_0⟩, ⟨(.int .i64), x0_1⟩, ⟨(.int .i64), x0_2⟩, ⟨(.int .i64), x0_3⟩, ⟨(.int .i64), x0_4⟩, ⟨(.int .i64), x0_5⟩, ⟨(.int .i64), x0_6⟩, ⟨.str, x1_0⟩, ⟨(.sl 26 (.st 26)), x1_1⟩, ⟨.str, x2⟩, ⟨.str, x3⟩]
noncomputable def F27_entry_Over (x0_0 : Int) (x0_1 : Int) (x0_2 : Int) (x0_3 : Int) (x0_4 : Int) (x0_5 : Int) (x0_6 : Int) (x1_0 : ByteArray) (x1_1 : (List S26)) (x2 : ByteArray) (x3 : ByteArray) : Option (ByteArray × (List S26) × Int × (List S26) × Unit) := F Pr tb G 3 [⟨(.int .i64), x0_0⟩, ⟨(.int .i64), x0_1⟩, ⟨(.int .i64), x0_2⟩, ⟨(.int .i64), x0_3⟩, ⟨(.int .i64), x0_4⟩, ⟨(.int .i64), x0_5⟩, ⟨(.int .i64), x0_6⟩, ⟨.str, x1_0⟩, ⟨(.sl 26 (.st 26)), x1_1⟩, ⟨.str, x2⟩, ⟨.str, x3⟩]
noncomputable def F13_entry_Last (x0_0 : ByteArray) (x0_1 : (List S26)) : Option (Int × ByteArray × ByteArray × Bool × Unit) := F Pr tb G 4 [⟨.str, x0_0⟩, ⟨(.sl 26 (.st 26)), x0_1⟩]
noncomputable def F23_entry_Right (x0_0 : Int) (x0_1 : Int) (x0_2 : Int) (x0_3 : Int) (x0_4 : Int) (x0_5 : Int) (x0_6 : Int) (x1_0 : ByteArray) (x1_1 : (List S26)) : Option (Int × Unit) := F Pr tb G 5 [⟨(.int .i64), x0_0⟩, ⟨(.int .i64), x0_1⟩, ⟨(.int .i64), x0_2⟩, ⟨(.int .i64), x0_3⟩, ⟨(.int .i64), x0_4⟩, ⟨(.int .i64), x0_5⟩, ⟨(.int .i64), x0_6⟩, ⟨.str, x1_0⟩, ⟨(.sl 26 (.st 26)), x1_1⟩]
noncomputable def F30_letheref05_LikeVersions (x0 : (List S26)) (x1 : (List S26)) : Option (Bool × Unit) := F Pr tb G 6 [⟨(.sl 26 (.st 26)), x0⟩, ⟨(.sl 26 (.st 26)), x1⟩]
noncomputable def F30_letheref05_LikeVersions_l1000004 (v0 : (List S26)) (v1 : (List S26)) (v12 : Int) (v13 : Int) : Option (Bool × Unit) :=
  run Pr tb G fx6.fin Go.Proofs.Try.f30 fx6 ⟨todoAt Go.Proofs.Try.f30 1000004, [(0, .v (false, [.d (.sl 26 (.st 26)) v0])), (1, .v (false, [.d (.sl 26 (.st 26)) v1])), (12, .v (false, [.d (.int .i64) v12])), (13, .v (false, [.d (.int .i64) v13]))], []⟩
noncomputable def F34_entry_named (x0_0 : Int) (x0_1 : Int) (x0_2 : Int) (x0_3 : Int) (x0_4 : Int) (x0_5 : Int) (x0_6 : Int) (x1_0 : ByteArray) (x1_1 : (List S26)) : Option (Int × Unit) := F Pr tb G 7 [⟨(.int .i64), x0_0⟩, ⟨(.int .i64), x0_1⟩, ⟨(.int .i64), x0_2⟩, ⟨(.int .i64), x0_3⟩, ⟨(.int .i64), x0_4⟩, ⟨(.int .i64), x0_5⟩, ⟨(.int .i64), x0_6⟩, ⟨.str, x1_0⟩, ⟨(.sl 26 (.st 26)), x1_1⟩]
noncomputable def F34_entry_named_l1000011 (v5 : Int) (v32 : (List S26)) (v33 : Int) (v34 : Int) (h0_0 : Int) (h0_1 : Int) (h0_2 : Int) (h0_3 : Int) (h0_4 : Int) (h0_5 : Int) (h0_6 : Int) : Option (Int × Unit) :=
  run Pr tb G fx7.fin Go.Proofs.Try.f34 fx7 ⟨todoAt Go.Proofs.Try.f34 1000011, [(2, .v (false, [.p 0 0])), (5, .v (false, [.d (.int .i64) v5])), (32, .v (false, [.d (.sl 26 (.st 26)) v32])), (33, .v (false, [.d (.int .i64) v33])), (34, .v (false, [.d (.int .i64) v34]))], [.box 47 [.d (.int .i64) h0_0, .d (.int .i64) h0_1, .d (.int .i64) h0_2, .d (.int .i64) h0_3, .d (.int .i64) h0_4, .d (.int .i64) h0_5, .d (.int .i64) h0_6]]⟩
noncomputable def F38_quota_Right (x0_0 : Int) (x0_1 : Int) (x0_2 : Int) (x0_3 : Int) (x0_4 : Int) (x0_5 : Int) (x0_6 : Int) : Option (Int × Unit) := F Pr tb G 8 [⟨(.int .i64), x0_0⟩, ⟨(.int .i64), x0_1⟩, ⟨(.int .i64), x0_2⟩, ⟨(.int .i64), x0_3⟩, ⟨(.int .i64), x0_4⟩, ⟨(.int .i64), x0_5⟩, ⟨(.int .i64), x0_6⟩]
noncomputable def F38_quota_Right_l3  : Option (Int × Unit) :=
  run Pr tb G fx8.fin Go.Proofs.Try.f38 fx8 ⟨todoAt Go.Proofs.Try.f38 3, [], []⟩
noncomputable def F39_entry_texts (x0_0 : Int) (x0_1 : Int) (x0_2 : Int) (x0_3 : Int) (x0_4 : Int) (x0_5 : Int) (x0_6 : Int) (x1 : ByteArray) (x2 : ByteArray) : Option (Int × Unit) := F Pr tb G 9 [⟨(.int .i64), x0_0⟩, ⟨(.int .i64), x0_1⟩, ⟨(.int .i64), x0_2⟩, ⟨(.int .i64), x0_3⟩, ⟨(.int .i64), x0_4⟩, ⟨(.int .i64), x0_5⟩, ⟨(.int .i64), x0_6⟩, ⟨.str, x1⟩, ⟨.str, x2⟩]
noncomputable def F41_quota_in (x0 : Int) (x1 : Int) (x2 : Int) : Option (Bool × Unit) := F Pr tb G 10 [⟨(.int .i64), x0⟩, ⟨(.int .i64), x1⟩, ⟨(.int .i64), x2⟩]
noncomputable def F35_entry_add (x0_0 : Int) (x0_1 : Int) (x0_2 : Int) (x0_3 : Int) (x0_4 : Int) (x0_5 : Int) (x0_6 : Int) (x1_0 : ByteArray) (x1_1 : (List S26)) (x2 : ByteArray) (x3 : ByteArray) (x4 : Int) : Option (ByteArray × (List S26) × Int × (List S26) × Unit) := F Pr tb G 11 [⟨(.int .i64), x0_0⟩, ⟨(.int .i64), x0_1⟩, ⟨(.int .i64), x0_2⟩, ⟨(.int .i64), x0_3⟩, ⟨(.int .i64), x0_4⟩, ⟨(.int .i64), x0_5⟩, ⟨(.int .i64), x0_6⟩, ⟨.str, x1_0⟩, ⟨(.sl 26 (.st 26)), x1_1⟩, ⟨.str, x2⟩, ⟨.str, x3⟩, ⟨(.int .i64), x4⟩]
noncomputable def F40_slices_Clone (x0 : (List S26)) : Option ((List S26) × Unit) := F Pr tb G 12 [⟨(.sl 26 (.st 26)), x0⟩]
noncomputable def F36_letheref05_add (x0_0 : Int) (x0_1 : Int) (x0_2 : Int) (x0_3 : Int) (x0_4 : Int) (x0_5 : Int) (x0_6 : Int) (x1_0 : ByteArray) (x1_1 : (List S26)) (x2 : ByteArray) (x3 : ByteArray) (x4 : Int) : Option (ByteArray × (List S26) × (List S26) × Int × Unit) := F Pr tb G 13 [⟨(.int .i64), x0_0⟩, ⟨(.int .i64), x0_1⟩, ⟨(.int .i64), x0_2⟩, ⟨(.int .i64), x0_3⟩, ⟨(.int .i64), x0_4⟩, ⟨(.int .i64), x0_5⟩, ⟨(.int .i64), x0_6⟩, ⟨.str, x1_0⟩, ⟨(.sl 26 (.st 26)), x1_1⟩, ⟨.str, x2⟩, ⟨.str, x3⟩, ⟨(.int .i64), x4⟩]
noncomputable def F36_letheref05_add_l1000014 (v2 : ByteArray) (v3 : ByteArray) (v4 : Int) (v12 : Int) (v13 : Int) (v58 : (List S26)) (v59 : Int) (v60 : Int) (h0_0 : ByteArray) (h0_3 : Int) (h1_0 : ByteArray) (h1_3 : Int) (g2 : (List S26)) (g3 : (List S26)) (g4 : (List S26)) (g5 : (List S26)) : Option (ByteArray × (List S26) × (List S26) × Int × Unit) :=
  run Pr tb G fx13.fin Go.Proofs.Try.f36 fx13 ⟨todoAt Go.Proofs.Try.f36 1000014, [(2, .v (false, [.d .str v2])), (3, .v (false, [.d .str v3])), (4, .v (false, [.d (.int .i64) v4])), (10, .v (false, [.p 0 0])), (12, .v (false, [.d (.int .i64) v12])), (13, .v (false, [.d (.int .i64) v13])), (14, .v (false, [.p 1 0])), (58, .v (false, [.d (.sl 26 (.st 26)) v58])), (59, .v (false, [.d (.int .i64) v59])), (60, .v (false, [.d (.int .i64) v60]))], [.box 53 [.d .str h0_0, .g 2, .g 3, .d (.int .i64) h0_3], .box 53 [.d .str h1_0, .g 4, .g 5, .d (.int .i64) h1_3], .gr 26 (.st 26) g2 false, .gr 26 (.st 26) g3 false, .gr 26 (.st 26) g4 false, .gr 26 (.st 26) g5 false]⟩
noncomputable def F32_letheref05_Named (x0_0 : Int) (x0_1 : Int) (x0_2 : Int) (x0_3 : Int) (x0_4 : Int) (x0_5 : Int) (x0_6 : Int) (x1_0 : ByteArray) (x1_1 : (List S26)) : Option (Int × Unit) := F Pr tb G 14 [⟨(.int .i64), x0_0⟩, ⟨(.int .i64), x0_1⟩, ⟨(.int .i64), x0_2⟩, ⟨(.int .i64), x0_3⟩, ⟨(.int .i64), x0_4⟩, ⟨(.int .i64), x0_5⟩, ⟨(.int .i64), x0_6⟩, ⟨.str, x1_0⟩, ⟨(.sl 26 (.st 26)), x1_1⟩]
noncomputable def F32_letheref05_Named_l15  : Option (Int × Unit) :=
  run Pr tb G fx14.fin Go.Proofs.Try.f32 fx14 ⟨todoAt Go.Proofs.Try.f32 15, [], []⟩
noncomputable def F32_letheref05_Named_l1000010 (v26 : (List S26)) (v27 : Int) (v28 : Int) (h0_0 : Int) (h0_1 : Int) (h0_2 : Int) (h0_3 : Int) (h0_4 : Int) (h0_5 : Int) (h0_6 : Int) (h1_0 : ByteArray) (h1_1 : (List S26)) : Option (Int × Unit) :=
  run Pr tb G fx14.fin Go.Proofs.Try.f32 fx14 ⟨todoAt Go.Proofs.Try.f32 1000010, [(2, .v (false, [.p 0 0])), (3, .v (false, [.p 1 0])), (26, .v (false, [.d (.sl 26 (.st 26)) v26])), (27, .v (false, [.d (.int .i64) v27])), (28, .v (false, [.d (.int .i64) v28]))], [.box 47 [.d (.int .i64) h0_0, .d (.int .i64) h0_1, .d (.int .i64) h0_2, .d (.int .i64) h0_3, .d (.int .i64) h0_4, .d (.int .i64) h0_5, .d (.int .i64) h0_6], .box 24 [.d .str h1_0, .d (.sl 26 (.st 26)) h1_1]]⟩
noncomputable def F37_letheref04_Right (x0_0 : Int) (x0_1 : Int) (x0_2 : Int) (x0_3 : Int) (x0_4 : Int) (x0_5 : Int) (x0_6 : Int) : Option (Bool × Unit) := F Pr tb G 15 [⟨(.int .i64), x0_0⟩, ⟨(.int .i64), x0_1⟩, ⟨(.int .i64), x0_2⟩, ⟨(.int .i64), x0_3⟩, ⟨(.int .i64), x0_4⟩, ⟨(.int .i64), x0_5⟩, ⟨(.int .i64), x0_6⟩]
noncomputable def F37_letheref04_Right_l2  : Option (Bool × Unit) :=
  run Pr tb G fx15.fin Go.Proofs.Try.f37 fx15 ⟨todoAt Go.Proofs.Try.f37 2, [], []⟩
end
end Go.Proofs.Ytpnjchejnghplaa.EntryKeepsx
