/- The law EntryTexts: what each function answers, in plain equations. Under no condition. -/
import Derived.Test.YteoggpajjljfmaaTEntryTexts
set_option linter.unusedVariables false
set_option maxRecDepth 100000
namespace Go.Proofs.Yteoggpajjljfmaa.EntryTextsx
open Go Go.RowKit Go.Proofs.Yteoggpajjljfmaa.Rx Go.Proofs.Yteoggpajjljfmaa.EntryTextsx
noncomputable section
theorem F5_lethelaw05_EntryTexts_eq (x0 : (List S56)) : F5_lethelaw05_EntryTexts x0 =
    if (40 : Int) < (List.length x0 : Int) then
      if (0 : Int) ≤ 0 ∧ (0 : Int) ≤ 40 ∧ (40 : Int) ≤ (List.length x0 : Int) then
        (F14_entry_Texts (subL x0 0 40)).bind fun y1 =>
        (F15_letheref05_Texts (subL x0 0 40)).bind fun y2 =>
        (F13_letheref02_SameTexts y1.1 y2.1).bind fun y3 =>
        some (y3.1, ())
      else
        none
    else
      (F14_entry_Texts x0).bind fun y4 =>
      (F15_letheref05_Texts x0).bind fun y5 =>
      (F13_letheref02_SameTexts y4.1 y5.1).bind fun y6 =>
      some (y6.1, ()) :=
  (F_eq (G := G) rfl fn0 rfl _).trans ((run_eq _ _ _ _).trans (by kernel_rfl))
theorem F14_entry_Texts_eq (x0 : (List S56)) : F14_entry_Texts x0 =
    F14_entry_Texts_l1000003 x0 (List.length x0 : Int) 0 [] :=
  (F_eq (G := G) rfl fn1 rfl _).trans ((run_eq _ _ _ _).trans (by kernel_rfl))
theorem F14_entry_Texts_l1000003_eq (v8 : (List S56)) (v9 : Int) (v10 : Int) (g0 : (List ByteArray)) : F14_entry_Texts_l1000003 v8 v9 v10 g0 =
    if v10 < v9 then
      if (0 : Int) ≤ v10 ∧ v10 < (List.length v8 : Int) then
        if (List.length g0 + List.length [(S56.f0 (rd S56.z v8 v10))]) * 16 ≤ 140737488355328 then
          F14_entry_Texts_l1000007 v8 v9 v10 (S56.f1 (rd S56.z v8 v10)) (List.length (S56.f1 (rd S56.z v8 v10)) : Int) 0 (g0 ++ [(S56.f0 (rd S56.z v8 v10))])
        else
          none
      else
        none
    else
      (F25_slices_Sort g0).bind fun y1 =>
      (F27_slices_Compact y1.1).bind fun y2 =>
      (F26_slices_Clip y2.1).bind fun y3 =>
      some (y3.1, ()) :=
  (run_eq _ _ _ _).trans (by kernel_rfl)
theorem F14_entry_Texts_l1000007_eq (v8 : (List S56)) (v9 : Int) (v10 : Int) (v20 : (List S58)) (v21 : Int) (v22 : Int) (g0 : (List ByteArray)) : F14_entry_Texts_l1000007 v8 v9 v10 v20 v21 v22 g0 =
    if v22 < v21 then
      if (0 : Int) ≤ v22 ∧ v22 < (List.length v20 : Int) then
        let e1 : (List ByteArray) := [(S58.f1 (rd S58.z v20 v22)), (S58.f2 (rd S58.z v20 v22))]
        if (List.length g0 + List.length e1) * 16 ≤ 140737488355328 then
          F14_entry_Texts_l1000007 v8 v9 v10 v20 v21 (IntKind.i64.wrap (v22 + (1 : Int))) (g0 ++ e1)
        else
          none
      else
        none
    else
      F14_entry_Texts_l1000003 v8 v9 (IntKind.i64.wrap (v10 + (1 : Int))) g0 :=
  (run_eq _ _ _ _).trans (by kernel_rfl)
theorem F15_letheref05_Texts_eq (x0 : (List S56)) : F15_letheref05_Texts x0 =
    F15_letheref05_Texts_l1000003 x0 (List.length x0 : Int) 0 [] :=
  (F_eq (G := G) rfl fn2 rfl _).trans ((run_eq _ _ _ _).trans (by kernel_rfl))
theorem F15_letheref05_Texts_l1000003_eq (v9 : (List S56)) (v10 : Int) (v11 : Int) (g0 : (List ByteArray)) : F15_letheref05_Texts_l1000003 v9 v10 v11 g0 =
    if v11 < v10 then
      if (0 : Int) ≤ v11 ∧ v11 < (List.length v9 : Int) then
        (F28_letheref02_Insert g0 (S56.f0 (rd S56.z v9 v11))).bind fun y1 =>
        F15_letheref05_Texts_l1000007 v9 v10 v11 (S56.f1 (rd S56.z v9 v11)) (List.length (S56.f1 (rd S56.z v9 v11)) : Int) 0 y1.1
      else
        none
    else
      some (g0, ()) :=
  (run_eq _ _ _ _).trans (by kernel_rfl)
theorem F15_letheref05_Texts_l1000007_eq (v9 : (List S56)) (v10 : Int) (v11 : Int) (v20 : (List S58)) (v21 : Int) (v22 : Int) (g0 : (List ByteArray)) : F15_letheref05_Texts_l1000007 v9 v10 v11 v20 v21 v22 g0 =
    if v22 < v21 then
      if (0 : Int) ≤ v22 ∧ v22 < (List.length v20 : Int) then
        (F28_letheref02_Insert g0 (S58.f1 (rd S58.z v20 v22))).bind fun y1 =>
        (F28_letheref02_Insert y1.1 (S58.f2 (rd S58.z v20 v22))).bind fun y2 =>
        F15_letheref05_Texts_l1000007 v9 v10 v11 v20 v21 (IntKind.i64.wrap (v22 + (1 : Int))) y2.1
      else
        none
    else
      F15_letheref05_Texts_l1000003 v9 v10 (IntKind.i64.wrap (v11 + (1 : Int))) g0 :=
  (run_eq _ _ _ _).trans (by kernel_rfl)
theorem F13_letheref02_SameTexts_eq (x0 : (List ByteArray)) (x1 : (List ByteArray)) : F13_letheref02_SameTexts x0 x1 =
    if ¬ (List.length x0 : Int) = (List.length x1 : Int) then
      some (false, ())
    else
      F13_letheref02_SameTexts_l1000004 x0 x1 (List.length x0 : Int) 0 :=
  (F_eq (G := G) rfl fn3 rfl _).trans ((run_eq _ _ _ _).trans (by kernel_rfl))
theorem F13_letheref02_SameTexts_l1000004_eq (v0 : (List ByteArray)) (v1 : (List ByteArray)) (v12 : Int) (v13 : Int) : F13_letheref02_SameTexts_l1000004 v0 v1 v12 v13 =
    if v13 < v12 then
      if (0 : Int) ≤ v13 ∧ v13 < (List.length v0 : Int) then
        if (0 : Int) ≤ v13 ∧ v13 < (List.length v1 : Int) then
          if ¬ (rd ByteArray.empty v0 v13) = (rd ByteArray.empty v1 v13) then
            some (false, ())
          else
            F13_letheref02_SameTexts_l1000004 v0 v1 v12 (IntKind.i64.wrap (v13 + (1 : Int)))
        else
          none
      else
        none
    else
      some (true, ()) :=
  (run_eq _ _ _ _).trans (by kernel_rfl)
theorem F28_letheref02_Insert_eq (x0 : (List ByteArray)) (x1 : ByteArray) : F28_letheref02_Insert x0 x1 =
    F28_letheref02_Insert_l1000004 x1 false x0 (List.length x0 : Int) 0 [] :=
  (F_eq (G := G) rfl fn4 rfl _).trans ((run_eq _ _ _ _).trans (by kernel_rfl))
theorem F28_letheref02_Insert_l1000004_eq (v1 : ByteArray) (v6 : Bool) (v10 : (List ByteArray)) (v11 : Int) (v12 : Int) (g0 : (List ByteArray)) : F28_letheref02_Insert_l1000004 v1 v6 v10 v11 v12 g0 =
    if v12 < v11 then
      if (0 : Int) ≤ v12 ∧ v12 < (List.length v10 : Int) then
        if (!v6) = true then
          if sLt (rd ByteArray.empty v10 v12) v1 = false then
            if sLt v1 (rd ByteArray.empty v10 v12) = true then
              if (List.length g0 + List.length [v1]) * 16 ≤ 140737488355328 then
                F28_letheref02_Insert_l10 v1 true (rd ByteArray.empty v10 v12) v10 v11 v12 (g0 ++ [v1])
              else
                none
            else
              F28_letheref02_Insert_l10 v1 true (rd ByteArray.empty v10 v12) v10 v11 v12 g0
          else
            F28_letheref02_Insert_l10 v1 v6 (rd ByteArray.empty v10 v12) v10 v11 v12 g0
        else
          F28_letheref02_Insert_l10 v1 v6 (rd ByteArray.empty v10 v12) v10 v11 v12 g0
      else
        none
    else
      if (!v6) = true then
        if (List.length g0 + List.length [v1]) * 16 ≤ 140737488355328 then
          some ((g0 ++ [v1]), ())
        else
          none
      else
        some (g0, ()) :=
  (run_eq _ _ _ _).trans (by kernel_rfl)
theorem F28_letheref02_Insert_l10_eq (v1 : ByteArray) (v6 : Bool) (v8 : ByteArray) (v10 : (List ByteArray)) (v11 : Int) (v12 : Int) (g0 : (List ByteArray)) : F28_letheref02_Insert_l10 v1 v6 v8 v10 v11 v12 g0 =
    if (List.length g0 + List.length [v8]) * 16 ≤ 140737488355328 then
      F28_letheref02_Insert_l1000004 v1 v6 v10 v11 (IntKind.i64.wrap (v12 + (1 : Int))) (g0 ++ [v8])
    else
      none :=
  (run_eq _ _ _ _).trans (by kernel_rfl)
theorem F25_slices_Sort_eq (g0 : (List ByteArray)) : F25_slices_Sort g0 =
    if List.length g0 < 4611686018427387904 then
      some ((sortS g0), ())
    else
      none :=
  (F_giv (G := G) rfl _).trans (by kernel_rfl)
theorem F27_slices_Compact_eq (g0 : (List ByteArray)) : F27_slices_Compact g0 =
    some ((compS g0), ()) :=
  (F_giv (G := G) rfl _).trans (by kernel_rfl)
theorem F26_slices_Clip_eq (x0 : (List ByteArray)) : F26_slices_Clip x0 =
    if (0 : Int) ≤ 0 ∧ (0 : Int) ≤ (List.length x0 : Int) ∧ (List.length x0 : Int) ≤ (List.length x0 : Int) ∧ (List.length x0 : Int) ≤ (List.length x0 : Int) then
      some ((subL x0 0 (List.length x0 : Int)), ())
    else
      none :=
  (F_eq (G := G) rfl fn7 rfl _).trans ((run_eq _ _ _ _).trans (by kernel_rfl))
end
end Go.Proofs.Yteoggpajjljfmaa.EntryTextsx
