/- The law TermAtoms: what each function answers, in plain equations. Under no condition. -/
import Derived.Test.YteoggpajjljfmaaTTermAtoms
set_option linter.unusedVariables false
set_option maxRecDepth 100000
namespace Go.Proofs.Yteoggpajjljfmaa.TermAtomsx
open Go Go.RowKit Go.Proofs.Yteoggpajjljfmaa.Rx Go.Proofs.Yteoggpajjljfmaa.TermAtomsx
noncomputable section
theorem F6_lethelaw02_TermAtoms_eq (x0 : (List S43)) : F6_lethelaw02_TermAtoms x0 =
    (F16_term_Atoms x0).bind fun y1 =>
    (F17_letheref02_Atoms x0).bind fun y2 =>
    (F13_letheref02_SameTexts y1.1 y2.1).bind fun y3 =>
    some (y3.1, ()) :=
  (F_eq (G := G) rfl fn0 rfl _).trans ((run_eq _ _ _ _).trans (by kernel_rfl))
theorem F16_term_Atoms_eq (x0 : (List S43)) : F16_term_Atoms x0 =
    F16_term_Atoms_l1000003 x0 (List.length x0 : Int) 0 [] :=
  (F_eq (G := G) rfl fn1 rfl _).trans ((run_eq _ _ _ _).trans (by kernel_rfl))
theorem F16_term_Atoms_l1000003_eq (v6 : (List S43)) (v7 : Int) (v8 : Int) (g0 : (List ByteArray)) : F16_term_Atoms_l1000003 v6 v7 v8 g0 =
    if v8 < v7 then
      if (0 : Int) ≤ v8 ∧ v8 < (List.length v6 : Int) then
        (F29_term_Right (S43.f0 (rd S43.z v6 v8)) (S43.f1 (rd S43.z v6 v8)) (S43.f2 (rd S43.z v6 v8)) (S43.f3 (rd S43.z v6 v8))).bind fun y1 =>
        if y1.1 = (0 : Int) then
          (F30_term_gather (S43.f0 (rd S43.z v6 v8)) (S43.f1 (rd S43.z v6 v8)) (S43.f2 (rd S43.z v6 v8)) (S43.f3 (rd S43.z v6 v8)) g0).bind fun y2 =>
          if y2.1 = true then
            F16_term_Atoms_l1000003 v6 v7 (IntKind.i64.wrap (v8 + (1 : Int))) y2.2.1
          else
            F16_term_Atoms_l1000003 v6 v7 (IntKind.i64.wrap (v8 + (1 : Int))) y2.2.2.1
        else
          F16_term_Atoms_l1000003 v6 v7 (IntKind.i64.wrap (v8 + (1 : Int))) g0
      else
        none
    else
      (F25_slices_Sort g0).bind fun y3 =>
      (F27_slices_Compact y3.1).bind fun y4 =>
      (F26_slices_Clip y4.1).bind fun y5 =>
      some (y5.1, ()) :=
  (run_eq _ _ _ _).trans (by kernel_rfl)
theorem F17_letheref02_Atoms_eq (x0 : (List S43)) : F17_letheref02_Atoms x0 =
    F17_letheref02_Atoms_l1000003 [] x0 (List.length x0 : Int) 0 :=
  (F_eq (G := G) rfl fn2 rfl _).trans ((run_eq _ _ _ _).trans (by kernel_rfl))
theorem F17_letheref02_Atoms_l1000003_eq (v3 : (List ByteArray)) (v7 : (List S43)) (v8 : Int) (v9 : Int) : F17_letheref02_Atoms_l1000003 v3 v7 v8 v9 =
    if v9 < v8 then
      if (0 : Int) ≤ v9 ∧ v9 < (List.length v7 : Int) then
        (F18_letheref02_Right (S43.f0 (rd S43.z v7 v9)) (S43.f1 (rd S43.z v7 v9)) (S43.f2 (rd S43.z v7 v9)) (S43.f3 (rd S43.z v7 v9))).bind fun y1 =>
        if y1.1 = (0 : Int) then
          (F31_letheref02_gather v3 (S43.f0 (rd S43.z v7 v9)) (S43.f1 (rd S43.z v7 v9)) (S43.f2 (rd S43.z v7 v9)) (S43.f3 (rd S43.z v7 v9))).bind fun y2 =>
          F17_letheref02_Atoms_l1000003 y2.1 v7 v8 (IntKind.i64.wrap (v9 + (1 : Int)))
        else
          F17_letheref02_Atoms_l1000003 v3 v7 v8 (IntKind.i64.wrap (v9 + (1 : Int)))
      else
        none
    else
      some (v3, ()) :=
  (run_eq _ _ _ _).trans (by kernel_rfl)
theorem F13_letheref02_SameTexts_eq (x0 : (List ByteArray)) (x1 : (List ByteArray)) : F13_letheref02_SameTexts x0 x1 =
    if ¬ (List.length x0 : Int) = (List.length x1 : Int) then
      some (false, ())
    else
      F13_letheref02_SameTexts_l1000004 x0 x1 (List.length x0 : Int) 0 :=
  (F_eq (G := G) rfl fn3 rfl _).trans ((run_eq _ _ _ _).trans (by kernel_rfl))
theorem F13_letheref02_SameTexts_l1000004_eq (v0 : (List ByteArray)) (v1 : (List ByteArray)) (v12 : Int) (v13 : Int) : F13_letheref02_SameTexts_l1000004 v0 v1 v12 v13 =
    if v13 < v12 then
      if (0 : Int) ≤ v13 ∧ v13 < (List.length v0 : Int) then
        if (0 : Int) ≤ v13 ∧ v13 < (List.length v1 : Int) then
          if ¬ (rd ByteArray.empty v0 v13) = (rd ByteArray.empty v1 v13) then
            some (false, ())
          else
            F13_letheref02_SameTexts_l1000004 v0 v1 v12 (IntKind.i64.wrap (v13 + (1 : Int)))
        else
          none
      else
        none
    else
      some (true, ()) :=
  (run_eq _ _ _ _).trans (by kernel_rfl)
theorem F18_letheref02_Right_eq (x0_0 : Int) (x0_1 : Int) (x0_2 : ByteArray) (x0_3 : (List S43)) : F18_letheref02_Right x0_0 x0_1 x0_2 x0_3 =
    (F32_letheref02_Parts x0_0 x0_1 x0_2 x0_3 4001).bind fun y1 =>
    if (4000 : Int) < y1.1 then
      some (23, ())
    else
      (F33_letheref02_Deep x0_0 x0_1 x0_2 x0_3 13).bind fun y2 =>
      if (12 : Int) < y2.1 then
        some (22, ())
      else
        (F34_letheref02_shaped x0_0 x0_1 x0_2 x0_3).bind fun y3 =>
        if (!y3.1) = true then
          some (25, ())
        else
          some (0, ()) :=
  (F_eq (G := G) rfl fn4 rfl _).trans ((run_eq _ _ _ _).trans (by kernel_rfl))
theorem F31_letheref02_gather_eq (x0 : (List ByteArray)) (x1_0 : Int) (x1_1 : Int) (x1_2 : ByteArray) (x1_3 : (List S43)) : F31_letheref02_gather x0 x1_0 x1_1 x1_2 x1_3 =
    if x1_0 = (2 : Int) then
      (F28_letheref02_Insert x0 x1_2).bind fun y1 =>
      some (y1.1, ())
    else
      F31_letheref02_gather_l1000004 x0 x1_3 (List.length x1_3 : Int) 0 :=
  (F_eq (G := G) rfl fn5 rfl _).trans ((run_eq _ _ _ _).trans (by kernel_rfl))
theorem F31_letheref02_gather_l1000004_eq (v0 : (List ByteArray)) (v15 : (List S43)) (v16 : Int) (v17 : Int) : F31_letheref02_gather_l1000004 v0 v15 v16 v17 =
    if v17 < v16 then
      if (0 : Int) ≤ v17 ∧ v17 < (List.length v15 : Int) then
        (F31_letheref02_gather v0 (S43.f0 (rd S43.z v15 v17)) (S43.f1 (rd S43.z v15 v17)) (S43.f2 (rd S43.z v15 v17)) (S43.f3 (rd S43.z v15 v17))).bind fun y1 =>
        F31_letheref02_gather_l1000004 y1.1 v15 v16 (IntKind.i64.wrap (v17 + (1 : Int)))
      else
        none
    else
      some (v0, ()) :=
  (run_eq _ _ _ _).trans (by kernel_rfl)
theorem F28_letheref02_Insert_eq (x0 : (List ByteArray)) (x1 : ByteArray) : F28_letheref02_Insert x0 x1 =
    F28_letheref02_Insert_l1000004 x1 false x0 (List.length x0 : Int) 0 [] :=
  (F_eq (G := G) rfl fn6 rfl _).trans ((run_eq _ _ _ _).trans (by kernel_rfl))
theorem F28_letheref02_Insert_l1000004_eq (v1 : ByteArray) (v6 : Bool) (v10 : (List ByteArray)) (v11 : Int) (v12 : Int) (g0 : (List ByteArray)) : F28_letheref02_Insert_l1000004 v1 v6 v10 v11 v12 g0 =
    if v12 < v11 then
      if (0 : Int) ≤ v12 ∧ v12 < (List.length v10 : Int) then
        if (!v6) = true then
          if sLt (rd ByteArray.empty v10 v12) v1 = false then
            if sLt v1 (rd ByteArray.empty v10 v12) = true then
              if (List.length g0 + List.length [v1]) * 16 ≤ 140737488355328 then
                F28_letheref02_Insert_l10 v1 true (rd ByteArray.empty v10 v12) v10 v11 v12 (g0 ++ [v1])
              else
                none
            else
              F28_letheref02_Insert_l10 v1 true (rd ByteArray.empty v10 v12) v10 v11 v12 g0
          else
            F28_letheref02_Insert_l10 v1 v6 (rd ByteArray.empty v10 v12) v10 v11 v12 g0
        else
          F28_letheref02_Insert_l10 v1 v6 (rd ByteArray.empty v10 v12) v10 v11 v12 g0
      else
        none
    else
      if (!v6) = true then
        if (List.length g0 + List.length [v1]) * 16 ≤ 140737488355328 then
          some ((g0 ++ [v1]), ())
        else
          none
      else
        some (g0, ()) :=
  (run_eq _ _ _ _).trans (by kernel_rfl)
theorem F28_letheref02_Insert_l10_eq (v1 : ByteArray) (v6 : Bool) (v8 : ByteArray) (v10 : (List ByteArray)) (v11 : Int) (v12 : Int) (g0 : (List ByteArray)) : F28_letheref02_Insert_l10 v1 v6 v8 v10 v11 v12 g0 =
    if (List.length g0 + List.length [v8]) * 16 ≤ 140737488355328 then
      F28_letheref02_Insert_l1000004 v1 v6 v10 v11 (IntKind.i64.wrap (v12 + (1 : Int))) (g0 ++ [v8])
    else
      none :=
  (run_eq _ _ _ _).trans (by kernel_rfl)
theorem F32_letheref02_Parts_eq (x0_0 : Int) (x0_1 : Int) (x0_2 : ByteArray) (x0_3 : (List S43)) (x1 : Int) : F32_letheref02_Parts x0_0 x0_1 x0_2 x0_3 x1 =
    F32_letheref02_Parts_l1000003 x1 1 x0_3 (List.length x0_3 : Int) 0 :=
  (F_eq (G := G) rfl fn7 rfl _).trans ((run_eq _ _ _ _).trans (by kernel_rfl))
theorem F32_letheref02_Parts_l1000003_eq (v1 : Int) (v5 : Int) (v9 : (List S43)) (v10 : Int) (v11 : Int) : F32_letheref02_Parts_l1000003 v1 v5 v9 v10 v11 =
    if v11 < v10 then
      if (0 : Int) ≤ v11 ∧ v11 < (List.length v9 : Int) then
        if v1 ≤ v5 then
          some (v1, ())
        else
          (F32_letheref02_Parts (S43.f0 (rd S43.z v9 v11)) (S43.f1 (rd S43.z v9 v11)) (S43.f2 (rd S43.z v9 v11)) (S43.f3 (rd S43.z v9 v11)) (IntKind.i64.wrap (v1 - v5))).bind fun y1 =>
          F32_letheref02_Parts_l1000003 v1 (IntKind.i64.wrap (v5 + y1.1)) v9 v10 (IntKind.i64.wrap (v11 + (1 : Int)))
      else
        none
    else
      if v1 < v5 then
        some (v1, ())
      else
        some (v5, ()) :=
  (run_eq _ _ _ _).trans (by kernel_rfl)
theorem F33_letheref02_Deep_eq (x0_0 : Int) (x0_1 : Int) (x0_2 : ByteArray) (x0_3 : (List S43)) (x1 : Int) : F33_letheref02_Deep x0_0 x0_1 x0_2 x0_3 x1 =
    if x1 ≤ (1 : Int) then
      some (x1, ())
    else
      F33_letheref02_Deep_l1000005 x1 0 x0_3 (List.length x0_3 : Int) 0 :=
  (F_eq (G := G) rfl fn8 rfl _).trans ((run_eq _ _ _ _).trans (by kernel_rfl))
theorem F33_letheref02_Deep_l1000005_eq (v1 : Int) (v5 : Int) (v13 : (List S43)) (v14 : Int) (v15 : Int) : F33_letheref02_Deep_l1000005 v1 v5 v13 v14 v15 =
    if v15 < v14 then
      if (0 : Int) ≤ v15 ∧ v15 < (List.length v13 : Int) then
        (F33_letheref02_Deep (S43.f0 (rd S43.z v13 v15)) (S43.f1 (rd S43.z v13 v15)) (S43.f2 (rd S43.z v13 v15)) (S43.f3 (rd S43.z v13 v15)) (IntKind.i64.wrap (v1 - (1 : Int)))).bind fun y1 =>
        if v5 < y1.1 then
          if (IntKind.i64.wrap (v1 - (1 : Int))) ≤ y1.1 then
            some (v1, ())
          else
            F33_letheref02_Deep_l1000005 v1 y1.1 v13 v14 (IntKind.i64.wrap (v15 + (1 : Int)))
        else
          if (IntKind.i64.wrap (v1 - (1 : Int))) ≤ v5 then
            some (v1, ())
          else
            F33_letheref02_Deep_l1000005 v1 v5 v13 v14 (IntKind.i64.wrap (v15 + (1 : Int)))
      else
        none
    else
      some ((IntKind.i64.wrap (v5 + (1 : Int))), ()) :=
  (run_eq _ _ _ _).trans (by kernel_rfl)
theorem F34_letheref02_shaped_eq (x0_0 : Int) (x0_1 : Int) (x0_2 : ByteArray) (x0_3 : (List S43)) : F34_letheref02_shaped x0_0 x0_1 x0_2 x0_3 =
    (F42_letheref02_One x0_0 x0_1 x0_2 x0_3).bind fun y1 =>
    if (!y1.1) = true then
      some (false, ())
    else
      F34_letheref02_shaped_l1000004 x0_3 (List.length x0_3 : Int) 0 :=
  (F_eq (G := G) rfl fn9 rfl _).trans ((run_eq _ _ _ _).trans (by kernel_rfl))
theorem F34_letheref02_shaped_l1000004_eq (v9 : (List S43)) (v10 : Int) (v11 : Int) : F34_letheref02_shaped_l1000004 v9 v10 v11 =
    if v11 < v10 then
      if (0 : Int) ≤ v11 ∧ v11 < (List.length v9 : Int) then
        (F34_letheref02_shaped (S43.f0 (rd S43.z v9 v11)) (S43.f1 (rd S43.z v9 v11)) (S43.f2 (rd S43.z v9 v11)) (S43.f3 (rd S43.z v9 v11))).bind fun y1 =>
        if (!y1.1) = true then
          some (false, ())
        else
          F34_letheref02_shaped_l1000004 v9 v10 (IntKind.i64.wrap (v11 + (1 : Int)))
      else
        none
    else
      some (true, ()) :=
  (run_eq _ _ _ _).trans (by kernel_rfl)
theorem F42_letheref02_One_eq (x0_0 : Int) (x0_1 : Int) (x0_2 : ByteArray) (x0_3 : (List S43)) : F42_letheref02_One x0_0 x0_1 x0_2 x0_3 =
    if x0_0 = (1 : Int) then
      if x0_0 = (1 : Int) then
        if x0_2 = ByteArray.empty then
          some ((decide ((List.length x0_3 : Int) = (0 : Int))), ())
        else
          some (false, ())
      else
        if x0_0 = (2 : Int) then
          if x0_1 = (0 : Int) then
            if (ByteArray.size x0_2 : Int) ≤ (4000 : Int) then
              some ((decide ((List.length x0_3 : Int) = (0 : Int))), ())
            else
              some (false, ())
          else
            some (false, ())
        else
          if x0_0 = (4 : Int) then
            if x0_2 = ByteArray.empty then
              some ((decide ((List.length x0_3 : Int) = (1 : Int))), ())
            else
              some (false, ())
          else
            if x0_0 = (5 : Int) then
              if x0_1 = (0 : Int) then
                some ((decide (x0_2 = ByteArray.empty)), ())
              else
                some (false, ())
            else
              some (false, ())
    else
      if x0_0 = (3 : Int) then
        if x0_2 = ByteArray.empty then
          some ((decide ((List.length x0_3 : Int) = (0 : Int))), ())
        else
          some (false, ())
      else
        if x0_0 = (2 : Int) then
          if x0_1 = (0 : Int) then
            if (ByteArray.size x0_2 : Int) ≤ (4000 : Int) then
              some ((decide ((List.length x0_3 : Int) = (0 : Int))), ())
            else
              some (false, ())
          else
            some (false, ())
        else
          if x0_0 = (4 : Int) then
            if x0_2 = ByteArray.empty then
              some ((decide ((List.length x0_3 : Int) = (1 : Int))), ())
            else
              some (false, ())
          else
            if x0_0 = (5 : Int) then
              if x0_1 = (0 : Int) then
                some ((decide (x0_2 = ByteArray.empty)), ())
              else
                some (false, ())
            else
              some (false, ()) :=
  (F_eq (G := G) rfl fn10 rfl _).trans ((run_eq _ _ _ _).trans (by kernel_rfl))
theorem F29_term_Right_eq (x0_0 : Int) (x0_1 : Int) (x0_2 : ByteArray) (x0_3 : (List S43)) : F29_term_Right x0_0 x0_1 x0_2 x0_3 =
    (F39_term_parts x0_0 x0_1 x0_2 x0_3 4001).bind fun y1 =>
    if (4000 : Int) < y1.1 then
      some (23, ())
    else
      (F40_term_deep x0_0 x0_1 x0_2 x0_3 13).bind fun y2 =>
      if (12 : Int) < y2.1 then
        some (22, ())
      else
        (F41_term_shaped x0_0 x0_1 x0_2 x0_3).bind fun y3 =>
        if (!y3.1) = true then
          some (25, ())
        else
          some (0, ()) :=
  (F_eq (G := G) rfl fn11 rfl _).trans ((run_eq _ _ _ _).trans (by kernel_rfl))
theorem F30_term_gather_eq (x1_0 : Int) (x1_1 : Int) (x1_2 : ByteArray) (x1_3 : (List S43)) (g0 : (List ByteArray)) : F30_term_gather x1_0 x1_1 x1_2 x1_3 g0 =
    if x1_0 = (2 : Int) then
      if (List.length g0 + List.length [x1_2]) * 16 ≤ 140737488355328 then
        some (true, (g0 ++ [x1_2]), [], ())
      else
        none
    else
      F30_term_gather_l1000004 x1_3 (List.length x1_3 : Int) 0 g0 :=
  (F_eq (G := G) rfl fn12 rfl _).trans ((run_eq _ _ _ _).trans (by kernel_rfl))
theorem F30_term_gather_l1000004_eq (v16 : (List S43)) (v17 : Int) (v18 : Int) (g0 : (List ByteArray)) : F30_term_gather_l1000004 v16 v17 v18 g0 =
    if v18 < v17 then
      if (0 : Int) ≤ v18 ∧ v18 < (List.length v16 : Int) then
        (F30_term_gather (S43.f0 (rd S43.z v16 v18)) (S43.f1 (rd S43.z v16 v18)) (S43.f2 (rd S43.z v16 v18)) (S43.f3 (rd S43.z v16 v18)) g0).bind fun y1 =>
        if y1.1 = true then
          F30_term_gather_l1000004_1 v16 v17 (IntKind.i64.wrap (v18 + (1 : Int))) y1.2.1
        else
          F30_term_gather_l1000004 v16 v17 (IntKind.i64.wrap (v18 + (1 : Int))) y1.2.2.1
      else
        none
    else
      some (false, [], g0, ()) :=
  (run_eq _ _ _ _).trans (by kernel_rfl)
theorem F30_term_gather_l1000004_1_eq (v16 : (List S43)) (v17 : Int) (v18 : Int) (g1 : (List ByteArray)) : F30_term_gather_l1000004_1 v16 v17 v18 g1 =
    if v18 < v17 then
      if (0 : Int) ≤ v18 ∧ v18 < (List.length v16 : Int) then
        (F30_term_gather (S43.f0 (rd S43.z v16 v18)) (S43.f1 (rd S43.z v16 v18)) (S43.f2 (rd S43.z v16 v18)) (S43.f3 (rd S43.z v16 v18)) g1).bind fun y1 =>
        if y1.1 = true then
          F30_term_gather_l1000004_1 v16 v17 (IntKind.i64.wrap (v18 + (1 : Int))) y1.2.1
        else
          F30_term_gather_l1000004_1 v16 v17 (IntKind.i64.wrap (v18 + (1 : Int))) y1.2.2.1
      else
        none
    else
      some (true, g1, [], ()) :=
  (run_eq _ _ _ _).trans (by kernel_rfl)
theorem F25_slices_Sort_eq (g0 : (List ByteArray)) : F25_slices_Sort g0 =
    if List.length g0 < 4611686018427387904 then
      some ((sortS g0), ())
    else
      none :=
  (F_giv (G := G) rfl _).trans (by kernel_rfl)
theorem F27_slices_Compact_eq (g0 : (List ByteArray)) : F27_slices_Compact g0 =
    some ((compS g0), ()) :=
  (F_giv (G := G) rfl _).trans (by kernel_rfl)
theorem F26_slices_Clip_eq (x0 : (List ByteArray)) : F26_slices_Clip x0 =
    if (0 : Int) ≤ 0 ∧ (0 : Int) ≤ (List.length x0 : Int) ∧ (List.length x0 : Int) ≤ (List.length x0 : Int) ∧ (List.length x0 : Int) ≤ (List.length x0 : Int) then
      some ((subL x0 0 (List.length x0 : Int)), ())
    else
      none :=
  (F_eq (G := G) rfl fn15 rfl _).trans ((run_eq _ _ _ _).trans (by kernel_rfl))
theorem F39_term_parts_eq (x0_0 : Int) (x0_1 : Int) (x0_2 : ByteArray) (x0_3 : (List S43)) (x1 : Int) : F39_term_parts x0_0 x0_1 x0_2 x0_3 x1 =
    F39_term_parts_l1000003 x1 1 x0_3 (List.length x0_3 : Int) 0 :=
  (F_eq (G := G) rfl fn16 rfl _).trans ((run_eq _ _ _ _).trans (by kernel_rfl))
theorem F39_term_parts_l1000003_eq (v1 : Int) (v5 : Int) (v9 : (List S43)) (v10 : Int) (v11 : Int) : F39_term_parts_l1000003 v1 v5 v9 v10 v11 =
    if v11 < v10 then
      if (0 : Int) ≤ v11 ∧ v11 < (List.length v9 : Int) then
        if v1 ≤ v5 then
          some (v5, ())
        else
          (F39_term_parts (S43.f0 (rd S43.z v9 v11)) (S43.f1 (rd S43.z v9 v11)) (S43.f2 (rd S43.z v9 v11)) (S43.f3 (rd S43.z v9 v11)) (IntKind.i64.wrap (v1 - v5))).bind fun y1 =>
          F39_term_parts_l1000003 v1 (IntKind.i64.wrap (v5 + y1.1)) v9 v10 (IntKind.i64.wrap (v11 + (1 : Int)))
      else
        none
    else
      some (v5, ()) :=
  (run_eq _ _ _ _).trans (by kernel_rfl)
theorem F40_term_deep_eq (x0_0 : Int) (x0_1 : Int) (x0_2 : ByteArray) (x0_3 : (List S43)) (x1 : Int) : F40_term_deep x0_0 x0_1 x0_2 x0_3 x1 =
    if (1 : Int) < x1 then
      F40_term_deep_l1000004 x1 0 x0_3 (List.length x0_3 : Int) 0
    else
      some ((IntKind.i64.wrap ((0 : Int) + (1 : Int))), ()) :=
  (F_eq (G := G) rfl fn17 rfl _).trans ((run_eq _ _ _ _).trans (by kernel_rfl))
theorem F40_term_deep_l1000004_eq (v1 : Int) (v5 : Int) (v11 : (List S43)) (v12 : Int) (v13 : Int) : F40_term_deep_l1000004 v1 v5 v11 v12 v13 =
    if v13 < v12 then
      if (0 : Int) ≤ v13 ∧ v13 < (List.length v11 : Int) then
        (F40_term_deep (S43.f0 (rd S43.z v11 v13)) (S43.f1 (rd S43.z v11 v13)) (S43.f2 (rd S43.z v11 v13)) (S43.f3 (rd S43.z v11 v13)) (IntKind.i64.wrap (v1 - (1 : Int)))).bind fun y1 =>
        F40_term_deep_l1000004 v1 (mx v5 y1.1) v11 v12 (IntKind.i64.wrap (v13 + (1 : Int)))
      else
        none
    else
      some ((IntKind.i64.wrap (v5 + (1 : Int))), ()) :=
  (run_eq _ _ _ _).trans (by kernel_rfl)
theorem F41_term_shaped_eq (x0_0 : Int) (x0_1 : Int) (x0_2 : ByteArray) (x0_3 : (List S43)) : F41_term_shaped x0_0 x0_1 x0_2 x0_3 =
    if x0_0 = (1 : Int) then
      if x0_0 = (1 : Int) then
        if x0_2 = ByteArray.empty then
          F41_term_shaped_l12 (decide ((List.length x0_3 : Int) = (0 : Int))) x0_0 x0_1 x0_2 x0_3
        else
          F41_term_shaped_l12 false x0_0 x0_1 x0_2 x0_3
      else
        if x0_0 = (2 : Int) then
          if x0_1 = (0 : Int) then
            if (ByteArray.size x0_2 : Int) ≤ (4000 : Int) then
              F41_term_shaped_l12 (decide ((List.length x0_3 : Int) = (0 : Int))) x0_0 x0_1 x0_2 x0_3
            else
              F41_term_shaped_l12 false x0_0 x0_1 x0_2 x0_3
          else
            F41_term_shaped_l12 false x0_0 x0_1 x0_2 x0_3
        else
          if x0_0 = (4 : Int) then
            if x0_2 = ByteArray.empty then
              F41_term_shaped_l12 (decide ((List.length x0_3 : Int) = (1 : Int))) x0_0 x0_1 x0_2 x0_3
            else
              F41_term_shaped_l12 false x0_0 x0_1 x0_2 x0_3
          else
            if x0_0 = (5 : Int) then
              if x0_1 = (0 : Int) then
                F41_term_shaped_l12 (decide (x0_2 = ByteArray.empty)) x0_0 x0_1 x0_2 x0_3
              else
                F41_term_shaped_l12 false x0_0 x0_1 x0_2 x0_3
            else
              F41_term_shaped_l12 false x0_0 x0_1 x0_2 x0_3
    else
      if x0_0 = (3 : Int) then
        if x0_2 = ByteArray.empty then
          F41_term_shaped_l12 (decide ((List.length x0_3 : Int) = (0 : Int))) x0_0 x0_1 x0_2 x0_3
        else
          F41_term_shaped_l12 false x0_0 x0_1 x0_2 x0_3
      else
        if x0_0 = (2 : Int) then
          if x0_1 = (0 : Int) then
            if (ByteArray.size x0_2 : Int) ≤ (4000 : Int) then
              F41_term_shaped_l12 (decide ((List.length x0_3 : Int) = (0 : Int))) x0_0 x0_1 x0_2 x0_3
            else
              F41_term_shaped_l12 false x0_0 x0_1 x0_2 x0_3
          else
            F41_term_shaped_l12 false x0_0 x0_1 x0_2 x0_3
        else
          if x0_0 = (4 : Int) then
            if x0_2 = ByteArray.empty then
              F41_term_shaped_l12 (decide ((List.length x0_3 : Int) = (1 : Int))) x0_0 x0_1 x0_2 x0_3
            else
              F41_term_shaped_l12 false x0_0 x0_1 x0_2 x0_3
          else
            if x0_0 = (5 : Int) then
              if x0_1 = (0 : Int) then
                F41_term_shaped_l12 (decide (x0_2 = ByteArray.empty)) x0_0 x0_1 x0_2 x0_3
              else
                F41_term_shaped_l12 false x0_0 x0_1 x0_2 x0_3
            else
              F41_term_shaped_l12 false x0_0 x0_1 x0_2 x0_3 :=
  (F_eq (G := G) rfl fn18 rfl _).trans ((run_eq _ _ _ _).trans (by kernel_rfl))
theorem F41_term_shaped_l12_eq (v3 : Bool) (h0_0 : Int) (h0_1 : Int) (h0_2 : ByteArray) (h0_3 : (List S43)) : F41_term_shaped_l12 v3 h0_0 h0_1 h0_2 h0_3 =
    if v3 = true then
      (F63_slices_ContainsFunc_64 h0_3).bind fun y1 =>
      some ((!y1.1), ())
    else
      some (false, ()) :=
  (run_eq _ _ _ _).trans (by kernel_rfl)
theorem F63_slices_ContainsFunc_64_eq (x0 : (List S43)) : F63_slices_ContainsFunc_64 x0 =
    (F75_slices_IndexFunc_64 x0).bind fun y1 =>
    some ((decide ((0 : Int) ≤ y1.1)), ()) :=
  (F_eq (G := G) rfl fn19 rfl _).trans ((run_eq _ _ _ _).trans (by kernel_rfl))
theorem F75_slices_IndexFunc_64_eq (x0 : (List S43)) : F75_slices_IndexFunc_64 x0 =
    F75_slices_IndexFunc_64_l1000002 x0 (List.length x0 : Int) 0 :=
  (F_eq (G := G) rfl fn20 rfl _).trans ((run_eq _ _ _ _).trans (by kernel_rfl))
theorem F75_slices_IndexFunc_64_l1000002_eq (v0 : (List S43)) (v7 : Int) (v8 : Int) : F75_slices_IndexFunc_64_l1000002 v0 v7 v8 =
    if v8 < v7 then
      if (0 : Int) ≤ v8 ∧ v8 < (List.length v0 : Int) then
        (F64_term_shaped_1 (S43.f0 (rd S43.z v0 v8)) (S43.f1 (rd S43.z v0 v8)) (S43.f2 (rd S43.z v0 v8)) (S43.f3 (rd S43.z v0 v8))).bind fun y1 =>
        if y1.1 = true then
          some (v8, ())
        else
          F75_slices_IndexFunc_64_l1000002 v0 v7 (IntKind.i64.wrap (v8 + (1 : Int)))
      else
        none
    else
      some ((-1), ()) :=
  (run_eq _ _ _ _).trans (by kernel_rfl)
theorem F64_term_shaped_1_eq (x0_0 : Int) (x0_1 : Int) (x0_2 : ByteArray) (x0_3 : (List S43)) : F64_term_shaped_1 x0_0 x0_1 x0_2 x0_3 =
    (F41_term_shaped x0_0 x0_1 x0_2 x0_3).bind fun y1 =>
    some ((!y1.1), ()) :=
  (F_eq (G := G) rfl fn21 rfl _).trans ((run_eq _ _ _ _).trans (by kernel_rfl))
end
end Go.Proofs.Yteoggpajjljfmaa.TermAtomsx
