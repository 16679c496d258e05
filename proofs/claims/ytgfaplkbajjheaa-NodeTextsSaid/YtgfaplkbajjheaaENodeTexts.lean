/- The law NodeTexts: what each function answers, in plain equations. Under no condition. -/
import Derived.Test.YtgfaplkbajjheaaTNodeTexts
set_option linter.unusedVariables false
set_option maxRecDepth 100000
namespace Go.Proofs.Ytgfaplkbajjheaa.NodeTextsx
open Go Go.RowKit Go.Proofs.Ytgfaplkbajjheaa.Rx Go.Proofs.Ytgfaplkbajjheaa.NodeTextsx
noncomputable section
theorem F13_lethelaw06_NodeTexts_eq (x0_0 : Int) (x0_1 : Int) (x0_2 : Int) (x0_3 : Int) (x0_4 : Int) (x0_5 : Int) (x0_6 : Int) (x1_0 : Bool) (x1_1 : (List S96)) (x1_2 : (List S100)) : F13_lethelaw06_NodeTexts x0_0 x0_1 x0_2 x0_3 x0_4 x0_5 x0_6 x1_0 x1_1 x1_2 =
    (F21_node_Term x0_0 x0_1 x0_2 x0_3 x0_4 x0_5 x0_6 x1_0 x1_1 x1_2).bind fun y1 =>
    (F16_letheref06_Right x0_0 x0_1 x0_2 x0_3 x0_4 x0_5 x0_6 x1_0 x1_1 x1_2).bind fun y2 =>
    if ¬ y1.2.2.2.2.1 = y2.1 then
      some (false, ())
    else
      if ¬ y1.2.2.2.2.1 = (0 : Int) then
        some (true, ())
      else
        (F61_term_Atoms [(S38.mk y1.1 y1.2.1 y1.2.2.1 y1.2.2.2.1)]).bind fun y3 =>
        if x1_0 = true then
          (F63_entry_Texts x1_1).bind fun y4 =>
          (F62_letheref02_SameTexts y3.1 y4.1).bind fun y5 =>
          if y5.1 = true then
            let e6 : Int := IntKind.i64.wrap ((List.length x1_1 : Int) + (1 : Int))
            some ((decide ((List.length y1.2.2.2.1 : Int) = e6)), ())
          else
            some (false, ())
        else
          if ¬ (List.length y3.1 : Int) = (List.length x1_2 : Int) then
            some (false, ())
          else
            let e7 : Int := IntKind.i64.wrap ((List.length x1_2 : Int) + (1 : Int))
            if ¬ (List.length y1.2.2.2.1 : Int) = e7 then
              some (false, ())
            else
              F13_lethelaw06_NodeTexts_l1000012 y3.1 x1_2 (List.length x1_2 : Int) 0 x1_0 x1_1 x1_2 y1.1 y1.2.1 y1.2.2.1 y1.2.2.2.1 :=
  (F_eq (G := G) rfl fn0 rfl _).trans ((run_eq _ _ _ _).trans (by kernel_rfl))
theorem F13_lethelaw06_NodeTexts_l1000012_eq (v7 : (List ByteArray)) (v63 : (List S100)) (v64 : Int) (v65 : Int) (h0_0 : Bool) (h0_1 : (List S96)) (h0_2 : (List S100)) (h1_0 : Int) (h1_1 : Int) (h1_2 : ByteArray) (h1_3 : (List S38)) : F13_lethelaw06_NodeTexts_l1000012 v7 v63 v64 v65 h0_0 h0_1 h0_2 h1_0 h1_1 h1_2 h1_3 =
    if v65 < v64 then
      if (0 : Int) ≤ v65 ∧ v65 < (List.length v63 : Int) then
        if (0 : Int) ≤ v65 ∧ v65 < (List.length v7 : Int) then
          if ¬ (rd ByteArray.empty v7 v65) = (S100.f0 (rd S100.z v63 v65)) then
            some (false, ())
          else
            if (0 : Int) ≤ (IntKind.i64.wrap (v65 + (1 : Int))) ∧ (IntKind.i64.wrap (v65 + (1 : Int))) < (List.length h1_3 : Int) then
              F13_lethelaw06_NodeTexts_l1000018 v7 false v63 v64 v65 (S38.f3 (rd S38.z h1_3 (IntKind.i64.wrap (v65 + (1 : Int))))) (List.length (S38.f3 (rd S38.z h1_3 (IntKind.i64.wrap (v65 + (1 : Int))))) : Int) 0 h0_0 h0_1 h0_2 h1_0 h1_1 h1_2 h1_3 (S100.f0 (rd S100.z v63 v65)) (S100.f1 (rd S100.z v63 v65)) (S100.f2 (rd S100.z v63 v65)) (S100.f3 (rd S100.z v63 v65)) (S100.f4 (rd S100.z v63 v65))
            else
              none
        else
          none
      else
        none
    else
      (F19_node_Low h0_0 h0_1 h0_2).bind fun y1 =>
      if (0 : Int) ≤ 0 ∧ 0 < (List.length h0_2 : Int) then
        some ((decide (y1.1 = (S100.f0 (rd S100.z h0_2 0)))), ())
      else
        none :=
  (run_eq _ _ _ _).trans (by kernel_rfl)
theorem F13_lethelaw06_NodeTexts_l1000018_eq (v7 : (List ByteArray)) (v10 : Bool) (v63 : (List S100)) (v64 : Int) (v65 : Int) (v83 : (List S38)) (v84 : Int) (v85 : Int) (h0_0 : Bool) (h0_1 : (List S96)) (h0_2 : (List S100)) (h1_0 : Int) (h1_1 : Int) (h1_2 : ByteArray) (h1_3 : (List S38)) (h2_0 : ByteArray) (h2_1 : Int) (h2_2 : Int) (h2_3 : Int) (h2_4 : Int) : F13_lethelaw06_NodeTexts_l1000018 v7 v10 v63 v64 v65 v83 v84 v85 h0_0 h0_1 h0_2 h1_0 h1_1 h1_2 h1_3 h2_0 h2_1 h2_2 h2_3 h2_4 =
    if v85 < v84 then
      if (0 : Int) ≤ v85 ∧ v85 < (List.length v83 : Int) then
        if v10 = true then
          F13_lethelaw06_NodeTexts_l1000018 v7 true v63 v64 v65 v83 v84 (IntKind.i64.wrap (v85 + (1 : Int))) h0_0 h0_1 h0_2 h1_0 h1_1 h1_2 h1_3 h2_0 h2_1 h2_2 h2_3 h2_4
        else
          if (S38.f0 (rd S38.z v83 v85)) = (3 : Int) then
            F13_lethelaw06_NodeTexts_l1000018 v7 (decide ((S38.f1 (rd S38.z v83 v85)) = h2_1)) v63 v64 v65 v83 v84 (IntKind.i64.wrap (v85 + (1 : Int))) h0_0 h0_1 h0_2 h1_0 h1_1 h1_2 h1_3 h2_0 h2_1 h2_2 h2_3 h2_4
          else
            F13_lethelaw06_NodeTexts_l1000018 v7 false v63 v64 v65 v83 v84 (IntKind.i64.wrap (v85 + (1 : Int))) h0_0 h0_1 h0_2 h1_0 h1_1 h1_2 h1_3 h2_0 h2_1 h2_2 h2_3 h2_4
      else
        none
    else
      if (!v10) = true then
        some (false, ())
      else
        F13_lethelaw06_NodeTexts_l1000012 v7 v63 v64 (IntKind.i64.wrap (v65 + (1 : Int))) h0_0 h0_1 h0_2 h1_0 h1_1 h1_2 h1_3 :=
  (run_eq _ _ _ _).trans (by kernel_rfl)
theorem F21_node_Term_eq (x0_0 : Int) (x0_1 : Int) (x0_2 : Int) (x0_3 : Int) (x0_4 : Int) (x0_5 : Int) (x0_6 : Int) (x1_0 : Bool) (x1_1 : (List S96)) (x1_2 : (List S100)) : F21_node_Term x0_0 x0_1 x0_2 x0_3 x0_4 x0_5 x0_6 x1_0 x1_1 x1_2 =
    (F15_node_Right x0_0 x0_1 x0_2 x0_3 x0_4 x0_5 x0_6 x1_0 x1_1 x1_2).bind fun y1 =>
    if ¬ y1.1 = (0 : Int) then
      some (0, 0, ByteArray.empty, [], y1.1, ())
    else
      if x1_0 = true then
        (F72_node_number 1).bind fun y2 =>
        (F71_node_row_73 y2.1 y2.2.1 y2.2.2.1 y2.2.2.2.1 x1_1).bind fun y3 =>
        some (y3.1, y3.2.1, y3.2.2.1, y3.2.2.2.1, 0, ())
      else
        (F72_node_number 2).bind fun y4 =>
        (F78_node_row_79 y4.1 y4.2.1 y4.2.2.1 y4.2.2.2.1 x1_2).bind fun y5 =>
        some (y5.1, y5.2.1, y5.2.2.1, y5.2.2.2.1, 0, ()) :=
  (F_eq (G := G) rfl fn1 rfl _).trans ((run_eq _ _ _ _).trans (by kernel_rfl))
theorem F16_letheref06_Right_eq (x0_0 : Int) (x0_1 : Int) (x0_2 : Int) (x0_3 : Int) (x0_4 : Int) (x0_5 : Int) (x0_6 : Int) (x1_0 : Bool) (x1_1 : (List S96)) (x1_2 : (List S100)) : F16_letheref06_Right x0_0 x0_1 x0_2 x0_3 x0_4 x0_5 x0_6 x1_0 x1_1 x1_2 =
    (F68_letheref04_Right x0_0 x0_1 x0_2 x0_3 x0_4 x0_5 x0_6).bind fun y1 =>
    if (!y1.1) = true then
      some (40, ())
    else
      if x1_0 = true then
        (F69_letheref06_leaf x0_0 x0_1 x0_2 x0_3 x0_4 x0_5 x0_6 x1_0 x1_1 x1_2).bind fun y2 =>
        some (y2.1, ())
      else
        (F70_letheref06_inner x0_0 x0_1 x0_2 x0_3 x0_4 x0_5 x0_6 x1_0 x1_1 x1_2).bind fun y3 =>
        some (y3.1, ()) :=
  (F_eq (G := G) rfl fn2 rfl _).trans ((run_eq _ _ _ _).trans (by kernel_rfl))
theorem F61_term_Atoms_eq (x0 : (List S38)) : F61_term_Atoms x0 =
    F61_term_Atoms_l1000003 x0 (List.length x0 : Int) 0 [] :=
  (F_eq (G := G) rfl fn3 rfl _).trans ((run_eq _ _ _ _).trans (by kernel_rfl))
theorem F61_term_Atoms_l1000003_eq (v6 : (List S38)) (v7 : Int) (v8 : Int) (g0 : (List ByteArray)) : F61_term_Atoms_l1000003 v6 v7 v8 g0 =
    if v8 < v7 then
      if (0 : Int) ≤ v8 ∧ v8 < (List.length v6 : Int) then
        (F82_term_Right (S38.f0 (rd S38.z v6 v8)) (S38.f1 (rd S38.z v6 v8)) (S38.f2 (rd S38.z v6 v8)) (S38.f3 (rd S38.z v6 v8))).bind fun y1 =>
        if y1.1 = (0 : Int) then
          (F113_term_gather (S38.f0 (rd S38.z v6 v8)) (S38.f1 (rd S38.z v6 v8)) (S38.f2 (rd S38.z v6 v8)) (S38.f3 (rd S38.z v6 v8)) g0).bind fun y2 =>
          if y2.1 = true then
            F61_term_Atoms_l1000003 v6 v7 (IntKind.i64.wrap (v8 + (1 : Int))) y2.2.1
          else
            F61_term_Atoms_l1000003 v6 v7 (IntKind.i64.wrap (v8 + (1 : Int))) y2.2.2.1
        else
          F61_term_Atoms_l1000003 v6 v7 (IntKind.i64.wrap (v8 + (1 : Int))) g0
      else
        none
    else
      (F114_slices_Sort g0).bind fun y3 =>
      (F116_slices_Compact y3.1).bind fun y4 =>
      (F115_slices_Clip y4.1).bind fun y5 =>
      some (y5.1, ()) :=
  (run_eq _ _ _ _).trans (by kernel_rfl)
theorem F63_entry_Texts_eq (x0 : (List S96)) : F63_entry_Texts x0 =
    F63_entry_Texts_l1000003 x0 (List.length x0 : Int) 0 [] :=
  (F_eq (G := G) rfl fn4 rfl _).trans ((run_eq _ _ _ _).trans (by kernel_rfl))
theorem F63_entry_Texts_l1000003_eq (v8 : (List S96)) (v9 : Int) (v10 : Int) (g0 : (List ByteArray)) : F63_entry_Texts_l1000003 v8 v9 v10 g0 =
    if v10 < v9 then
      if (0 : Int) ≤ v10 ∧ v10 < (List.length v8 : Int) then
        if (List.length g0 + List.length [(S96.f0 (rd S96.z v8 v10))]) * 16 ≤ 140737488355328 then
          F63_entry_Texts_l1000007 v8 v9 v10 (S96.f1 (rd S96.z v8 v10)) (List.length (S96.f1 (rd S96.z v8 v10)) : Int) 0 (g0 ++ [(S96.f0 (rd S96.z v8 v10))])
        else
          none
      else
        none
    else
      (F114_slices_Sort g0).bind fun y1 =>
      (F116_slices_Compact y1.1).bind fun y2 =>
      (F115_slices_Clip y2.1).bind fun y3 =>
      some (y3.1, ()) :=
  (run_eq _ _ _ _).trans (by kernel_rfl)
theorem F63_entry_Texts_l1000007_eq (v8 : (List S96)) (v9 : Int) (v10 : Int) (v20 : (List S98)) (v21 : Int) (v22 : Int) (g0 : (List ByteArray)) : F63_entry_Texts_l1000007 v8 v9 v10 v20 v21 v22 g0 =
    if v22 < v21 then
      if (0 : Int) ≤ v22 ∧ v22 < (List.length v20 : Int) then
        let e1 : (List ByteArray) := [(S98.f1 (rd S98.z v20 v22)), (S98.f2 (rd S98.z v20 v22))]
        if (List.length g0 + List.length e1) * 16 ≤ 140737488355328 then
          F63_entry_Texts_l1000007 v8 v9 v10 v20 v21 (IntKind.i64.wrap (v22 + (1 : Int))) (g0 ++ e1)
        else
          none
      else
        none
    else
      F63_entry_Texts_l1000003 v8 v9 (IntKind.i64.wrap (v10 + (1 : Int))) g0 :=
  (run_eq _ _ _ _).trans (by kernel_rfl)
theorem F62_letheref02_SameTexts_eq (x0 : (List ByteArray)) (x1 : (List ByteArray)) : F62_letheref02_SameTexts x0 x1 =
    if ¬ (List.length x0 : Int) = (List.length x1 : Int) then
      some (false, ())
    else
      F62_letheref02_SameTexts_l1000004 x0 x1 (List.length x0 : Int) 0 :=
  (F_eq (G := G) rfl fn5 rfl _).trans ((run_eq _ _ _ _).trans (by kernel_rfl))
theorem F62_letheref02_SameTexts_l1000004_eq (v0 : (List ByteArray)) (v1 : (List ByteArray)) (v12 : Int) (v13 : Int) : F62_letheref02_SameTexts_l1000004 v0 v1 v12 v13 =
    if v13 < v12 then
      if (0 : Int) ≤ v13 ∧ v13 < (List.length v0 : Int) then
        if (0 : Int) ≤ v13 ∧ v13 < (List.length v1 : Int) then
          if ¬ (rd ByteArray.empty v0 v13) = (rd ByteArray.empty v1 v13) then
            some (false, ())
          else
            F62_letheref02_SameTexts_l1000004 v0 v1 v12 (IntKind.i64.wrap (v13 + (1 : Int)))
        else
          none
      else
        none
    else
      some (true, ()) :=
  (run_eq _ _ _ _).trans (by kernel_rfl)
theorem F19_node_Low_eq (x0_0 : Bool) (x0_1 : (List S96)) (x0_2 : (List S100)) : F19_node_Low x0_0 x0_1 x0_2 =
    if x0_0 = true then
      if (0 : Int) < (List.length x0_1 : Int) then
        if (0 : Int) ≤ 0 ∧ 0 < (List.length x0_1 : Int) then
          some ((S96.f0 (rd S96.z x0_1 0)), ())
        else
          none
      else
        if (!x0_0) = true then
          if (0 : Int) < (List.length x0_2 : Int) then
            if (0 : Int) ≤ 0 ∧ 0 < (List.length x0_2 : Int) then
              some ((S100.f0 (rd S100.z x0_2 0)), ())
            else
              none
          else
            F19_node_Low_l5 
        else
          F19_node_Low_l5 
    else
      if (!x0_0) = true then
        if (0 : Int) < (List.length x0_2 : Int) then
          if (0 : Int) ≤ 0 ∧ 0 < (List.length x0_2 : Int) then
            some ((S100.f0 (rd S100.z x0_2 0)), ())
          else
            none
        else
          F19_node_Low_l5 
      else
        F19_node_Low_l5  :=
  (F_eq (G := G) rfl fn6 rfl _).trans ((run_eq _ _ _ _).trans (by kernel_rfl))
theorem F19_node_Low_l5_eq  : F19_node_Low_l5  =
    some (ByteArray.empty, ()) :=
  (run_eq _ _ _ _).trans (by kernel_rfl)
theorem F114_slices_Sort_eq (g0 : (List ByteArray)) : F114_slices_Sort g0 =
    if List.length g0 < 4611686018427387904 then
      some ((sortS g0), ())
    else
      none :=
  (F_giv (G := G) rfl _).trans (by kernel_rfl)
theorem F116_slices_Compact_eq (g0 : (List ByteArray)) : F116_slices_Compact g0 =
    some ((compS g0), ()) :=
  (F_giv (G := G) rfl _).trans (by kernel_rfl)
theorem F115_slices_Clip_eq (x0 : (List ByteArray)) : F115_slices_Clip x0 =
    if (0 : Int) ≤ 0 ∧ (0 : Int) ≤ (List.length x0 : Int) ∧ (List.length x0 : Int) ≤ (List.length x0 : Int) ∧ (List.length x0 : Int) ≤ (List.length x0 : Int) then
      some ((subL x0 0 (List.length x0 : Int)), ())
    else
      none :=
  (F_eq (G := G) rfl fn9 rfl _).trans ((run_eq _ _ _ _).trans (by kernel_rfl))
theorem F82_term_Right_eq (x0_0 : Int) (x0_1 : Int) (x0_2 : ByteArray) (x0_3 : (List S38)) : F82_term_Right x0_0 x0_1 x0_2 x0_3 =
    (F127_term_parts x0_0 x0_1 x0_2 x0_3 4001).bind fun y1 =>
    if (4000 : Int) < y1.1 then
      some (23, ())
    else
      (F128_term_deep x0_0 x0_1 x0_2 x0_3 13).bind fun y2 =>
      if (12 : Int) < y2.1 then
        some (22, ())
      else
        (F129_term_shaped x0_0 x0_1 x0_2 x0_3).bind fun y3 =>
        if (!y3.1) = true then
          some (25, ())
        else
          some (0, ()) :=
  (F_eq (G := G) rfl fn10 rfl _).trans ((run_eq _ _ _ _).trans (by kernel_rfl))
theorem F113_term_gather_eq (x1_0 : Int) (x1_1 : Int) (x1_2 : ByteArray) (x1_3 : (List S38)) (g0 : (List ByteArray)) : F113_term_gather x1_0 x1_1 x1_2 x1_3 g0 =
    if x1_0 = (2 : Int) then
      if (List.length g0 + List.length [x1_2]) * 16 ≤ 140737488355328 then
        some (true, (g0 ++ [x1_2]), [], ())
      else
        none
    else
      F113_term_gather_l1000004 x1_3 (List.length x1_3 : Int) 0 g0 :=
  (F_eq (G := G) rfl fn11 rfl _).trans ((run_eq _ _ _ _).trans (by kernel_rfl))
theorem F113_term_gather_l1000004_eq (v16 : (List S38)) (v17 : Int) (v18 : Int) (g0 : (List ByteArray)) : F113_term_gather_l1000004 v16 v17 v18 g0 =
    if v18 < v17 then
      if (0 : Int) ≤ v18 ∧ v18 < (List.length v16 : Int) then
        (F113_term_gather (S38.f0 (rd S38.z v16 v18)) (S38.f1 (rd S38.z v16 v18)) (S38.f2 (rd S38.z v16 v18)) (S38.f3 (rd S38.z v16 v18)) g0).bind fun y1 =>
        if y1.1 = true then
          F113_term_gather_l1000004_1 v16 v17 (IntKind.i64.wrap (v18 + (1 : Int))) y1.2.1
        else
          F113_term_gather_l1000004 v16 v17 (IntKind.i64.wrap (v18 + (1 : Int))) y1.2.2.1
      else
        none
    else
      some (false, [], g0, ()) :=
  (run_eq _ _ _ _).trans (by kernel_rfl)
theorem F113_term_gather_l1000004_1_eq (v16 : (List S38)) (v17 : Int) (v18 : Int) (g1 : (List ByteArray)) : F113_term_gather_l1000004_1 v16 v17 v18 g1 =
    if v18 < v17 then
      if (0 : Int) ≤ v18 ∧ v18 < (List.length v16 : Int) then
        (F113_term_gather (S38.f0 (rd S38.z v16 v18)) (S38.f1 (rd S38.z v16 v18)) (S38.f2 (rd S38.z v16 v18)) (S38.f3 (rd S38.z v16 v18)) g1).bind fun y1 =>
        if y1.1 = true then
          F113_term_gather_l1000004_1 v16 v17 (IntKind.i64.wrap (v18 + (1 : Int))) y1.2.1
        else
          F113_term_gather_l1000004_1 v16 v17 (IntKind.i64.wrap (v18 + (1 : Int))) y1.2.2.1
      else
        none
    else
      some (true, g1, [], ()) :=
  (run_eq _ _ _ _).trans (by kernel_rfl)
theorem F127_term_parts_eq (x0_0 : Int) (x0_1 : Int) (x0_2 : ByteArray) (x0_3 : (List S38)) (x1 : Int) : F127_term_parts x0_0 x0_1 x0_2 x0_3 x1 =
    F127_term_parts_l1000003 x1 1 x0_3 (List.length x0_3 : Int) 0 :=
  (F_eq (G := G) rfl fn12 rfl _).trans ((run_eq _ _ _ _).trans (by kernel_rfl))
theorem F127_term_parts_l1000003_eq (v1 : Int) (v5 : Int) (v9 : (List S38)) (v10 : Int) (v11 : Int) : F127_term_parts_l1000003 v1 v5 v9 v10 v11 =
    if v11 < v10 then
      if (0 : Int) ≤ v11 ∧ v11 < (List.length v9 : Int) then
        if v1 ≤ v5 then
          some (v5, ())
        else
          (F127_term_parts (S38.f0 (rd S38.z v9 v11)) (S38.f1 (rd S38.z v9 v11)) (S38.f2 (rd S38.z v9 v11)) (S38.f3 (rd S38.z v9 v11)) (IntKind.i64.wrap (v1 - v5))).bind fun y1 =>
          F127_term_parts_l1000003 v1 (IntKind.i64.wrap (v5 + y1.1)) v9 v10 (IntKind.i64.wrap (v11 + (1 : Int)))
      else
        none
    else
      some (v5, ()) :=
  (run_eq _ _ _ _).trans (by kernel_rfl)
theorem F128_term_deep_eq (x0_0 : Int) (x0_1 : Int) (x0_2 : ByteArray) (x0_3 : (List S38)) (x1 : Int) : F128_term_deep x0_0 x0_1 x0_2 x0_3 x1 =
    if (1 : Int) < x1 then
      F128_term_deep_l1000004 x1 0 x0_3 (List.length x0_3 : Int) 0
    else
      some ((IntKind.i64.wrap ((0 : Int) + (1 : Int))), ()) :=
  (F_eq (G := G) rfl fn13 rfl _).trans ((run_eq _ _ _ _).trans (by kernel_rfl))
theorem F128_term_deep_l1000004_eq (v1 : Int) (v5 : Int) (v11 : (List S38)) (v12 : Int) (v13 : Int) : F128_term_deep_l1000004 v1 v5 v11 v12 v13 =
    if v13 < v12 then
      if (0 : Int) ≤ v13 ∧ v13 < (List.length v11 : Int) then
        (F128_term_deep (S38.f0 (rd S38.z v11 v13)) (S38.f1 (rd S38.z v11 v13)) (S38.f2 (rd S38.z v11 v13)) (S38.f3 (rd S38.z v11 v13)) (IntKind.i64.wrap (v1 - (1 : Int)))).bind fun y1 =>
        F128_term_deep_l1000004 v1 (mx v5 y1.1) v11 v12 (IntKind.i64.wrap (v13 + (1 : Int)))
      else
        none
    else
      some ((IntKind.i64.wrap (v5 + (1 : Int))), ()) :=
  (run_eq _ _ _ _).trans (by kernel_rfl)
theorem F129_term_shaped_eq (x0_0 : Int) (x0_1 : Int) (x0_2 : ByteArray) (x0_3 : (List S38)) : F129_term_shaped x0_0 x0_1 x0_2 x0_3 =
    if x0_0 = (1 : Int) then
      if x0_0 = (1 : Int) then
        if x0_2 = ByteArray.empty then
          F129_term_shaped_l12 (decide ((List.length x0_3 : Int) = (0 : Int))) x0_0 x0_1 x0_2 x0_3
        else
          F129_term_shaped_l12 false x0_0 x0_1 x0_2 x0_3
      else
        if x0_0 = (2 : Int) then
          if x0_1 = (0 : Int) then
            if (ByteArray.size x0_2 : Int) ≤ (4000 : Int) then
              F129_term_shaped_l12 (decide ((List.length x0_3 : Int) = (0 : Int))) x0_0 x0_1 x0_2 x0_3
            else
              F129_term_shaped_l12 false x0_0 x0_1 x0_2 x0_3
          else
            F129_term_shaped_l12 false x0_0 x0_1 x0_2 x0_3
        else
          if x0_0 = (4 : Int) then
            if x0_2 = ByteArray.empty then
              F129_term_shaped_l12 (decide ((List.length x0_3 : Int) = (1 : Int))) x0_0 x0_1 x0_2 x0_3
            else
              F129_term_shaped_l12 false x0_0 x0_1 x0_2 x0_3
          else
            if x0_0 = (5 : Int) then
              if x0_1 = (0 : Int) then
                F129_term_shaped_l12 (decide (x0_2 = ByteArray.empty)) x0_0 x0_1 x0_2 x0_3
              else
                F129_term_shaped_l12 false x0_0 x0_1 x0_2 x0_3
            else
              F129_term_shaped_l12 false x0_0 x0_1 x0_2 x0_3
    else
      if x0_0 = (3 : Int) then
        if x0_2 = ByteArray.empty then
          F129_term_shaped_l12 (decide ((List.length x0_3 : Int) = (0 : Int))) x0_0 x0_1 x0_2 x0_3
        else
          F129_term_shaped_l12 false x0_0 x0_1 x0_2 x0_3
      else
        if x0_0 = (2 : Int) then
          if x0_1 = (0 : Int) then
            if (ByteArray.size x0_2 : Int) ≤ (4000 : Int) then
              F129_term_shaped_l12 (decide ((List.length x0_3 : Int) = (0 : Int))) x0_0 x0_1 x0_2 x0_3
            else
              F129_term_shaped_l12 false x0_0 x0_1 x0_2 x0_3
          else
            F129_term_shaped_l12 false x0_0 x0_1 x0_2 x0_3
        else
          if x0_0 = (4 : Int) then
            if x0_2 = ByteArray.empty then
              F129_term_shaped_l12 (decide ((List.length x0_3 : Int) = (1 : Int))) x0_0 x0_1 x0_2 x0_3
            else
              F129_term_shaped_l12 false x0_0 x0_1 x0_2 x0_3
          else
            if x0_0 = (5 : Int) then
              if x0_1 = (0 : Int) then
                F129_term_shaped_l12 (decide (x0_2 = ByteArray.empty)) x0_0 x0_1 x0_2 x0_3
              else
                F129_term_shaped_l12 false x0_0 x0_1 x0_2 x0_3
            else
              F129_term_shaped_l12 false x0_0 x0_1 x0_2 x0_3 :=
  (F_eq (G := G) rfl fn14 rfl _).trans ((run_eq _ _ _ _).trans (by kernel_rfl))
theorem F129_term_shaped_l12_eq (v3 : Bool) (h0_0 : Int) (h0_1 : Int) (h0_2 : ByteArray) (h0_3 : (List S38)) : F129_term_shaped_l12 v3 h0_0 h0_1 h0_2 h0_3 =
    if v3 = true then
      (F156_slices_ContainsFunc_157 h0_3).bind fun y1 =>
      some ((!y1.1), ())
    else
      some (false, ()) :=
  (run_eq _ _ _ _).trans (by kernel_rfl)
theorem F156_slices_ContainsFunc_157_eq (x0 : (List S38)) : F156_slices_ContainsFunc_157 x0 =
    (F185_slices_IndexFunc_157 x0).bind fun y1 =>
    some ((decide ((0 : Int) ≤ y1.1)), ()) :=
  (F_eq (G := G) rfl fn15 rfl _).trans ((run_eq _ _ _ _).trans (by kernel_rfl))
theorem F185_slices_IndexFunc_157_eq (x0 : (List S38)) : F185_slices_IndexFunc_157 x0 =
    F185_slices_IndexFunc_157_l1000002 x0 (List.length x0 : Int) 0 :=
  (F_eq (G := G) rfl fn16 rfl _).trans ((run_eq _ _ _ _).trans (by kernel_rfl))
theorem F185_slices_IndexFunc_157_l1000002_eq (v0 : (List S38)) (v7 : Int) (v8 : Int) : F185_slices_IndexFunc_157_l1000002 v0 v7 v8 =
    if v8 < v7 then
      if (0 : Int) ≤ v8 ∧ v8 < (List.length v0 : Int) then
        (F157_term_shaped_1 (S38.f0 (rd S38.z v0 v8)) (S38.f1 (rd S38.z v0 v8)) (S38.f2 (rd S38.z v0 v8)) (S38.f3 (rd S38.z v0 v8))).bind fun y1 =>
        if y1.1 = true then
          some (v8, ())
        else
          F185_slices_IndexFunc_157_l1000002 v0 v7 (IntKind.i64.wrap (v8 + (1 : Int)))
      else
        none
    else
      some ((-1), ()) :=
  (run_eq _ _ _ _).trans (by kernel_rfl)
theorem F157_term_shaped_1_eq (x0_0 : Int) (x0_1 : Int) (x0_2 : ByteArray) (x0_3 : (List S38)) : F157_term_shaped_1 x0_0 x0_1 x0_2 x0_3 =
    (F129_term_shaped x0_0 x0_1 x0_2 x0_3).bind fun y1 =>
    some ((!y1.1), ()) :=
  (F_eq (G := G) rfl fn17 rfl _).trans ((run_eq _ _ _ _).trans (by kernel_rfl))
theorem F68_letheref04_Right_eq (x0_0 : Int) (x0_1 : Int) (x0_2 : Int) (x0_3 : Int) (x0_4 : Int) (x0_5 : Int) (x0_6 : Int) : F68_letheref04_Right x0_0 x0_1 x0_2 x0_3 x0_4 x0_5 x0_6 =
    if x0_0 < (1 : Int) then
      F68_letheref04_Right_l2 
    else
      if (64 : Int) < x0_0 then
        F68_letheref04_Right_l2 
      else
        if x0_1 < (1 : Int) then
          F68_letheref04_Right_l2 
        else
          if (16 : Int) < x0_1 then
            F68_letheref04_Right_l2 
          else
            if x0_2 < (0 : Int) then
              F68_letheref04_Right_l2 
            else
              if (32 : Int) < x0_2 then
                F68_letheref04_Right_l2 
              else
                if x0_3 < (0 : Int) then
                  F68_letheref04_Right_l2 
                else
                  if (16 : Int) < x0_3 then
                    F68_letheref04_Right_l2 
                  else
                    if (1 : Int) ≤ x0_4 then
                      if x0_4 ≤ (4 : Int) then
                        if (1 : Int) ≤ x0_5 then
                          if x0_5 ≤ (8 : Int) then
                            if (0 : Int) ≤ x0_6 then
                              some ((decide (x0_6 ≤ (32 : Int))), ())
                            else
                              some (false, ())
                          else
                            some (false, ())
                        else
                          some (false, ())
                      else
                        some (false, ())
                    else
                      some (false, ()) :=
  (F_eq (G := G) rfl fn18 rfl _).trans ((run_eq _ _ _ _).trans (by kernel_rfl))
theorem F68_letheref04_Right_l2_eq  : F68_letheref04_Right_l2  =
    some (false, ()) :=
  (run_eq _ _ _ _).trans (by kernel_rfl)
theorem F69_letheref06_leaf_eq (x0_0 : Int) (x0_1 : Int) (x0_2 : Int) (x0_3 : Int) (x0_4 : Int) (x0_5 : Int) (x0_6 : Int) (x1_0 : Bool) (x1_1 : (List S96)) (x1_2 : (List S100)) : F69_letheref06_leaf x0_0 x0_1 x0_2 x0_3 x0_4 x0_5 x0_6 x1_0 x1_1 x1_2 =
    if (0 : Int) < (List.length x1_2 : Int) then
      some (60, ())
    else
      if (4 : Int) < (List.length x1_1 : Int) then
        some (60, ())
      else
        F69_letheref06_leaf_l1000004 x1_1 (List.length x1_1 : Int) 0 x0_0 x0_1 x0_2 x0_3 x0_4 x0_5 x0_6 x1_0 x1_1 x1_2 :=
  (F_eq (G := G) rfl fn19 rfl _).trans ((run_eq _ _ _ _).trans (by kernel_rfl))
theorem F69_letheref06_leaf_l1000004_eq (v19 : (List S96)) (v20 : Int) (v21 : Int) (h0_0 : Int) (h0_1 : Int) (h0_2 : Int) (h0_3 : Int) (h0_4 : Int) (h0_5 : Int) (h0_6 : Int) (h1_0 : Bool) (h1_1 : (List S96)) (h1_2 : (List S100)) : F69_letheref06_leaf_l1000004 v19 v20 v21 h0_0 h0_1 h0_2 h0_3 h0_4 h0_5 h0_6 h1_0 h1_1 h1_2 =
    if v21 < v20 then
      if (0 : Int) ≤ v21 ∧ v21 < (List.length v19 : Int) then
        (F123_letheref05_Right h0_0 h0_1 h0_2 h0_3 h0_4 h0_5 h0_6 (S96.f0 (rd S96.z v19 v21)) (S96.f1 (rd S96.z v19 v21))).bind fun y1 =>
        if ¬ y1.1 = (0 : Int) then
          some (y1.1, ())
        else
          if (0 : Int) < v21 then
            if (0 : Int) ≤ (IntKind.i64.wrap (v21 - (1 : Int))) ∧ (IntKind.i64.wrap (v21 - (1 : Int))) < (List.length h1_1 : Int) then
              if sLt (S96.f0 (rd S96.z h1_1 (IntKind.i64.wrap (v21 - (1 : Int))))) (S96.f0 (rd S96.z v19 v21)) = false then
                some (60, ())
              else
                F69_letheref06_leaf_l1000004 v19 v20 (IntKind.i64.wrap (v21 + (1 : Int))) h0_0 h0_1 h0_2 h0_3 h0_4 h0_5 h0_6 h1_0 h1_1 h1_2
            else
              none
          else
            F69_letheref06_leaf_l1000004 v19 v20 (IntKind.i64.wrap (v21 + (1 : Int))) h0_0 h0_1 h0_2 h0_3 h0_4 h0_5 h0_6 h1_0 h1_1 h1_2
      else
        none
    else
      some (0, ()) :=
  (run_eq _ _ _ _).trans (by kernel_rfl)
theorem F70_letheref06_inner_eq (x0_0 : Int) (x0_1 : Int) (x0_2 : Int) (x0_3 : Int) (x0_4 : Int) (x0_5 : Int) (x0_6 : Int) (x1_0 : Bool) (x1_1 : (List S96)) (x1_2 : (List S100)) : F70_letheref06_inner x0_0 x0_1 x0_2 x0_3 x0_4 x0_5 x0_6 x1_0 x1_1 x1_2 =
    if (0 : Int) < (List.length x1_1 : Int) then
      some (60, ())
    else
      if (List.length x1_2 : Int) < (2 : Int) then
        some (60, ())
      else
        if (4 : Int) < (List.length x1_2 : Int) then
          some (60, ())
        else
          F70_letheref06_inner_l1000004 x1_2 (List.length x1_2 : Int) 0 x0_0 x0_1 x0_2 x0_3 x0_4 x0_5 x0_6 x1_0 x1_1 x1_2 :=
  (F_eq (G := G) rfl fn20 rfl _).trans ((run_eq _ _ _ _).trans (by kernel_rfl))
theorem F70_letheref06_inner_l1000004_eq (v24 : (List S100)) (v25 : Int) (v26 : Int) (h0_0 : Int) (h0_1 : Int) (h0_2 : Int) (h0_3 : Int) (h0_4 : Int) (h0_5 : Int) (h0_6 : Int) (h1_0 : Bool) (h1_1 : (List S96)) (h1_2 : (List S100)) : F70_letheref06_inner_l1000004 v24 v25 v26 h0_0 h0_1 h0_2 h0_3 h0_4 h0_5 h0_6 h1_0 h1_1 h1_2 =
    if v26 < v25 then
      if (0 : Int) ≤ v26 ∧ v26 < (List.length v24 : Int) then
        if (S100.f0 (rd S100.z v24 v26)) = ByteArray.empty then
          some (4, ())
        else
          if h0_1 < (ByteArray.size (S100.f0 (rd S100.z v24 v26)) : Int) then
            some (5, ())
          else
            (F18_letheref06_RefRight (S100.f1 (rd S100.z v24 v26)) (S100.f2 (rd S100.z v24 v26)) (S100.f3 (rd S100.z v24 v26)) (S100.f4 (rd S100.z v24 v26))).bind fun y1 =>
            if (!y1.1) = true then
              some (61, ())
            else
              if (0 : Int) < v26 then
                if (0 : Int) ≤ (IntKind.i64.wrap (v26 - (1 : Int))) ∧ (IntKind.i64.wrap (v26 - (1 : Int))) < (List.length h1_2 : Int) then
                  if sLt (S100.f0 (rd S100.z h1_2 (IntKind.i64.wrap (v26 - (1 : Int))))) (S100.f0 (rd S100.z v24 v26)) = false then
                    some (60, ())
                  else
                    F70_letheref06_inner_l1000004 v24 v25 (IntKind.i64.wrap (v26 + (1 : Int))) h0_0 h0_1 h0_2 h0_3 h0_4 h0_5 h0_6 h1_0 h1_1 h1_2
                else
                  none
              else
                F70_letheref06_inner_l1000004 v24 v25 (IntKind.i64.wrap (v26 + (1 : Int))) h0_0 h0_1 h0_2 h0_3 h0_4 h0_5 h0_6 h1_0 h1_1 h1_2
      else
        none
    else
      some (0, ()) :=
  (run_eq _ _ _ _).trans (by kernel_rfl)
theorem F18_letheref06_RefRight_eq (x0_0 : Int) (x0_1 : Int) (x0_2 : Int) (x0_3 : Int) : F18_letheref06_RefRight x0_0 x0_1 x0_2 x0_3 =
    if (0 : Int) ≤ x0_1 then
      if x0_1 ≤ (1048576 : Int) then
        if (0 : Int) ≤ x0_2 then
          if x0_2 ≤ (134217728 : Int) then
            if (1 : Int) ≤ x0_3 then
              some ((decide (x0_3 ≤ (1048576 : Int))), ())
            else
              some (false, ())
          else
            some (false, ())
        else
          some (false, ())
      else
        some (false, ())
    else
      some (false, ()) :=
  (F_eq (G := G) rfl fn21 rfl _).trans ((run_eq _ _ _ _).trans (by kernel_rfl))
theorem F123_letheref05_Right_eq (x0_0 : Int) (x0_1 : Int) (x0_2 : Int) (x0_3 : Int) (x0_4 : Int) (x0_5 : Int) (x0_6 : Int) (x1_0 : ByteArray) (x1_1 : (List S98)) : F123_letheref05_Right x0_0 x0_1 x0_2 x0_3 x0_4 x0_5 x0_6 x1_0 x1_1 =
    (F154_letheref05_Named x0_0 x0_1 x0_2 x0_3 x0_4 x0_5 x0_6 x1_0 x1_1).bind fun y1 =>
    if y1.1 = (0 : Int) then
      if (List.length x1_1 : Int) = (0 : Int) then
        some (50, ())
      else
        some (y1.1, ())
    else
      some (y1.1, ()) :=
  (F_eq (G := G) rfl fn22 rfl _).trans ((run_eq _ _ _ _).trans (by kernel_rfl))
theorem F154_letheref05_Named_eq (x0_0 : Int) (x0_1 : Int) (x0_2 : Int) (x0_3 : Int) (x0_4 : Int) (x0_5 : Int) (x0_6 : Int) (x1_0 : ByteArray) (x1_1 : (List S98)) : F154_letheref05_Named x0_0 x0_1 x0_2 x0_3 x0_4 x0_5 x0_6 x1_0 x1_1 =
    (F68_letheref04_Right x0_0 x0_1 x0_2 x0_3 x0_4 x0_5 x0_6).bind fun y1 =>
    if (!y1.1) = true then
      some (40, ())
    else
      if x1_0 = ByteArray.empty then
        some (4, ())
      else
        if x0_1 < (ByteArray.size x1_0 : Int) then
          some (5, ())
        else
          if x0_4 < (List.length x1_1 : Int) then
            some (50, ())
          else
            F154_letheref05_Named_l1000010 x1_1 (List.length x1_1 : Int) 0 x0_0 x0_1 x0_2 x0_3 x0_4 x0_5 x0_6 x1_0 x1_1 :=
  (F_eq (G := G) rfl fn23 rfl _).trans ((run_eq _ _ _ _).trans (by kernel_rfl))
theorem F154_letheref05_Named_l1000010_eq (v26 : (List S98)) (v27 : Int) (v28 : Int) (h0_0 : Int) (h0_1 : Int) (h0_2 : Int) (h0_3 : Int) (h0_4 : Int) (h0_5 : Int) (h0_6 : Int) (h1_0 : ByteArray) (h1_1 : (List S98)) : F154_letheref05_Named_l1000010 v26 v27 v28 h0_0 h0_1 h0_2 h0_3 h0_4 h0_5 h0_6 h1_0 h1_1 =
    if v28 < v27 then
      if (0 : Int) ≤ v28 ∧ v28 < (List.length v26 : Int) then
        if (S98.f0 (rd S98.z v26 v28)) < (1 : Int) then
          some (50, ())
        else
          if (1073741824 : Int) < (S98.f0 (rd S98.z v26 v28)) then
            some (50, ())
          else
            if (0 : Int) < v28 then
              if (0 : Int) ≤ (IntKind.i64.wrap (v28 - (1 : Int))) ∧ (IntKind.i64.wrap (v28 - (1 : Int))) < (List.length h1_1 : Int) then
                if (S98.f0 (rd S98.z v26 v28)) ≤ (S98.f0 (rd S98.z h1_1 (IntKind.i64.wrap (v28 - (1 : Int))))) then
                  some (50, ())
                else
                  if h0_2 < (ByteArray.size (S98.f1 (rd S98.z v26 v28)) : Int) then
                    F154_letheref05_Named_l15 
                  else
                    if h0_3 < (ByteArray.size (S98.f2 (rd S98.z v26 v28)) : Int) then
                      F154_letheref05_Named_l15 
                    else
                      F154_letheref05_Named_l1000010 v26 v27 (IntKind.i64.wrap (v28 + (1 : Int))) h0_0 h0_1 h0_2 h0_3 h0_4 h0_5 h0_6 h1_0 h1_1
              else
                none
            else
              if h0_2 < (ByteArray.size (S98.f1 (rd S98.z v26 v28)) : Int) then
                F154_letheref05_Named_l15 
              else
                if h0_3 < (ByteArray.size (S98.f2 (rd S98.z v26 v28)) : Int) then
                  F154_letheref05_Named_l15 
                else
                  F154_letheref05_Named_l1000010 v26 v27 (IntKind.i64.wrap (v28 + (1 : Int))) h0_0 h0_1 h0_2 h0_3 h0_4 h0_5 h0_6 h1_0 h1_1
      else
        none
    else
      some (0, ()) :=
  (run_eq _ _ _ _).trans (by kernel_rfl)
theorem F154_letheref05_Named_l15_eq  : F154_letheref05_Named_l15  =
    some (5, ()) :=
  (run_eq _ _ _ _).trans (by kernel_rfl)
theorem F15_node_Right_eq (x0_0 : Int) (x0_1 : Int) (x0_2 : Int) (x0_3 : Int) (x0_4 : Int) (x0_5 : Int) (x0_6 : Int) (x1_0 : Bool) (x1_1 : (List S96)) (x1_2 : (List S100)) : F15_node_Right x0_0 x0_1 x0_2 x0_3 x0_4 x0_5 x0_6 x1_0 x1_1 x1_2 =
    (F66_quota_Right x0_0 x0_1 x0_2 x0_3 x0_4 x0_5 x0_6).bind fun y1 =>
    if ¬ y1.1 = (0 : Int) then
      some (40, ())
    else
      if x1_0 = true then
        (F67_node_leafRight x0_0 x0_1 x0_2 x0_3 x0_4 x0_5 x0_6 x1_0 x1_1 x1_2).bind fun y2 =>
        some (y2.1, ())
      else
        if (0 : Int) < (List.length x1_1 : Int) then
          some (60, ())
        else
          if (List.length x1_2 : Int) < (2 : Int) then
            some (60, ())
          else
            if (4 : Int) < (List.length x1_2 : Int) then
              some (60, ())
            else
              F15_node_Right_l1000008 x1_2 (List.length x1_2 : Int) 0 x0_0 x0_1 x0_2 x0_3 x0_4 x0_5 x0_6 x1_0 x1_1 x1_2 :=
  (F_eq (G := G) rfl fn24 rfl _).trans ((run_eq _ _ _ _).trans (by kernel_rfl))
theorem F15_node_Right_l1000008_eq (v32 : (List S100)) (v33 : Int) (v34 : Int) (h0_0 : Int) (h0_1 : Int) (h0_2 : Int) (h0_3 : Int) (h0_4 : Int) (h0_5 : Int) (h0_6 : Int) (h1_0 : Bool) (h1_1 : (List S96)) (h1_2 : (List S100)) : F15_node_Right_l1000008 v32 v33 v34 h0_0 h0_1 h0_2 h0_3 h0_4 h0_5 h0_6 h1_0 h1_1 h1_2 =
    if v34 < v33 then
      if (0 : Int) ≤ v34 ∧ v34 < (List.length v32 : Int) then
        if (S100.f0 (rd S100.z v32 v34)) = ByteArray.empty then
          some (4, ())
        else
          if h0_1 < (ByteArray.size (S100.f0 (rd S100.z v32 v34)) : Int) then
            some (5, ())
          else
            (F17_node_RefRight (S100.f1 (rd S100.z v32 v34)) (S100.f2 (rd S100.z v32 v34)) (S100.f3 (rd S100.z v32 v34)) (S100.f4 (rd S100.z v32 v34))).bind fun y1 =>
            if (!y1.1) = true then
              some (61, ())
            else
              if (0 : Int) < v34 then
                if (0 : Int) ≤ (IntKind.i64.wrap (v34 - (1 : Int))) ∧ (IntKind.i64.wrap (v34 - (1 : Int))) < (List.length h1_2 : Int) then
                  if sLt (S100.f0 (rd S100.z h1_2 (IntKind.i64.wrap (v34 - (1 : Int))))) (S100.f0 (rd S100.z v32 v34)) = false then
                    some (60, ())
                  else
                    F15_node_Right_l1000008 v32 v33 (IntKind.i64.wrap (v34 + (1 : Int))) h0_0 h0_1 h0_2 h0_3 h0_4 h0_5 h0_6 h1_0 h1_1 h1_2
                else
                  none
              else
                F15_node_Right_l1000008 v32 v33 (IntKind.i64.wrap (v34 + (1 : Int))) h0_0 h0_1 h0_2 h0_3 h0_4 h0_5 h0_6 h1_0 h1_1 h1_2
      else
        none
    else
      some (0, ()) :=
  (run_eq _ _ _ _).trans (by kernel_rfl)
theorem F72_node_number_eq (x0 : Int) : F72_node_number x0 =
    (F92_term_Num (IntKind.u64.wrap x0)).bind fun y1 =>
    some (y1.1, y1.2.1, y1.2.2.1, y1.2.2.2.1, ()) :=
  (F_eq (G := G) rfl fn25 rfl _).trans ((run_eq _ _ _ _).trans (by kernel_rfl))
theorem F71_node_row_73_eq (x0_0 : Int) (x0_1 : Int) (x0_2 : ByteArray) (x0_3 : (List S38)) (x1 : (List S96)) : F71_node_row_73 x0_0 x0_1 x0_2 x0_3 x1 =
    F71_node_row_73_l1000003 x1 (List.length x1 : Int) 0 0 0 ByteArray.empty [(S38.mk x0_0 x0_1 x0_2 x0_3)] [] :=
  (F_eq (G := G) rfl fn26 rfl _).trans ((run_eq _ _ _ _).trans (by kernel_rfl))
theorem F71_node_row_73_l1000003_eq (v12 : (List S96)) (v13 : Int) (v14 : Int) (h0_0 : Int) (h0_1 : Int) (h0_2 : ByteArray) (g1 : (List S38)) (g2 : (List S38)) : F71_node_row_73_l1000003 v12 v13 v14 h0_0 h0_1 h0_2 g1 g2 =
    if v14 < v13 then
      if (0 : Int) ≤ v14 ∧ v14 < (List.length v12 : Int) then
        (F73_node_Term_1 (S96.f0 (rd S96.z v12 v14)) (S96.f1 (rd S96.z v12 v14))).bind fun y1 =>
        if (List.length g1 + List.length [(S38.mk y1.1 y1.2.1 y1.2.2.1 y1.2.2.2.1)]) * 56 ≤ 140737488355328 then
          F71_node_row_73_l1000003 v12 v13 (IntKind.i64.wrap (v14 + (1 : Int))) h0_0 h0_1 h0_2 (g1 ++ [(S38.mk y1.1 y1.2.1 y1.2.2.1 y1.2.2.2.1)]) g2
        else
          none
      else
        none
    else
      (F77_term_Of g1).bind fun y2 =>
      some (y2.1, y2.2.1, y2.2.2.1, y2.2.2.2.1, ()) :=
  (run_eq _ _ _ _).trans (by kernel_rfl)
theorem F78_node_row_79_eq (x0_0 : Int) (x0_1 : Int) (x0_2 : ByteArray) (x0_3 : (List S38)) (x1 : (List S100)) : F78_node_row_79 x0_0 x0_1 x0_2 x0_3 x1 =
    F78_node_row_79_l1000003 x1 (List.length x1 : Int) 0 0 0 ByteArray.empty [(S38.mk x0_0 x0_1 x0_2 x0_3)] [] :=
  (F_eq (G := G) rfl fn27 rfl _).trans ((run_eq _ _ _ _).trans (by kernel_rfl))
theorem F78_node_row_79_l1000003_eq (v12 : (List S100)) (v13 : Int) (v14 : Int) (h0_0 : Int) (h0_1 : Int) (h0_2 : ByteArray) (g1 : (List S38)) (g2 : (List S38)) : F78_node_row_79_l1000003 v12 v13 v14 h0_0 h0_1 h0_2 g1 g2 =
    if v14 < v13 then
      if (0 : Int) ≤ v14 ∧ v14 < (List.length v12 : Int) then
        (F79_node_Term_2 (S100.f0 (rd S100.z v12 v14)) (S100.f1 (rd S100.z v12 v14)) (S100.f2 (rd S100.z v12 v14)) (S100.f3 (rd S100.z v12 v14)) (S100.f4 (rd S100.z v12 v14))).bind fun y1 =>
        if (List.length g1 + List.length [(S38.mk y1.1 y1.2.1 y1.2.2.1 y1.2.2.2.1)]) * 56 ≤ 140737488355328 then
          F78_node_row_79_l1000003 v12 v13 (IntKind.i64.wrap (v14 + (1 : Int))) h0_0 h0_1 h0_2 (g1 ++ [(S38.mk y1.1 y1.2.1 y1.2.2.1 y1.2.2.2.1)]) g2
        else
          none
      else
        none
    else
      (F77_term_Of g1).bind fun y2 =>
      some (y2.1, y2.2.1, y2.2.2.1, y2.2.2.2.1, ()) :=
  (run_eq _ _ _ _).trans (by kernel_rfl)
theorem F79_node_Term_2_eq (x0_0 : ByteArray) (x0_1 : Int) (x0_2 : Int) (x0_3 : Int) (x0_4 : Int) : F79_node_Term_2 x0_0 x0_1 x0_2 x0_3 x0_4 =
    (F75_term_Atom x0_0).bind fun y1 =>
    (F80_term_Key x0_1).bind fun y2 =>
    (F72_node_number x0_2).bind fun y3 =>
    (F72_node_number x0_3).bind fun y4 =>
    (F72_node_number x0_4).bind fun y5 =>
    let e6 : (List S38) := [(S38.mk y1.1 y1.2.1 y1.2.2.1 y1.2.2.2.1), (S38.mk y2.1 y2.2.1 y2.2.2.1 y2.2.2.2.1), (S38.mk y3.1 y3.2.1 y3.2.2.1 y3.2.2.2.1), (S38.mk y4.1 y4.2.1 y4.2.2.1 y4.2.2.2.1), (S38.mk y5.1 y5.2.1 y5.2.2.1 y5.2.2.2.1)]
    (F77_term_Of e6).bind fun y7 =>
    some (y7.1, y7.2.1, y7.2.2.1, y7.2.2.2.1, ()) :=
  (F_eq (G := G) rfl fn28 rfl _).trans ((run_eq _ _ _ _).trans (by kernel_rfl))
theorem F77_term_Of_eq (x0 : (List S38)) : F77_term_Of x0 =
    (F124_term_clone 5 0 ByteArray.empty x0).bind fun y1 =>
    some (y1.1, y1.2.1, y1.2.2.1, y1.2.2.2.1, ()) :=
  (F_eq (G := G) rfl fn29 rfl _).trans ((run_eq _ _ _ _).trans (by kernel_rfl))
theorem F124_term_clone_eq (x0_0 : Int) (x0_1 : Int) (x0_2 : ByteArray) (x0_3 : (List S38)) : F124_term_clone x0_0 x0_1 x0_2 x0_3 =
    F124_term_clone_l1000003 x0_3 (List.length x0_3 : Int) 0 x0_0 x0_1 x0_2 x0_3 0 0 ByteArray.empty [] [] :=
  (F_eq (G := G) rfl fn30 rfl _).trans ((run_eq _ _ _ _).trans (by kernel_rfl))
theorem F124_term_clone_l1000003_eq (v7 : (List S38)) (v8 : Int) (v9 : Int) (h0_0 : Int) (h0_1 : Int) (h0_2 : ByteArray) (h0_3 : (List S38)) (h1_0 : Int) (h1_1 : Int) (h1_2 : ByteArray) (g2 : (List S38)) (g3 : (List S38)) : F124_term_clone_l1000003 v7 v8 v9 h0_0 h0_1 h0_2 h0_3 h1_0 h1_1 h1_2 g2 g3 =
    if v9 < v8 then
      if (0 : Int) ≤ v9 ∧ v9 < (List.length v7 : Int) then
        (F124_term_clone (S38.f0 (rd S38.z v7 v9)) (S38.f1 (rd S38.z v7 v9)) (S38.f2 (rd S38.z v7 v9)) (S38.f3 (rd S38.z v7 v9))).bind fun y1 =>
        if (List.length g2 + List.length [(S38.mk y1.1 y1.2.1 y1.2.2.1 y1.2.2.2.1)]) * 56 ≤ 140737488355328 then
          F124_term_clone_l1000003 v7 v8 (IntKind.i64.wrap (v9 + (1 : Int))) h0_0 h0_1 h0_2 h0_3 h1_0 h1_1 h1_2 (g2 ++ [(S38.mk y1.1 y1.2.1 y1.2.2.1 y1.2.2.2.1)]) g3
        else
          none
      else
        none
    else
      some (h0_0, h0_1, h0_2, g2, ()) :=
  (run_eq _ _ _ _).trans (by kernel_rfl)
theorem F75_term_Atom_eq (x0 : ByteArray) : F75_term_Atom x0 =
    some (2, 0, x0, [], ()) :=
  (F_eq (G := G) rfl fn31 rfl _).trans ((run_eq _ _ _ _).trans (by kernel_rfl))
theorem F80_term_Key_eq (x0 : Int) : F80_term_Key x0 =
    some (3, x0, ByteArray.empty, [], ()) :=
  (F_eq (G := G) rfl fn32 rfl _).trans ((run_eq _ _ _ _).trans (by kernel_rfl))
theorem F73_node_Term_1_eq (x0_0 : ByteArray) (x0_1 : (List S98)) : F73_node_Term_1 x0_0 x0_1 =
    (F75_term_Atom x0_0).bind fun y1 =>
    (F74_node_row_76 y1.1 y1.2.1 y1.2.2.1 y1.2.2.2.1 x0_1).bind fun y2 =>
    some (y2.1, y2.2.1, y2.2.2.1, y2.2.2.2.1, ()) :=
  (F_eq (G := G) rfl fn33 rfl _).trans ((run_eq _ _ _ _).trans (by kernel_rfl))
theorem F74_node_row_76_eq (x0_0 : Int) (x0_1 : Int) (x0_2 : ByteArray) (x0_3 : (List S38)) (x1 : (List S98)) : F74_node_row_76 x0_0 x0_1 x0_2 x0_3 x1 =
    F74_node_row_76_l1000003 x1 (List.length x1 : Int) 0 0 0 ByteArray.empty [(S38.mk x0_0 x0_1 x0_2 x0_3)] [] :=
  (F_eq (G := G) rfl fn34 rfl _).trans ((run_eq _ _ _ _).trans (by kernel_rfl))
theorem F74_node_row_76_l1000003_eq (v12 : (List S98)) (v13 : Int) (v14 : Int) (h0_0 : Int) (h0_1 : Int) (h0_2 : ByteArray) (g1 : (List S38)) (g2 : (List S38)) : F74_node_row_76_l1000003 v12 v13 v14 h0_0 h0_1 h0_2 g1 g2 =
    if v14 < v13 then
      if (0 : Int) ≤ v14 ∧ v14 < (List.length v12 : Int) then
        (F76_node_Term_1_1 (S98.f0 (rd S98.z v12 v14)) (S98.f1 (rd S98.z v12 v14)) (S98.f2 (rd S98.z v12 v14))).bind fun y1 =>
        if (List.length g1 + List.length [(S38.mk y1.1 y1.2.1 y1.2.2.1 y1.2.2.2.1)]) * 56 ≤ 140737488355328 then
          F74_node_row_76_l1000003 v12 v13 (IntKind.i64.wrap (v14 + (1 : Int))) h0_0 h0_1 h0_2 (g1 ++ [(S38.mk y1.1 y1.2.1 y1.2.2.1 y1.2.2.2.1)]) g2
        else
          none
      else
        none
    else
      (F77_term_Of g1).bind fun y2 =>
      some (y2.1, y2.2.1, y2.2.2.1, y2.2.2.2.1, ()) :=
  (run_eq _ _ _ _).trans (by kernel_rfl)
theorem F76_node_Term_1_1_eq (x0_0 : Int) (x0_1 : ByteArray) (x0_2 : ByteArray) : F76_node_Term_1_1 x0_0 x0_1 x0_2 =
    (F72_node_number x0_0).bind fun y1 =>
    (F75_term_Atom x0_1).bind fun y2 =>
    (F75_term_Atom x0_2).bind fun y3 =>
    let e4 : (List S38) := [(S38.mk y1.1 y1.2.1 y1.2.2.1 y1.2.2.2.1), (S38.mk y2.1 y2.2.1 y2.2.2.1 y2.2.2.2.1), (S38.mk y3.1 y3.2.1 y3.2.2.1 y3.2.2.2.1)]
    (F77_term_Of e4).bind fun y5 =>
    some (y5.1, y5.2.1, y5.2.2.1, y5.2.2.2.1, ()) :=
  (F_eq (G := G) rfl fn35 rfl _).trans ((run_eq _ _ _ _).trans (by kernel_rfl))
theorem F92_term_Num_eq (x0 : Int) : F92_term_Num x0 =
    some (1, x0, ByteArray.empty, [], ()) :=
  (F_eq (G := G) rfl fn36 rfl _).trans ((run_eq _ _ _ _).trans (by kernel_rfl))
theorem F66_quota_Right_eq (x0_0 : Int) (x0_1 : Int) (x0_2 : Int) (x0_3 : Int) (x0_4 : Int) (x0_5 : Int) (x0_6 : Int) : F66_quota_Right x0_0 x0_1 x0_2 x0_3 x0_4 x0_5 x0_6 =
    (F121_quota_in x0_0 1 64).bind fun y1 =>
    if y1.1 = true then
      (F121_quota_in x0_1 1 16).bind fun y2 =>
      if y2.1 = true then
        (F121_quota_in x0_2 0 32).bind fun y3 =>
        if y3.1 = true then
          (F121_quota_in x0_3 0 16).bind fun y4 =>
          if y4.1 = true then
            (F121_quota_in x0_4 1 4).bind fun y5 =>
            if y5.1 = true then
              (F121_quota_in x0_5 1 8).bind fun y6 =>
              if y6.1 = true then
                (F121_quota_in x0_6 0 32).bind fun y7 =>
                if y7.1 = true then
                  some (0, ())
                else
                  F66_quota_Right_l3 
              else
                F66_quota_Right_l3 
            else
              F66_quota_Right_l3 
          else
            F66_quota_Right_l3 
        else
          F66_quota_Right_l3 
      else
        F66_quota_Right_l3 
    else
      F66_quota_Right_l3  :=
  (F_eq (G := G) rfl fn37 rfl _).trans ((run_eq _ _ _ _).trans (by kernel_rfl))
theorem F66_quota_Right_l3_eq  : F66_quota_Right_l3  =
    some (40, ()) :=
  (run_eq _ _ _ _).trans (by kernel_rfl)
theorem F67_node_leafRight_eq (x0_0 : Int) (x0_1 : Int) (x0_2 : Int) (x0_3 : Int) (x0_4 : Int) (x0_5 : Int) (x0_6 : Int) (x1_0 : Bool) (x1_1 : (List S96)) (x1_2 : (List S100)) : F67_node_leafRight x0_0 x0_1 x0_2 x0_3 x0_4 x0_5 x0_6 x1_0 x1_1 x1_2 =
    if (0 : Int) < (List.length x1_2 : Int) then
      some (60, ())
    else
      if (4 : Int) < (List.length x1_1 : Int) then
        some (60, ())
      else
        F67_node_leafRight_l1000004 x1_1 (List.length x1_1 : Int) 0 x0_0 x0_1 x0_2 x0_3 x0_4 x0_5 x0_6 x1_0 x1_1 x1_2 :=
  (F_eq (G := G) rfl fn38 rfl _).trans ((run_eq _ _ _ _).trans (by kernel_rfl))
theorem F67_node_leafRight_l1000004_eq (v19 : (List S96)) (v20 : Int) (v21 : Int) (h0_0 : Int) (h0_1 : Int) (h0_2 : Int) (h0_3 : Int) (h0_4 : Int) (h0_5 : Int) (h0_6 : Int) (h1_0 : Bool) (h1_1 : (List S96)) (h1_2 : (List S100)) : F67_node_leafRight_l1000004 v19 v20 v21 h0_0 h0_1 h0_2 h0_3 h0_4 h0_5 h0_6 h1_0 h1_1 h1_2 =
    if v21 < v20 then
      if (0 : Int) ≤ v21 ∧ v21 < (List.length v19 : Int) then
        (F122_entry_Right h0_0 h0_1 h0_2 h0_3 h0_4 h0_5 h0_6 (S96.f0 (rd S96.z v19 v21)) (S96.f1 (rd S96.z v19 v21))).bind fun y1 =>
        if ¬ y1.1 = (0 : Int) then
          some (y1.1, ())
        else
          if (0 : Int) < v21 then
            if (0 : Int) ≤ (IntKind.i64.wrap (v21 - (1 : Int))) ∧ (IntKind.i64.wrap (v21 - (1 : Int))) < (List.length h1_1 : Int) then
              if sLt (S96.f0 (rd S96.z h1_1 (IntKind.i64.wrap (v21 - (1 : Int))))) (S96.f0 (rd S96.z v19 v21)) = false then
                some (60, ())
              else
                F67_node_leafRight_l1000004 v19 v20 (IntKind.i64.wrap (v21 + (1 : Int))) h0_0 h0_1 h0_2 h0_3 h0_4 h0_5 h0_6 h1_0 h1_1 h1_2
            else
              none
          else
            F67_node_leafRight_l1000004 v19 v20 (IntKind.i64.wrap (v21 + (1 : Int))) h0_0 h0_1 h0_2 h0_3 h0_4 h0_5 h0_6 h1_0 h1_1 h1_2
      else
        none
    else
      some (0, ()) :=
  (run_eq _ _ _ _).trans (by kernel_rfl)
theorem F17_node_RefRight_eq (x0_0 : Int) (x0_1 : Int) (x0_2 : Int) (x0_3 : Int) : F17_node_RefRight x0_0 x0_1 x0_2 x0_3 =
    if (0 : Int) ≤ x0_1 then
      if x0_1 ≤ (1048576 : Int) then
        if (0 : Int) ≤ x0_2 then
          if x0_2 ≤ (134217728 : Int) then
            if (1 : Int) ≤ x0_3 then
              some ((decide (x0_3 ≤ (1048576 : Int))), ())
            else
              some (false, ())
          else
            some (false, ())
        else
          some (false, ())
      else
        some (false, ())
    else
      some (false, ()) :=
  (F_eq (G := G) rfl fn39 rfl _).trans ((run_eq _ _ _ _).trans (by kernel_rfl))
theorem F122_entry_Right_eq (x0_0 : Int) (x0_1 : Int) (x0_2 : Int) (x0_3 : Int) (x0_4 : Int) (x0_5 : Int) (x0_6 : Int) (x1_0 : ByteArray) (x1_1 : (List S98)) : F122_entry_Right x0_0 x0_1 x0_2 x0_3 x0_4 x0_5 x0_6 x1_0 x1_1 =
    (F153_entry_named x0_0 x0_1 x0_2 x0_3 x0_4 x0_5 x0_6 x1_0 x1_1).bind fun y1 =>
    if y1.1 = (0 : Int) then
      if (List.length x1_1 : Int) = (0 : Int) then
        some (50, ())
      else
        some (y1.1, ())
    else
      some (y1.1, ()) :=
  (F_eq (G := G) rfl fn40 rfl _).trans ((run_eq _ _ _ _).trans (by kernel_rfl))
theorem F153_entry_named_eq (x0_0 : Int) (x0_1 : Int) (x0_2 : Int) (x0_3 : Int) (x0_4 : Int) (x0_5 : Int) (x0_6 : Int) (x1_0 : ByteArray) (x1_1 : (List S98)) : F153_entry_named x0_0 x0_1 x0_2 x0_3 x0_4 x0_5 x0_6 x1_0 x1_1 =
    (F66_quota_Right x0_0 x0_1 x0_2 x0_3 x0_4 x0_5 x0_6).bind fun y1 =>
    if ¬ y1.1 = (0 : Int) then
      some (40, ())
    else
      if x1_0 = ByteArray.empty then
        some (4, ())
      else
        if x0_1 < (ByteArray.size x1_0 : Int) then
          some (5, ())
        else
          if x0_4 < (List.length x1_1 : Int) then
            some (50, ())
          else
            F153_entry_named_l1000011 0 x1_1 (List.length x1_1 : Int) 0 x0_0 x0_1 x0_2 x0_3 x0_4 x0_5 x0_6 :=
  (F_eq (G := G) rfl fn41 rfl _).trans ((run_eq _ _ _ _).trans (by kernel_rfl))
theorem F153_entry_named_l1000011_eq (v5 : Int) (v32 : (List S98)) (v33 : Int) (v34 : Int) (h0_0 : Int) (h0_1 : Int) (h0_2 : Int) (h0_3 : Int) (h0_4 : Int) (h0_5 : Int) (h0_6 : Int) : F153_entry_named_l1000011 v5 v32 v33 v34 h0_0 h0_1 h0_2 h0_3 h0_4 h0_5 h0_6 =
    if v34 < v33 then
      if (0 : Int) ≤ v34 ∧ v34 < (List.length v32 : Int) then
        if (S98.f0 (rd S98.z v32 v34)) ≤ v5 then
          some (50, ())
        else
          if (1073741824 : Int) < (S98.f0 (rd S98.z v32 v34)) then
            some (50, ())
          else
            (F184_entry_texts h0_0 h0_1 h0_2 h0_3 h0_4 h0_5 h0_6 (S98.f1 (rd S98.z v32 v34)) (S98.f2 (rd S98.z v32 v34))).bind fun y1 =>
            if ¬ y1.1 = (0 : Int) then
              some (y1.1, ())
            else
              F153_entry_named_l1000011 (S98.f0 (rd S98.z v32 v34)) v32 v33 (IntKind.i64.wrap (v34 + (1 : Int))) h0_0 h0_1 h0_2 h0_3 h0_4 h0_5 h0_6
      else
        none
    else
      some (0, ()) :=
  (run_eq _ _ _ _).trans (by kernel_rfl)
theorem F184_entry_texts_eq (x0_0 : Int) (x0_1 : Int) (x0_2 : Int) (x0_3 : Int) (x0_4 : Int) (x0_5 : Int) (x0_6 : Int) (x1 : ByteArray) (x2 : ByteArray) : F184_entry_texts x0_0 x0_1 x0_2 x0_3 x0_4 x0_5 x0_6 x1 x2 =
    if x0_2 < (ByteArray.size x1 : Int) then
      some (5, ())
    else
      if x0_3 < (ByteArray.size x2 : Int) then
        some (5, ())
      else
        some (0, ()) :=
  (F_eq (G := G) rfl fn42 rfl _).trans ((run_eq _ _ _ _).trans (by kernel_rfl))
theorem F121_quota_in_eq (x0 : Int) (x1 : Int) (x2 : Int) : F121_quota_in x0 x1 x2 =
    if x1 ≤ x0 then
      some ((decide (x0 ≤ x2)), ())
    else
      some (false, ()) :=
  (F_eq (G := G) rfl fn43 rfl _).trans ((run_eq _ _ _ _).trans (by kernel_rfl))
end
end Go.Proofs.Ytgfaplkbajjheaa.NodeTextsx
