/- The law NodeTerms: what each function answers, in plain equations. Under no condition. -/
import Derived.Test.YtgfaplkbajjheaaTNodeTerms
set_option linter.unusedVariables false
set_option maxRecDepth 100000
namespace Go.Proofs.Ytgfaplkbajjheaa.NodeTermsx
open Go Go.RowKit Go.Proofs.Ytgfaplkbajjheaa.Rx Go.Proofs.Ytgfaplkbajjheaa.NodeTermsx
noncomputable section
theorem F4_lethelaw06_NodeTerms_eq (x0_0 : Int) (x0_1 : Int) (x0_2 : Int) (x0_3 : Int) (x0_4 : Int) (x0_5 : Int) (x0_6 : Int) (x1_0 : Bool) (x1_1 : (List S96)) (x1_2 : (List S100)) : F4_lethelaw06_NodeTerms x0_0 x0_1 x0_2 x0_3 x0_4 x0_5 x0_6 x1_0 x1_1 x1_2 =
    (F21_node_Term x0_0 x0_1 x0_2 x0_3 x0_4 x0_5 x0_6 x1_0 x1_1 x1_2).bind fun y1 =>
    (F22_letheref06_Term x0_0 x0_1 x0_2 x0_3 x0_4 x0_5 x0_6 x1_0 x1_1 x1_2).bind fun y2 =>
    if y1.2.2.2.2.1 = y2.2.2.2.2.1 then
      (F23_letheref02_Like y1.1 y1.2.1 y1.2.2.1 y1.2.2.2.1 y2.1 y2.2.1 y2.2.2.1 y2.2.2.2.1).bind fun y3 =>
      some (y3.1, ())
    else
      some (false, ()) :=
  (F_eq (G := G) rfl fn0 rfl _).trans ((run_eq _ _ _ _).trans (by kernel_rfl))
theorem F21_node_Term_eq (x0_0 : Int) (x0_1 : Int) (x0_2 : Int) (x0_3 : Int) (x0_4 : Int) (x0_5 : Int) (x0_6 : Int) (x1_0 : Bool) (x1_1 : (List S96)) (x1_2 : (List S100)) : F21_node_Term x0_0 x0_1 x0_2 x0_3 x0_4 x0_5 x0_6 x1_0 x1_1 x1_2 =
    (F15_node_Right x0_0 x0_1 x0_2 x0_3 x0_4 x0_5 x0_6 x1_0 x1_1 x1_2).bind fun y1 =>
    if ¬ y1.1 = (0 : Int) then
      some (0, 0, ByteArray.empty, [], y1.1, ())
    else
      if x1_0 = true then
        (F72_node_number 1).bind fun y2 =>
        (F71_node_row_73 y2.1 y2.2.1 y2.2.2.1 y2.2.2.2.1 x1_1).bind fun y3 =>
        some (y3.1, y3.2.1, y3.2.2.1, y3.2.2.2.1, 0, ())
      else
        (F72_node_number 2).bind fun y4 =>
        (F78_node_row_79 y4.1 y4.2.1 y4.2.2.1 y4.2.2.2.1 x1_2).bind fun y5 =>
        some (y5.1, y5.2.1, y5.2.2.1, y5.2.2.2.1, 0, ()) :=
  (F_eq (G := G) rfl fn1 rfl _).trans ((run_eq _ _ _ _).trans (by kernel_rfl))
theorem F22_letheref06_Term_eq (x0_0 : Int) (x0_1 : Int) (x0_2 : Int) (x0_3 : Int) (x0_4 : Int) (x0_5 : Int) (x0_6 : Int) (x1_0 : Bool) (x1_1 : (List S96)) (x1_2 : (List S100)) : F22_letheref06_Term x0_0 x0_1 x0_2 x0_3 x0_4 x0_5 x0_6 x1_0 x1_1 x1_2 =
    (F16_letheref06_Right x0_0 x0_1 x0_2 x0_3 x0_4 x0_5 x0_6 x1_0 x1_1 x1_2).bind fun y1 =>
    if ¬ y1.1 = (0 : Int) then
      some (0, 0, ByteArray.empty, [], y1.1, ())
    else
      (F81_letheref06_Of x1_0 x1_1 x1_2).bind fun y2 =>
      some (y2.1, y2.2.1, y2.2.2.1, y2.2.2.2.1, 0, ()) :=
  (F_eq (G := G) rfl fn2 rfl _).trans ((run_eq _ _ _ _).trans (by kernel_rfl))
theorem F23_letheref02_Like_eq (x0_0 : Int) (x0_1 : Int) (x0_2 : ByteArray) (x0_3 : (List S38)) (x1_0 : Int) (x1_1 : Int) (x1_2 : ByteArray) (x1_3 : (List S38)) : F23_letheref02_Like x0_0 x0_1 x0_2 x0_3 x1_0 x1_1 x1_2 x1_3 =
    if ¬ x0_0 = x1_0 then
      F23_letheref02_Like_l2 
    else
      if ¬ x0_1 = x1_1 then
        F23_letheref02_Like_l2 
      else
        if ¬ x0_2 = x1_2 then
          F23_letheref02_Like_l2 
        else
          if ¬ (List.length x0_3 : Int) = (List.length x1_3 : Int) then
            F23_letheref02_Like_l2 
          else
            F23_letheref02_Like_l1000004 (List.length x0_3 : Int) 0 x0_0 x0_1 x0_2 x0_3 x1_0 x1_1 x1_2 x1_3 :=
  (F_eq (G := G) rfl fn3 rfl _).trans ((run_eq _ _ _ _).trans (by kernel_rfl))
theorem F23_letheref02_Like_l2_eq  : F23_letheref02_Like_l2  =
    some (false, ()) :=
  (run_eq _ _ _ _).trans (by kernel_rfl)
theorem F23_letheref02_Like_l1000004_eq (v36 : Int) (v37 : Int) (h0_0 : Int) (h0_1 : Int) (h0_2 : ByteArray) (h0_3 : (List S38)) (h1_0 : Int) (h1_1 : Int) (h1_2 : ByteArray) (h1_3 : (List S38)) : F23_letheref02_Like_l1000004 v36 v37 h0_0 h0_1 h0_2 h0_3 h1_0 h1_1 h1_2 h1_3 =
    if v37 < v36 then
      if (0 : Int) ≤ v37 ∧ v37 < (List.length h0_3 : Int) then
        if (0 : Int) ≤ v37 ∧ v37 < (List.length h1_3 : Int) then
          (F23_letheref02_Like (S38.f0 (rd S38.z h0_3 v37)) (S38.f1 (rd S38.z h0_3 v37)) (S38.f2 (rd S38.z h0_3 v37)) (S38.f3 (rd S38.z h0_3 v37)) (S38.f0 (rd S38.z h1_3 v37)) (S38.f1 (rd S38.z h1_3 v37)) (S38.f2 (rd S38.z h1_3 v37)) (S38.f3 (rd S38.z h1_3 v37))).bind fun y1 =>
          if (!y1.1) = true then
            some (false, ())
          else
            F23_letheref02_Like_l1000004 v36 (IntKind.i64.wrap (v37 + (1 : Int))) h0_0 h0_1 h0_2 h0_3 h1_0 h1_1 h1_2 h1_3
        else
          none
      else
        none
    else
      some (true, ()) :=
  (run_eq _ _ _ _).trans (by kernel_rfl)
theorem F16_letheref06_Right_eq (x0_0 : Int) (x0_1 : Int) (x0_2 : Int) (x0_3 : Int) (x0_4 : Int) (x0_5 : Int) (x0_6 : Int) (x1_0 : Bool) (x1_1 : (List S96)) (x1_2 : (List S100)) : F16_letheref06_Right x0_0 x0_1 x0_2 x0_3 x0_4 x0_5 x0_6 x1_0 x1_1 x1_2 =
    (F68_letheref04_Right x0_0 x0_1 x0_2 x0_3 x0_4 x0_5 x0_6).bind fun y1 =>
    if (!y1.1) = true then
      some (40, ())
    else
      if x1_0 = true then
        (F69_letheref06_leaf x0_0 x0_1 x0_2 x0_3 x0_4 x0_5 x0_6 x1_0 x1_1 x1_2).bind fun y2 =>
        some (y2.1, ())
      else
        (F70_letheref06_inner x0_0 x0_1 x0_2 x0_3 x0_4 x0_5 x0_6 x1_0 x1_1 x1_2).bind fun y3 =>
        some (y3.1, ()) :=
  (F_eq (G := G) rfl fn4 rfl _).trans ((run_eq _ _ _ _).trans (by kernel_rfl))
theorem F81_letheref06_Of_eq (x0_0 : Bool) (x0_1 : (List S96)) (x0_2 : (List S100)) : F81_letheref06_Of x0_0 x0_1 x0_2 =
    if x0_0 = true then
      (F94_letheref06_Num 1).bind fun y1 =>
      F81_letheref06_Of_l1000004 x0_1 (List.length x0_1 : Int) 0 0 0 ByteArray.empty [(S38.mk y1.1 y1.2.1 y1.2.2.1 y1.2.2.2.1)] []
    else
      (F94_letheref06_Num 2).bind fun y2 =>
      F81_letheref06_Of_l1000011 x0_2 (List.length x0_2 : Int) 0 0 0 ByteArray.empty [(S38.mk y2.1 y2.2.1 y2.2.2.1 y2.2.2.2.1)] [] :=
  (F_eq (G := G) rfl fn5 rfl _).trans ((run_eq _ _ _ _).trans (by kernel_rfl))
theorem F81_letheref06_Of_l1000004_eq (v14 : (List S96)) (v15 : Int) (v16 : Int) (h0_0 : Int) (h0_1 : Int) (h0_2 : ByteArray) (g1 : (List S38)) (g2 : (List S38)) : F81_letheref06_Of_l1000004 v14 v15 v16 h0_0 h0_1 h0_2 g1 g2 =
    if v16 < v15 then
      if (0 : Int) ≤ v16 ∧ v16 < (List.length v14 : Int) then
        (F125_letheref06_entryTerm (S96.f0 (rd S96.z v14 v16)) (S96.f1 (rd S96.z v14 v16))).bind fun y1 =>
        if (List.length g1 + List.length [(S38.mk y1.1 y1.2.1 y1.2.2.1 y1.2.2.2.1)]) * 56 ≤ 140737488355328 then
          F81_letheref06_Of_l1000004 v14 v15 (IntKind.i64.wrap (v16 + (1 : Int))) h0_0 h0_1 h0_2 (g1 ++ [(S38.mk y1.1 y1.2.1 y1.2.2.1 y1.2.2.2.1)]) g2
        else
          none
      else
        none
    else
      (F97_letheref06_Row g1).bind fun y2 =>
      some (y2.1, y2.2.1, y2.2.2.1, y2.2.2.2.1, ()) :=
  (run_eq _ _ _ _).trans (by kernel_rfl)
theorem F81_letheref06_Of_l1000011_eq (v31 : (List S100)) (v32 : Int) (v33 : Int) (h0_0 : Int) (h0_1 : Int) (h0_2 : ByteArray) (g1 : (List S38)) (g2 : (List S38)) : F81_letheref06_Of_l1000011 v31 v32 v33 h0_0 h0_1 h0_2 g1 g2 =
    if v33 < v32 then
      if (0 : Int) ≤ v33 ∧ v33 < (List.length v31 : Int) then
        (F126_letheref06_kidTerm (S100.f0 (rd S100.z v31 v33)) (S100.f1 (rd S100.z v31 v33)) (S100.f2 (rd S100.z v31 v33)) (S100.f3 (rd S100.z v31 v33)) (S100.f4 (rd S100.z v31 v33))).bind fun y1 =>
        if (List.length g1 + List.length [(S38.mk y1.1 y1.2.1 y1.2.2.1 y1.2.2.2.1)]) * 56 ≤ 140737488355328 then
          F81_letheref06_Of_l1000011 v31 v32 (IntKind.i64.wrap (v33 + (1 : Int))) h0_0 h0_1 h0_2 (g1 ++ [(S38.mk y1.1 y1.2.1 y1.2.2.1 y1.2.2.2.1)]) g2
        else
          none
      else
        none
    else
      (F97_letheref06_Row g1).bind fun y2 =>
      some (y2.1, y2.2.1, y2.2.2.1, y2.2.2.2.1, ()) :=
  (run_eq _ _ _ _).trans (by kernel_rfl)
theorem F94_letheref06_Num_eq (x0 : Int) : F94_letheref06_Num x0 =
    some (1, (IntKind.u64.wrap x0), ByteArray.empty, [], ()) :=
  (F_eq (G := G) rfl fn6 rfl _).trans ((run_eq _ _ _ _).trans (by kernel_rfl))
theorem F125_letheref06_entryTerm_eq (x0_0 : ByteArray) (x0_1 : (List S98)) : F125_letheref06_entryTerm x0_0 x0_1 =
    (F155_letheref06_Atom x0_0).bind fun y1 =>
    F125_letheref06_entryTerm_l1000003 x0_1 (List.length x0_1 : Int) 0 0 0 ByteArray.empty [(S38.mk y1.1 y1.2.1 y1.2.2.1 y1.2.2.2.1)] [] :=
  (F_eq (G := G) rfl fn7 rfl _).trans ((run_eq _ _ _ _).trans (by kernel_rfl))
theorem F125_letheref06_entryTerm_l1000003_eq (v11 : (List S98)) (v12 : Int) (v13 : Int) (h0_0 : Int) (h0_1 : Int) (h0_2 : ByteArray) (g1 : (List S38)) (g2 : (List S38)) : F125_letheref06_entryTerm_l1000003 v11 v12 v13 h0_0 h0_1 h0_2 g1 g2 =
    if v13 < v12 then
      if (0 : Int) ≤ v13 ∧ v13 < (List.length v11 : Int) then
        (F94_letheref06_Num (S98.f0 (rd S98.z v11 v13))).bind fun y1 =>
        (F155_letheref06_Atom (S98.f1 (rd S98.z v11 v13))).bind fun y2 =>
        (F155_letheref06_Atom (S98.f2 (rd S98.z v11 v13))).bind fun y3 =>
        let e4 : (List S38) := [(S38.mk y1.1 y1.2.1 y1.2.2.1 y1.2.2.2.1), (S38.mk y2.1 y2.2.1 y2.2.2.1 y2.2.2.2.1), (S38.mk y3.1 y3.2.1 y3.2.2.1 y3.2.2.2.1)]
        (F97_letheref06_Row e4).bind fun y5 =>
        if (List.length g1 + List.length [(S38.mk y5.1 y5.2.1 y5.2.2.1 y5.2.2.2.1)]) * 56 ≤ 140737488355328 then
          F125_letheref06_entryTerm_l1000003 v11 v12 (IntKind.i64.wrap (v13 + (1 : Int))) h0_0 h0_1 h0_2 (g1 ++ [(S38.mk y5.1 y5.2.1 y5.2.2.1 y5.2.2.2.1)]) g2
        else
          none
      else
        none
    else
      (F97_letheref06_Row g1).bind fun y6 =>
      some (y6.1, y6.2.1, y6.2.2.1, y6.2.2.2.1, ()) :=
  (run_eq _ _ _ _).trans (by kernel_rfl)
theorem F97_letheref06_Row_eq (x0 : (List S38)) : F97_letheref06_Row x0 =
    some (5, 0, ByteArray.empty, x0, ()) :=
  (F_eq (G := G) rfl fn8 rfl _).trans ((run_eq _ _ _ _).trans (by kernel_rfl))
theorem F126_letheref06_kidTerm_eq (x0_0 : ByteArray) (x0_1 : Int) (x0_2 : Int) (x0_3 : Int) (x0_4 : Int) : F126_letheref06_kidTerm x0_0 x0_1 x0_2 x0_3 x0_4 =
    (F155_letheref06_Atom x0_0).bind fun y1 =>
    (F95_letheref06_Key x0_1).bind fun y2 =>
    (F94_letheref06_Num x0_2).bind fun y3 =>
    (F94_letheref06_Num x0_3).bind fun y4 =>
    (F94_letheref06_Num x0_4).bind fun y5 =>
    let e6 : (List S38) := [(S38.mk y1.1 y1.2.1 y1.2.2.1 y1.2.2.2.1), (S38.mk y2.1 y2.2.1 y2.2.2.1 y2.2.2.2.1), (S38.mk y3.1 y3.2.1 y3.2.2.1 y3.2.2.2.1), (S38.mk y4.1 y4.2.1 y4.2.2.1 y4.2.2.2.1), (S38.mk y5.1 y5.2.1 y5.2.2.1 y5.2.2.2.1)]
    (F97_letheref06_Row e6).bind fun y7 =>
    some (y7.1, y7.2.1, y7.2.2.1, y7.2.2.2.1, ()) :=
  (F_eq (G := G) rfl fn9 rfl _).trans ((run_eq _ _ _ _).trans (by kernel_rfl))
theorem F155_letheref06_Atom_eq (x0 : ByteArray) : F155_letheref06_Atom x0 =
    some (2, 0, x0, [], ()) :=
  (F_eq (G := G) rfl fn10 rfl _).trans ((run_eq _ _ _ _).trans (by kernel_rfl))
theorem F95_letheref06_Key_eq (x0 : Int) : F95_letheref06_Key x0 =
    some (3, x0, ByteArray.empty, [], ()) :=
  (F_eq (G := G) rfl fn11 rfl _).trans ((run_eq _ _ _ _).trans (by kernel_rfl))
theorem F68_letheref04_Right_eq (x0_0 : Int) (x0_1 : Int) (x0_2 : Int) (x0_3 : Int) (x0_4 : Int) (x0_5 : Int) (x0_6 : Int) : F68_letheref04_Right x0_0 x0_1 x0_2 x0_3 x0_4 x0_5 x0_6 =
    if x0_0 < (1 : Int) then
      F68_letheref04_Right_l2 
    else
      if (64 : Int) < x0_0 then
        F68_letheref04_Right_l2 
      else
        if x0_1 < (1 : Int) then
          F68_letheref04_Right_l2 
        else
          if (16 : Int) < x0_1 then
            F68_letheref04_Right_l2 
          else
            if x0_2 < (0 : Int) then
              F68_letheref04_Right_l2 
            else
              if (32 : Int) < x0_2 then
                F68_letheref04_Right_l2 
              else
                if x0_3 < (0 : Int) then
                  F68_letheref04_Right_l2 
                else
                  if (16 : Int) < x0_3 then
                    F68_letheref04_Right_l2 
                  else
                    if (1 : Int) ≤ x0_4 then
                      if x0_4 ≤ (4 : Int) then
                        if (1 : Int) ≤ x0_5 then
                          if x0_5 ≤ (8 : Int) then
                            if (0 : Int) ≤ x0_6 then
                              some ((decide (x0_6 ≤ (32 : Int))), ())
                            else
                              some (false, ())
                          else
                            some (false, ())
                        else
                          some (false, ())
                      else
                        some (false, ())
                    else
                      some (false, ()) :=
  (F_eq (G := G) rfl fn12 rfl _).trans ((run_eq _ _ _ _).trans (by kernel_rfl))
theorem F68_letheref04_Right_l2_eq  : F68_letheref04_Right_l2  =
    some (false, ()) :=
  (run_eq _ _ _ _).trans (by kernel_rfl)
theorem F69_letheref06_leaf_eq (x0_0 : Int) (x0_1 : Int) (x0_2 : Int) (x0_3 : Int) (x0_4 : Int) (x0_5 : Int) (x0_6 : Int) (x1_0 : Bool) (x1_1 : (List S96)) (x1_2 : (List S100)) : F69_letheref06_leaf x0_0 x0_1 x0_2 x0_3 x0_4 x0_5 x0_6 x1_0 x1_1 x1_2 =
    if (0 : Int) < (List.length x1_2 : Int) then
      some (60, ())
    else
      if (4 : Int) < (List.length x1_1 : Int) then
        some (60, ())
      else
        F69_letheref06_leaf_l1000004 x1_1 (List.length x1_1 : Int) 0 x0_0 x0_1 x0_2 x0_3 x0_4 x0_5 x0_6 x1_0 x1_1 x1_2 :=
  (F_eq (G := G) rfl fn13 rfl _).trans ((run_eq _ _ _ _).trans (by kernel_rfl))
theorem F69_letheref06_leaf_l1000004_eq (v19 : (List S96)) (v20 : Int) (v21 : Int) (h0_0 : Int) (h0_1 : Int) (h0_2 : Int) (h0_3 : Int) (h0_4 : Int) (h0_5 : Int) (h0_6 : Int) (h1_0 : Bool) (h1_1 : (List S96)) (h1_2 : (List S100)) : F69_letheref06_leaf_l1000004 v19 v20 v21 h0_0 h0_1 h0_2 h0_3 h0_4 h0_5 h0_6 h1_0 h1_1 h1_2 =
    if v21 < v20 then
      if (0 : Int) ≤ v21 ∧ v21 < (List.length v19 : Int) then
        (F123_letheref05_Right h0_0 h0_1 h0_2 h0_3 h0_4 h0_5 h0_6 (S96.f0 (rd S96.z v19 v21)) (S96.f1 (rd S96.z v19 v21))).bind fun y1 =>
        if ¬ y1.1 = (0 : Int) then
          some (y1.1, ())
        else
          if (0 : Int) < v21 then
            if (0 : Int) ≤ (IntKind.i64.wrap (v21 - (1 : Int))) ∧ (IntKind.i64.wrap (v21 - (1 : Int))) < (List.length h1_1 : Int) then
              if sLt (S96.f0 (rd S96.z h1_1 (IntKind.i64.wrap (v21 - (1 : Int))))) (S96.f0 (rd S96.z v19 v21)) = false then
                some (60, ())
              else
                F69_letheref06_leaf_l1000004 v19 v20 (IntKind.i64.wrap (v21 + (1 : Int))) h0_0 h0_1 h0_2 h0_3 h0_4 h0_5 h0_6 h1_0 h1_1 h1_2
            else
              none
          else
            F69_letheref06_leaf_l1000004 v19 v20 (IntKind.i64.wrap (v21 + (1 : Int))) h0_0 h0_1 h0_2 h0_3 h0_4 h0_5 h0_6 h1_0 h1_1 h1_2
      else
        none
    else
      some (0, ()) :=
  (run_eq _ _ _ _).trans (by kernel_rfl)
theorem F70_letheref06_inner_eq (x0_0 : Int) (x0_1 : Int) (x0_2 : Int) (x0_3 : Int) (x0_4 : Int) (x0_5 : Int) (x0_6 : Int) (x1_0 : Bool) (x1_1 : (List S96)) (x1_2 : (List S100)) : F70_letheref06_inner x0_0 x0_1 x0_2 x0_3 x0_4 x0_5 x0_6 x1_0 x1_1 x1_2 =
    if (0 : Int) < (List.length x1_1 : Int) then
      some (60, ())
    else
      if (List.length x1_2 : Int) < (2 : Int) then
        some (60, ())
      else
        if (4 : Int) < (List.length x1_2 : Int) then
          some (60, ())
        else
          F70_letheref06_inner_l1000004 x1_2 (List.length x1_2 : Int) 0 x0_0 x0_1 x0_2 x0_3 x0_4 x0_5 x0_6 x1_0 x1_1 x1_2 :=
  (F_eq (G := G) rfl fn14 rfl _).trans ((run_eq _ _ _ _).trans (by kernel_rfl))
theorem F70_letheref06_inner_l1000004_eq (v24 : (List S100)) (v25 : Int) (v26 : Int) (h0_0 : Int) (h0_1 : Int) (h0_2 : Int) (h0_3 : Int) (h0_4 : Int) (h0_5 : Int) (h0_6 : Int) (h1_0 : Bool) (h1_1 : (List S96)) (h1_2 : (List S100)) : F70_letheref06_inner_l1000004 v24 v25 v26 h0_0 h0_1 h0_2 h0_3 h0_4 h0_5 h0_6 h1_0 h1_1 h1_2 =
    if v26 < v25 then
      if (0 : Int) ≤ v26 ∧ v26 < (List.length v24 : Int) then
        if (S100.f0 (rd S100.z v24 v26)) = ByteArray.empty then
          some (4, ())
        else
          if h0_1 < (ByteArray.size (S100.f0 (rd S100.z v24 v26)) : Int) then
            some (5, ())
          else
            (F18_letheref06_RefRight (S100.f1 (rd S100.z v24 v26)) (S100.f2 (rd S100.z v24 v26)) (S100.f3 (rd S100.z v24 v26)) (S100.f4 (rd S100.z v24 v26))).bind fun y1 =>
            if (!y1.1) = true then
              some (61, ())
            else
              if (0 : Int) < v26 then
                if (0 : Int) ≤ (IntKind.i64.wrap (v26 - (1 : Int))) ∧ (IntKind.i64.wrap (v26 - (1 : Int))) < (List.length h1_2 : Int) then
                  if sLt (S100.f0 (rd S100.z h1_2 (IntKind.i64.wrap (v26 - (1 : Int))))) (S100.f0 (rd S100.z v24 v26)) = false then
                    some (60, ())
                  else
                    F70_letheref06_inner_l1000004 v24 v25 (IntKind.i64.wrap (v26 + (1 : Int))) h0_0 h0_1 h0_2 h0_3 h0_4 h0_5 h0_6 h1_0 h1_1 h1_2
                else
                  none
              else
                F70_letheref06_inner_l1000004 v24 v25 (IntKind.i64.wrap (v26 + (1 : Int))) h0_0 h0_1 h0_2 h0_3 h0_4 h0_5 h0_6 h1_0 h1_1 h1_2
      else
        none
    else
      some (0, ()) :=
  (run_eq _ _ _ _).trans (by kernel_rfl)
theorem F18_letheref06_RefRight_eq (x0_0 : Int) (x0_1 : Int) (x0_2 : Int) (x0_3 : Int) : F18_letheref06_RefRight x0_0 x0_1 x0_2 x0_3 =
    if (0 : Int) ≤ x0_1 then
      if x0_1 ≤ (1048576 : Int) then
        if (0 : Int) ≤ x0_2 then
          if x0_2 ≤ (134217728 : Int) then
            if (1 : Int) ≤ x0_3 then
              some ((decide (x0_3 ≤ (1048576 : Int))), ())
            else
              some (false, ())
          else
            some (false, ())
        else
          some (false, ())
      else
        some (false, ())
    else
      some (false, ()) :=
  (F_eq (G := G) rfl fn15 rfl _).trans ((run_eq _ _ _ _).trans (by kernel_rfl))
theorem F123_letheref05_Right_eq (x0_0 : Int) (x0_1 : Int) (x0_2 : Int) (x0_3 : Int) (x0_4 : Int) (x0_5 : Int) (x0_6 : Int) (x1_0 : ByteArray) (x1_1 : (List S98)) : F123_letheref05_Right x0_0 x0_1 x0_2 x0_3 x0_4 x0_5 x0_6 x1_0 x1_1 =
    (F154_letheref05_Named x0_0 x0_1 x0_2 x0_3 x0_4 x0_5 x0_6 x1_0 x1_1).bind fun y1 =>
    if y1.1 = (0 : Int) then
      if (List.length x1_1 : Int) = (0 : Int) then
        some (50, ())
      else
        some (y1.1, ())
    else
      some (y1.1, ()) :=
  (F_eq (G := G) rfl fn16 rfl _).trans ((run_eq _ _ _ _).trans (by kernel_rfl))
theorem F154_letheref05_Named_eq (x0_0 : Int) (x0_1 : Int) (x0_2 : Int) (x0_3 : Int) (x0_4 : Int) (x0_5 : Int) (x0_6 : Int) (x1_0 : ByteArray) (x1_1 : (List S98)) : F154_letheref05_Named x0_0 x0_1 x0_2 x0_3 x0_4 x0_5 x0_6 x1_0 x1_1 =
    (F68_letheref04_Right x0_0 x0_1 x0_2 x0_3 x0_4 x0_5 x0_6).bind fun y1 =>
    if (!y1.1) = true then
      some (40, ())
    else
      if x1_0 = ByteArray.empty then
        some (4, ())
      else
        if x0_1 < (ByteArray.size x1_0 : Int) then
          some (5, ())
        else
          if x0_4 < (List.length x1_1 : Int) then
            some (50, ())
          else
            F154_letheref05_Named_l1000010 x1_1 (List.length x1_1 : Int) 0 x0_0 x0_1 x0_2 x0_3 x0_4 x0_5 x0_6 x1_0 x1_1 :=
  (F_eq (G := G) rfl fn17 rfl _).trans ((run_eq _ _ _ _).trans (by kernel_rfl))
theorem F154_letheref05_Named_l1000010_eq (v26 : (List S98)) (v27 : Int) (v28 : Int) (h0_0 : Int) (h0_1 : Int) (h0_2 : Int) (h0_3 : Int) (h0_4 : Int) (h0_5 : Int) (h0_6 : Int) (h1_0 : ByteArray) (h1_1 : (List S98)) : F154_letheref05_Named_l1000010 v26 v27 v28 h0_0 h0_1 h0_2 h0_3 h0_4 h0_5 h0_6 h1_0 h1_1 =
    if v28 < v27 then
      if (0 : Int) ≤ v28 ∧ v28 < (List.length v26 : Int) then
        if (S98.f0 (rd S98.z v26 v28)) < (1 : Int) then
          some (50, ())
        else
          if (1073741824 : Int) < (S98.f0 (rd S98.z v26 v28)) then
            some (50, ())
          else
            if (0 : Int) < v28 then
              if (0 : Int) ≤ (IntKind.i64.wrap (v28 - (1 : Int))) ∧ (IntKind.i64.wrap (v28 - (1 : Int))) < (List.length h1_1 : Int) then
                if (S98.f0 (rd S98.z v26 v28)) ≤ (S98.f0 (rd S98.z h1_1 (IntKind.i64.wrap (v28 - (1 : Int))))) then
                  some (50, ())
                else
                  if h0_2 < (ByteArray.size (S98.f1 (rd S98.z v26 v28)) : Int) then
                    F154_letheref05_Named_l15 
                  else
                    if h0_3 < (ByteArray.size (S98.f2 (rd S98.z v26 v28)) : Int) then
                      F154_letheref05_Named_l15 
                    else
                      F154_letheref05_Named_l1000010 v26 v27 (IntKind.i64.wrap (v28 + (1 : Int))) h0_0 h0_1 h0_2 h0_3 h0_4 h0_5 h0_6 h1_0 h1_1
              else
                none
            else
              if h0_2 < (ByteArray.size (S98.f1 (rd S98.z v26 v28)) : Int) then
                F154_letheref05_Named_l15 
              else
                if h0_3 < (ByteArray.size (S98.f2 (rd S98.z v26 v28)) : Int) then
                  F154_letheref05_Named_l15 
                else
                  F154_letheref05_Named_l1000010 v26 v27 (IntKind.i64.wrap (v28 + (1 : Int))) h0_0 h0_1 h0_2 h0_3 h0_4 h0_5 h0_6 h1_0 h1_1
      else
        none
    else
      some (0, ()) :=
  (run_eq _ _ _ _).trans (by kernel_rfl)
theorem F154_letheref05_Named_l15_eq  : F154_letheref05_Named_l15  =
    some (5, ()) :=
  (run_eq _ _ _ _).trans (by kernel_rfl)
theorem F15_node_Right_eq (x0_0 : Int) (x0_1 : Int) (x0_2 : Int) (x0_3 : Int) (x0_4 : Int) (x0_5 : Int) (x0_6 : Int) (x1_0 : Bool) (x1_1 : (List S96)) (x1_2 : (List S100)) : F15_node_Right x0_0 x0_1 x0_2 x0_3 x0_4 x0_5 x0_6 x1_0 x1_1 x1_2 =
    (F66_quota_Right x0_0 x0_1 x0_2 x0_3 x0_4 x0_5 x0_6).bind fun y1 =>
    if ¬ y1.1 = (0 : Int) then
      some (40, ())
    else
      if x1_0 = true then
        (F67_node_leafRight x0_0 x0_1 x0_2 x0_3 x0_4 x0_5 x0_6 x1_0 x1_1 x1_2).bind fun y2 =>
        some (y2.1, ())
      else
        if (0 : Int) < (List.length x1_1 : Int) then
          some (60, ())
        else
          if (List.length x1_2 : Int) < (2 : Int) then
            some (60, ())
          else
            if (4 : Int) < (List.length x1_2 : Int) then
              some (60, ())
            else
              F15_node_Right_l1000008 x1_2 (List.length x1_2 : Int) 0 x0_0 x0_1 x0_2 x0_3 x0_4 x0_5 x0_6 x1_0 x1_1 x1_2 :=
  (F_eq (G := G) rfl fn18 rfl _).trans ((run_eq _ _ _ _).trans (by kernel_rfl))
theorem F15_node_Right_l1000008_eq (v32 : (List S100)) (v33 : Int) (v34 : Int) (h0_0 : Int) (h0_1 : Int) (h0_2 : Int) (h0_3 : Int) (h0_4 : Int) (h0_5 : Int) (h0_6 : Int) (h1_0 : Bool) (h1_1 : (List S96)) (h1_2 : (List S100)) : F15_node_Right_l1000008 v32 v33 v34 h0_0 h0_1 h0_2 h0_3 h0_4 h0_5 h0_6 h1_0 h1_1 h1_2 =
    if v34 < v33 then
      if (0 : Int) ≤ v34 ∧ v34 < (List.length v32 : Int) then
        if (S100.f0 (rd S100.z v32 v34)) = ByteArray.empty then
          some (4, ())
        else
          if h0_1 < (ByteArray.size (S100.f0 (rd S100.z v32 v34)) : Int) then
            some (5, ())
          else
            (F17_node_RefRight (S100.f1 (rd S100.z v32 v34)) (S100.f2 (rd S100.z v32 v34)) (S100.f3 (rd S100.z v32 v34)) (S100.f4 (rd S100.z v32 v34))).bind fun y1 =>
            if (!y1.1) = true then
              some (61, ())
            else
              if (0 : Int) < v34 then
                if (0 : Int) ≤ (IntKind.i64.wrap (v34 - (1 : Int))) ∧ (IntKind.i64.wrap (v34 - (1 : Int))) < (List.length h1_2 : Int) then
                  if sLt (S100.f0 (rd S100.z h1_2 (IntKind.i64.wrap (v34 - (1 : Int))))) (S100.f0 (rd S100.z v32 v34)) = false then
                    some (60, ())
                  else
                    F15_node_Right_l1000008 v32 v33 (IntKind.i64.wrap (v34 + (1 : Int))) h0_0 h0_1 h0_2 h0_3 h0_4 h0_5 h0_6 h1_0 h1_1 h1_2
                else
                  none
              else
                F15_node_Right_l1000008 v32 v33 (IntKind.i64.wrap (v34 + (1 : Int))) h0_0 h0_1 h0_2 h0_3 h0_4 h0_5 h0_6 h1_0 h1_1 h1_2
      else
        none
    else
      some (0, ()) :=
  (run_eq _ _ _ _).trans (by kernel_rfl)
theorem F72_node_number_eq (x0 : Int) : F72_node_number x0 =
    (F92_term_Num (IntKind.u64.wrap x0)).bind fun y1 =>
    some (y1.1, y1.2.1, y1.2.2.1, y1.2.2.2.1, ()) :=
  (F_eq (G := G) rfl fn19 rfl _).trans ((run_eq _ _ _ _).trans (by kernel_rfl))
theorem F71_node_row_73_eq (x0_0 : Int) (x0_1 : Int) (x0_2 : ByteArray) (x0_3 : (List S38)) (x1 : (List S96)) : F71_node_row_73 x0_0 x0_1 x0_2 x0_3 x1 =
    F71_node_row_73_l1000003 x1 (List.length x1 : Int) 0 0 0 ByteArray.empty [(S38.mk x0_0 x0_1 x0_2 x0_3)] [] :=
  (F_eq (G := G) rfl fn20 rfl _).trans ((run_eq _ _ _ _).trans (by kernel_rfl))
theorem F71_node_row_73_l1000003_eq (v12 : (List S96)) (v13 : Int) (v14 : Int) (h0_0 : Int) (h0_1 : Int) (h0_2 : ByteArray) (g1 : (List S38)) (g2 : (List S38)) : F71_node_row_73_l1000003 v12 v13 v14 h0_0 h0_1 h0_2 g1 g2 =
    if v14 < v13 then
      if (0 : Int) ≤ v14 ∧ v14 < (List.length v12 : Int) then
        (F73_node_Term_1 (S96.f0 (rd S96.z v12 v14)) (S96.f1 (rd S96.z v12 v14))).bind fun y1 =>
        if (List.length g1 + List.length [(S38.mk y1.1 y1.2.1 y1.2.2.1 y1.2.2.2.1)]) * 56 ≤ 140737488355328 then
          F71_node_row_73_l1000003 v12 v13 (IntKind.i64.wrap (v14 + (1 : Int))) h0_0 h0_1 h0_2 (g1 ++ [(S38.mk y1.1 y1.2.1 y1.2.2.1 y1.2.2.2.1)]) g2
        else
          none
      else
        none
    else
      (F77_term_Of g1).bind fun y2 =>
      some (y2.1, y2.2.1, y2.2.2.1, y2.2.2.2.1, ()) :=
  (run_eq _ _ _ _).trans (by kernel_rfl)
theorem F78_node_row_79_eq (x0_0 : Int) (x0_1 : Int) (x0_2 : ByteArray) (x0_3 : (List S38)) (x1 : (List S100)) : F78_node_row_79 x0_0 x0_1 x0_2 x0_3 x1 =
    F78_node_row_79_l1000003 x1 (List.length x1 : Int) 0 0 0 ByteArray.empty [(S38.mk x0_0 x0_1 x0_2 x0_3)] [] :=
  (F_eq (G := G) rfl fn21 rfl _).trans ((run_eq _ _ _ _).trans (by kernel_rfl))
theorem F78_node_row_79_l1000003_eq (v12 : (List S100)) (v13 : Int) (v14 : Int) (h0_0 : Int) (h0_1 : Int) (h0_2 : ByteArray) (g1 : (List S38)) (g2 : (List S38)) : F78_node_row_79_l1000003 v12 v13 v14 h0_0 h0_1 h0_2 g1 g2 =
    if v14 < v13 then
      if (0 : Int) ≤ v14 ∧ v14 < (List.length v12 : Int) then
        (F79_node_Term_2 (S100.f0 (rd S100.z v12 v14)) (S100.f1 (rd S100.z v12 v14)) (S100.f2 (rd S100.z v12 v14)) (S100.f3 (rd S100.z v12 v14)) (S100.f4 (rd S100.z v12 v14))).bind fun y1 =>
        if (List.length g1 + List.length [(S38.mk y1.1 y1.2.1 y1.2.2.1 y1.2.2.2.1)]) * 56 ≤ 140737488355328 then
          F78_node_row_79_l1000003 v12 v13 (IntKind.i64.wrap (v14 + (1 : Int))) h0_0 h0_1 h0_2 (g1 ++ [(S38.mk y1.1 y1.2.1 y1.2.2.1 y1.2.2.2.1)]) g2
        else
          none
      else
        none
    else
      (F77_term_Of g1).bind fun y2 =>
      some (y2.1, y2.2.1, y2.2.2.1, y2.2.2.2.1, ()) :=
  (run_eq _ _ _ _).trans (by kernel_rfl)
theorem F79_node_Term_2_eq (x0_0 : ByteArray) (x0_1 : Int) (x0_2 : Int) (x0_3 : Int) (x0_4 : Int) : F79_node_Term_2 x0_0 x0_1 x0_2 x0_3 x0_4 =
    (F75_term_Atom x0_0).bind fun y1 =>
    (F80_term_Key x0_1).bind fun y2 =>
    (F72_node_number x0_2).bind fun y3 =>
    (F72_node_number x0_3).bind fun y4 =>
    (F72_node_number x0_4).bind fun y5 =>
    let e6 : (List S38) := [(S38.mk y1.1 y1.2.1 y1.2.2.1 y1.2.2.2.1), (S38.mk y2.1 y2.2.1 y2.2.2.1 y2.2.2.2.1), (S38.mk y3.1 y3.2.1 y3.2.2.1 y3.2.2.2.1), (S38.mk y4.1 y4.2.1 y4.2.2.1 y4.2.2.2.1), (S38.mk y5.1 y5.2.1 y5.2.2.1 y5.2.2.2.1)]
    (F77_term_Of e6).bind fun y7 =>
    some (y7.1, y7.2.1, y7.2.2.1, y7.2.2.2.1, ()) :=
  (F_eq (G := G) rfl fn22 rfl _).trans ((run_eq _ _ _ _).trans (by kernel_rfl))
theorem F77_term_Of_eq (x0 : (List S38)) : F77_term_Of x0 =
    (F124_term_clone 5 0 ByteArray.empty x0).bind fun y1 =>
    some (y1.1, y1.2.1, y1.2.2.1, y1.2.2.2.1, ()) :=
  (F_eq (G := G) rfl fn23 rfl _).trans ((run_eq _ _ _ _).trans (by kernel_rfl))
theorem F124_term_clone_eq (x0_0 : Int) (x0_1 : Int) (x0_2 : ByteArray) (x0_3 : (List S38)) : F124_term_clone x0_0 x0_1 x0_2 x0_3 =
    F124_term_clone_l1000003 x0_3 (List.length x0_3 : Int) 0 x0_0 x0_1 x0_2 x0_3 0 0 ByteArray.empty [] [] :=
  (F_eq (G := G) rfl fn24 rfl _).trans ((run_eq _ _ _ _).trans (by kernel_rfl))
theorem F124_term_clone_l1000003_eq (v7 : (List S38)) (v8 : Int) (v9 : Int) (h0_0 : Int) (h0_1 : Int) (h0_2 : ByteArray) (h0_3 : (List S38)) (h1_0 : Int) (h1_1 : Int) (h1_2 : ByteArray) (g2 : (List S38)) (g3 : (List S38)) : F124_term_clone_l1000003 v7 v8 v9 h0_0 h0_1 h0_2 h0_3 h1_0 h1_1 h1_2 g2 g3 =
    if v9 < v8 then
      if (0 : Int) ≤ v9 ∧ v9 < (List.length v7 : Int) then
        (F124_term_clone (S38.f0 (rd S38.z v7 v9)) (S38.f1 (rd S38.z v7 v9)) (S38.f2 (rd S38.z v7 v9)) (S38.f3 (rd S38.z v7 v9))).bind fun y1 =>
        if (List.length g2 + List.length [(S38.mk y1.1 y1.2.1 y1.2.2.1 y1.2.2.2.1)]) * 56 ≤ 140737488355328 then
          F124_term_clone_l1000003 v7 v8 (IntKind.i64.wrap (v9 + (1 : Int))) h0_0 h0_1 h0_2 h0_3 h1_0 h1_1 h1_2 (g2 ++ [(S38.mk y1.1 y1.2.1 y1.2.2.1 y1.2.2.2.1)]) g3
        else
          none
      else
        none
    else
      some (h0_0, h0_1, h0_2, g2, ()) :=
  (run_eq _ _ _ _).trans (by kernel_rfl)
theorem F75_term_Atom_eq (x0 : ByteArray) : F75_term_Atom x0 =
    some (2, 0, x0, [], ()) :=
  (F_eq (G := G) rfl fn25 rfl _).trans ((run_eq _ _ _ _).trans (by kernel_rfl))
theorem F80_term_Key_eq (x0 : Int) : F80_term_Key x0 =
    some (3, x0, ByteArray.empty, [], ()) :=
  (F_eq (G := G) rfl fn26 rfl _).trans ((run_eq _ _ _ _).trans (by kernel_rfl))
theorem F73_node_Term_1_eq (x0_0 : ByteArray) (x0_1 : (List S98)) : F73_node_Term_1 x0_0 x0_1 =
    (F75_term_Atom x0_0).bind fun y1 =>
    (F74_node_row_76 y1.1 y1.2.1 y1.2.2.1 y1.2.2.2.1 x0_1).bind fun y2 =>
    some (y2.1, y2.2.1, y2.2.2.1, y2.2.2.2.1, ()) :=
  (F_eq (G := G) rfl fn27 rfl _).trans ((run_eq _ _ _ _).trans (by kernel_rfl))
theorem F74_node_row_76_eq (x0_0 : Int) (x0_1 : Int) (x0_2 : ByteArray) (x0_3 : (List S38)) (x1 : (List S98)) : F74_node_row_76 x0_0 x0_1 x0_2 x0_3 x1 =
    F74_node_row_76_l1000003 x1 (List.length x1 : Int) 0 0 0 ByteArray.empty [(S38.mk x0_0 x0_1 x0_2 x0_3)] [] :=
  (F_eq (G := G) rfl fn28 rfl _).trans ((run_eq _ _ _ _).trans (by kernel_rfl))
theorem F74_node_row_76_l1000003_eq (v12 : (List S98)) (v13 : Int) (v14 : Int) (h0_0 : Int) (h0_1 : Int) (h0_2 : ByteArray) (g1 : (List S38)) (g2 : (List S38)) : F74_node_row_76_l1000003 v12 v13 v14 h0_0 h0_1 h0_2 g1 g2 =
    if v14 < v13 then
      if (0 : Int) ≤ v14 ∧ v14 < (List.length v12 : Int) then
        (F76_node_Term_1_1 (S98.f0 (rd S98.z v12 v14)) (S98.f1 (rd S98.z v12 v14)) (S98.f2 (rd S98.z v12 v14))).bind fun y1 =>
        if (List.length g1 + List.length [(S38.mk y1.1 y1.2.1 y1.2.2.1 y1.2.2.2.1)]) * 56 ≤ 140737488355328 then
          F74_node_row_76_l1000003 v12 v13 (IntKind.i64.wrap (v14 + (1 : Int))) h0_0 h0_1 h0_2 (g1 ++ [(S38.mk y1.1 y1.2.1 y1.2.2.1 y1.2.2.2.1)]) g2
        else
          none
      else
        none
    else
      (F77_term_Of g1).bind fun y2 =>
      some (y2.1, y2.2.1, y2.2.2.1, y2.2.2.2.1, ()) :=
  (run_eq _ _ _ _).trans (by kernel_rfl)
theorem F76_node_Term_1_1_eq (x0_0 : Int) (x0_1 : ByteArray) (x0_2 : ByteArray) : F76_node_Term_1_1 x0_0 x0_1 x0_2 =
    (F72_node_number x0_0).bind fun y1 =>
    (F75_term_Atom x0_1).bind fun y2 =>
    (F75_term_Atom x0_2).bind fun y3 =>
    let e4 : (List S38) := [(S38.mk y1.1 y1.2.1 y1.2.2.1 y1.2.2.2.1), (S38.mk y2.1 y2.2.1 y2.2.2.1 y2.2.2.2.1), (S38.mk y3.1 y3.2.1 y3.2.2.1 y3.2.2.2.1)]
    (F77_term_Of e4).bind fun y5 =>
    some (y5.1, y5.2.1, y5.2.2.1, y5.2.2.2.1, ()) :=
  (F_eq (G := G) rfl fn29 rfl _).trans ((run_eq _ _ _ _).trans (by kernel_rfl))
theorem F92_term_Num_eq (x0 : Int) : F92_term_Num x0 =
    some (1, x0, ByteArray.empty, [], ()) :=
  (F_eq (G := G) rfl fn30 rfl _).trans ((run_eq _ _ _ _).trans (by kernel_rfl))
theorem F66_quota_Right_eq (x0_0 : Int) (x0_1 : Int) (x0_2 : Int) (x0_3 : Int) (x0_4 : Int) (x0_5 : Int) (x0_6 : Int) : F66_quota_Right x0_0 x0_1 x0_2 x0_3 x0_4 x0_5 x0_6 =
    (F121_quota_in x0_0 1 64).bind fun y1 =>
    if y1.1 = true then
      (F121_quota_in x0_1 1 16).bind fun y2 =>
      if y2.1 = true then
        (F121_quota_in x0_2 0 32).bind fun y3 =>
        if y3.1 = true then
          (F121_quota_in x0_3 0 16).bind fun y4 =>
          if y4.1 = true then
            (F121_quota_in x0_4 1 4).bind fun y5 =>
            if y5.1 = true then
              (F121_quota_in x0_5 1 8).bind fun y6 =>
              if y6.1 = true then
                (F121_quota_in x0_6 0 32).bind fun y7 =>
                if y7.1 = true then
                  some (0, ())
                else
                  F66_quota_Right_l3 
              else
                F66_quota_Right_l3 
            else
              F66_quota_Right_l3 
          else
            F66_quota_Right_l3 
        else
          F66_quota_Right_l3 
      else
        F66_quota_Right_l3 
    else
      F66_quota_Right_l3  :=
  (F_eq (G := G) rfl fn31 rfl _).trans ((run_eq _ _ _ _).trans (by kernel_rfl))
theorem F66_quota_Right_l3_eq  : F66_quota_Right_l3  =
    some (40, ()) :=
  (run_eq _ _ _ _).trans (by kernel_rfl)
theorem F67_node_leafRight_eq (x0_0 : Int) (x0_1 : Int) (x0_2 : Int) (x0_3 : Int) (x0_4 : Int) (x0_5 : Int) (x0_6 : Int) (x1_0 : Bool) (x1_1 : (List S96)) (x1_2 : (List S100)) : F67_node_leafRight x0_0 x0_1 x0_2 x0_3 x0_4 x0_5 x0_6 x1_0 x1_1 x1_2 =
    if (0 : Int) < (List.length x1_2 : Int) then
      some (60, ())
    else
      if (4 : Int) < (List.length x1_1 : Int) then
        some (60, ())
      else
        F67_node_leafRight_l1000004 x1_1 (List.length x1_1 : Int) 0 x0_0 x0_1 x0_2 x0_3 x0_4 x0_5 x0_6 x1_0 x1_1 x1_2 :=
  (F_eq (G := G) rfl fn32 rfl _).trans ((run_eq _ _ _ _).trans (by kernel_rfl))
theorem F67_node_leafRight_l1000004_eq (v19 : (List S96)) (v20 : Int) (v21 : Int) (h0_0 : Int) (h0_1 : Int) (h0_2 : Int) (h0_3 : Int) (h0_4 : Int) (h0_5 : Int) (h0_6 : Int) (h1_0 : Bool) (h1_1 : (List S96)) (h1_2 : (List S100)) : F67_node_leafRight_l1000004 v19 v20 v21 h0_0 h0_1 h0_2 h0_3 h0_4 h0_5 h0_6 h1_0 h1_1 h1_2 =
    if v21 < v20 then
      if (0 : Int) ≤ v21 ∧ v21 < (List.length v19 : Int) then
        (F122_entry_Right h0_0 h0_1 h0_2 h0_3 h0_4 h0_5 h0_6 (S96.f0 (rd S96.z v19 v21)) (S96.f1 (rd S96.z v19 v21))).bind fun y1 =>
        if ¬ y1.1 = (0 : Int) then
          some (y1.1, ())
        else
          if (0 : Int) < v21 then
            if (0 : Int) ≤ (IntKind.i64.wrap (v21 - (1 : Int))) ∧ (IntKind.i64.wrap (v21 - (1 : Int))) < (List.length h1_1 : Int) then
              if sLt (S96.f0 (rd S96.z h1_1 (IntKind.i64.wrap (v21 - (1 : Int))))) (S96.f0 (rd S96.z v19 v21)) = false then
                some (60, ())
              else
                F67_node_leafRight_l1000004 v19 v20 (IntKind.i64.wrap (v21 + (1 : Int))) h0_0 h0_1 h0_2 h0_3 h0_4 h0_5 h0_6 h1_0 h1_1 h1_2
            else
              none
          else
            F67_node_leafRight_l1000004 v19 v20 (IntKind.i64.wrap (v21 + (1 : Int))) h0_0 h0_1 h0_2 h0_3 h0_4 h0_5 h0_6 h1_0 h1_1 h1_2
      else
        none
    else
      some (0, ()) :=
  (run_eq _ _ _ _).trans (by kernel_rfl)
theorem F17_node_RefRight_eq (x0_0 : Int) (x0_1 : Int) (x0_2 : Int) (x0_3 : Int) : F17_node_RefRight x0_0 x0_1 x0_2 x0_3 =
    if (0 : Int) ≤ x0_1 then
      if x0_1 ≤ (1048576 : Int) then
        if (0 : Int) ≤ x0_2 then
          if x0_2 ≤ (134217728 : Int) then
            if (1 : Int) ≤ x0_3 then
              some ((decide (x0_3 ≤ (1048576 : Int))), ())
            else
              some (false, ())
          else
            some (false, ())
        else
          some (false, ())
      else
        some (false, ())
    else
      some (false, ()) :=
  (F_eq (G := G) rfl fn33 rfl _).trans ((run_eq _ _ _ _).trans (by kernel_rfl))
theorem F122_entry_Right_eq (x0_0 : Int) (x0_1 : Int) (x0_2 : Int) (x0_3 : Int) (x0_4 : Int) (x0_5 : Int) (x0_6 : Int) (x1_0 : ByteArray) (x1_1 : (List S98)) : F122_entry_Right x0_0 x0_1 x0_2 x0_3 x0_4 x0_5 x0_6 x1_0 x1_1 =
    (F153_entry_named x0_0 x0_1 x0_2 x0_3 x0_4 x0_5 x0_6 x1_0 x1_1).bind fun y1 =>
    if y1.1 = (0 : Int) then
      if (List.length x1_1 : Int) = (0 : Int) then
        some (50, ())
      else
        some (y1.1, ())
    else
      some (y1.1, ()) :=
  (F_eq (G := G) rfl fn34 rfl _).trans ((run_eq _ _ _ _).trans (by kernel_rfl))
theorem F153_entry_named_eq (x0_0 : Int) (x0_1 : Int) (x0_2 : Int) (x0_3 : Int) (x0_4 : Int) (x0_5 : Int) (x0_6 : Int) (x1_0 : ByteArray) (x1_1 : (List S98)) : F153_entry_named x0_0 x0_1 x0_2 x0_3 x0_4 x0_5 x0_6 x1_0 x1_1 =
    (F66_quota_Right x0_0 x0_1 x0_2 x0_3 x0_4 x0_5 x0_6).bind fun y1 =>
    if ¬ y1.1 = (0 : Int) then
      some (40, ())
    else
      if x1_0 = ByteArray.empty then
        some (4, ())
      else
        if x0_1 < (ByteArray.size x1_0 : Int) then
          some (5, ())
        else
          if x0_4 < (List.length x1_1 : Int) then
            some (50, ())
          else
            F153_entry_named_l1000011 0 x1_1 (List.length x1_1 : Int) 0 x0_0 x0_1 x0_2 x0_3 x0_4 x0_5 x0_6 :=
  (F_eq (G := G) rfl fn35 rfl _).trans ((run_eq _ _ _ _).trans (by kernel_rfl))
theorem F153_entry_named_l1000011_eq (v5 : Int) (v32 : (List S98)) (v33 : Int) (v34 : Int) (h0_0 : Int) (h0_1 : Int) (h0_2 : Int) (h0_3 : Int) (h0_4 : Int) (h0_5 : Int) (h0_6 : Int) : F153_entry_named_l1000011 v5 v32 v33 v34 h0_0 h0_1 h0_2 h0_3 h0_4 h0_5 h0_6 =
    if v34 < v33 then
      if (0 : Int) ≤ v34 ∧ v34 < (List.length v32 : Int) then
        if (S98.f0 (rd S98.z v32 v34)) ≤ v5 then
          some (50, ())
        else
          if (1073741824 : Int) < (S98.f0 (rd S98.z v32 v34)) then
            some (50, ())
          else
            (F184_entry_texts h0_0 h0_1 h0_2 h0_3 h0_4 h0_5 h0_6 (S98.f1 (rd S98.z v32 v34)) (S98.f2 (rd S98.z v32 v34))).bind fun y1 =>
            if ¬ y1.1 = (0 : Int) then
              some (y1.1, ())
            else
              F153_entry_named_l1000011 (S98.f0 (rd S98.z v32 v34)) v32 v33 (IntKind.i64.wrap (v34 + (1 : Int))) h0_0 h0_1 h0_2 h0_3 h0_4 h0_5 h0_6
      else
        none
    else
      some (0, ()) :=
  (run_eq _ _ _ _).trans (by kernel_rfl)
theorem F184_entry_texts_eq (x0_0 : Int) (x0_1 : Int) (x0_2 : Int) (x0_3 : Int) (x0_4 : Int) (x0_5 : Int) (x0_6 : Int) (x1 : ByteArray) (x2 : ByteArray) : F184_entry_texts x0_0 x0_1 x0_2 x0_3 x0_4 x0_5 x0_6 x1 x2 =
    if x0_2 < (ByteArray.size x1 : Int) then
      some (5, ())
    else
      if x0_3 < (ByteArray.size x2 : Int) then
        some (5, ())
      else
        some (0, ()) :=
  (F_eq (G := G) rfl fn36 rfl _).trans ((run_eq _ _ _ _).trans (by kernel_rfl))
theorem F121_quota_in_eq (x0 : Int) (x1 : Int) (x2 : Int) : F121_quota_in x0 x1 x2 =
    if x1 ≤ x0 then
      some ((decide (x0 ≤ x2)), ())
    else
      some (false, ()) :=
  (F_eq (G := G) rfl fn37 rfl _).trans ((run_eq _ _ _ _).trans (by kernel_rfl))
end
end Go.Proofs.Ytgfaplkbajjheaa.NodeTermsx
