/- The law BoxWraps: what each function answers, in plain equations. Under no condition. -/
import Derived.Test.YtfojcadooepgpaaTBoxWraps
set_option linter.unusedVariables false
set_option maxRecDepth 100000
namespace Go.Proofs.Ytfojcadooepgpaa.BoxWrapsx
open Go Go.RowKit Go.Proofs.Ytfojcadooepgpaa.Rx Go.Proofs.Ytfojcadooepgpaa.BoxWrapsx
noncomputable section
theorem F3_lethelaw03_BoxWraps_eq (x0_0 : Int) (x0_1 : Int) (x0_2 : ByteArray) (x0_3 : (List S25)) (x1 : (List Int)) : F3_lethelaw03_BoxWraps x0_0 x0_1 x0_2 x0_3 x1 =
    (F5_box_Wrap x0_0 x0_1 x0_2 x0_3 x1).bind fun y1 =>
    (F6_letheref03_Wrap x0_0 x0_1 x0_2 x0_3 x1).bind fun y2 =>
    (F7_box_Unwrap x0_0 x0_1 x0_2 x0_3 x1).bind fun y3 =>
    (F8_letheref03_Unwrap x0_0 x0_1 x0_2 x0_3 x1).bind fun y4 =>
    if y1.2.2.2.2.1 = y2.2.2.2.2.1 then
      (F9_letheref02_Like y1.1 y1.2.1 y1.2.2.1 y1.2.2.2.1 y2.1 y2.2.1 y2.2.2.1 y2.2.2.2.1).bind fun y5 =>
      if y5.1 = true then
        if y3.2.2.2.2.1 = y4.2.2.2.2.1 then
          (F9_letheref02_Like y3.1 y3.2.1 y3.2.2.1 y3.2.2.2.1 y4.1 y4.2.1 y4.2.2.1 y4.2.2.2.1).bind fun y6 =>
          some (y6.1, ())
        else
          some (false, ())
      else
        some (false, ())
    else
      some (false, ()) :=
  (F_eq (G := G) rfl fn0 rfl _).trans ((run_eq _ _ _ _).trans (by kernel_rfl))
theorem F5_box_Wrap_eq (x0_0 : Int) (x0_1 : Int) (x0_2 : ByteArray) (x0_3 : (List S25)) (x1 : (List Int)) : F5_box_Wrap x0_0 x0_1 x0_2 x0_3 x1 =
    (F15_box_each_16 x0_0 x0_1 x0_2 x0_3 x1).bind fun y1 =>
    some (y1.1, y1.2.1, y1.2.2.1, y1.2.2.2.1, y1.2.2.2.2.1, ()) :=
  (F_eq (G := G) rfl fn1 rfl _).trans ((run_eq _ _ _ _).trans (by kernel_rfl))
theorem F6_letheref03_Wrap_eq (x0_0 : Int) (x0_1 : Int) (x0_2 : ByteArray) (x0_3 : (List S25)) (x1 : (List Int)) : F6_letheref03_Wrap x0_0 x0_1 x0_2 x0_3 x1 =
    if (8 : Int) < (List.length x1 : Int) then
      some (0, 0, ByteArray.empty, [], 2, ())
    else
      (F17_letheref02_Right x0_0 x0_1 x0_2 x0_3).bind fun y1 =>
      if ¬ y1.1 = (0 : Int) then
        (F17_letheref02_Right x0_0 x0_1 x0_2 x0_3).bind fun y2 =>
        some (0, 0, ByteArray.empty, [], y2.1, ())
      else
        F6_letheref03_Wrap_l1000006 x1 (List.length x1 : Int) 0 x0_0 x0_1 x0_2 x0_3 0 0 ByteArray.empty [] :=
  (F_eq (G := G) rfl fn2 rfl _).trans ((run_eq _ _ _ _).trans (by kernel_rfl))
theorem F6_letheref03_Wrap_l1000006_eq (v20 : (List Int)) (v21 : Int) (v22 : Int) (h0_0 : Int) (h0_1 : Int) (h0_2 : ByteArray) (h0_3 : (List S25)) (h1_0 : Int) (h1_1 : Int) (h1_2 : ByteArray) (g2 : (List S25)) : F6_letheref03_Wrap_l1000006 v20 v21 v22 h0_0 h0_1 h0_2 h0_3 h1_0 h1_1 h1_2 g2 =
    if v22 < v21 then
      if (0 : Int) ≤ v22 ∧ v22 < (List.length v20 : Int) then
        (F18_letheref03_Seal (rd (0 : Int) v20 v22) h0_0 h0_1 h0_2 h0_3).bind fun y1 =>
        if ¬ y1.2.2.2.2.1 = (0 : Int) then
          some (0, 0, ByteArray.empty, [], y1.2.2.2.2.1, ())
        else
          F6_letheref03_Wrap_l1000006 v20 v21 (IntKind.i64.wrap (v22 + (1 : Int))) y1.1 y1.2.1 y1.2.2.1 y1.2.2.2.1 h1_0 h1_1 h1_2 g2
      else
        none
    else
      some (h0_0, h0_1, h0_2, h0_3, 0, ()) :=
  (run_eq _ _ _ _).trans (by kernel_rfl)
theorem F7_box_Unwrap_eq (x0_0 : Int) (x0_1 : Int) (x0_2 : ByteArray) (x0_3 : (List S25)) (x1 : (List Int)) : F7_box_Unwrap x0_0 x0_1 x0_2 x0_3 x1 =
    if (0 : Int) ≤ (0 : Int) ∧ (0 : Int) ≤ (List.length x1 : Int) ∧ (List.length x1 : Int) * (8 : Int) ≤ 140737488355328 then
      F7_box_Unwrap_l1000003 x1 (List.length x1 : Int) 0 x0_0 x0_1 x0_2 x0_3 0 0 ByteArray.empty [] []
    else
      none :=
  (F_eq (G := G) rfl fn3 rfl _).trans ((run_eq _ _ _ _).trans (by kernel_rfl))
theorem F7_box_Unwrap_l1000003_eq (v1 : (List Int)) (v12 : Int) (v13 : Int) (h0_0 : Int) (h0_1 : Int) (h0_2 : ByteArray) (h0_3 : (List S25)) (h1_0 : Int) (h1_1 : Int) (h1_2 : ByteArray) (g2 : (List Int)) (g3 : (List S25)) : F7_box_Unwrap_l1000003 v1 v12 v13 h0_0 h0_1 h0_2 h0_3 h1_0 h1_1 h1_2 g2 g3 =
    if v13 < v12 then
      let e1 : Int := IntKind.i64.wrap ((List.length v1 : Int) - (1 : Int))
      if (0 : Int) ≤ (IntKind.i64.wrap (e1 - v13)) ∧ (IntKind.i64.wrap (e1 - v13)) < (List.length v1 : Int) then
        let e2 : (List Int) := [(rd (0 : Int) v1 (IntKind.i64.wrap (e1 - v13)))]
        if (List.length g2 + List.length e2) * 8 ≤ 140737488355328 then
          F7_box_Unwrap_l1000003 v1 v12 (IntKind.i64.wrap (v13 + (1 : Int))) h0_0 h0_1 h0_2 h0_3 h1_0 h1_1 h1_2 (g2 ++ e2) g3
        else
          none
      else
        none
    else
      (F15_box_each_19 h0_0 h0_1 h0_2 h0_3 g2).bind fun y3 =>
      some (y3.1, y3.2.1, y3.2.2.1, y3.2.2.2.1, y3.2.2.2.2.1, ()) :=
  (run_eq _ _ _ _).trans (by kernel_rfl)
theorem F8_letheref03_Unwrap_eq (x0_0 : Int) (x0_1 : Int) (x0_2 : ByteArray) (x0_3 : (List S25)) (x1 : (List Int)) : F8_letheref03_Unwrap x0_0 x0_1 x0_2 x0_3 x1 =
    if (8 : Int) < (List.length x1 : Int) then
      some (0, 0, ByteArray.empty, [], 2, ())
    else
      (F17_letheref02_Right x0_0 x0_1 x0_2 x0_3).bind fun y1 =>
      if ¬ y1.1 = (0 : Int) then
        (F17_letheref02_Right x0_0 x0_1 x0_2 x0_3).bind fun y2 =>
        some (0, 0, ByteArray.empty, [], y2.1, ())
      else
        let e3 : Int := IntKind.i64.wrap ((List.length x1 : Int) - (1 : Int))
        F8_letheref03_Unwrap_l1000006 x1 e3 x0_0 x0_1 x0_2 x0_3 0 0 ByteArray.empty [] :=
  (F_eq (G := G) rfl fn4 rfl _).trans ((run_eq _ _ _ _).trans (by kernel_rfl))
theorem F8_letheref03_Unwrap_l1000006_eq (v1 : (List Int)) (v6 : Int) (h0_0 : Int) (h0_1 : Int) (h0_2 : ByteArray) (h0_3 : (List S25)) (h1_0 : Int) (h1_1 : Int) (h1_2 : ByteArray) (g2 : (List S25)) : F8_letheref03_Unwrap_l1000006 v1 v6 h0_0 h0_1 h0_2 h0_3 h1_0 h1_1 h1_2 g2 =
    if (0 : Int) ≤ v6 then
      if (0 : Int) ≤ v6 ∧ v6 < (List.length v1 : Int) then
        (F20_letheref03_Open (rd (0 : Int) v1 v6) h0_0 h0_1 h0_2 h0_3).bind fun y1 =>
        if ¬ y1.2.2.2.2.1 = (0 : Int) then
          some (0, 0, ByteArray.empty, [], y1.2.2.2.2.1, ())
        else
          F8_letheref03_Unwrap_l1000006 v1 (IntKind.i64.wrap (v6 - (1 : Int))) y1.1 y1.2.1 y1.2.2.1 y1.2.2.2.1 h1_0 h1_1 h1_2 g2
      else
        none
    else
      some (h0_0, h0_1, h0_2, h0_3, 0, ()) :=
  (run_eq _ _ _ _).trans (by kernel_rfl)
theorem F9_letheref02_Like_eq (x0_0 : Int) (x0_1 : Int) (x0_2 : ByteArray) (x0_3 : (List S25)) (x1_0 : Int) (x1_1 : Int) (x1_2 : ByteArray) (x1_3 : (List S25)) : F9_letheref02_Like x0_0 x0_1 x0_2 x0_3 x1_0 x1_1 x1_2 x1_3 =
    if ¬ x0_0 = x1_0 then
      F9_letheref02_Like_l2 
    else
      if ¬ x0_1 = x1_1 then
        F9_letheref02_Like_l2 
      else
        if ¬ x0_2 = x1_2 then
          F9_letheref02_Like_l2 
        else
          if ¬ (List.length x0_3 : Int) = (List.length x1_3 : Int) then
            F9_letheref02_Like_l2 
          else
            F9_letheref02_Like_l1000004 (List.length x0_3 : Int) 0 x0_0 x0_1 x0_2 x0_3 x1_0 x1_1 x1_2 x1_3 :=
  (F_eq (G := G) rfl fn5 rfl _).trans ((run_eq _ _ _ _).trans (by kernel_rfl))
theorem F9_letheref02_Like_l2_eq  : F9_letheref02_Like_l2  =
    some (false, ()) :=
  (run_eq _ _ _ _).trans (by kernel_rfl)
theorem F9_letheref02_Like_l1000004_eq (v36 : Int) (v37 : Int) (h0_0 : Int) (h0_1 : Int) (h0_2 : ByteArray) (h0_3 : (List S25)) (h1_0 : Int) (h1_1 : Int) (h1_2 : ByteArray) (h1_3 : (List S25)) : F9_letheref02_Like_l1000004 v36 v37 h0_0 h0_1 h0_2 h0_3 h1_0 h1_1 h1_2 h1_3 =
    if v37 < v36 then
      if (0 : Int) ≤ v37 ∧ v37 < (List.length h0_3 : Int) then
        if (0 : Int) ≤ v37 ∧ v37 < (List.length h1_3 : Int) then
          (F9_letheref02_Like (S25.f0 (rd S25.z h0_3 v37)) (S25.f1 (rd S25.z h0_3 v37)) (S25.f2 (rd S25.z h0_3 v37)) (S25.f3 (rd S25.z h0_3 v37)) (S25.f0 (rd S25.z h1_3 v37)) (S25.f1 (rd S25.z h1_3 v37)) (S25.f2 (rd S25.z h1_3 v37)) (S25.f3 (rd S25.z h1_3 v37))).bind fun y1 =>
          if (!y1.1) = true then
            some (false, ())
          else
            F9_letheref02_Like_l1000004 v36 (IntKind.i64.wrap (v37 + (1 : Int))) h0_0 h0_1 h0_2 h0_3 h1_0 h1_1 h1_2 h1_3
        else
          none
      else
        none
    else
      some (true, ()) :=
  (run_eq _ _ _ _).trans (by kernel_rfl)
theorem F17_letheref02_Right_eq (x0_0 : Int) (x0_1 : Int) (x0_2 : ByteArray) (x0_3 : (List S25)) : F17_letheref02_Right x0_0 x0_1 x0_2 x0_3 =
    (F41_letheref02_Parts x0_0 x0_1 x0_2 x0_3 4001).bind fun y1 =>
    if (4000 : Int) < y1.1 then
      some (23, ())
    else
      (F42_letheref02_Deep x0_0 x0_1 x0_2 x0_3 13).bind fun y2 =>
      if (12 : Int) < y2.1 then
        some (22, ())
      else
        (F43_letheref02_shaped x0_0 x0_1 x0_2 x0_3).bind fun y3 =>
        if (!y3.1) = true then
          some (25, ())
        else
          some (0, ()) :=
  (F_eq (G := G) rfl fn6 rfl _).trans ((run_eq _ _ _ _).trans (by kernel_rfl))
theorem F20_letheref03_Open_eq (x0 : Int) (x1_0 : Int) (x1_1 : Int) (x1_2 : ByteArray) (x1_3 : (List S25)) : F20_letheref03_Open x0 x1_0 x1_1 x1_2 x1_3 =
    (F17_letheref02_Right x1_0 x1_1 x1_2 x1_3).bind fun y1 =>
    if ¬ y1.1 = (0 : Int) then
      (F17_letheref02_Right x1_0 x1_1 x1_2 x1_3).bind fun y2 =>
      some (0, 0, ByteArray.empty, [], y2.1, ())
    else
      if ¬ x1_0 = (4 : Int) then
        some (0, 0, ByteArray.empty, [], 30, ())
      else
        if ¬ x1_1 = x0 then
          some (0, 0, ByteArray.empty, [], 31, ())
        else
          if (0 : Int) ≤ 0 ∧ 0 < (List.length x1_3 : Int) then
            (F45_letheref02_Copy (S25.f0 (rd S25.z x1_3 0)) (S25.f1 (rd S25.z x1_3 0)) (S25.f2 (rd S25.z x1_3 0)) (S25.f3 (rd S25.z x1_3 0))).bind fun y3 =>
            some (y3.1, y3.2.1, y3.2.2.1, y3.2.2.2.1, 0, ())
          else
            none :=
  (F_eq (G := G) rfl fn7 rfl _).trans ((run_eq _ _ _ _).trans (by kernel_rfl))
theorem F45_letheref02_Copy_eq (x0_0 : Int) (x0_1 : Int) (x0_2 : ByteArray) (x0_3 : (List S25)) : F45_letheref02_Copy x0_0 x0_1 x0_2 x0_3 =
    F45_letheref02_Copy_l1000003 x0_3 (List.length x0_3 : Int) 0 0 0 ByteArray.empty x0_0 x0_1 x0_2 [] [] :=
  (F_eq (G := G) rfl fn8 rfl _).trans ((run_eq _ _ _ _).trans (by kernel_rfl))
theorem F45_letheref02_Copy_l1000003_eq (v15 : (List S25)) (v16 : Int) (v17 : Int) (h0_0 : Int) (h0_1 : Int) (h0_2 : ByteArray) (h1_0 : Int) (h1_1 : Int) (h1_2 : ByteArray) (g2 : (List S25)) (g3 : (List S25)) : F45_letheref02_Copy_l1000003 v15 v16 v17 h0_0 h0_1 h0_2 h1_0 h1_1 h1_2 g2 g3 =
    if v17 < v16 then
      if (0 : Int) ≤ v17 ∧ v17 < (List.length v15 : Int) then
        (F45_letheref02_Copy (S25.f0 (rd S25.z v15 v17)) (S25.f1 (rd S25.z v15 v17)) (S25.f2 (rd S25.z v15 v17)) (S25.f3 (rd S25.z v15 v17))).bind fun y1 =>
        if (List.length g3 + List.length [(S25.mk y1.1 y1.2.1 y1.2.2.1 y1.2.2.2.1)]) * 56 ≤ 140737488355328 then
          F45_letheref02_Copy_l1000003 v15 v16 (IntKind.i64.wrap (v17 + (1 : Int))) h0_0 h0_1 h0_2 h1_0 h1_1 h1_2 g2 (g3 ++ [(S25.mk y1.1 y1.2.1 y1.2.2.1 y1.2.2.2.1)])
        else
          none
      else
        none
    else
      some (h1_0, h1_1, h1_2, g3, ()) :=
  (run_eq _ _ _ _).trans (by kernel_rfl)
theorem F41_letheref02_Parts_eq (x0_0 : Int) (x0_1 : Int) (x0_2 : ByteArray) (x0_3 : (List S25)) (x1 : Int) : F41_letheref02_Parts x0_0 x0_1 x0_2 x0_3 x1 =
    F41_letheref02_Parts_l1000003 x1 1 x0_3 (List.length x0_3 : Int) 0 :=
  (F_eq (G := G) rfl fn9 rfl _).trans ((run_eq _ _ _ _).trans (by kernel_rfl))
theorem F41_letheref02_Parts_l1000003_eq (v1 : Int) (v5 : Int) (v9 : (List S25)) (v10 : Int) (v11 : Int) : F41_letheref02_Parts_l1000003 v1 v5 v9 v10 v11 =
    if v11 < v10 then
      if (0 : Int) ≤ v11 ∧ v11 < (List.length v9 : Int) then
        if v1 ≤ v5 then
          some (v1, ())
        else
          (F41_letheref02_Parts (S25.f0 (rd S25.z v9 v11)) (S25.f1 (rd S25.z v9 v11)) (S25.f2 (rd S25.z v9 v11)) (S25.f3 (rd S25.z v9 v11)) (IntKind.i64.wrap (v1 - v5))).bind fun y1 =>
          F41_letheref02_Parts_l1000003 v1 (IntKind.i64.wrap (v5 + y1.1)) v9 v10 (IntKind.i64.wrap (v11 + (1 : Int)))
      else
        none
    else
      if v1 < v5 then
        some (v1, ())
      else
        some (v5, ()) :=
  (run_eq _ _ _ _).trans (by kernel_rfl)
theorem F42_letheref02_Deep_eq (x0_0 : Int) (x0_1 : Int) (x0_2 : ByteArray) (x0_3 : (List S25)) (x1 : Int) : F42_letheref02_Deep x0_0 x0_1 x0_2 x0_3 x1 =
    if x1 ≤ (1 : Int) then
      some (x1, ())
    else
      F42_letheref02_Deep_l1000005 x1 0 x0_3 (List.length x0_3 : Int) 0 :=
  (F_eq (G := G) rfl fn10 rfl _).trans ((run_eq _ _ _ _).trans (by kernel_rfl))
theorem F42_letheref02_Deep_l1000005_eq (v1 : Int) (v5 : Int) (v13 : (List S25)) (v14 : Int) (v15 : Int) : F42_letheref02_Deep_l1000005 v1 v5 v13 v14 v15 =
    if v15 < v14 then
      if (0 : Int) ≤ v15 ∧ v15 < (List.length v13 : Int) then
        (F42_letheref02_Deep (S25.f0 (rd S25.z v13 v15)) (S25.f1 (rd S25.z v13 v15)) (S25.f2 (rd S25.z v13 v15)) (S25.f3 (rd S25.z v13 v15)) (IntKind.i64.wrap (v1 - (1 : Int)))).bind fun y1 =>
        if v5 < y1.1 then
          if (IntKind.i64.wrap (v1 - (1 : Int))) ≤ y1.1 then
            some (v1, ())
          else
            F42_letheref02_Deep_l1000005 v1 y1.1 v13 v14 (IntKind.i64.wrap (v15 + (1 : Int)))
        else
          if (IntKind.i64.wrap (v1 - (1 : Int))) ≤ v5 then
            some (v1, ())
          else
            F42_letheref02_Deep_l1000005 v1 v5 v13 v14 (IntKind.i64.wrap (v15 + (1 : Int)))
      else
        none
    else
      some ((IntKind.i64.wrap (v5 + (1 : Int))), ()) :=
  (run_eq _ _ _ _).trans (by kernel_rfl)
theorem F43_letheref02_shaped_eq (x0_0 : Int) (x0_1 : Int) (x0_2 : ByteArray) (x0_3 : (List S25)) : F43_letheref02_shaped x0_0 x0_1 x0_2 x0_3 =
    (F63_letheref02_One x0_0 x0_1 x0_2 x0_3).bind fun y1 =>
    if (!y1.1) = true then
      some (false, ())
    else
      F43_letheref02_shaped_l1000004 x0_3 (List.length x0_3 : Int) 0 :=
  (F_eq (G := G) rfl fn11 rfl _).trans ((run_eq _ _ _ _).trans (by kernel_rfl))
theorem F43_letheref02_shaped_l1000004_eq (v9 : (List S25)) (v10 : Int) (v11 : Int) : F43_letheref02_shaped_l1000004 v9 v10 v11 =
    if v11 < v10 then
      if (0 : Int) ≤ v11 ∧ v11 < (List.length v9 : Int) then
        (F43_letheref02_shaped (S25.f0 (rd S25.z v9 v11)) (S25.f1 (rd S25.z v9 v11)) (S25.f2 (rd S25.z v9 v11)) (S25.f3 (rd S25.z v9 v11))).bind fun y1 =>
        if (!y1.1) = true then
          some (false, ())
        else
          F43_letheref02_shaped_l1000004 v9 v10 (IntKind.i64.wrap (v11 + (1 : Int)))
      else
        none
    else
      some (true, ()) :=
  (run_eq _ _ _ _).trans (by kernel_rfl)
theorem F63_letheref02_One_eq (x0_0 : Int) (x0_1 : Int) (x0_2 : ByteArray) (x0_3 : (List S25)) : F63_letheref02_One x0_0 x0_1 x0_2 x0_3 =
    if x0_0 = (1 : Int) then
      if x0_0 = (1 : Int) then
        if x0_2 = ByteArray.empty then
          some ((decide ((List.length x0_3 : Int) = (0 : Int))), ())
        else
          some (false, ())
      else
        if x0_0 = (2 : Int) then
          if x0_1 = (0 : Int) then
            if (ByteArray.size x0_2 : Int) ≤ (4000 : Int) then
              some ((decide ((List.length x0_3 : Int) = (0 : Int))), ())
            else
              some (false, ())
          else
            some (false, ())
        else
          if x0_0 = (4 : Int) then
            if x0_2 = ByteArray.empty then
              some ((decide ((List.length x0_3 : Int) = (1 : Int))), ())
            else
              some (false, ())
          else
            if x0_0 = (5 : Int) then
              if x0_1 = (0 : Int) then
                some ((decide (x0_2 = ByteArray.empty)), ())
              else
                some (false, ())
            else
              some (false, ())
    else
      if x0_0 = (3 : Int) then
        if x0_2 = ByteArray.empty then
          some ((decide ((List.length x0_3 : Int) = (0 : Int))), ())
        else
          some (false, ())
      else
        if x0_0 = (2 : Int) then
          if x0_1 = (0 : Int) then
            if (ByteArray.size x0_2 : Int) ≤ (4000 : Int) then
              some ((decide ((List.length x0_3 : Int) = (0 : Int))), ())
            else
              some (false, ())
          else
            some (false, ())
        else
          if x0_0 = (4 : Int) then
            if x0_2 = ByteArray.empty then
              some ((decide ((List.length x0_3 : Int) = (1 : Int))), ())
            else
              some (false, ())
          else
            if x0_0 = (5 : Int) then
              if x0_1 = (0 : Int) then
                some ((decide (x0_2 = ByteArray.empty)), ())
              else
                some (false, ())
            else
              some (false, ()) :=
  (F_eq (G := G) rfl fn12 rfl _).trans ((run_eq _ _ _ _).trans (by kernel_rfl))
theorem F15_box_each_19_eq (x0_0 : Int) (x0_1 : Int) (x0_2 : ByteArray) (x0_3 : (List S25)) (x1 : (List Int)) : F15_box_each_19 x0_0 x0_1 x0_2 x0_3 x1 =
    if (8 : Int) < (List.length x1 : Int) then
      some (0, 0, ByteArray.empty, [], 2, ())
    else
      (F39_box_own x0_0 x0_1 x0_2 x0_3).bind fun y1 =>
      F15_box_each_19_l1000005 y1.2.2.2.2.1 x1 (List.length x1 : Int) 0 y1.1 y1.2.1 y1.2.2.1 y1.2.2.2.1 0 0 ByteArray.empty [] :=
  (F_eq (G := G) rfl fn13 rfl _).trans ((run_eq _ _ _ _).trans (by kernel_rfl))
theorem F15_box_each_19_l1000005_eq (v8 : Int) (v20 : (List Int)) (v21 : Int) (v22 : Int) (h0_0 : Int) (h0_1 : Int) (h0_2 : ByteArray) (h0_3 : (List S25)) (h1_0 : Int) (h1_1 : Int) (h1_2 : ByteArray) (g2 : (List S25)) : F15_box_each_19_l1000005 v8 v20 v21 v22 h0_0 h0_1 h0_2 h0_3 h1_0 h1_1 h1_2 g2 =
    if v22 < v21 then
      if (0 : Int) ≤ v22 ∧ v22 < (List.length v20 : Int) then
        if v8 = (0 : Int) then
          (F19_box_Open (rd (0 : Int) v20 v22) h0_0 h0_1 h0_2 h0_3).bind fun y1 =>
          F15_box_each_19_l1000005 y1.2.2.2.2.1 v20 v21 (IntKind.i64.wrap (v22 + (1 : Int))) y1.1 y1.2.1 y1.2.2.1 y1.2.2.2.1 h1_0 h1_1 h1_2 g2
        else
          F15_box_each_19_l1000005 v8 v20 v21 (IntKind.i64.wrap (v22 + (1 : Int))) h0_0 h0_1 h0_2 h0_3 h1_0 h1_1 h1_2 g2
      else
        none
    else
      some (h0_0, h0_1, h0_2, h0_3, v8, ()) :=
  (run_eq _ _ _ _).trans (by kernel_rfl)
theorem F39_box_own_eq (x0_0 : Int) (x0_1 : Int) (x0_2 : ByteArray) (x0_3 : (List S25)) : F39_box_own x0_0 x0_1 x0_2 x0_3 =
    (F40_term_Right x0_0 x0_1 x0_2 x0_3).bind fun y1 =>
    if ¬ y1.1 = (0 : Int) then
      some (0, 0, ByteArray.empty, [], y1.1, ())
    else
      (F31_term_Of [(S25.mk x0_0 x0_1 x0_2 x0_3)]).bind fun y2 =>
      if (0 : Int) ≤ 0 ∧ 0 < (List.length y2.2.2.2.1 : Int) then
        some ((S25.f0 (rd S25.z y2.2.2.2.1 0)), (S25.f1 (rd S25.z y2.2.2.2.1 0)), (S25.f2 (rd S25.z y2.2.2.2.1 0)), (S25.f3 (rd S25.z y2.2.2.2.1 0)), 0, ())
      else
        none :=
  (F_eq (G := G) rfl fn14 rfl _).trans ((run_eq _ _ _ _).trans (by kernel_rfl))
theorem F19_box_Open_eq (x0 : Int) (x1_0 : Int) (x1_1 : Int) (x1_2 : ByteArray) (x1_3 : (List S25)) : F19_box_Open x0 x1_0 x1_1 x1_2 x1_3 =
    (F40_term_Right x1_0 x1_1 x1_2 x1_3).bind fun y1 =>
    if ¬ y1.1 = (0 : Int) then
      some (0, 0, ByteArray.empty, [], y1.1, ())
    else
      if ¬ x1_0 = (4 : Int) then
        some (0, 0, ByteArray.empty, [], 30, ())
      else
        if ¬ x1_1 = x0 then
          some (0, 0, ByteArray.empty, [], 31, ())
        else
          if (0 : Int) ≤ 0 ∧ 0 < (List.length x1_3 : Int) then
            (F39_box_own (S25.f0 (rd S25.z x1_3 0)) (S25.f1 (rd S25.z x1_3 0)) (S25.f2 (rd S25.z x1_3 0)) (S25.f3 (rd S25.z x1_3 0))).bind fun y2 =>
            some (y2.1, y2.2.1, y2.2.2.1, y2.2.2.2.1, y2.2.2.2.2.1, ())
          else
            none :=
  (F_eq (G := G) rfl fn15 rfl _).trans ((run_eq _ _ _ _).trans (by kernel_rfl))
theorem F40_term_Right_eq (x0_0 : Int) (x0_1 : Int) (x0_2 : ByteArray) (x0_3 : (List S25)) : F40_term_Right x0_0 x0_1 x0_2 x0_3 =
    (F60_term_parts x0_0 x0_1 x0_2 x0_3 4001).bind fun y1 =>
    if (4000 : Int) < y1.1 then
      some (23, ())
    else
      (F61_term_deep x0_0 x0_1 x0_2 x0_3 13).bind fun y2 =>
      if (12 : Int) < y2.1 then
        some (22, ())
      else
        (F62_term_shaped x0_0 x0_1 x0_2 x0_3).bind fun y3 =>
        if (!y3.1) = true then
          some (25, ())
        else
          some (0, ()) :=
  (F_eq (G := G) rfl fn16 rfl _).trans ((run_eq _ _ _ _).trans (by kernel_rfl))
theorem F60_term_parts_eq (x0_0 : Int) (x0_1 : Int) (x0_2 : ByteArray) (x0_3 : (List S25)) (x1 : Int) : F60_term_parts x0_0 x0_1 x0_2 x0_3 x1 =
    F60_term_parts_l1000003 x1 1 x0_3 (List.length x0_3 : Int) 0 :=
  (F_eq (G := G) rfl fn17 rfl _).trans ((run_eq _ _ _ _).trans (by kernel_rfl))
theorem F60_term_parts_l1000003_eq (v1 : Int) (v5 : Int) (v9 : (List S25)) (v10 : Int) (v11 : Int) : F60_term_parts_l1000003 v1 v5 v9 v10 v11 =
    if v11 < v10 then
      if (0 : Int) ≤ v11 ∧ v11 < (List.length v9 : Int) then
        if v1 ≤ v5 then
          some (v5, ())
        else
          (F60_term_parts (S25.f0 (rd S25.z v9 v11)) (S25.f1 (rd S25.z v9 v11)) (S25.f2 (rd S25.z v9 v11)) (S25.f3 (rd S25.z v9 v11)) (IntKind.i64.wrap (v1 - v5))).bind fun y1 =>
          F60_term_parts_l1000003 v1 (IntKind.i64.wrap (v5 + y1.1)) v9 v10 (IntKind.i64.wrap (v11 + (1 : Int)))
      else
        none
    else
      some (v5, ()) :=
  (run_eq _ _ _ _).trans (by kernel_rfl)
theorem F61_term_deep_eq (x0_0 : Int) (x0_1 : Int) (x0_2 : ByteArray) (x0_3 : (List S25)) (x1 : Int) : F61_term_deep x0_0 x0_1 x0_2 x0_3 x1 =
    if (1 : Int) < x1 then
      F61_term_deep_l1000004 x1 0 x0_3 (List.length x0_3 : Int) 0
    else
      some ((IntKind.i64.wrap ((0 : Int) + (1 : Int))), ()) :=
  (F_eq (G := G) rfl fn18 rfl _).trans ((run_eq _ _ _ _).trans (by kernel_rfl))
theorem F61_term_deep_l1000004_eq (v1 : Int) (v5 : Int) (v11 : (List S25)) (v12 : Int) (v13 : Int) : F61_term_deep_l1000004 v1 v5 v11 v12 v13 =
    if v13 < v12 then
      if (0 : Int) ≤ v13 ∧ v13 < (List.length v11 : Int) then
        (F61_term_deep (S25.f0 (rd S25.z v11 v13)) (S25.f1 (rd S25.z v11 v13)) (S25.f2 (rd S25.z v11 v13)) (S25.f3 (rd S25.z v11 v13)) (IntKind.i64.wrap (v1 - (1 : Int)))).bind fun y1 =>
        F61_term_deep_l1000004 v1 (mx v5 y1.1) v11 v12 (IntKind.i64.wrap (v13 + (1 : Int)))
      else
        none
    else
      some ((IntKind.i64.wrap (v5 + (1 : Int))), ()) :=
  (run_eq _ _ _ _).trans (by kernel_rfl)
theorem F62_term_shaped_eq (x0_0 : Int) (x0_1 : Int) (x0_2 : ByteArray) (x0_3 : (List S25)) : F62_term_shaped x0_0 x0_1 x0_2 x0_3 =
    if x0_0 = (1 : Int) then
      if x0_0 = (1 : Int) then
        if x0_2 = ByteArray.empty then
          F62_term_shaped_l12 (decide ((List.length x0_3 : Int) = (0 : Int))) x0_0 x0_1 x0_2 x0_3
        else
          F62_term_shaped_l12 false x0_0 x0_1 x0_2 x0_3
      else
        if x0_0 = (2 : Int) then
          if x0_1 = (0 : Int) then
            if (ByteArray.size x0_2 : Int) ≤ (4000 : Int) then
              F62_term_shaped_l12 (decide ((List.length x0_3 : Int) = (0 : Int))) x0_0 x0_1 x0_2 x0_3
            else
              F62_term_shaped_l12 false x0_0 x0_1 x0_2 x0_3
          else
            F62_term_shaped_l12 false x0_0 x0_1 x0_2 x0_3
        else
          if x0_0 = (4 : Int) then
            if x0_2 = ByteArray.empty then
              F62_term_shaped_l12 (decide ((List.length x0_3 : Int) = (1 : Int))) x0_0 x0_1 x0_2 x0_3
            else
              F62_term_shaped_l12 false x0_0 x0_1 x0_2 x0_3
          else
            if x0_0 = (5 : Int) then
              if x0_1 = (0 : Int) then
                F62_term_shaped_l12 (decide (x0_2 = ByteArray.empty)) x0_0 x0_1 x0_2 x0_3
              else
                F62_term_shaped_l12 false x0_0 x0_1 x0_2 x0_3
            else
              F62_term_shaped_l12 false x0_0 x0_1 x0_2 x0_3
    else
      if x0_0 = (3 : Int) then
        if x0_2 = ByteArray.empty then
          F62_term_shaped_l12 (decide ((List.length x0_3 : Int) = (0 : Int))) x0_0 x0_1 x0_2 x0_3
        else
          F62_term_shaped_l12 false x0_0 x0_1 x0_2 x0_3
      else
        if x0_0 = (2 : Int) then
          if x0_1 = (0 : Int) then
            if (ByteArray.size x0_2 : Int) ≤ (4000 : Int) then
              F62_term_shaped_l12 (decide ((List.length x0_3 : Int) = (0 : Int))) x0_0 x0_1 x0_2 x0_3
            else
              F62_term_shaped_l12 false x0_0 x0_1 x0_2 x0_3
          else
            F62_term_shaped_l12 false x0_0 x0_1 x0_2 x0_3
        else
          if x0_0 = (4 : Int) then
            if x0_2 = ByteArray.empty then
              F62_term_shaped_l12 (decide ((List.length x0_3 : Int) = (1 : Int))) x0_0 x0_1 x0_2 x0_3
            else
              F62_term_shaped_l12 false x0_0 x0_1 x0_2 x0_3
          else
            if x0_0 = (5 : Int) then
              if x0_1 = (0 : Int) then
                F62_term_shaped_l12 (decide (x0_2 = ByteArray.empty)) x0_0 x0_1 x0_2 x0_3
              else
                F62_term_shaped_l12 false x0_0 x0_1 x0_2 x0_3
            else
              F62_term_shaped_l12 false x0_0 x0_1 x0_2 x0_3 :=
  (F_eq (G := G) rfl fn19 rfl _).trans ((run_eq _ _ _ _).trans (by kernel_rfl))
theorem F62_term_shaped_l12_eq (v3 : Bool) (h0_0 : Int) (h0_1 : Int) (h0_2 : ByteArray) (h0_3 : (List S25)) : F62_term_shaped_l12 v3 h0_0 h0_1 h0_2 h0_3 =
    if v3 = true then
      (F77_slices_ContainsFunc_78 h0_3).bind fun y1 =>
      some ((!y1.1), ())
    else
      some (false, ()) :=
  (run_eq _ _ _ _).trans (by kernel_rfl)
theorem F77_slices_ContainsFunc_78_eq (x0 : (List S25)) : F77_slices_ContainsFunc_78 x0 =
    (F85_slices_IndexFunc_78 x0).bind fun y1 =>
    some ((decide ((0 : Int) ≤ y1.1)), ()) :=
  (F_eq (G := G) rfl fn20 rfl _).trans ((run_eq _ _ _ _).trans (by kernel_rfl))
theorem F85_slices_IndexFunc_78_eq (x0 : (List S25)) : F85_slices_IndexFunc_78 x0 =
    F85_slices_IndexFunc_78_l1000002 x0 (List.length x0 : Int) 0 :=
  (F_eq (G := G) rfl fn21 rfl _).trans ((run_eq _ _ _ _).trans (by kernel_rfl))
theorem F85_slices_IndexFunc_78_l1000002_eq (v0 : (List S25)) (v7 : Int) (v8 : Int) : F85_slices_IndexFunc_78_l1000002 v0 v7 v8 =
    if v8 < v7 then
      if (0 : Int) ≤ v8 ∧ v8 < (List.length v0 : Int) then
        (F78_term_shaped_1 (S25.f0 (rd S25.z v0 v8)) (S25.f1 (rd S25.z v0 v8)) (S25.f2 (rd S25.z v0 v8)) (S25.f3 (rd S25.z v0 v8))).bind fun y1 =>
        if y1.1 = true then
          some (v8, ())
        else
          F85_slices_IndexFunc_78_l1000002 v0 v7 (IntKind.i64.wrap (v8 + (1 : Int)))
      else
        none
    else
      some ((-1), ()) :=
  (run_eq _ _ _ _).trans (by kernel_rfl)
theorem F78_term_shaped_1_eq (x0_0 : Int) (x0_1 : Int) (x0_2 : ByteArray) (x0_3 : (List S25)) : F78_term_shaped_1 x0_0 x0_1 x0_2 x0_3 =
    (F62_term_shaped x0_0 x0_1 x0_2 x0_3).bind fun y1 =>
    some ((!y1.1), ()) :=
  (F_eq (G := G) rfl fn22 rfl _).trans ((run_eq _ _ _ _).trans (by kernel_rfl))
theorem F31_term_Of_eq (x0 : (List S25)) : F31_term_Of x0 =
    (F52_term_clone 5 0 ByteArray.empty x0).bind fun y1 =>
    some (y1.1, y1.2.1, y1.2.2.1, y1.2.2.2.1, ()) :=
  (F_eq (G := G) rfl fn23 rfl _).trans ((run_eq _ _ _ _).trans (by kernel_rfl))
theorem F52_term_clone_eq (x0_0 : Int) (x0_1 : Int) (x0_2 : ByteArray) (x0_3 : (List S25)) : F52_term_clone x0_0 x0_1 x0_2 x0_3 =
    F52_term_clone_l1000003 x0_3 (List.length x0_3 : Int) 0 x0_0 x0_1 x0_2 x0_3 0 0 ByteArray.empty [] [] :=
  (F_eq (G := G) rfl fn24 rfl _).trans ((run_eq _ _ _ _).trans (by kernel_rfl))
theorem F52_term_clone_l1000003_eq (v7 : (List S25)) (v8 : Int) (v9 : Int) (h0_0 : Int) (h0_1 : Int) (h0_2 : ByteArray) (h0_3 : (List S25)) (h1_0 : Int) (h1_1 : Int) (h1_2 : ByteArray) (g2 : (List S25)) (g3 : (List S25)) : F52_term_clone_l1000003 v7 v8 v9 h0_0 h0_1 h0_2 h0_3 h1_0 h1_1 h1_2 g2 g3 =
    if v9 < v8 then
      if (0 : Int) ≤ v9 ∧ v9 < (List.length v7 : Int) then
        (F52_term_clone (S25.f0 (rd S25.z v7 v9)) (S25.f1 (rd S25.z v7 v9)) (S25.f2 (rd S25.z v7 v9)) (S25.f3 (rd S25.z v7 v9))).bind fun y1 =>
        if (List.length g2 + List.length [(S25.mk y1.1 y1.2.1 y1.2.2.1 y1.2.2.2.1)]) * 56 ≤ 140737488355328 then
          F52_term_clone_l1000003 v7 v8 (IntKind.i64.wrap (v9 + (1 : Int))) h0_0 h0_1 h0_2 h0_3 h1_0 h1_1 h1_2 (g2 ++ [(S25.mk y1.1 y1.2.1 y1.2.2.1 y1.2.2.2.1)]) g3
        else
          none
      else
        none
    else
      some (h0_0, h0_1, h0_2, g2, ()) :=
  (run_eq _ _ _ _).trans (by kernel_rfl)
theorem F18_letheref03_Seal_eq (x0 : Int) (x1_0 : Int) (x1_1 : Int) (x1_2 : ByteArray) (x1_3 : (List S25)) : F18_letheref03_Seal x0 x1_0 x1_1 x1_2 x1_3 =
    (F17_letheref02_Right x1_0 x1_1 x1_2 x1_3).bind fun y1 =>
    if ¬ y1.1 = (0 : Int) then
      (F17_letheref02_Right x1_0 x1_1 x1_2 x1_3).bind fun y2 =>
      some (0, 0, ByteArray.empty, [], y2.1, ())
    else
      (F44_letheref03_Box x0 x1_0 x1_1 x1_2 x1_3).bind fun y3 =>
      (F17_letheref02_Right y3.1 y3.2.1 y3.2.2.1 y3.2.2.2.1).bind fun y4 =>
      if ¬ y4.1 = (0 : Int) then
        (F17_letheref02_Right y3.1 y3.2.1 y3.2.2.1 y3.2.2.2.1).bind fun y5 =>
        some (0, 0, ByteArray.empty, [], y5.1, ())
      else
        some (y3.1, y3.2.1, y3.2.2.1, y3.2.2.2.1, 0, ()) :=
  (F_eq (G := G) rfl fn25 rfl _).trans ((run_eq _ _ _ _).trans (by kernel_rfl))
theorem F44_letheref03_Box_eq (x0 : Int) (x1_0 : Int) (x1_1 : Int) (x1_2 : ByteArray) (x1_3 : (List S25)) : F44_letheref03_Box x0 x1_0 x1_1 x1_2 x1_3 =
    (F45_letheref02_Copy x1_0 x1_1 x1_2 x1_3).bind fun y1 =>
    some (4, x0, ByteArray.empty, [(S25.mk y1.1 y1.2.1 y1.2.2.1 y1.2.2.2.1)], ()) :=
  (F_eq (G := G) rfl fn26 rfl _).trans ((run_eq _ _ _ _).trans (by kernel_rfl))
theorem F15_box_each_16_eq (x0_0 : Int) (x0_1 : Int) (x0_2 : ByteArray) (x0_3 : (List S25)) (x1 : (List Int)) : F15_box_each_16 x0_0 x0_1 x0_2 x0_3 x1 =
    if (8 : Int) < (List.length x1 : Int) then
      some (0, 0, ByteArray.empty, [], 2, ())
    else
      (F39_box_own x0_0 x0_1 x0_2 x0_3).bind fun y1 =>
      F15_box_each_16_l1000005 y1.2.2.2.2.1 x1 (List.length x1 : Int) 0 y1.1 y1.2.1 y1.2.2.1 y1.2.2.2.1 0 0 ByteArray.empty [] :=
  (F_eq (G := G) rfl fn27 rfl _).trans ((run_eq _ _ _ _).trans (by kernel_rfl))
theorem F15_box_each_16_l1000005_eq (v8 : Int) (v20 : (List Int)) (v21 : Int) (v22 : Int) (h0_0 : Int) (h0_1 : Int) (h0_2 : ByteArray) (h0_3 : (List S25)) (h1_0 : Int) (h1_1 : Int) (h1_2 : ByteArray) (g2 : (List S25)) : F15_box_each_16_l1000005 v8 v20 v21 v22 h0_0 h0_1 h0_2 h0_3 h1_0 h1_1 h1_2 g2 =
    if v22 < v21 then
      if (0 : Int) ≤ v22 ∧ v22 < (List.length v20 : Int) then
        if v8 = (0 : Int) then
          (F16_box_Seal (rd (0 : Int) v20 v22) h0_0 h0_1 h0_2 h0_3).bind fun y1 =>
          F15_box_each_16_l1000005 y1.2.2.2.2.1 v20 v21 (IntKind.i64.wrap (v22 + (1 : Int))) y1.1 y1.2.1 y1.2.2.1 y1.2.2.2.1 h1_0 h1_1 h1_2 g2
        else
          F15_box_each_16_l1000005 v8 v20 v21 (IntKind.i64.wrap (v22 + (1 : Int))) h0_0 h0_1 h0_2 h0_3 h1_0 h1_1 h1_2 g2
      else
        none
    else
      some (h0_0, h0_1, h0_2, h0_3, v8, ()) :=
  (run_eq _ _ _ _).trans (by kernel_rfl)
theorem F16_box_Seal_eq (x0 : Int) (x1_0 : Int) (x1_1 : Int) (x1_2 : ByteArray) (x1_3 : (List S25)) : F16_box_Seal x0 x1_0 x1_1 x1_2 x1_3 =
    (F40_term_Right x1_0 x1_1 x1_2 x1_3).bind fun y1 =>
    if ¬ y1.1 = (0 : Int) then
      some (0, 0, ByteArray.empty, [], y1.1, ())
    else
      (F39_box_own 4 x0 ByteArray.empty [(S25.mk x1_0 x1_1 x1_2 x1_3)]).bind fun y2 =>
      some (y2.1, y2.2.1, y2.2.2.1, y2.2.2.2.1, y2.2.2.2.2.1, ()) :=
  (F_eq (G := G) rfl fn28 rfl _).trans ((run_eq _ _ _ _).trans (by kernel_rfl))
end
end Go.Proofs.Ytfojcadooepgpaa.BoxWrapsx
