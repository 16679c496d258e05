/- The law NodeBack: what each function answers, in plain equations. Under no condition. -/
import Derived.Test.YtgfaplkbajjheaaTNodeBack
set_option linter.unusedVariables false
set_option maxRecDepth 100000
namespace Go.Proofs.Ytgfaplkbajjheaa.NodeBackx
open Go Go.RowKit Go.Proofs.Ytgfaplkbajjheaa.Rx Go.Proofs.Ytgfaplkbajjheaa.NodeBackx
noncomputable section
theorem F12_lethelaw06_NodeBack_eq (x0_0 : Int) (x0_1 : Int) (x0_2 : Int) (x0_3 : Int) (x0_4 : Int) (x0_5 : Int) (x0_6 : Int) (x1 : Int) (x2 : Int) (x3_0 : Bool) (x3_1 : (List S96)) (x3_2 : (List S100)) : F12_lethelaw06_NodeBack x0_0 x0_1 x0_2 x0_3 x0_4 x0_5 x0_6 x1 x2 x3_0 x3_1 x3_2 =
    (F58_node_Seal x0_0 x0_1 x0_2 x0_3 x0_4 x0_5 x0_6 x1 x3_0 x3_1 x3_2).bind fun y1 =>
    (F16_letheref06_Right x0_0 x0_1 x0_2 x0_3 x0_4 x0_5 x0_6 x3_0 x3_1 x3_2).bind fun y2 =>
    if ¬ y1.2.1 = y2.1 then
      some (false, ())
    else
      if ¬ y1.2.1 = (0 : Int) then
        some ((decide (y1.1 = ByteArray.empty)), ())
      else
        (F57_node_Open x0_0 x0_1 x0_2 x0_3 x0_4 x0_5 x0_6 x1 y1.1).bind fun y3 =>
        (F57_node_Open x0_0 x0_1 x0_2 x0_3 x0_4 x0_5 x0_6 x2 y1.1).bind fun y4 =>
        if ¬ y3.2.2.2.1 = (0 : Int) then
          F12_lethelaw06_NodeBack_l9 
        else
          (F26_letheref06_Like y3.1 y3.2.1 y3.2.2.1 x3_0 x3_1 x3_2).bind fun y5 =>
          if (!y5.1) = true then
            F12_lethelaw06_NodeBack_l9 
          else
            if (ByteArray.size y1.1 : Int) < (4 : Int) then
              F12_lethelaw06_NodeBack_l9 
            else
              (F60_quota_PageBytes x0_0 x0_1 x0_2 x0_3 x0_4 x0_5 x0_6).bind fun y6 =>
              if y6.1 < (ByteArray.size y1.1 : Int) then
                F12_lethelaw06_NodeBack_l9 
              else
                if x2 = x1 then
                  if y4.2.2.2.1 = (0 : Int) then
                    some (true, ())
                  else
                    if ¬ x2 = x1 then
                      some ((decide (y4.2.2.2.1 = (31 : Int))), ())
                    else
                      some (false, ())
                else
                  if ¬ x2 = x1 then
                    some ((decide (y4.2.2.2.1 = (31 : Int))), ())
                  else
                    some (false, ()) :=
  (F_eq (G := G) rfl fn0 rfl _).trans ((run_eq _ _ _ _).trans (by kernel_rfl))
theorem F12_lethelaw06_NodeBack_l9_eq  : F12_lethelaw06_NodeBack_l9  =
    some (false, ()) :=
  (run_eq _ _ _ _).trans (by kernel_rfl)
theorem F58_node_Seal_eq (x0_0 : Int) (x0_1 : Int) (x0_2 : Int) (x0_3 : Int) (x0_4 : Int) (x0_5 : Int) (x0_6 : Int) (x1 : Int) (x2_0 : Bool) (x2_1 : (List S96)) (x2_2 : (List S100)) : F58_node_Seal x0_0 x0_1 x0_2 x0_3 x0_4 x0_5 x0_6 x1 x2_0 x2_1 x2_2 =
    (F21_node_Term x0_0 x0_1 x0_2 x0_3 x0_4 x0_5 x0_6 x2_0 x2_1 x2_2).bind fun y1 =>
    if ¬ y1.2.2.2.2.1 = (0 : Int) then
      some (ByteArray.empty, y1.2.2.2.2.1, ())
    else
      (F109_box_Pack x1 y1.1 y1.2.1 y1.2.2.1 y1.2.2.2.1).bind fun y2 =>
      some (y2.1, y2.2.1, ()) :=
  (F_eq (G := G) rfl fn1 rfl _).trans ((run_eq _ _ _ _).trans (by kernel_rfl))
theorem F16_letheref06_Right_eq (x0_0 : Int) (x0_1 : Int) (x0_2 : Int) (x0_3 : Int) (x0_4 : Int) (x0_5 : Int) (x0_6 : Int) (x1_0 : Bool) (x1_1 : (List S96)) (x1_2 : (List S100)) : F16_letheref06_Right x0_0 x0_1 x0_2 x0_3 x0_4 x0_5 x0_6 x1_0 x1_1 x1_2 =
    (F68_letheref04_Right x0_0 x0_1 x0_2 x0_3 x0_4 x0_5 x0_6).bind fun y1 =>
    if (!y1.1) = true then
      some (40, ())
    else
      if x1_0 = true then
        (F69_letheref06_leaf x0_0 x0_1 x0_2 x0_3 x0_4 x0_5 x0_6 x1_0 x1_1 x1_2).bind fun y2 =>
        some (y2.1, ())
      else
        (F70_letheref06_inner x0_0 x0_1 x0_2 x0_3 x0_4 x0_5 x0_6 x1_0 x1_1 x1_2).bind fun y3 =>
        some (y3.1, ()) :=
  (F_eq (G := G) rfl fn2 rfl _).trans ((run_eq _ _ _ _).trans (by kernel_rfl))
theorem F57_node_Open_eq (x0_0 : Int) (x0_1 : Int) (x0_2 : Int) (x0_3 : Int) (x0_4 : Int) (x0_5 : Int) (x0_6 : Int) (x1 : Int) (x2 : ByteArray) : F57_node_Open x0_0 x0_1 x0_2 x0_3 x0_4 x0_5 x0_6 x1 x2 =
    (F66_quota_Right x0_0 x0_1 x0_2 x0_3 x0_4 x0_5 x0_6).bind fun y1 =>
    if ¬ y1.1 = (0 : Int) then
      some (false, [], [], 40, ())
    else
      (F108_box_Unpack x1 x2).bind fun y2 =>
      if ¬ y2.2.2.2.2.1 = (0 : Int) then
        some (false, [], [], y2.2.2.2.2.1, ())
      else
        (F24_node_From x0_0 x0_1 x0_2 x0_3 x0_4 x0_5 x0_6 y2.1 y2.2.1 y2.2.2.1 y2.2.2.2.1).bind fun y3 =>
        some (y3.1, y3.2.1, y3.2.2.1, y3.2.2.2.1, ()) :=
  (F_eq (G := G) rfl fn3 rfl _).trans ((run_eq _ _ _ _).trans (by kernel_rfl))
theorem F26_letheref06_Like_eq (x0_0 : Bool) (x0_1 : (List S96)) (x0_2 : (List S100)) (x1_0 : Bool) (x1_1 : (List S96)) (x1_2 : (List S100)) : F26_letheref06_Like x0_0 x0_1 x0_2 x1_0 x1_1 x1_2 =
    if (!(x0_0 == x1_0)) = true then
      some (false, ())
    else
      if ¬ (List.length x0_2 : Int) = (List.length x1_2 : Int) then
        some (false, ())
      else
        (F91_letheref05_LikeAll x0_1 x1_1).bind fun y1 =>
        if (!y1.1) = true then
          some (false, ())
        else
          F26_letheref06_Like_l1000004 (List.length x0_2 : Int) 0 x0_0 x0_1 x0_2 x1_0 x1_1 x1_2 :=
  (F_eq (G := G) rfl fn4 rfl _).trans ((run_eq _ _ _ _).trans (by kernel_rfl))
theorem F26_letheref06_Like_l1000004_eq (v30 : Int) (v31 : Int) (h0_0 : Bool) (h0_1 : (List S96)) (h0_2 : (List S100)) (h1_0 : Bool) (h1_1 : (List S96)) (h1_2 : (List S100)) : F26_letheref06_Like_l1000004 v30 v31 h0_0 h0_1 h0_2 h1_0 h1_1 h1_2 =
    if v31 < v30 then
      if (0 : Int) ≤ v31 ∧ v31 < (List.length h0_2 : Int) then
        if (0 : Int) ≤ v31 ∧ v31 < (List.length h1_2 : Int) then
          if ¬ ((S100.f0 (rd S100.z h0_2 v31)) = (S100.f0 (rd S100.z h1_2 v31)) ∧ ((S100.f1 (rd S100.z h0_2 v31)) = (S100.f1 (rd S100.z h1_2 v31)) ∧ (S100.f2 (rd S100.z h0_2 v31)) = (S100.f2 (rd S100.z h1_2 v31)) ∧ (S100.f3 (rd S100.z h0_2 v31)) = (S100.f3 (rd S100.z h1_2 v31)) ∧ (S100.f4 (rd S100.z h0_2 v31)) = (S100.f4 (rd S100.z h1_2 v31)) ∧ True) ∧ True) then
            some (false, ())
          else
            F26_letheref06_Like_l1000004 v30 (IntKind.i64.wrap (v31 + (1 : Int))) h0_0 h0_1 h0_2 h1_0 h1_1 h1_2
        else
          none
      else
        none
    else
      some (true, ()) :=
  (run_eq _ _ _ _).trans (by kernel_rfl)
theorem F60_quota_PageBytes_eq (x0_0 : Int) (x0_1 : Int) (x0_2 : Int) (x0_3 : Int) (x0_4 : Int) (x0_5 : Int) (x0_6 : Int) : F60_quota_PageBytes x0_0 x0_1 x0_2 x0_3 x0_4 x0_5 x0_6 =
    (F111_quota_of_112 x0_0 x0_1 x0_2 x0_3 x0_4 x0_5 x0_6 x0_0 x0_1 x0_2 x0_3 x0_4 x0_5 x0_6).bind fun y1 =>
    some (y1.1, ()) :=
  (F_eq (G := G) rfl fn5 rfl _).trans ((run_eq _ _ _ _).trans (by kernel_rfl))
theorem F111_quota_of_112_eq (x0_0 : Int) (x0_1 : Int) (x0_2 : Int) (x0_3 : Int) (x0_4 : Int) (x0_5 : Int) (x0_6 : Int) (h0_0 : Int) (h0_1 : Int) (h0_2 : Int) (h0_3 : Int) (h0_4 : Int) (h0_5 : Int) (h0_6 : Int) : F111_quota_of_112 x0_0 x0_1 x0_2 x0_3 x0_4 x0_5 x0_6 h0_0 h0_1 h0_2 h0_3 h0_4 h0_5 h0_6 =
    (F66_quota_Right x0_0 x0_1 x0_2 x0_3 x0_4 x0_5 x0_6).bind fun y1 =>
    if ¬ y1.1 = (0 : Int) then
      some (0, h0_0, h0_1, h0_2, h0_3, h0_4, h0_5, h0_6, ())
    else
      (F112_quota_PageBytes_1 h0_0 h0_1 h0_2 h0_3 h0_4 h0_5 h0_6).bind fun y2 =>
      some (y2.1, y2.2.1, y2.2.2.1, y2.2.2.2.1, y2.2.2.2.2.1, y2.2.2.2.2.2.1, y2.2.2.2.2.2.2.1, y2.2.2.2.2.2.2.2.1, ()) :=
  (F_eq (G := G) rfl fn6 rfl _).trans ((run_eq _ _ _ _).trans (by kernel_rfl))
theorem F66_quota_Right_eq (x0_0 : Int) (x0_1 : Int) (x0_2 : Int) (x0_3 : Int) (x0_4 : Int) (x0_5 : Int) (x0_6 : Int) : F66_quota_Right x0_0 x0_1 x0_2 x0_3 x0_4 x0_5 x0_6 =
    (F121_quota_in x0_0 1 64).bind fun y1 =>
    if y1.1 = true then
      (F121_quota_in x0_1 1 16).bind fun y2 =>
      if y2.1 = true then
        (F121_quota_in x0_2 0 32).bind fun y3 =>
        if y3.1 = true then
          (F121_quota_in x0_3 0 16).bind fun y4 =>
          if y4.1 = true then
            (F121_quota_in x0_4 1 4).bind fun y5 =>
            if y5.1 = true then
              (F121_quota_in x0_5 1 8).bind fun y6 =>
              if y6.1 = true then
                (F121_quota_in x0_6 0 32).bind fun y7 =>
                if y7.1 = true then
                  some (0, ())
                else
                  F66_quota_Right_l3 
              else
                F66_quota_Right_l3 
            else
              F66_quota_Right_l3 
          else
            F66_quota_Right_l3 
        else
          F66_quota_Right_l3 
      else
        F66_quota_Right_l3 
    else
      F66_quota_Right_l3  :=
  (F_eq (G := G) rfl fn7 rfl _).trans ((run_eq _ _ _ _).trans (by kernel_rfl))
theorem F66_quota_Right_l3_eq  : F66_quota_Right_l3  =
    some (40, ()) :=
  (run_eq _ _ _ _).trans (by kernel_rfl)
theorem F112_quota_PageBytes_1_eq (h0_0 : Int) (h0_1 : Int) (h0_2 : Int) (h0_3 : Int) (h0_4 : Int) (h0_5 : Int) (h0_6 : Int) : F112_quota_PageBytes_1 h0_0 h0_1 h0_2 h0_3 h0_4 h0_5 h0_6 =
    let e1 : Int := IntKind.i64.wrap ((IntKind.i64.wrap ((17 : Int) + h0_2)) + h0_3)
    let e2 : Int := IntKind.i64.wrap ((IntKind.i64.wrap ((4 : Int) + h0_1)) + (IntKind.i64.wrap (h0_4 * e1)))
    let e3 : Int := IntKind.i64.wrap ((4 : Int) * (mx e2 (IntKind.i64.wrap ((28 : Int) + h0_1))))
    some ((IntKind.i64.wrap ((15 : Int) + e3)), h0_0, h0_1, h0_2, h0_3, h0_4, h0_5, h0_6, ()) :=
  (F_eq (G := G) rfl fn8 rfl _).trans ((run_eq _ _ _ _).trans (by kernel_rfl))
theorem F121_quota_in_eq (x0 : Int) (x1 : Int) (x2 : Int) : F121_quota_in x0 x1 x2 =
    if x1 ≤ x0 then
      some ((decide (x0 ≤ x2)), ())
    else
      some (false, ()) :=
  (F_eq (G := G) rfl fn9 rfl _).trans ((run_eq _ _ _ _).trans (by kernel_rfl))
theorem F91_letheref05_LikeAll_eq (x0 : (List S96)) (x1 : (List S96)) : F91_letheref05_LikeAll x0 x1 =
    if ¬ (List.length x0 : Int) = (List.length x1 : Int) then
      some (false, ())
    else
      F91_letheref05_LikeAll_l1000004 x0 x1 (List.length x0 : Int) 0 :=
  (F_eq (G := G) rfl fn10 rfl _).trans ((run_eq _ _ _ _).trans (by kernel_rfl))
theorem F91_letheref05_LikeAll_l1000004_eq (v0 : (List S96)) (v1 : (List S96)) (v12 : Int) (v13 : Int) : F91_letheref05_LikeAll_l1000004 v0 v1 v12 v13 =
    if v13 < v12 then
      if (0 : Int) ≤ v13 ∧ v13 < (List.length v0 : Int) then
        if (0 : Int) ≤ v13 ∧ v13 < (List.length v1 : Int) then
          (F137_letheref05_Like (S96.f0 (rd S96.z v0 v13)) (S96.f1 (rd S96.z v0 v13)) (S96.f0 (rd S96.z v1 v13)) (S96.f1 (rd S96.z v1 v13))).bind fun y1 =>
          if (!y1.1) = true then
            some (false, ())
          else
            F91_letheref05_LikeAll_l1000004 v0 v1 v12 (IntKind.i64.wrap (v13 + (1 : Int)))
        else
          none
      else
        none
    else
      some (true, ()) :=
  (run_eq _ _ _ _).trans (by kernel_rfl)
theorem F137_letheref05_Like_eq (x0_0 : ByteArray) (x0_1 : (List S98)) (x1_0 : ByteArray) (x1_1 : (List S98)) : F137_letheref05_Like x0_0 x0_1 x1_0 x1_1 =
    if x0_0 = x1_0 then
      (F161_letheref05_LikeVersions x0_1 x1_1).bind fun y1 =>
      some (y1.1, ())
    else
      some (false, ()) :=
  (F_eq (G := G) rfl fn11 rfl _).trans ((run_eq _ _ _ _).trans (by kernel_rfl))
theorem F161_letheref05_LikeVersions_eq (x0 : (List S98)) (x1 : (List S98)) : F161_letheref05_LikeVersions x0 x1 =
    if ¬ (List.length x0 : Int) = (List.length x1 : Int) then
      some (false, ())
    else
      F161_letheref05_LikeVersions_l1000004 x0 x1 (List.length x0 : Int) 0 :=
  (F_eq (G := G) rfl fn12 rfl _).trans ((run_eq _ _ _ _).trans (by kernel_rfl))
theorem F161_letheref05_LikeVersions_l1000004_eq (v0 : (List S98)) (v1 : (List S98)) (v12 : Int) (v13 : Int) : F161_letheref05_LikeVersions_l1000004 v0 v1 v12 v13 =
    if v13 < v12 then
      if (0 : Int) ≤ v13 ∧ v13 < (List.length v0 : Int) then
        if (0 : Int) ≤ v13 ∧ v13 < (List.length v1 : Int) then
          if ¬ ((S98.f0 (rd S98.z v0 v13)) = (S98.f0 (rd S98.z v1 v13)) ∧ (S98.f1 (rd S98.z v0 v13)) = (S98.f1 (rd S98.z v1 v13)) ∧ (S98.f2 (rd S98.z v0 v13)) = (S98.f2 (rd S98.z v1 v13)) ∧ True) then
            some (false, ())
          else
            F161_letheref05_LikeVersions_l1000004 v0 v1 v12 (IntKind.i64.wrap (v13 + (1 : Int)))
        else
          none
      else
        none
    else
      some (true, ()) :=
  (run_eq _ _ _ _).trans (by kernel_rfl)
theorem F108_box_Unpack_eq (x0 : Int) (x1 : ByteArray) : F108_box_Unpack x0 x1 =
    (F98_term_Decode x1).bind fun y1 =>
    if ¬ y1.2.2.2.2.1 = (0 : Int) then
      some (0, 0, ByteArray.empty, [], y1.2.2.2.2.1, ())
    else
      (F144_box_Open x0 y1.1 y1.2.1 y1.2.2.1 y1.2.2.2.1).bind fun y2 =>
      some (y2.1, y2.2.1, y2.2.2.1, y2.2.2.2.1, y2.2.2.2.2.1, ()) :=
  (F_eq (G := G) rfl fn13 rfl _).trans ((run_eq _ _ _ _).trans (by kernel_rfl))
theorem F24_node_From_eq (x0_0 : Int) (x0_1 : Int) (x0_2 : Int) (x0_3 : Int) (x0_4 : Int) (x0_5 : Int) (x0_6 : Int) (x1_0 : Int) (x1_1 : Int) (x1_2 : ByteArray) (x1_3 : (List S38)) : F24_node_From x0_0 x0_1 x0_2 x0_3 x0_4 x0_5 x0_6 x1_0 x1_1 x1_2 x1_3 =
    (F66_quota_Right x0_0 x0_1 x0_2 x0_3 x0_4 x0_5 x0_6).bind fun y1 =>
    if ¬ y1.1 = (0 : Int) then
      some (false, [], [], 40, ())
    else
      (F82_term_Right x1_0 x1_1 x1_2 x1_3).bind fun y2 =>
      if ¬ y2.1 = (0 : Int) then
        some (false, [], [], y2.1, ())
      else
        (F83_node_reader_rest x1_0 x1_1 x1_2 x1_3 1 false).bind fun y3 =>
        if y3.2.1 = (1 : Int) then
          (F84_node_reader_want true y3.2.2.2.2.2.1).bind fun y4 =>
          F24_node_From_l1000011 y3.2.2.2.2.1 (List.length y3.2.2.2.2.1 : Int) 0 x0_0 x0_1 x0_2 x0_3 x0_4 x0_5 x0_6 false y4.2.1 (decide (y3.2.1 = (1 : Int))) [] [] [] []
        else
          (F84_node_reader_want (decide (y3.2.1 = (2 : Int))) y3.2.2.2.2.2.1).bind fun y5 =>
          F24_node_From_l1000011 y3.2.2.2.2.1 (List.length y3.2.2.2.2.1 : Int) 0 x0_0 x0_1 x0_2 x0_3 x0_4 x0_5 x0_6 false y5.2.1 (decide (y3.2.1 = (1 : Int))) [] [] [] [] :=
  (F_eq (G := G) rfl fn14 rfl _).trans ((run_eq _ _ _ _).trans (by kernel_rfl))
theorem F24_node_From_l1000011_eq (v46 : (List S38)) (v47 : Int) (v48 : Int) (h0_0 : Int) (h0_1 : Int) (h0_2 : Int) (h0_3 : Int) (h0_4 : Int) (h0_5 : Int) (h0_6 : Int) (h1_0 : Bool) (h2_0 : Bool) (h3_0 : Bool) (g4 : (List S96)) (g5 : (List S100)) (g6 : (List S96)) (g7 : (List S100)) : F24_node_From_l1000011 v46 v47 v48 h0_0 h0_1 h0_2 h0_3 h0_4 h0_5 h0_6 h1_0 h2_0 h3_0 g4 g5 g6 g7 =
    if v48 < v47 then
      if (0 : Int) ≤ v48 ∧ v48 < (List.length v46 : Int) then
        if h3_0 = true then
          (F85_node_reader_entry (S38.f0 (rd S38.z v46 v48)) (S38.f1 (rd S38.z v46 v48)) (S38.f2 (rd S38.z v46 v48)) (S38.f3 (rd S38.z v46 v48)) h2_0).bind fun y1 =>
          if (List.length g6 + List.length [(S96.mk y1.1 y1.2.1)]) * 40 ≤ 140737488355328 then
            F24_node_From_l1000011 v46 v47 (IntKind.i64.wrap (v48 + (1 : Int))) h0_0 h0_1 h0_2 h0_3 h0_4 h0_5 h0_6 h1_0 y1.2.2.1 h3_0 g4 g5 (g6 ++ [(S96.mk y1.1 y1.2.1)]) g7
          else
            none
        else
          (F86_node_reader_kid (S38.f0 (rd S38.z v46 v48)) (S38.f1 (rd S38.z v46 v48)) (S38.f2 (rd S38.z v46 v48)) (S38.f3 (rd S38.z v46 v48)) h2_0).bind fun y2 =>
          let e3 : (List S100) := [(S100.mk y2.1 y2.2.1 y2.2.2.1 y2.2.2.2.1 y2.2.2.2.2.1)]
          if (List.length g7 + List.length e3) * 48 ≤ 140737488355328 then
            F24_node_From_l1000011 v46 v47 (IntKind.i64.wrap (v48 + (1 : Int))) h0_0 h0_1 h0_2 h0_3 h0_4 h0_5 h0_6 h1_0 y2.2.2.2.2.2.1 h3_0 g4 g5 g6 (g7 ++ e3)
          else
            none
      else
        none
    else
      if h2_0 = true then
        some (false, [], [], 60, ())
      else
        (F15_node_Right h0_0 h0_1 h0_2 h0_3 h0_4 h0_5 h0_6 h3_0 g6 g7).bind fun y4 =>
        if ¬ y4.1 = (0 : Int) then
          some (false, [], [], y4.1, ())
        else
          some (h3_0, g6, g7, 0, ()) :=
  (run_eq _ _ _ _).trans (by kernel_rfl)
theorem F82_term_Right_eq (x0_0 : Int) (x0_1 : Int) (x0_2 : ByteArray) (x0_3 : (List S38)) : F82_term_Right x0_0 x0_1 x0_2 x0_3 =
    (F127_term_parts x0_0 x0_1 x0_2 x0_3 4001).bind fun y1 =>
    if (4000 : Int) < y1.1 then
      some (23, ())
    else
      (F128_term_deep x0_0 x0_1 x0_2 x0_3 13).bind fun y2 =>
      if (12 : Int) < y2.1 then
        some (22, ())
      else
        (F129_term_shaped x0_0 x0_1 x0_2 x0_3).bind fun y3 =>
        if (!y3.1) = true then
          some (25, ())
        else
          some (0, ()) :=
  (F_eq (G := G) rfl fn15 rfl _).trans ((run_eq _ _ _ _).trans (by kernel_rfl))
theorem F83_node_reader_rest_eq (x1_0 : Int) (x1_1 : Int) (x1_2 : ByteArray) (x1_3 : (List S38)) (x2 : Int) (h0_0 : Bool) : F83_node_reader_rest x1_0 x1_1 x1_2 x1_3 x2 h0_0 =
    if x1_0 = (5 : Int) then
      if (0 : Int) < (List.length x1_3 : Int) then
        if (0 : Int) ≤ 0 ∧ 0 < (List.length x1_3 : Int) then
          (F84_node_reader_want (decide ((S38.f0 (rd S38.z x1_3 0)) = x2)) h0_0).bind fun y1 =>
          if y1.1 = true then
            if (0 : Int) ≤ 0 ∧ 0 < (List.length x1_3 : Int) then
              if (0 : Int) ≤ 1 ∧ (1 : Int) ≤ (List.length x1_3 : Int) ∧ (List.length x1_3 : Int) ≤ (List.length x1_3 : Int) then
                some ((S38.f0 (rd S38.z x1_3 0)), (S38.f1 (rd S38.z x1_3 0)), (S38.f2 (rd S38.z x1_3 0)), (S38.f3 (rd S38.z x1_3 0)), (subL x1_3 1 (List.length x1_3 : Int)), y1.2.1, ())
              else
                none
            else
              none
          else
            some (0, 0, ByteArray.empty, [], [], y1.2.1, ())
        else
          none
      else
        (F84_node_reader_want false h0_0).bind fun y2 =>
        if y2.1 = true then
          if (0 : Int) ≤ 0 ∧ 0 < (List.length x1_3 : Int) then
            if (0 : Int) ≤ 1 ∧ (1 : Int) ≤ (List.length x1_3 : Int) ∧ (List.length x1_3 : Int) ≤ (List.length x1_3 : Int) then
              some ((S38.f0 (rd S38.z x1_3 0)), (S38.f1 (rd S38.z x1_3 0)), (S38.f2 (rd S38.z x1_3 0)), (S38.f3 (rd S38.z x1_3 0)), (subL x1_3 1 (List.length x1_3 : Int)), y2.2.1, ())
            else
              none
          else
            none
        else
          some (0, 0, ByteArray.empty, [], [], y2.2.1, ())
    else
      (F84_node_reader_want false h0_0).bind fun y3 =>
      if y3.1 = true then
        if (0 : Int) ≤ 0 ∧ 0 < (List.length x1_3 : Int) then
          if (0 : Int) ≤ 1 ∧ (1 : Int) ≤ (List.length x1_3 : Int) ∧ (List.length x1_3 : Int) ≤ (List.length x1_3 : Int) then
            some ((S38.f0 (rd S38.z x1_3 0)), (S38.f1 (rd S38.z x1_3 0)), (S38.f2 (rd S38.z x1_3 0)), (S38.f3 (rd S38.z x1_3 0)), (subL x1_3 1 (List.length x1_3 : Int)), y3.2.1, ())
          else
            none
        else
          none
      else
        some (0, 0, ByteArray.empty, [], [], y3.2.1, ()) :=
  (F_eq (G := G) rfl fn16 rfl _).trans ((run_eq _ _ _ _).trans (by kernel_rfl))
theorem F84_node_reader_want_eq (x1 : Bool) (h0_0 : Bool) : F84_node_reader_want x1 h0_0 =
    if h0_0 = true then
      some (false, true, ())
    else
      some ((!(!x1)), (!x1), ()) :=
  (F_eq (G := G) rfl fn17 rfl _).trans ((run_eq _ _ _ _).trans (by kernel_rfl))
theorem F85_node_reader_entry_eq (x1_0 : Int) (x1_1 : Int) (x1_2 : ByteArray) (x1_3 : (List S38)) (h0_0 : Bool) : F85_node_reader_entry x1_0 x1_1 x1_2 x1_3 h0_0 =
    (F83_node_reader_rest x1_0 x1_1 x1_2 x1_3 2 h0_0).bind fun y1 =>
    F85_node_reader_entry_l1000004 y1.2.2.2.2.1 (List.length y1.2.2.2.2.1 : Int) 0 y1.2.2.2.2.2.1 ByteArray.empty y1.2.2.1 [] [] :=
  (F_eq (G := G) rfl fn18 rfl _).trans ((run_eq _ _ _ _).trans (by kernel_rfl))
theorem F85_node_reader_entry_l1000004_eq (v19 : (List S38)) (v20 : Int) (v21 : Int) (h0_0 : Bool) (h1_0 : ByteArray) (h2_0 : ByteArray) (g3 : (List S98)) (g4 : (List S98)) : F85_node_reader_entry_l1000004 v19 v20 v21 h0_0 h1_0 h2_0 g3 g4 =
    if v21 < v20 then
      if (0 : Int) ≤ v21 ∧ v21 < (List.length v19 : Int) then
        if (S38.f0 (rd S38.z v19 v21)) = (5 : Int) then
          (F84_node_reader_want (decide ((List.length (S38.f3 (rd S38.z v19 v21)) : Int) = (3 : Int))) h0_0).bind fun y1 =>
          if y1.1 = true then
            if (0 : Int) ≤ 0 ∧ 0 < (List.length (S38.f3 (rd S38.z v19 v21)) : Int) then
              (F130_node_reader_number (S38.f0 (rd S38.z (S38.f3 (rd S38.z v19 v21)) 0)) (S38.f1 (rd S38.z (S38.f3 (rd S38.z v19 v21)) 0)) (S38.f2 (rd S38.z (S38.f3 (rd S38.z v19 v21)) 0)) (S38.f3 (rd S38.z (S38.f3 (rd S38.z v19 v21)) 0)) y1.2.1).bind fun y2 =>
              if (0 : Int) ≤ 1 ∧ 1 < (List.length (S38.f3 (rd S38.z v19 v21)) : Int) then
                (F131_node_reader_atom (S38.f0 (rd S38.z (S38.f3 (rd S38.z v19 v21)) 1)) (S38.f1 (rd S38.z (S38.f3 (rd S38.z v19 v21)) 1)) (S38.f2 (rd S38.z (S38.f3 (rd S38.z v19 v21)) 1)) (S38.f3 (rd S38.z (S38.f3 (rd S38.z v19 v21)) 1)) y2.2.1).bind fun y3 =>
                if (0 : Int) ≤ 2 ∧ 2 < (List.length (S38.f3 (rd S38.z v19 v21)) : Int) then
                  (F131_node_reader_atom (S38.f0 (rd S38.z (S38.f3 (rd S38.z v19 v21)) 2)) (S38.f1 (rd S38.z (S38.f3 (rd S38.z v19 v21)) 2)) (S38.f2 (rd S38.z (S38.f3 (rd S38.z v19 v21)) 2)) (S38.f3 (rd S38.z (S38.f3 (rd S38.z v19 v21)) 2)) y3.2.1).bind fun y4 =>
                  if (List.length g4 + List.length [(S98.mk y2.1 y3.1 y4.1)]) * 40 ≤ 140737488355328 then
                    F85_node_reader_entry_l8 v19 v20 v21 y4.2.1 h1_0 h2_0 g3 (g4 ++ [(S98.mk y2.1 y3.1 y4.1)])
                  else
                    none
                else
                  none
              else
                none
            else
              none
          else
            F85_node_reader_entry_l8 v19 v20 v21 y1.2.1 h1_0 h2_0 g3 g4
        else
          (F84_node_reader_want false h0_0).bind fun y5 =>
          if y5.1 = true then
            if (0 : Int) ≤ 0 ∧ 0 < (List.length (S38.f3 (rd S38.z v19 v21)) : Int) then
              (F130_node_reader_number (S38.f0 (rd S38.z (S38.f3 (rd S38.z v19 v21)) 0)) (S38.f1 (rd S38.z (S38.f3 (rd S38.z v19 v21)) 0)) (S38.f2 (rd S38.z (S38.f3 (rd S38.z v19 v21)) 0)) (S38.f3 (rd S38.z (S38.f3 (rd S38.z v19 v21)) 0)) y5.2.1).bind fun y6 =>
              if (0 : Int) ≤ 1 ∧ 1 < (List.length (S38.f3 (rd S38.z v19 v21)) : Int) then
                (F131_node_reader_atom (S38.f0 (rd S38.z (S38.f3 (rd S38.z v19 v21)) 1)) (S38.f1 (rd S38.z (S38.f3 (rd S38.z v19 v21)) 1)) (S38.f2 (rd S38.z (S38.f3 (rd S38.z v19 v21)) 1)) (S38.f3 (rd S38.z (S38.f3 (rd S38.z v19 v21)) 1)) y6.2.1).bind fun y7 =>
                if (0 : Int) ≤ 2 ∧ 2 < (List.length (S38.f3 (rd S38.z v19 v21)) : Int) then
                  (F131_node_reader_atom (S38.f0 (rd S38.z (S38.f3 (rd S38.z v19 v21)) 2)) (S38.f1 (rd S38.z (S38.f3 (rd S38.z v19 v21)) 2)) (S38.f2 (rd S38.z (S38.f3 (rd S38.z v19 v21)) 2)) (S38.f3 (rd S38.z (S38.f3 (rd S38.z v19 v21)) 2)) y7.2.1).bind fun y8 =>
                  if (List.length g4 + List.length [(S98.mk y6.1 y7.1 y8.1)]) * 40 ≤ 140737488355328 then
                    F85_node_reader_entry_l8 v19 v20 v21 y8.2.1 h1_0 h2_0 g3 (g4 ++ [(S98.mk y6.1 y7.1 y8.1)])
                  else
                    none
                else
                  none
              else
                none
            else
              none
          else
            F85_node_reader_entry_l8 v19 v20 v21 y5.2.1 h1_0 h2_0 g3 g4
      else
        none
    else
      some (h2_0, g4, h0_0, ()) :=
  (run_eq _ _ _ _).trans (by kernel_rfl)
theorem F85_node_reader_entry_l8_eq (v19 : (List S38)) (v20 : Int) (v21 : Int) (h0_0 : Bool) (h1_0 : ByteArray) (h2_0 : ByteArray) (g3 : (List S98)) (g4 : (List S98)) : F85_node_reader_entry_l8 v19 v20 v21 h0_0 h1_0 h2_0 g3 g4 =
    F85_node_reader_entry_l1000004 v19 v20 (IntKind.i64.wrap (v21 + (1 : Int))) h0_0 h1_0 h2_0 g3 g4 :=
  (run_eq _ _ _ _).trans (by kernel_rfl)
theorem F86_node_reader_kid_eq (x1_0 : Int) (x1_1 : Int) (x1_2 : ByteArray) (x1_3 : (List S38)) (h0_0 : Bool) : F86_node_reader_kid x1_0 x1_1 x1_2 x1_3 h0_0 =
    (F83_node_reader_rest x1_0 x1_1 x1_2 x1_3 2 h0_0).bind fun y1 =>
    if (List.length y1.2.2.2.2.1 : Int) = (4 : Int) then
      if (0 : Int) ≤ 0 ∧ 0 < (List.length y1.2.2.2.2.1 : Int) then
        (F84_node_reader_want (decide ((S38.f0 (rd S38.z y1.2.2.2.2.1 0)) = (3 : Int))) y1.2.2.2.2.2.1).bind fun y2 =>
        if (!y2.1) = true then
          some (ByteArray.empty, 0, 0, 0, 0, y2.2.1, ())
        else
          if (0 : Int) ≤ 0 ∧ 0 < (List.length y1.2.2.2.2.1 : Int) then
            if (0 : Int) ≤ 1 ∧ 1 < (List.length y1.2.2.2.2.1 : Int) then
              (F130_node_reader_number (S38.f0 (rd S38.z y1.2.2.2.2.1 1)) (S38.f1 (rd S38.z y1.2.2.2.2.1 1)) (S38.f2 (rd S38.z y1.2.2.2.2.1 1)) (S38.f3 (rd S38.z y1.2.2.2.2.1 1)) y2.2.1).bind fun y3 =>
              if (0 : Int) ≤ 2 ∧ 2 < (List.length y1.2.2.2.2.1 : Int) then
                (F130_node_reader_number (S38.f0 (rd S38.z y1.2.2.2.2.1 2)) (S38.f1 (rd S38.z y1.2.2.2.2.1 2)) (S38.f2 (rd S38.z y1.2.2.2.2.1 2)) (S38.f3 (rd S38.z y1.2.2.2.2.1 2)) y3.2.1).bind fun y4 =>
                if (0 : Int) ≤ 3 ∧ 3 < (List.length y1.2.2.2.2.1 : Int) then
                  (F130_node_reader_number (S38.f0 (rd S38.z y1.2.2.2.2.1 3)) (S38.f1 (rd S38.z y1.2.2.2.2.1 3)) (S38.f2 (rd S38.z y1.2.2.2.2.1 3)) (S38.f3 (rd S38.z y1.2.2.2.2.1 3)) y4.2.1).bind fun y5 =>
                  some (y1.2.2.1, (S38.f1 (rd S38.z y1.2.2.2.2.1 0)), y3.1, y4.1, y5.1, y5.2.1, ())
                else
                  none
              else
                none
            else
              none
          else
            none
      else
        none
    else
      (F84_node_reader_want false y1.2.2.2.2.2.1).bind fun y6 =>
      if (!y6.1) = true then
        some (ByteArray.empty, 0, 0, 0, 0, y6.2.1, ())
      else
        if (0 : Int) ≤ 0 ∧ 0 < (List.length y1.2.2.2.2.1 : Int) then
          if (0 : Int) ≤ 1 ∧ 1 < (List.length y1.2.2.2.2.1 : Int) then
            (F130_node_reader_number (S38.f0 (rd S38.z y1.2.2.2.2.1 1)) (S38.f1 (rd S38.z y1.2.2.2.2.1 1)) (S38.f2 (rd S38.z y1.2.2.2.2.1 1)) (S38.f3 (rd S38.z y1.2.2.2.2.1 1)) y6.2.1).bind fun y7 =>
            if (0 : Int) ≤ 2 ∧ 2 < (List.length y1.2.2.2.2.1 : Int) then
              (F130_node_reader_number (S38.f0 (rd S38.z y1.2.2.2.2.1 2)) (S38.f1 (rd S38.z y1.2.2.2.2.1 2)) (S38.f2 (rd S38.z y1.2.2.2.2.1 2)) (S38.f3 (rd S38.z y1.2.2.2.2.1 2)) y7.2.1).bind fun y8 =>
              if (0 : Int) ≤ 3 ∧ 3 < (List.length y1.2.2.2.2.1 : Int) then
                (F130_node_reader_number (S38.f0 (rd S38.z y1.2.2.2.2.1 3)) (S38.f1 (rd S38.z y1.2.2.2.2.1 3)) (S38.f2 (rd S38.z y1.2.2.2.2.1 3)) (S38.f3 (rd S38.z y1.2.2.2.2.1 3)) y8.2.1).bind fun y9 =>
                some (y1.2.2.1, (S38.f1 (rd S38.z y1.2.2.2.2.1 0)), y7.1, y8.1, y9.1, y9.2.1, ())
              else
                none
            else
              none
          else
            none
        else
          none :=
  (F_eq (G := G) rfl fn19 rfl _).trans ((run_eq _ _ _ _).trans (by kernel_rfl))
theorem F15_node_Right_eq (x0_0 : Int) (x0_1 : Int) (x0_2 : Int) (x0_3 : Int) (x0_4 : Int) (x0_5 : Int) (x0_6 : Int) (x1_0 : Bool) (x1_1 : (List S96)) (x1_2 : (List S100)) : F15_node_Right x0_0 x0_1 x0_2 x0_3 x0_4 x0_5 x0_6 x1_0 x1_1 x1_2 =
    (F66_quota_Right x0_0 x0_1 x0_2 x0_3 x0_4 x0_5 x0_6).bind fun y1 =>
    if ¬ y1.1 = (0 : Int) then
      some (40, ())
    else
      if x1_0 = true then
        (F67_node_leafRight x0_0 x0_1 x0_2 x0_3 x0_4 x0_5 x0_6 x1_0 x1_1 x1_2).bind fun y2 =>
        some (y2.1, ())
      else
        if (0 : Int) < (List.length x1_1 : Int) then
          some (60, ())
        else
          if (List.length x1_2 : Int) < (2 : Int) then
            some (60, ())
          else
            if (4 : Int) < (List.length x1_2 : Int) then
              some (60, ())
            else
              F15_node_Right_l1000008 x1_2 (List.length x1_2 : Int) 0 x0_0 x0_1 x0_2 x0_3 x0_4 x0_5 x0_6 x1_0 x1_1 x1_2 :=
  (F_eq (G := G) rfl fn20 rfl _).trans ((run_eq _ _ _ _).trans (by kernel_rfl))
theorem F15_node_Right_l1000008_eq (v32 : (List S100)) (v33 : Int) (v34 : Int) (h0_0 : Int) (h0_1 : Int) (h0_2 : Int) (h0_3 : Int) (h0_4 : Int) (h0_5 : Int) (h0_6 : Int) (h1_0 : Bool) (h1_1 : (List S96)) (h1_2 : (List S100)) : F15_node_Right_l1000008 v32 v33 v34 h0_0 h0_1 h0_2 h0_3 h0_4 h0_5 h0_6 h1_0 h1_1 h1_2 =
    if v34 < v33 then
      if (0 : Int) ≤ v34 ∧ v34 < (List.length v32 : Int) then
        if (S100.f0 (rd S100.z v32 v34)) = ByteArray.empty then
          some (4, ())
        else
          if h0_1 < (ByteArray.size (S100.f0 (rd S100.z v32 v34)) : Int) then
            some (5, ())
          else
            (F17_node_RefRight (S100.f1 (rd S100.z v32 v34)) (S100.f2 (rd S100.z v32 v34)) (S100.f3 (rd S100.z v32 v34)) (S100.f4 (rd S100.z v32 v34))).bind fun y1 =>
            if (!y1.1) = true then
              some (61, ())
            else
              if (0 : Int) < v34 then
                if (0 : Int) ≤ (IntKind.i64.wrap (v34 - (1 : Int))) ∧ (IntKind.i64.wrap (v34 - (1 : Int))) < (List.length h1_2 : Int) then
                  if sLt (S100.f0 (rd S100.z h1_2 (IntKind.i64.wrap (v34 - (1 : Int))))) (S100.f0 (rd S100.z v32 v34)) = false then
                    some (60, ())
                  else
                    F15_node_Right_l1000008 v32 v33 (IntKind.i64.wrap (v34 + (1 : Int))) h0_0 h0_1 h0_2 h0_3 h0_4 h0_5 h0_6 h1_0 h1_1 h1_2
                else
                  none
              else
                F15_node_Right_l1000008 v32 v33 (IntKind.i64.wrap (v34 + (1 : Int))) h0_0 h0_1 h0_2 h0_3 h0_4 h0_5 h0_6 h1_0 h1_1 h1_2
      else
        none
    else
      some (0, ()) :=
  (run_eq _ _ _ _).trans (by kernel_rfl)
theorem F67_node_leafRight_eq (x0_0 : Int) (x0_1 : Int) (x0_2 : Int) (x0_3 : Int) (x0_4 : Int) (x0_5 : Int) (x0_6 : Int) (x1_0 : Bool) (x1_1 : (List S96)) (x1_2 : (List S100)) : F67_node_leafRight x0_0 x0_1 x0_2 x0_3 x0_4 x0_5 x0_6 x1_0 x1_1 x1_2 =
    if (0 : Int) < (List.length x1_2 : Int) then
      some (60, ())
    else
      if (4 : Int) < (List.length x1_1 : Int) then
        some (60, ())
      else
        F67_node_leafRight_l1000004 x1_1 (List.length x1_1 : Int) 0 x0_0 x0_1 x0_2 x0_3 x0_4 x0_5 x0_6 x1_0 x1_1 x1_2 :=
  (F_eq (G := G) rfl fn21 rfl _).trans ((run_eq _ _ _ _).trans (by kernel_rfl))
theorem F67_node_leafRight_l1000004_eq (v19 : (List S96)) (v20 : Int) (v21 : Int) (h0_0 : Int) (h0_1 : Int) (h0_2 : Int) (h0_3 : Int) (h0_4 : Int) (h0_5 : Int) (h0_6 : Int) (h1_0 : Bool) (h1_1 : (List S96)) (h1_2 : (List S100)) : F67_node_leafRight_l1000004 v19 v20 v21 h0_0 h0_1 h0_2 h0_3 h0_4 h0_5 h0_6 h1_0 h1_1 h1_2 =
    if v21 < v20 then
      if (0 : Int) ≤ v21 ∧ v21 < (List.length v19 : Int) then
        (F122_entry_Right h0_0 h0_1 h0_2 h0_3 h0_4 h0_5 h0_6 (S96.f0 (rd S96.z v19 v21)) (S96.f1 (rd S96.z v19 v21))).bind fun y1 =>
        if ¬ y1.1 = (0 : Int) then
          some (y1.1, ())
        else
          if (0 : Int) < v21 then
            if (0 : Int) ≤ (IntKind.i64.wrap (v21 - (1 : Int))) ∧ (IntKind.i64.wrap (v21 - (1 : Int))) < (List.length h1_1 : Int) then
              if sLt (S96.f0 (rd S96.z h1_1 (IntKind.i64.wrap (v21 - (1 : Int))))) (S96.f0 (rd S96.z v19 v21)) = false then
                some (60, ())
              else
                F67_node_leafRight_l1000004 v19 v20 (IntKind.i64.wrap (v21 + (1 : Int))) h0_0 h0_1 h0_2 h0_3 h0_4 h0_5 h0_6 h1_0 h1_1 h1_2
            else
              none
          else
            F67_node_leafRight_l1000004 v19 v20 (IntKind.i64.wrap (v21 + (1 : Int))) h0_0 h0_1 h0_2 h0_3 h0_4 h0_5 h0_6 h1_0 h1_1 h1_2
      else
        none
    else
      some (0, ()) :=
  (run_eq _ _ _ _).trans (by kernel_rfl)
theorem F17_node_RefRight_eq (x0_0 : Int) (x0_1 : Int) (x0_2 : Int) (x0_3 : Int) : F17_node_RefRight x0_0 x0_1 x0_2 x0_3 =
    if (0 : Int) ≤ x0_1 then
      if x0_1 ≤ (1048576 : Int) then
        if (0 : Int) ≤ x0_2 then
          if x0_2 ≤ (134217728 : Int) then
            if (1 : Int) ≤ x0_3 then
              some ((decide (x0_3 ≤ (1048576 : Int))), ())
            else
              some (false, ())
          else
            some (false, ())
        else
          some (false, ())
      else
        some (false, ())
    else
      some (false, ()) :=
  (F_eq (G := G) rfl fn22 rfl _).trans ((run_eq _ _ _ _).trans (by kernel_rfl))
theorem F122_entry_Right_eq (x0_0 : Int) (x0_1 : Int) (x0_2 : Int) (x0_3 : Int) (x0_4 : Int) (x0_5 : Int) (x0_6 : Int) (x1_0 : ByteArray) (x1_1 : (List S98)) : F122_entry_Right x0_0 x0_1 x0_2 x0_3 x0_4 x0_5 x0_6 x1_0 x1_1 =
    (F153_entry_named x0_0 x0_1 x0_2 x0_3 x0_4 x0_5 x0_6 x1_0 x1_1).bind fun y1 =>
    if y1.1 = (0 : Int) then
      if (List.length x1_1 : Int) = (0 : Int) then
        some (50, ())
      else
        some (y1.1, ())
    else
      some (y1.1, ()) :=
  (F_eq (G := G) rfl fn23 rfl _).trans ((run_eq _ _ _ _).trans (by kernel_rfl))
theorem F153_entry_named_eq (x0_0 : Int) (x0_1 : Int) (x0_2 : Int) (x0_3 : Int) (x0_4 : Int) (x0_5 : Int) (x0_6 : Int) (x1_0 : ByteArray) (x1_1 : (List S98)) : F153_entry_named x0_0 x0_1 x0_2 x0_3 x0_4 x0_5 x0_6 x1_0 x1_1 =
    (F66_quota_Right x0_0 x0_1 x0_2 x0_3 x0_4 x0_5 x0_6).bind fun y1 =>
    if ¬ y1.1 = (0 : Int) then
      some (40, ())
    else
      if x1_0 = ByteArray.empty then
        some (4, ())
      else
        if x0_1 < (ByteArray.size x1_0 : Int) then
          some (5, ())
        else
          if x0_4 < (List.length x1_1 : Int) then
            some (50, ())
          else
            F153_entry_named_l1000011 0 x1_1 (List.length x1_1 : Int) 0 x0_0 x0_1 x0_2 x0_3 x0_4 x0_5 x0_6 :=
  (F_eq (G := G) rfl fn24 rfl _).trans ((run_eq _ _ _ _).trans (by kernel_rfl))
theorem F153_entry_named_l1000011_eq (v5 : Int) (v32 : (List S98)) (v33 : Int) (v34 : Int) (h0_0 : Int) (h0_1 : Int) (h0_2 : Int) (h0_3 : Int) (h0_4 : Int) (h0_5 : Int) (h0_6 : Int) : F153_entry_named_l1000011 v5 v32 v33 v34 h0_0 h0_1 h0_2 h0_3 h0_4 h0_5 h0_6 =
    if v34 < v33 then
      if (0 : Int) ≤ v34 ∧ v34 < (List.length v32 : Int) then
        if (S98.f0 (rd S98.z v32 v34)) ≤ v5 then
          some (50, ())
        else
          if (1073741824 : Int) < (S98.f0 (rd S98.z v32 v34)) then
            some (50, ())
          else
            (F184_entry_texts h0_0 h0_1 h0_2 h0_3 h0_4 h0_5 h0_6 (S98.f1 (rd S98.z v32 v34)) (S98.f2 (rd S98.z v32 v34))).bind fun y1 =>
            if ¬ y1.1 = (0 : Int) then
              some (y1.1, ())
            else
              F153_entry_named_l1000011 (S98.f0 (rd S98.z v32 v34)) v32 v33 (IntKind.i64.wrap (v34 + (1 : Int))) h0_0 h0_1 h0_2 h0_3 h0_4 h0_5 h0_6
      else
        none
    else
      some (0, ()) :=
  (run_eq _ _ _ _).trans (by kernel_rfl)
theorem F184_entry_texts_eq (x0_0 : Int) (x0_1 : Int) (x0_2 : Int) (x0_3 : Int) (x0_4 : Int) (x0_5 : Int) (x0_6 : Int) (x1 : ByteArray) (x2 : ByteArray) : F184_entry_texts x0_0 x0_1 x0_2 x0_3 x0_4 x0_5 x0_6 x1 x2 =
    if x0_2 < (ByteArray.size x1 : Int) then
      some (5, ())
    else
      if x0_3 < (ByteArray.size x2 : Int) then
        some (5, ())
      else
        some (0, ()) :=
  (F_eq (G := G) rfl fn25 rfl _).trans ((run_eq _ _ _ _).trans (by kernel_rfl))
theorem F130_node_reader_number_eq (x1_0 : Int) (x1_1 : Int) (x1_2 : ByteArray) (x1_3 : (List S38)) (h0_0 : Bool) : F130_node_reader_number x1_0 x1_1 x1_2 x1_3 h0_0 =
    if x1_0 = (1 : Int) then
      (F84_node_reader_want (decide (x1_1 ≤ (2147483647 : Int))) h0_0).bind fun y1 =>
      if y1.1 = true then
        some ((IntKind.i64.wrap x1_1), y1.2.1, ())
      else
        some (0, y1.2.1, ())
    else
      (F84_node_reader_want false h0_0).bind fun y2 =>
      if y2.1 = true then
        some ((IntKind.i64.wrap x1_1), y2.2.1, ())
      else
        some (0, y2.2.1, ()) :=
  (F_eq (G := G) rfl fn26 rfl _).trans ((run_eq _ _ _ _).trans (by kernel_rfl))
theorem F131_node_reader_atom_eq (x1_0 : Int) (x1_1 : Int) (x1_2 : ByteArray) (x1_3 : (List S38)) (h0_0 : Bool) : F131_node_reader_atom x1_0 x1_1 x1_2 x1_3 h0_0 =
    (F84_node_reader_want (decide (x1_0 = (2 : Int))) h0_0).bind fun y1 =>
    some (x1_2, y1.2.1, ()) :=
  (F_eq (G := G) rfl fn27 rfl _).trans ((run_eq _ _ _ _).trans (by kernel_rfl))
theorem F127_term_parts_eq (x0_0 : Int) (x0_1 : Int) (x0_2 : ByteArray) (x0_3 : (List S38)) (x1 : Int) : F127_term_parts x0_0 x0_1 x0_2 x0_3 x1 =
    F127_term_parts_l1000003 x1 1 x0_3 (List.length x0_3 : Int) 0 :=
  (F_eq (G := G) rfl fn28 rfl _).trans ((run_eq _ _ _ _).trans (by kernel_rfl))
theorem F127_term_parts_l1000003_eq (v1 : Int) (v5 : Int) (v9 : (List S38)) (v10 : Int) (v11 : Int) : F127_term_parts_l1000003 v1 v5 v9 v10 v11 =
    if v11 < v10 then
      if (0 : Int) ≤ v11 ∧ v11 < (List.length v9 : Int) then
        if v1 ≤ v5 then
          some (v5, ())
        else
          (F127_term_parts (S38.f0 (rd S38.z v9 v11)) (S38.f1 (rd S38.z v9 v11)) (S38.f2 (rd S38.z v9 v11)) (S38.f3 (rd S38.z v9 v11)) (IntKind.i64.wrap (v1 - v5))).bind fun y1 =>
          F127_term_parts_l1000003 v1 (IntKind.i64.wrap (v5 + y1.1)) v9 v10 (IntKind.i64.wrap (v11 + (1 : Int)))
      else
        none
    else
      some (v5, ()) :=
  (run_eq _ _ _ _).trans (by kernel_rfl)
theorem F128_term_deep_eq (x0_0 : Int) (x0_1 : Int) (x0_2 : ByteArray) (x0_3 : (List S38)) (x1 : Int) : F128_term_deep x0_0 x0_1 x0_2 x0_3 x1 =
    if (1 : Int) < x1 then
      F128_term_deep_l1000004 x1 0 x0_3 (List.length x0_3 : Int) 0
    else
      some ((IntKind.i64.wrap ((0 : Int) + (1 : Int))), ()) :=
  (F_eq (G := G) rfl fn29 rfl _).trans ((run_eq _ _ _ _).trans (by kernel_rfl))
theorem F128_term_deep_l1000004_eq (v1 : Int) (v5 : Int) (v11 : (List S38)) (v12 : Int) (v13 : Int) : F128_term_deep_l1000004 v1 v5 v11 v12 v13 =
    if v13 < v12 then
      if (0 : Int) ≤ v13 ∧ v13 < (List.length v11 : Int) then
        (F128_term_deep (S38.f0 (rd S38.z v11 v13)) (S38.f1 (rd S38.z v11 v13)) (S38.f2 (rd S38.z v11 v13)) (S38.f3 (rd S38.z v11 v13)) (IntKind.i64.wrap (v1 - (1 : Int)))).bind fun y1 =>
        F128_term_deep_l1000004 v1 (mx v5 y1.1) v11 v12 (IntKind.i64.wrap (v13 + (1 : Int)))
      else
        none
    else
      some ((IntKind.i64.wrap (v5 + (1 : Int))), ()) :=
  (run_eq _ _ _ _).trans (by kernel_rfl)
theorem F129_term_shaped_eq (x0_0 : Int) (x0_1 : Int) (x0_2 : ByteArray) (x0_3 : (List S38)) : F129_term_shaped x0_0 x0_1 x0_2 x0_3 =
    if x0_0 = (1 : Int) then
      if x0_0 = (1 : Int) then
        if x0_2 = ByteArray.empty then
          F129_term_shaped_l12 (decide ((List.length x0_3 : Int) = (0 : Int))) x0_0 x0_1 x0_2 x0_3
        else
          F129_term_shaped_l12 false x0_0 x0_1 x0_2 x0_3
      else
        if x0_0 = (2 : Int) then
          if x0_1 = (0 : Int) then
            if (ByteArray.size x0_2 : Int) ≤ (4000 : Int) then
              F129_term_shaped_l12 (decide ((List.length x0_3 : Int) = (0 : Int))) x0_0 x0_1 x0_2 x0_3
            else
              F129_term_shaped_l12 false x0_0 x0_1 x0_2 x0_3
          else
            F129_term_shaped_l12 false x0_0 x0_1 x0_2 x0_3
        else
          if x0_0 = (4 : Int) then
            if x0_2 = ByteArray.empty then
              F129_term_shaped_l12 (decide ((List.length x0_3 : Int) = (1 : Int))) x0_0 x0_1 x0_2 x0_3
            else
              F129_term_shaped_l12 false x0_0 x0_1 x0_2 x0_3
          else
            if x0_0 = (5 : Int) then
              if x0_1 = (0 : Int) then
                F129_term_shaped_l12 (decide (x0_2 = ByteArray.empty)) x0_0 x0_1 x0_2 x0_3
              else
                F129_term_shaped_l12 false x0_0 x0_1 x0_2 x0_3
            else
              F129_term_shaped_l12 false x0_0 x0_1 x0_2 x0_3
    else
      if x0_0 = (3 : Int) then
        if x0_2 = ByteArray.empty then
          F129_term_shaped_l12 (decide ((List.length x0_3 : Int) = (0 : Int))) x0_0 x0_1 x0_2 x0_3
        else
          F129_term_shaped_l12 false x0_0 x0_1 x0_2 x0_3
      else
        if x0_0 = (2 : Int) then
          if x0_1 = (0 : Int) then
            if (ByteArray.size x0_2 : Int) ≤ (4000 : Int) then
              F129_term_shaped_l12 (decide ((List.length x0_3 : Int) = (0 : Int))) x0_0 x0_1 x0_2 x0_3
            else
              F129_term_shaped_l12 false x0_0 x0_1 x0_2 x0_3
          else
            F129_term_shaped_l12 false x0_0 x0_1 x0_2 x0_3
        else
          if x0_0 = (4 : Int) then
            if x0_2 = ByteArray.empty then
              F129_term_shaped_l12 (decide ((List.length x0_3 : Int) = (1 : Int))) x0_0 x0_1 x0_2 x0_3
            else
              F129_term_shaped_l12 false x0_0 x0_1 x0_2 x0_3
          else
            if x0_0 = (5 : Int) then
              if x0_1 = (0 : Int) then
                F129_term_shaped_l12 (decide (x0_2 = ByteArray.empty)) x0_0 x0_1 x0_2 x0_3
              else
                F129_term_shaped_l12 false x0_0 x0_1 x0_2 x0_3
            else
              F129_term_shaped_l12 false x0_0 x0_1 x0_2 x0_3 :=
  (F_eq (G := G) rfl fn30 rfl _).trans ((run_eq _ _ _ _).trans (by kernel_rfl))
theorem F129_term_shaped_l12_eq (v3 : Bool) (h0_0 : Int) (h0_1 : Int) (h0_2 : ByteArray) (h0_3 : (List S38)) : F129_term_shaped_l12 v3 h0_0 h0_1 h0_2 h0_3 =
    if v3 = true then
      (F156_slices_ContainsFunc_157 h0_3).bind fun y1 =>
      some ((!y1.1), ())
    else
      some (false, ()) :=
  (run_eq _ _ _ _).trans (by kernel_rfl)
theorem F156_slices_ContainsFunc_157_eq (x0 : (List S38)) : F156_slices_ContainsFunc_157 x0 =
    (F185_slices_IndexFunc_157 x0).bind fun y1 =>
    some ((decide ((0 : Int) ≤ y1.1)), ()) :=
  (F_eq (G := G) rfl fn31 rfl _).trans ((run_eq _ _ _ _).trans (by kernel_rfl))
theorem F185_slices_IndexFunc_157_eq (x0 : (List S38)) : F185_slices_IndexFunc_157 x0 =
    F185_slices_IndexFunc_157_l1000002 x0 (List.length x0 : Int) 0 :=
  (F_eq (G := G) rfl fn32 rfl _).trans ((run_eq _ _ _ _).trans (by kernel_rfl))
theorem F185_slices_IndexFunc_157_l1000002_eq (v0 : (List S38)) (v7 : Int) (v8 : Int) : F185_slices_IndexFunc_157_l1000002 v0 v7 v8 =
    if v8 < v7 then
      if (0 : Int) ≤ v8 ∧ v8 < (List.length v0 : Int) then
        (F157_term_shaped_1 (S38.f0 (rd S38.z v0 v8)) (S38.f1 (rd S38.z v0 v8)) (S38.f2 (rd S38.z v0 v8)) (S38.f3 (rd S38.z v0 v8))).bind fun y1 =>
        if y1.1 = true then
          some (v8, ())
        else
          F185_slices_IndexFunc_157_l1000002 v0 v7 (IntKind.i64.wrap (v8 + (1 : Int)))
      else
        none
    else
      some ((-1), ()) :=
  (run_eq _ _ _ _).trans (by kernel_rfl)
theorem F157_term_shaped_1_eq (x0_0 : Int) (x0_1 : Int) (x0_2 : ByteArray) (x0_3 : (List S38)) : F157_term_shaped_1 x0_0 x0_1 x0_2 x0_3 =
    (F129_term_shaped x0_0 x0_1 x0_2 x0_3).bind fun y1 =>
    some ((!y1.1), ()) :=
  (F_eq (G := G) rfl fn33 rfl _).trans ((run_eq _ _ _ _).trans (by kernel_rfl))
theorem F98_term_Decode_eq (x0 : ByteArray) : F98_term_Decode x0 =
    (F140_term_reader_term 0 x0 0).bind fun y1 =>
    if ¬ y1.2.2.2.2.1 = (0 : Int) then
      some (0, 0, ByteArray.empty, [], y1.2.2.2.2.1, ())
    else
      if ¬ y1.2.2.2.2.2.1 = ByteArray.empty then
        some (0, 0, ByteArray.empty, [], 24, ())
      else
        some (y1.1, y1.2.1, y1.2.2.1, y1.2.2.2.1, 0, ()) :=
  (F_eq (G := G) rfl fn34 rfl _).trans ((run_eq _ _ _ _).trans (by kernel_rfl))
theorem F144_box_Open_eq (x0 : Int) (x1_0 : Int) (x1_1 : Int) (x1_2 : ByteArray) (x1_3 : (List S38)) : F144_box_Open x0 x1_0 x1_1 x1_2 x1_3 =
    (F82_term_Right x1_0 x1_1 x1_2 x1_3).bind fun y1 =>
    if ¬ y1.1 = (0 : Int) then
      some (0, 0, ByteArray.empty, [], y1.1, ())
    else
      if ¬ x1_0 = (4 : Int) then
        some (0, 0, ByteArray.empty, [], 30, ())
      else
        if ¬ x1_1 = x0 then
          some (0, 0, ByteArray.empty, [], 31, ())
        else
          if (0 : Int) ≤ 0 ∧ 0 < (List.length x1_3 : Int) then
            (F169_box_own (S38.f0 (rd S38.z x1_3 0)) (S38.f1 (rd S38.z x1_3 0)) (S38.f2 (rd S38.z x1_3 0)) (S38.f3 (rd S38.z x1_3 0))).bind fun y2 =>
            some (y2.1, y2.2.1, y2.2.2.1, y2.2.2.2.1, y2.2.2.2.2.1, ())
          else
            none :=
  (F_eq (G := G) rfl fn35 rfl _).trans ((run_eq _ _ _ _).trans (by kernel_rfl))
theorem F169_box_own_eq (x0_0 : Int) (x0_1 : Int) (x0_2 : ByteArray) (x0_3 : (List S38)) : F169_box_own x0_0 x0_1 x0_2 x0_3 =
    (F82_term_Right x0_0 x0_1 x0_2 x0_3).bind fun y1 =>
    if ¬ y1.1 = (0 : Int) then
      some (0, 0, ByteArray.empty, [], y1.1, ())
    else
      (F77_term_Of [(S38.mk x0_0 x0_1 x0_2 x0_3)]).bind fun y2 =>
      if (0 : Int) ≤ 0 ∧ 0 < (List.length y2.2.2.2.1 : Int) then
        some ((S38.f0 (rd S38.z y2.2.2.2.1 0)), (S38.f1 (rd S38.z y2.2.2.2.1 0)), (S38.f2 (rd S38.z y2.2.2.2.1 0)), (S38.f3 (rd S38.z y2.2.2.2.1 0)), 0, ())
      else
        none :=
  (F_eq (G := G) rfl fn36 rfl _).trans ((run_eq _ _ _ _).trans (by kernel_rfl))
theorem F77_term_Of_eq (x0 : (List S38)) : F77_term_Of x0 =
    (F124_term_clone 5 0 ByteArray.empty x0).bind fun y1 =>
    some (y1.1, y1.2.1, y1.2.2.1, y1.2.2.2.1, ()) :=
  (F_eq (G := G) rfl fn37 rfl _).trans ((run_eq _ _ _ _).trans (by kernel_rfl))
theorem F124_term_clone_eq (x0_0 : Int) (x0_1 : Int) (x0_2 : ByteArray) (x0_3 : (List S38)) : F124_term_clone x0_0 x0_1 x0_2 x0_3 =
    F124_term_clone_l1000003 x0_3 (List.length x0_3 : Int) 0 x0_0 x0_1 x0_2 x0_3 0 0 ByteArray.empty [] [] :=
  (F_eq (G := G) rfl fn38 rfl _).trans ((run_eq _ _ _ _).trans (by kernel_rfl))
theorem F124_term_clone_l1000003_eq (v7 : (List S38)) (v8 : Int) (v9 : Int) (h0_0 : Int) (h0_1 : Int) (h0_2 : ByteArray) (h0_3 : (List S38)) (h1_0 : Int) (h1_1 : Int) (h1_2 : ByteArray) (g2 : (List S38)) (g3 : (List S38)) : F124_term_clone_l1000003 v7 v8 v9 h0_0 h0_1 h0_2 h0_3 h1_0 h1_1 h1_2 g2 g3 =
    if v9 < v8 then
      if (0 : Int) ≤ v9 ∧ v9 < (List.length v7 : Int) then
        (F124_term_clone (S38.f0 (rd S38.z v7 v9)) (S38.f1 (rd S38.z v7 v9)) (S38.f2 (rd S38.z v7 v9)) (S38.f3 (rd S38.z v7 v9))).bind fun y1 =>
        if (List.length g2 + List.length [(S38.mk y1.1 y1.2.1 y1.2.2.1 y1.2.2.2.1)]) * 56 ≤ 140737488355328 then
          F124_term_clone_l1000003 v7 v8 (IntKind.i64.wrap (v9 + (1 : Int))) h0_0 h0_1 h0_2 h0_3 h1_0 h1_1 h1_2 (g2 ++ [(S38.mk y1.1 y1.2.1 y1.2.2.1 y1.2.2.2.1)]) g3
        else
          none
      else
        none
    else
      some (h0_0, h0_1, h0_2, g2, ()) :=
  (run_eq _ _ _ _).trans (by kernel_rfl)
theorem F140_term_reader_term_eq (x1 : Int) (h0_0 : ByteArray) (h0_1 : Int) : F140_term_reader_term x1 h0_0 h0_1 =
    (F163_term_reader_head x1 h0_0 h0_1).bind fun y1 =>
    if ¬ y1.2.2.1 = (0 : Int) then
      some (0, 0, ByteArray.empty, [], y1.2.2.1, y1.2.2.2.1, y1.2.2.2.2.1, ())
    else
      if y1.1 = (1 : Int) then
        if y1.1 = (1 : Int) then
          F140_term_reader_term_l1000022 x1 0 y1.2.2.2.1 y1.2.2.2.2.1 0 0 ByteArray.empty y1.1 y1.2.1 ByteArray.empty [] []
        else
          if y1.1 = (2 : Int) then
            if (4000 : Int) < y1.2.1 then
              some (0, 0, ByteArray.empty, [], 25, y1.2.2.2.1, y1.2.2.2.2.1, ())
            else
              let e2 : Int := IntKind.u64.wrap (ByteArray.size y1.2.2.2.1 : Int)
              if e2 < y1.2.1 then
                some (0, 0, ByteArray.empty, [], 20, y1.2.2.2.1, y1.2.2.2.2.1, ())
              else
                if (0 : Int) ≤ 0 ∧ (0 : Int) ≤ y1.2.1 ∧ y1.2.1 ≤ (ByteArray.size y1.2.2.2.1 : Int) then
                  let e3 : ByteArray := subS y1.2.2.2.1 y1.2.1 (ByteArray.size y1.2.2.2.1 : Int)
                  if (0 : Int) ≤ y1.2.1 ∧ y1.2.1 ≤ (ByteArray.size y1.2.2.2.1 : Int) ∧ (ByteArray.size y1.2.2.2.1 : Int) ≤ (ByteArray.size y1.2.2.2.1 : Int) then
                    F140_term_reader_term_l1000022 x1 0 e3 y1.2.2.2.2.1 0 0 ByteArray.empty y1.1 0 (subS y1.2.2.2.1 0 y1.2.1) [] []
                  else
                    none
                else
                  none
          else
            if y1.1 = (4 : Int) then
              F140_term_reader_term_l1000022 x1 1 y1.2.2.2.1 y1.2.2.2.2.1 0 0 ByteArray.empty y1.1 y1.2.1 ByteArray.empty [] []
            else
              if y1.1 = (5 : Int) then
                F140_term_reader_term_l1000022 x1 y1.2.1 y1.2.2.2.1 y1.2.2.2.2.1 0 0 ByteArray.empty y1.1 0 ByteArray.empty [] []
              else
                F140_term_reader_term_l1000022 x1 0 y1.2.2.2.1 y1.2.2.2.2.1 0 0 ByteArray.empty y1.1 0 ByteArray.empty [] []
      else
        if y1.1 = (3 : Int) then
          F140_term_reader_term_l1000022 x1 0 y1.2.2.2.1 y1.2.2.2.2.1 0 0 ByteArray.empty y1.1 y1.2.1 ByteArray.empty [] []
        else
          if y1.1 = (2 : Int) then
            if (4000 : Int) < y1.2.1 then
              some (0, 0, ByteArray.empty, [], 25, y1.2.2.2.1, y1.2.2.2.2.1, ())
            else
              let e4 : Int := IntKind.u64.wrap (ByteArray.size y1.2.2.2.1 : Int)
              if e4 < y1.2.1 then
                some (0, 0, ByteArray.empty, [], 20, y1.2.2.2.1, y1.2.2.2.2.1, ())
              else
                if (0 : Int) ≤ 0 ∧ (0 : Int) ≤ y1.2.1 ∧ y1.2.1 ≤ (ByteArray.size y1.2.2.2.1 : Int) then
                  let e5 : ByteArray := subS y1.2.2.2.1 y1.2.1 (ByteArray.size y1.2.2.2.1 : Int)
                  if (0 : Int) ≤ y1.2.1 ∧ y1.2.1 ≤ (ByteArray.size y1.2.2.2.1 : Int) ∧ (ByteArray.size y1.2.2.2.1 : Int) ≤ (ByteArray.size y1.2.2.2.1 : Int) then
                    F140_term_reader_term_l1000022 x1 0 e5 y1.2.2.2.2.1 0 0 ByteArray.empty y1.1 0 (subS y1.2.2.2.1 0 y1.2.1) [] []
                  else
                    none
                else
                  none
          else
            if y1.1 = (4 : Int) then
              F140_term_reader_term_l1000022 x1 1 y1.2.2.2.1 y1.2.2.2.2.1 0 0 ByteArray.empty y1.1 y1.2.1 ByteArray.empty [] []
            else
              if y1.1 = (5 : Int) then
                F140_term_reader_term_l1000022 x1 y1.2.1 y1.2.2.2.1 y1.2.2.2.2.1 0 0 ByteArray.empty y1.1 0 ByteArray.empty [] []
              else
                F140_term_reader_term_l1000022 x1 0 y1.2.2.2.1 y1.2.2.2.2.1 0 0 ByteArray.empty y1.1 0 ByteArray.empty [] [] :=
  (F_eq (G := G) rfl fn39 rfl _).trans ((run_eq _ _ _ _).trans (by kernel_rfl))
theorem F140_term_reader_term_l1000022_eq (v1 : Int) (v10 : Int) (h0_0 : ByteArray) (h0_1 : Int) (h1_0 : Int) (h1_1 : Int) (h1_2 : ByteArray) (h2_0 : Int) (h2_1 : Int) (h2_2 : ByteArray) (g3 : (List S38)) (g4 : (List S38)) : F140_term_reader_term_l1000022 v1 v10 h0_0 h0_1 h1_0 h1_1 h1_2 h2_0 h2_1 h2_2 g3 g4 =
    if (0 : Int) < v10 then
      (F140_term_reader_term (IntKind.i64.wrap (v1 + (1 : Int))) h0_0 h0_1).bind fun y1 =>
      if ¬ y1.2.2.2.2.1 = (0 : Int) then
        some (0, 0, ByteArray.empty, [], y1.2.2.2.2.1, y1.2.2.2.2.2.1, y1.2.2.2.2.2.2.1, ())
      else
        if (List.length g4 + List.length [(S38.mk y1.1 y1.2.1 y1.2.2.1 y1.2.2.2.1)]) * 56 ≤ 140737488355328 then
          F140_term_reader_term_l1000022 v1 (IntKind.u64.wrap (v10 - (1 : Int))) y1.2.2.2.2.2.1 y1.2.2.2.2.2.2.1 h1_0 h1_1 h1_2 h2_0 h2_1 h2_2 g3 (g4 ++ [(S38.mk y1.1 y1.2.1 y1.2.2.1 y1.2.2.2.1)])
        else
          none
    else
      some (h2_0, h2_1, h2_2, g4, 0, h0_0, h0_1, ()) :=
  (run_eq _ _ _ _).trans (by kernel_rfl)
theorem F163_term_reader_head_eq (x1 : Int) (h0_0 : ByteArray) (h0_1 : Int) : F163_term_reader_head x1 h0_0 h0_1 =
    if (4000 : Int) ≤ h0_1 then
      some (0, 0, 23, h0_0, h0_1, ())
    else
      if (12 : Int) ≤ x1 then
        some (0, 0, 22, h0_0, h0_1, ())
      else
        if h0_0 = ByteArray.empty then
          some (0, 0, 20, h0_0, h0_1, ())
        else
          if (0 : Int) ≤ 0 ∧ 0 < (ByteArray.size h0_0 : Int) then
            if (IntKind.i64.wrap (bt h0_0 0)) < (1 : Int) then
              some (0, 0, 21, h0_0, (IntKind.i64.wrap (h0_1 + (1 : Int))), ())
            else
              if (5 : Int) < (IntKind.i64.wrap (bt h0_0 0)) then
                some (0, 0, 21, h0_0, (IntKind.i64.wrap (h0_1 + (1 : Int))), ())
              else
                if (0 : Int) ≤ 1 ∧ (1 : Int) ≤ (ByteArray.size h0_0 : Int) ∧ (ByteArray.size h0_0 : Int) ≤ (ByteArray.size h0_0 : Int) then
                  (F186_term_GetNum (subS h0_0 1 (ByteArray.size h0_0 : Int))).bind fun y1 =>
                  if ¬ y1.2.2.1 = (0 : Int) then
                    some (0, 0, y1.2.2.1, h0_0, (IntKind.i64.wrap (h0_1 + (1 : Int))), ())
                  else
                    let e2 : ByteArray := subS h0_0 (IntKind.i64.wrap ((1 : Int) + y1.2.1)) (ByteArray.size h0_0 : Int)
                    if (0 : Int) ≤ (IntKind.i64.wrap ((1 : Int) + y1.2.1)) ∧ (IntKind.i64.wrap ((1 : Int) + y1.2.1)) ≤ (ByteArray.size h0_0 : Int) ∧ (ByteArray.size h0_0 : Int) ≤ (ByteArray.size h0_0 : Int) then
                      some ((IntKind.i64.wrap (bt h0_0 0)), y1.1, 0, e2, (IntKind.i64.wrap (h0_1 + (1 : Int))), ())
                    else
                      none
                else
                  none
          else
            none :=
  (F_eq (G := G) rfl fn40 rfl _).trans ((run_eq _ _ _ _).trans (by kernel_rfl))
theorem F186_term_GetNum_eq (x0 : ByteArray) : F186_term_GetNum x0 =
    F186_term_GetNum_l1000003 x0 0 0 :=
  (F_eq (G := G) rfl fn41 rfl _).trans ((run_eq _ _ _ _).trans (by kernel_rfl))
theorem F186_term_GetNum_l1000003_eq (v0 : ByteArray) (v5 : Int) (v6 : Int) : F186_term_GetNum_l1000003 v0 v5 v6 =
    if v6 < (ByteArray.size v0 : Int) then
      if (0 : Int) ≤ v6 ∧ v6 < (ByteArray.size v0 : Int) then
        if v6 = (9 : Int) then
          if (1 : Int) < (bt v0 v6) then
            some (0, 0, 21, ())
          else
            let e1 : Int := IntKind.u64.wrap (bitsR .and .u8 (bt v0 v6) (127 : Int))
            let e2 : Int := IntKind.u64.wrap (IntKind.i64.wrap ((7 : Int) * v6))
            if 0 ≤ e2 then
              if (shrR .u8 (bt v0 v6) (7 : Int)) = (0 : Int) then
                if (bt v0 v6) = (0 : Int) then
                  if (0 : Int) < v6 then
                    some (0, 0, 21, ())
                  else
                    F186_term_GetNum_l12 (bitsR .or .u64 v5 (shlR .u64 e1 e2)) v6
                else
                  F186_term_GetNum_l12 (bitsR .or .u64 v5 (shlR .u64 e1 e2)) v6
              else
                F186_term_GetNum_l1000003 v0 (bitsR .or .u64 v5 (shlR .u64 e1 e2)) (IntKind.i64.wrap (v6 + (1 : Int)))
            else
              none
        else
          let e3 : Int := IntKind.u64.wrap (bitsR .and .u8 (bt v0 v6) (127 : Int))
          let e4 : Int := IntKind.u64.wrap (IntKind.i64.wrap ((7 : Int) * v6))
          if 0 ≤ e4 then
            if (shrR .u8 (bt v0 v6) (7 : Int)) = (0 : Int) then
              if (bt v0 v6) = (0 : Int) then
                if (0 : Int) < v6 then
                  some (0, 0, 21, ())
                else
                  F186_term_GetNum_l12 (bitsR .or .u64 v5 (shlR .u64 e3 e4)) v6
              else
                F186_term_GetNum_l12 (bitsR .or .u64 v5 (shlR .u64 e3 e4)) v6
            else
              F186_term_GetNum_l1000003 v0 (bitsR .or .u64 v5 (shlR .u64 e3 e4)) (IntKind.i64.wrap (v6 + (1 : Int)))
          else
            none
      else
        none
    else
      some (0, 0, 20, ()) :=
  (run_eq _ _ _ _).trans (by kernel_rfl)
theorem F186_term_GetNum_l12_eq (v5 : Int) (v6 : Int) : F186_term_GetNum_l12 v5 v6 =
    some (v5, (IntKind.i64.wrap (v6 + (1 : Int))), 0, ()) :=
  (run_eq _ _ _ _).trans (by kernel_rfl)
theorem F68_letheref04_Right_eq (x0_0 : Int) (x0_1 : Int) (x0_2 : Int) (x0_3 : Int) (x0_4 : Int) (x0_5 : Int) (x0_6 : Int) : F68_letheref04_Right x0_0 x0_1 x0_2 x0_3 x0_4 x0_5 x0_6 =
    if x0_0 < (1 : Int) then
      F68_letheref04_Right_l2 
    else
      if (64 : Int) < x0_0 then
        F68_letheref04_Right_l2 
      else
        if x0_1 < (1 : Int) then
          F68_letheref04_Right_l2 
        else
          if (16 : Int) < x0_1 then
            F68_letheref04_Right_l2 
          else
            if x0_2 < (0 : Int) then
              F68_letheref04_Right_l2 
            else
              if (32 : Int) < x0_2 then
                F68_letheref04_Right_l2 
              else
                if x0_3 < (0 : Int) then
                  F68_letheref04_Right_l2 
                else
                  if (16 : Int) < x0_3 then
                    F68_letheref04_Right_l2 
                  else
                    if (1 : Int) ≤ x0_4 then
                      if x0_4 ≤ (4 : Int) then
                        if (1 : Int) ≤ x0_5 then
                          if x0_5 ≤ (8 : Int) then
                            if (0 : Int) ≤ x0_6 then
                              some ((decide (x0_6 ≤ (32 : Int))), ())
                            else
                              some (false, ())
                          else
                            some (false, ())
                        else
                          some (false, ())
                      else
                        some (false, ())
                    else
                      some (false, ()) :=
  (F_eq (G := G) rfl fn42 rfl _).trans ((run_eq _ _ _ _).trans (by kernel_rfl))
theorem F68_letheref04_Right_l2_eq  : F68_letheref04_Right_l2  =
    some (false, ()) :=
  (run_eq _ _ _ _).trans (by kernel_rfl)
theorem F69_letheref06_leaf_eq (x0_0 : Int) (x0_1 : Int) (x0_2 : Int) (x0_3 : Int) (x0_4 : Int) (x0_5 : Int) (x0_6 : Int) (x1_0 : Bool) (x1_1 : (List S96)) (x1_2 : (List S100)) : F69_letheref06_leaf x0_0 x0_1 x0_2 x0_3 x0_4 x0_5 x0_6 x1_0 x1_1 x1_2 =
    if (0 : Int) < (List.length x1_2 : Int) then
      some (60, ())
    else
      if (4 : Int) < (List.length x1_1 : Int) then
        some (60, ())
      else
        F69_letheref06_leaf_l1000004 x1_1 (List.length x1_1 : Int) 0 x0_0 x0_1 x0_2 x0_3 x0_4 x0_5 x0_6 x1_0 x1_1 x1_2 :=
  (F_eq (G := G) rfl fn43 rfl _).trans ((run_eq _ _ _ _).trans (by kernel_rfl))
theorem F69_letheref06_leaf_l1000004_eq (v19 : (List S96)) (v20 : Int) (v21 : Int) (h0_0 : Int) (h0_1 : Int) (h0_2 : Int) (h0_3 : Int) (h0_4 : Int) (h0_5 : Int) (h0_6 : Int) (h1_0 : Bool) (h1_1 : (List S96)) (h1_2 : (List S100)) : F69_letheref06_leaf_l1000004 v19 v20 v21 h0_0 h0_1 h0_2 h0_3 h0_4 h0_5 h0_6 h1_0 h1_1 h1_2 =
    if v21 < v20 then
      if (0 : Int) ≤ v21 ∧ v21 < (List.length v19 : Int) then
        (F123_letheref05_Right h0_0 h0_1 h0_2 h0_3 h0_4 h0_5 h0_6 (S96.f0 (rd S96.z v19 v21)) (S96.f1 (rd S96.z v19 v21))).bind fun y1 =>
        if ¬ y1.1 = (0 : Int) then
          some (y1.1, ())
        else
          if (0 : Int) < v21 then
            if (0 : Int) ≤ (IntKind.i64.wrap (v21 - (1 : Int))) ∧ (IntKind.i64.wrap (v21 - (1 : Int))) < (List.length h1_1 : Int) then
              if sLt (S96.f0 (rd S96.z h1_1 (IntKind.i64.wrap (v21 - (1 : Int))))) (S96.f0 (rd S96.z v19 v21)) = false then
                some (60, ())
              else
                F69_letheref06_leaf_l1000004 v19 v20 (IntKind.i64.wrap (v21 + (1 : Int))) h0_0 h0_1 h0_2 h0_3 h0_4 h0_5 h0_6 h1_0 h1_1 h1_2
            else
              none
          else
            F69_letheref06_leaf_l1000004 v19 v20 (IntKind.i64.wrap (v21 + (1 : Int))) h0_0 h0_1 h0_2 h0_3 h0_4 h0_5 h0_6 h1_0 h1_1 h1_2
      else
        none
    else
      some (0, ()) :=
  (run_eq _ _ _ _).trans (by kernel_rfl)
theorem F70_letheref06_inner_eq (x0_0 : Int) (x0_1 : Int) (x0_2 : Int) (x0_3 : Int) (x0_4 : Int) (x0_5 : Int) (x0_6 : Int) (x1_0 : Bool) (x1_1 : (List S96)) (x1_2 : (List S100)) : F70_letheref06_inner x0_0 x0_1 x0_2 x0_3 x0_4 x0_5 x0_6 x1_0 x1_1 x1_2 =
    if (0 : Int) < (List.length x1_1 : Int) then
      some (60, ())
    else
      if (List.length x1_2 : Int) < (2 : Int) then
        some (60, ())
      else
        if (4 : Int) < (List.length x1_2 : Int) then
          some (60, ())
        else
          F70_letheref06_inner_l1000004 x1_2 (List.length x1_2 : Int) 0 x0_0 x0_1 x0_2 x0_3 x0_4 x0_5 x0_6 x1_0 x1_1 x1_2 :=
  (F_eq (G := G) rfl fn44 rfl _).trans ((run_eq _ _ _ _).trans (by kernel_rfl))
theorem F70_letheref06_inner_l1000004_eq (v24 : (List S100)) (v25 : Int) (v26 : Int) (h0_0 : Int) (h0_1 : Int) (h0_2 : Int) (h0_3 : Int) (h0_4 : Int) (h0_5 : Int) (h0_6 : Int) (h1_0 : Bool) (h1_1 : (List S96)) (h1_2 : (List S100)) : F70_letheref06_inner_l1000004 v24 v25 v26 h0_0 h0_1 h0_2 h0_3 h0_4 h0_5 h0_6 h1_0 h1_1 h1_2 =
    if v26 < v25 then
      if (0 : Int) ≤ v26 ∧ v26 < (List.length v24 : Int) then
        if (S100.f0 (rd S100.z v24 v26)) = ByteArray.empty then
          some (4, ())
        else
          if h0_1 < (ByteArray.size (S100.f0 (rd S100.z v24 v26)) : Int) then
            some (5, ())
          else
            (F18_letheref06_RefRight (S100.f1 (rd S100.z v24 v26)) (S100.f2 (rd S100.z v24 v26)) (S100.f3 (rd S100.z v24 v26)) (S100.f4 (rd S100.z v24 v26))).bind fun y1 =>
            if (!y1.1) = true then
              some (61, ())
            else
              if (0 : Int) < v26 then
                if (0 : Int) ≤ (IntKind.i64.wrap (v26 - (1 : Int))) ∧ (IntKind.i64.wrap (v26 - (1 : Int))) < (List.length h1_2 : Int) then
                  if sLt (S100.f0 (rd S100.z h1_2 (IntKind.i64.wrap (v26 - (1 : Int))))) (S100.f0 (rd S100.z v24 v26)) = false then
                    some (60, ())
                  else
                    F70_letheref06_inner_l1000004 v24 v25 (IntKind.i64.wrap (v26 + (1 : Int))) h0_0 h0_1 h0_2 h0_3 h0_4 h0_5 h0_6 h1_0 h1_1 h1_2
                else
                  none
              else
                F70_letheref06_inner_l1000004 v24 v25 (IntKind.i64.wrap (v26 + (1 : Int))) h0_0 h0_1 h0_2 h0_3 h0_4 h0_5 h0_6 h1_0 h1_1 h1_2
      else
        none
    else
      some (0, ()) :=
  (run_eq _ _ _ _).trans (by kernel_rfl)
theorem F18_letheref06_RefRight_eq (x0_0 : Int) (x0_1 : Int) (x0_2 : Int) (x0_3 : Int) : F18_letheref06_RefRight x0_0 x0_1 x0_2 x0_3 =
    if (0 : Int) ≤ x0_1 then
      if x0_1 ≤ (1048576 : Int) then
        if (0 : Int) ≤ x0_2 then
          if x0_2 ≤ (134217728 : Int) then
            if (1 : Int) ≤ x0_3 then
              some ((decide (x0_3 ≤ (1048576 : Int))), ())
            else
              some (false, ())
          else
            some (false, ())
        else
          some (false, ())
      else
        some (false, ())
    else
      some (false, ()) :=
  (F_eq (G := G) rfl fn45 rfl _).trans ((run_eq _ _ _ _).trans (by kernel_rfl))
theorem F123_letheref05_Right_eq (x0_0 : Int) (x0_1 : Int) (x0_2 : Int) (x0_3 : Int) (x0_4 : Int) (x0_5 : Int) (x0_6 : Int) (x1_0 : ByteArray) (x1_1 : (List S98)) : F123_letheref05_Right x0_0 x0_1 x0_2 x0_3 x0_4 x0_5 x0_6 x1_0 x1_1 =
    (F154_letheref05_Named x0_0 x0_1 x0_2 x0_3 x0_4 x0_5 x0_6 x1_0 x1_1).bind fun y1 =>
    if y1.1 = (0 : Int) then
      if (List.length x1_1 : Int) = (0 : Int) then
        some (50, ())
      else
        some (y1.1, ())
    else
      some (y1.1, ()) :=
  (F_eq (G := G) rfl fn46 rfl _).trans ((run_eq _ _ _ _).trans (by kernel_rfl))
theorem F154_letheref05_Named_eq (x0_0 : Int) (x0_1 : Int) (x0_2 : Int) (x0_3 : Int) (x0_4 : Int) (x0_5 : Int) (x0_6 : Int) (x1_0 : ByteArray) (x1_1 : (List S98)) : F154_letheref05_Named x0_0 x0_1 x0_2 x0_3 x0_4 x0_5 x0_6 x1_0 x1_1 =
    (F68_letheref04_Right x0_0 x0_1 x0_2 x0_3 x0_4 x0_5 x0_6).bind fun y1 =>
    if (!y1.1) = true then
      some (40, ())
    else
      if x1_0 = ByteArray.empty then
        some (4, ())
      else
        if x0_1 < (ByteArray.size x1_0 : Int) then
          some (5, ())
        else
          if x0_4 < (List.length x1_1 : Int) then
            some (50, ())
          else
            F154_letheref05_Named_l1000010 x1_1 (List.length x1_1 : Int) 0 x0_0 x0_1 x0_2 x0_3 x0_4 x0_5 x0_6 x1_0 x1_1 :=
  (F_eq (G := G) rfl fn47 rfl _).trans ((run_eq _ _ _ _).trans (by kernel_rfl))
theorem F154_letheref05_Named_l1000010_eq (v26 : (List S98)) (v27 : Int) (v28 : Int) (h0_0 : Int) (h0_1 : Int) (h0_2 : Int) (h0_3 : Int) (h0_4 : Int) (h0_5 : Int) (h0_6 : Int) (h1_0 : ByteArray) (h1_1 : (List S98)) : F154_letheref05_Named_l1000010 v26 v27 v28 h0_0 h0_1 h0_2 h0_3 h0_4 h0_5 h0_6 h1_0 h1_1 =
    if v28 < v27 then
      if (0 : Int) ≤ v28 ∧ v28 < (List.length v26 : Int) then
        if (S98.f0 (rd S98.z v26 v28)) < (1 : Int) then
          some (50, ())
        else
          if (1073741824 : Int) < (S98.f0 (rd S98.z v26 v28)) then
            some (50, ())
          else
            if (0 : Int) < v28 then
              if (0 : Int) ≤ (IntKind.i64.wrap (v28 - (1 : Int))) ∧ (IntKind.i64.wrap (v28 - (1 : Int))) < (List.length h1_1 : Int) then
                if (S98.f0 (rd S98.z v26 v28)) ≤ (S98.f0 (rd S98.z h1_1 (IntKind.i64.wrap (v28 - (1 : Int))))) then
                  some (50, ())
                else
                  if h0_2 < (ByteArray.size (S98.f1 (rd S98.z v26 v28)) : Int) then
                    F154_letheref05_Named_l15 
                  else
                    if h0_3 < (ByteArray.size (S98.f2 (rd S98.z v26 v28)) : Int) then
                      F154_letheref05_Named_l15 
                    else
                      F154_letheref05_Named_l1000010 v26 v27 (IntKind.i64.wrap (v28 + (1 : Int))) h0_0 h0_1 h0_2 h0_3 h0_4 h0_5 h0_6 h1_0 h1_1
              else
                none
            else
              if h0_2 < (ByteArray.size (S98.f1 (rd S98.z v26 v28)) : Int) then
                F154_letheref05_Named_l15 
              else
                if h0_3 < (ByteArray.size (S98.f2 (rd S98.z v26 v28)) : Int) then
                  F154_letheref05_Named_l15 
                else
                  F154_letheref05_Named_l1000010 v26 v27 (IntKind.i64.wrap (v28 + (1 : Int))) h0_0 h0_1 h0_2 h0_3 h0_4 h0_5 h0_6 h1_0 h1_1
      else
        none
    else
      some (0, ()) :=
  (run_eq _ _ _ _).trans (by kernel_rfl)
theorem F154_letheref05_Named_l15_eq  : F154_letheref05_Named_l15  =
    some (5, ()) :=
  (run_eq _ _ _ _).trans (by kernel_rfl)
theorem F21_node_Term_eq (x0_0 : Int) (x0_1 : Int) (x0_2 : Int) (x0_3 : Int) (x0_4 : Int) (x0_5 : Int) (x0_6 : Int) (x1_0 : Bool) (x1_1 : (List S96)) (x1_2 : (List S100)) : F21_node_Term x0_0 x0_1 x0_2 x0_3 x0_4 x0_5 x0_6 x1_0 x1_1 x1_2 =
    (F15_node_Right x0_0 x0_1 x0_2 x0_3 x0_4 x0_5 x0_6 x1_0 x1_1 x1_2).bind fun y1 =>
    if ¬ y1.1 = (0 : Int) then
      some (0, 0, ByteArray.empty, [], y1.1, ())
    else
      if x1_0 = true then
        (F72_node_number 1).bind fun y2 =>
        (F71_node_row_73 y2.1 y2.2.1 y2.2.2.1 y2.2.2.2.1 x1_1).bind fun y3 =>
        some (y3.1, y3.2.1, y3.2.2.1, y3.2.2.2.1, 0, ())
      else
        (F72_node_number 2).bind fun y4 =>
        (F78_node_row_79 y4.1 y4.2.1 y4.2.2.1 y4.2.2.2.1 x1_2).bind fun y5 =>
        some (y5.1, y5.2.1, y5.2.2.1, y5.2.2.2.1, 0, ()) :=
  (F_eq (G := G) rfl fn48 rfl _).trans ((run_eq _ _ _ _).trans (by kernel_rfl))
theorem F109_box_Pack_eq (x0 : Int) (x1_0 : Int) (x1_1 : Int) (x1_2 : ByteArray) (x1_3 : (List S38)) : F109_box_Pack x0 x1_0 x1_1 x1_2 x1_3 =
    (F145_box_Seal x0 x1_0 x1_1 x1_2 x1_3).bind fun y1 =>
    if ¬ y1.2.2.2.2.1 = (0 : Int) then
      some (ByteArray.empty, y1.2.2.2.2.1, ())
    else
      (F93_term_Encode y1.1 y1.2.1 y1.2.2.1 y1.2.2.2.1).bind fun y2 =>
      some (y2.1, y2.2.1, ()) :=
  (F_eq (G := G) rfl fn49 rfl _).trans ((run_eq _ _ _ _).trans (by kernel_rfl))
theorem F145_box_Seal_eq (x0 : Int) (x1_0 : Int) (x1_1 : Int) (x1_2 : ByteArray) (x1_3 : (List S38)) : F145_box_Seal x0 x1_0 x1_1 x1_2 x1_3 =
    (F82_term_Right x1_0 x1_1 x1_2 x1_3).bind fun y1 =>
    if ¬ y1.1 = (0 : Int) then
      some (0, 0, ByteArray.empty, [], y1.1, ())
    else
      (F169_box_own 4 x0 ByteArray.empty [(S38.mk x1_0 x1_1 x1_2 x1_3)]).bind fun y2 =>
      some (y2.1, y2.2.1, y2.2.2.1, y2.2.2.2.1, y2.2.2.2.2.1, ()) :=
  (F_eq (G := G) rfl fn50 rfl _).trans ((run_eq _ _ _ _).trans (by kernel_rfl))
theorem F93_term_Encode_eq (x0_0 : Int) (x0_1 : Int) (x0_2 : ByteArray) (x0_3 : (List S38)) : F93_term_Encode x0_0 x0_1 x0_2 x0_3 =
    (F82_term_Right x0_0 x0_1 x0_2 x0_3).bind fun y1 =>
    if ¬ y1.1 = (0 : Int) then
      some (ByteArray.empty, y1.1, ())
    else
      (F138_term_write x0_0 x0_1 x0_2 x0_3 []).bind fun y2 =>
      some ((strOf y2.1), 0, ()) :=
  (F_eq (G := G) rfl fn51 rfl _).trans ((run_eq _ _ _ _).trans (by kernel_rfl))
theorem F138_term_write_eq (x1_0 : Int) (x1_1 : Int) (x1_2 : ByteArray) (x1_3 : (List S38)) (g0 : (List Int)) : F138_term_write x1_0 x1_1 x1_2 x1_3 g0 =
    if (List.length g0 + List.length [(IntKind.u8.wrap x1_0)]) * 1 ≤ 140737488355328 then
      if x1_0 = (1 : Int) then
        if x1_0 = (1 : Int) then
          (F162_term_PutNum x1_1).bind fun y1 =>
          let e2 : (List Int) := (g0 ++ [(IntKind.u8.wrap x1_0)]) ++ (bytesOf y1.1)
          if (List.length (g0 ++ [(IntKind.u8.wrap x1_0)]) + List.length (bytesOf y1.1)) * 1 ≤ 140737488355328 then
            F138_term_write_l11 e2 x1_0 x1_1 x1_2 x1_3
          else
            none
        else
          if x1_0 = (2 : Int) then
            (F162_term_PutNum (IntKind.u64.wrap (ByteArray.size x1_2 : Int))).bind fun y3 =>
            let e4 : (List Int) := (g0 ++ [(IntKind.u8.wrap x1_0)]) ++ (bytesOf y3.1)
            if (List.length (g0 ++ [(IntKind.u8.wrap x1_0)]) + List.length (bytesOf y3.1)) * 1 ≤ 140737488355328 then
              if (List.length e4 + List.length (bytesOf x1_2)) * 1 ≤ 140737488355328 then
                F138_term_write_l11 (e4 ++ (bytesOf x1_2)) x1_0 x1_1 x1_2 x1_3
              else
                none
            else
              none
          else
            if x1_0 = (5 : Int) then
              (F162_term_PutNum (IntKind.u64.wrap (List.length x1_3 : Int))).bind fun y5 =>
              let e6 : (List Int) := (g0 ++ [(IntKind.u8.wrap x1_0)]) ++ (bytesOf y5.1)
              if (List.length (g0 ++ [(IntKind.u8.wrap x1_0)]) + List.length (bytesOf y5.1)) * 1 ≤ 140737488355328 then
                F138_term_write_l11 e6 x1_0 x1_1 x1_2 x1_3
              else
                none
            else
              F138_term_write_l11 (g0 ++ [(IntKind.u8.wrap x1_0)]) x1_0 x1_1 x1_2 x1_3
      else
        if x1_0 = (3 : Int) then
          if x1_0 = (3 : Int) then
            (F162_term_PutNum x1_1).bind fun y7 =>
            let e8 : (List Int) := (g0 ++ [(IntKind.u8.wrap x1_0)]) ++ (bytesOf y7.1)
            if (List.length (g0 ++ [(IntKind.u8.wrap x1_0)]) + List.length (bytesOf y7.1)) * 1 ≤ 140737488355328 then
              F138_term_write_l11 e8 x1_0 x1_1 x1_2 x1_3
            else
              none
          else
            if x1_0 = (2 : Int) then
              (F162_term_PutNum (IntKind.u64.wrap (ByteArray.size x1_2 : Int))).bind fun y9 =>
              let e10 : (List Int) := (g0 ++ [(IntKind.u8.wrap x1_0)]) ++ (bytesOf y9.1)
              if (List.length (g0 ++ [(IntKind.u8.wrap x1_0)]) + List.length (bytesOf y9.1)) * 1 ≤ 140737488355328 then
                if (List.length e10 + List.length (bytesOf x1_2)) * 1 ≤ 140737488355328 then
                  F138_term_write_l11 (e10 ++ (bytesOf x1_2)) x1_0 x1_1 x1_2 x1_3
                else
                  none
              else
                none
            else
              if x1_0 = (5 : Int) then
                (F162_term_PutNum (IntKind.u64.wrap (List.length x1_3 : Int))).bind fun y11 =>
                let e12 : (List Int) := (g0 ++ [(IntKind.u8.wrap x1_0)]) ++ (bytesOf y11.1)
                if (List.length (g0 ++ [(IntKind.u8.wrap x1_0)]) + List.length (bytesOf y11.1)) * 1 ≤ 140737488355328 then
                  F138_term_write_l11 e12 x1_0 x1_1 x1_2 x1_3
                else
                  none
              else
                F138_term_write_l11 (g0 ++ [(IntKind.u8.wrap x1_0)]) x1_0 x1_1 x1_2 x1_3
        else
          if x1_0 = (4 : Int) then
            (F162_term_PutNum x1_1).bind fun y13 =>
            let e14 : (List Int) := (g0 ++ [(IntKind.u8.wrap x1_0)]) ++ (bytesOf y13.1)
            if (List.length (g0 ++ [(IntKind.u8.wrap x1_0)]) + List.length (bytesOf y13.1)) * 1 ≤ 140737488355328 then
              F138_term_write_l11 e14 x1_0 x1_1 x1_2 x1_3
            else
              none
          else
            if x1_0 = (2 : Int) then
              (F162_term_PutNum (IntKind.u64.wrap (ByteArray.size x1_2 : Int))).bind fun y15 =>
              let e16 : (List Int) := (g0 ++ [(IntKind.u8.wrap x1_0)]) ++ (bytesOf y15.1)
              if (List.length (g0 ++ [(IntKind.u8.wrap x1_0)]) + List.length (bytesOf y15.1)) * 1 ≤ 140737488355328 then
                if (List.length e16 + List.length (bytesOf x1_2)) * 1 ≤ 140737488355328 then
                  F138_term_write_l11 (e16 ++ (bytesOf x1_2)) x1_0 x1_1 x1_2 x1_3
                else
                  none
              else
                none
            else
              if x1_0 = (5 : Int) then
                (F162_term_PutNum (IntKind.u64.wrap (List.length x1_3 : Int))).bind fun y17 =>
                let e18 : (List Int) := (g0 ++ [(IntKind.u8.wrap x1_0)]) ++ (bytesOf y17.1)
                if (List.length (g0 ++ [(IntKind.u8.wrap x1_0)]) + List.length (bytesOf y17.1)) * 1 ≤ 140737488355328 then
                  F138_term_write_l11 e18 x1_0 x1_1 x1_2 x1_3
                else
                  none
              else
                F138_term_write_l11 (g0 ++ [(IntKind.u8.wrap x1_0)]) x1_0 x1_1 x1_2 x1_3
    else
      none :=
  (F_eq (G := G) rfl fn52 rfl _).trans ((run_eq _ _ _ _).trans (by kernel_rfl))
theorem F138_term_write_l11_eq (g1 : (List Int)) (h2_0 : Int) (h2_1 : Int) (h2_2 : ByteArray) (h2_3 : (List S38)) : F138_term_write_l11 g1 h2_0 h2_1 h2_2 h2_3 =
    F138_term_write_l1000012 h2_3 (List.length h2_3 : Int) 0 g1 :=
  (run_eq _ _ _ _).trans (by kernel_rfl)
theorem F138_term_write_l1000012_eq (v46 : (List S38)) (v47 : Int) (v48 : Int) (g1 : (List Int)) : F138_term_write_l1000012 v46 v47 v48 g1 =
    if v48 < v47 then
      if (0 : Int) ≤ v48 ∧ v48 < (List.length v46 : Int) then
        (F138_term_write (S38.f0 (rd S38.z v46 v48)) (S38.f1 (rd S38.z v46 v48)) (S38.f2 (rd S38.z v46 v48)) (S38.f3 (rd S38.z v46 v48)) g1).bind fun y1 =>
        F138_term_write_l1000012 v46 v47 (IntKind.i64.wrap (v48 + (1 : Int))) y1.1
      else
        none
    else
      some (g1, ()) :=
  (run_eq _ _ _ _).trans (by kernel_rfl)
theorem F162_term_PutNum_eq (x0 : Int) : F162_term_PutNum x0 =
    F162_term_PutNum_l1000002 x0 [] :=
  (F_eq (G := G) rfl fn53 rfl _).trans ((run_eq _ _ _ _).trans (by kernel_rfl))
theorem F162_term_PutNum_l1000002_eq (v0 : Int) (g0 : (List Int)) : F162_term_PutNum_l1000002 v0 g0 =
    if (128 : Int) ≤ v0 then
      let e1 : (List Int) := [(bitsR .or .u8 (IntKind.u8.wrap v0) (128 : Int))]
      if (List.length g0 + List.length e1) * 1 ≤ 140737488355328 then
        F162_term_PutNum_l1000002 (shrR .u64 v0 (7 : Int)) (g0 ++ e1)
      else
        none
    else
      if (List.length g0 + List.length [(IntKind.u8.wrap v0)]) * 1 ≤ 140737488355328 then
        some ((strOf (g0 ++ [(IntKind.u8.wrap v0)])), ())
      else
        none :=
  (run_eq _ _ _ _).trans (by kernel_rfl)
theorem F72_node_number_eq (x0 : Int) : F72_node_number x0 =
    (F92_term_Num (IntKind.u64.wrap x0)).bind fun y1 =>
    some (y1.1, y1.2.1, y1.2.2.1, y1.2.2.2.1, ()) :=
  (F_eq (G := G) rfl fn54 rfl _).trans ((run_eq _ _ _ _).trans (by kernel_rfl))
theorem F71_node_row_73_eq (x0_0 : Int) (x0_1 : Int) (x0_2 : ByteArray) (x0_3 : (List S38)) (x1 : (List S96)) : F71_node_row_73 x0_0 x0_1 x0_2 x0_3 x1 =
    F71_node_row_73_l1000003 x1 (List.length x1 : Int) 0 0 0 ByteArray.empty [(S38.mk x0_0 x0_1 x0_2 x0_3)] [] :=
  (F_eq (G := G) rfl fn55 rfl _).trans ((run_eq _ _ _ _).trans (by kernel_rfl))
theorem F71_node_row_73_l1000003_eq (v12 : (List S96)) (v13 : Int) (v14 : Int) (h0_0 : Int) (h0_1 : Int) (h0_2 : ByteArray) (g1 : (List S38)) (g2 : (List S38)) : F71_node_row_73_l1000003 v12 v13 v14 h0_0 h0_1 h0_2 g1 g2 =
    if v14 < v13 then
      if (0 : Int) ≤ v14 ∧ v14 < (List.length v12 : Int) then
        (F73_node_Term_1 (S96.f0 (rd S96.z v12 v14)) (S96.f1 (rd S96.z v12 v14))).bind fun y1 =>
        if (List.length g1 + List.length [(S38.mk y1.1 y1.2.1 y1.2.2.1 y1.2.2.2.1)]) * 56 ≤ 140737488355328 then
          F71_node_row_73_l1000003 v12 v13 (IntKind.i64.wrap (v14 + (1 : Int))) h0_0 h0_1 h0_2 (g1 ++ [(S38.mk y1.1 y1.2.1 y1.2.2.1 y1.2.2.2.1)]) g2
        else
          none
      else
        none
    else
      (F77_term_Of g1).bind fun y2 =>
      some (y2.1, y2.2.1, y2.2.2.1, y2.2.2.2.1, ()) :=
  (run_eq _ _ _ _).trans (by kernel_rfl)
theorem F78_node_row_79_eq (x0_0 : Int) (x0_1 : Int) (x0_2 : ByteArray) (x0_3 : (List S38)) (x1 : (List S100)) : F78_node_row_79 x0_0 x0_1 x0_2 x0_3 x1 =
    F78_node_row_79_l1000003 x1 (List.length x1 : Int) 0 0 0 ByteArray.empty [(S38.mk x0_0 x0_1 x0_2 x0_3)] [] :=
  (F_eq (G := G) rfl fn56 rfl _).trans ((run_eq _ _ _ _).trans (by kernel_rfl))
theorem F78_node_row_79_l1000003_eq (v12 : (List S100)) (v13 : Int) (v14 : Int) (h0_0 : Int) (h0_1 : Int) (h0_2 : ByteArray) (g1 : (List S38)) (g2 : (List S38)) : F78_node_row_79_l1000003 v12 v13 v14 h0_0 h0_1 h0_2 g1 g2 =
    if v14 < v13 then
      if (0 : Int) ≤ v14 ∧ v14 < (List.length v12 : Int) then
        (F79_node_Term_2 (S100.f0 (rd S100.z v12 v14)) (S100.f1 (rd S100.z v12 v14)) (S100.f2 (rd S100.z v12 v14)) (S100.f3 (rd S100.z v12 v14)) (S100.f4 (rd S100.z v12 v14))).bind fun y1 =>
        if (List.length g1 + List.length [(S38.mk y1.1 y1.2.1 y1.2.2.1 y1.2.2.2.1)]) * 56 ≤ 140737488355328 then
          F78_node_row_79_l1000003 v12 v13 (IntKind.i64.wrap (v14 + (1 : Int))) h0_0 h0_1 h0_2 (g1 ++ [(S38.mk y1.1 y1.2.1 y1.2.2.1 y1.2.2.2.1)]) g2
        else
          none
      else
        none
    else
      (F77_term_Of g1).bind fun y2 =>
      some (y2.1, y2.2.1, y2.2.2.1, y2.2.2.2.1, ()) :=
  (run_eq _ _ _ _).trans (by kernel_rfl)
theorem F79_node_Term_2_eq (x0_0 : ByteArray) (x0_1 : Int) (x0_2 : Int) (x0_3 : Int) (x0_4 : Int) : F79_node_Term_2 x0_0 x0_1 x0_2 x0_3 x0_4 =
    (F75_term_Atom x0_0).bind fun y1 =>
    (F80_term_Key x0_1).bind fun y2 =>
    (F72_node_number x0_2).bind fun y3 =>
    (F72_node_number x0_3).bind fun y4 =>
    (F72_node_number x0_4).bind fun y5 =>
    let e6 : (List S38) := [(S38.mk y1.1 y1.2.1 y1.2.2.1 y1.2.2.2.1), (S38.mk y2.1 y2.2.1 y2.2.2.1 y2.2.2.2.1), (S38.mk y3.1 y3.2.1 y3.2.2.1 y3.2.2.2.1), (S38.mk y4.1 y4.2.1 y4.2.2.1 y4.2.2.2.1), (S38.mk y5.1 y5.2.1 y5.2.2.1 y5.2.2.2.1)]
    (F77_term_Of e6).bind fun y7 =>
    some (y7.1, y7.2.1, y7.2.2.1, y7.2.2.2.1, ()) :=
  (F_eq (G := G) rfl fn57 rfl _).trans ((run_eq _ _ _ _).trans (by kernel_rfl))
theorem F75_term_Atom_eq (x0 : ByteArray) : F75_term_Atom x0 =
    some (2, 0, x0, [], ()) :=
  (F_eq (G := G) rfl fn58 rfl _).trans ((run_eq _ _ _ _).trans (by kernel_rfl))
theorem F80_term_Key_eq (x0 : Int) : F80_term_Key x0 =
    some (3, x0, ByteArray.empty, [], ()) :=
  (F_eq (G := G) rfl fn59 rfl _).trans ((run_eq _ _ _ _).trans (by kernel_rfl))
theorem F73_node_Term_1_eq (x0_0 : ByteArray) (x0_1 : (List S98)) : F73_node_Term_1 x0_0 x0_1 =
    (F75_term_Atom x0_0).bind fun y1 =>
    (F74_node_row_76 y1.1 y1.2.1 y1.2.2.1 y1.2.2.2.1 x0_1).bind fun y2 =>
    some (y2.1, y2.2.1, y2.2.2.1, y2.2.2.2.1, ()) :=
  (F_eq (G := G) rfl fn60 rfl _).trans ((run_eq _ _ _ _).trans (by kernel_rfl))
theorem F74_node_row_76_eq (x0_0 : Int) (x0_1 : Int) (x0_2 : ByteArray) (x0_3 : (List S38)) (x1 : (List S98)) : F74_node_row_76 x0_0 x0_1 x0_2 x0_3 x1 =
    F74_node_row_76_l1000003 x1 (List.length x1 : Int) 0 0 0 ByteArray.empty [(S38.mk x0_0 x0_1 x0_2 x0_3)] [] :=
  (F_eq (G := G) rfl fn61 rfl _).trans ((run_eq _ _ _ _).trans (by kernel_rfl))
theorem F74_node_row_76_l1000003_eq (v12 : (List S98)) (v13 : Int) (v14 : Int) (h0_0 : Int) (h0_1 : Int) (h0_2 : ByteArray) (g1 : (List S38)) (g2 : (List S38)) : F74_node_row_76_l1000003 v12 v13 v14 h0_0 h0_1 h0_2 g1 g2 =
    if v14 < v13 then
      if (0 : Int) ≤ v14 ∧ v14 < (List.length v12 : Int) then
        (F76_node_Term_1_1 (S98.f0 (rd S98.z v12 v14)) (S98.f1 (rd S98.z v12 v14)) (S98.f2 (rd S98.z v12 v14))).bind fun y1 =>
        if (List.length g1 + List.length [(S38.mk y1.1 y1.2.1 y1.2.2.1 y1.2.2.2.1)]) * 56 ≤ 140737488355328 then
          F74_node_row_76_l1000003 v12 v13 (IntKind.i64.wrap (v14 + (1 : Int))) h0_0 h0_1 h0_2 (g1 ++ [(S38.mk y1.1 y1.2.1 y1.2.2.1 y1.2.2.2.1)]) g2
        else
          none
      else
        none
    else
      (F77_term_Of g1).bind fun y2 =>
      some (y2.1, y2.2.1, y2.2.2.1, y2.2.2.2.1, ()) :=
  (run_eq _ _ _ _).trans (by kernel_rfl)
theorem F76_node_Term_1_1_eq (x0_0 : Int) (x0_1 : ByteArray) (x0_2 : ByteArray) : F76_node_Term_1_1 x0_0 x0_1 x0_2 =
    (F72_node_number x0_0).bind fun y1 =>
    (F75_term_Atom x0_1).bind fun y2 =>
    (F75_term_Atom x0_2).bind fun y3 =>
    let e4 : (List S38) := [(S38.mk y1.1 y1.2.1 y1.2.2.1 y1.2.2.2.1), (S38.mk y2.1 y2.2.1 y2.2.2.1 y2.2.2.2.1), (S38.mk y3.1 y3.2.1 y3.2.2.1 y3.2.2.2.1)]
    (F77_term_Of e4).bind fun y5 =>
    some (y5.1, y5.2.1, y5.2.2.1, y5.2.2.2.1, ()) :=
  (F_eq (G := G) rfl fn62 rfl _).trans ((run_eq _ _ _ _).trans (by kernel_rfl))
theorem F92_term_Num_eq (x0 : Int) : F92_term_Num x0 =
    some (1, x0, ByteArray.empty, [], ()) :=
  (F_eq (G := G) rfl fn63 rfl _).trans ((run_eq _ _ _ _).trans (by kernel_rfl))
end
end Go.Proofs.Ytgfaplkbajjheaa.NodeBackx
