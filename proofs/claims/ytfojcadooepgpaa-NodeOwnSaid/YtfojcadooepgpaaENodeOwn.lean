/- The law NodeOwn: what each function answers, in plain equations. Under no condition. -/
import Derived.Test.YtfojcadooepgpaaTNodeOwn
set_option linter.unusedVariables false
set_option maxRecDepth 100000
namespace Go.Proofs.Ytfojcadooepgpaa.NodeOwnx
open Go Go.RowKit Go.Proofs.Ytfojcadooepgpaa.Rx Go.Proofs.Ytfojcadooepgpaa.NodeOwnx
noncomputable section
theorem F4_lethelaw06_NodeOwn_eq (x0_0 : Int) (x0_1 : Int) (x0_2 : Int) (x0_3 : Int) (x0_4 : Int) (x0_5 : Int) (x0_6 : Int) (x1_0 : Bool) (x1_1 : (List S47)) (x1_2 : (List S53)) : F4_lethelaw06_NodeOwn x0_0 x0_1 x0_2 x0_3 x0_4 x0_5 x0_6 x1_0 x1_1 x1_2 =
    (F10_letheref06_Copy x1_0 x1_1 x1_2).bind fun y1 =>
    (F11_letheref06_Seal x0_0 x0_1 x0_2 x0_3 x0_4 x0_5 x0_6 1 x1_0 x1_1 x1_2).bind fun y2 =>
    (F12_node_Term x0_0 x0_1 x0_2 x0_3 x0_4 x0_5 x0_6 x1_0 x1_1 x1_2).bind fun y3 =>
    if ¬ y2.2.1 = y3.2.2.2.1 then
      some ((decide (y2.2.1 = y3.2.2.2.1)), ())
    else
      if ¬ y2.2.1 = (0 : Int) then
        some ((decide (y2.2.1 = y3.2.2.2.1)), ())
      else
        F4_lethelaw06_NodeOwn_l1000007 y2.1 (List.length y3.2.2.2.2.1 : Int) 0 x0_0 x0_1 x0_2 x0_3 x0_4 x0_5 x0_6 x1_0 x1_1 x1_2 y1.1 y1.2.1 y1.2.2.1 y3.1 y3.2.1 y3.2.2.1 y3.2.2.2.2.1 :=
  (F_eq (G := G) rfl fn0 rfl _).trans ((run_eq _ _ _ _).trans (by kernel_rfl))
theorem F4_lethelaw06_NodeOwn_l1000007_eq (v6 : ByteArray) (v45 : Int) (v46 : Int) (h0_0 : Int) (h0_1 : Int) (h0_2 : Int) (h0_3 : Int) (h0_4 : Int) (h0_5 : Int) (h0_6 : Int) (h1_0 : Bool) (h1_1 : (List S47)) (h1_2 : (List S53)) (h2_0 : Bool) (h2_1 : (List S47)) (h2_2 : (List S53)) (h3_0 : Int) (h3_1 : Int) (h3_2 : ByteArray) (g4 : (List S25)) : F4_lethelaw06_NodeOwn_l1000007 v6 v45 v46 h0_0 h0_1 h0_2 h0_3 h0_4 h0_5 h0_6 h1_0 h1_1 h1_2 h2_0 h2_1 h2_2 h3_0 h3_1 h3_2 g4 =
    if v46 < v45 then
      if (0 : Int) ≤ v46 ∧ v46 < (List.length g4 : Int) then
        F4_lethelaw06_NodeOwn_l1000010 v6 v46 v45 v46 (List.length (S25.f3 (rd S25.z g4 v46)) : Int) 0 h0_0 h0_1 h0_2 h0_3 h0_4 h0_5 h0_6 h1_0 h1_1 h1_2 h2_0 h2_1 h2_2 h3_0 h3_1 h3_2 g4
      else
        none
    else
      (F13_node_Open h0_0 h0_1 h0_2 h0_3 h0_4 h0_5 h0_6 1 v6).bind fun y1 =>
      (F13_node_Open h0_0 h0_1 h0_2 h0_3 h0_4 h0_5 h0_6 1 v6).bind fun y2 =>
      F4_lethelaw06_NodeOwn_l1000018 y1.2.1 y2.2.1 (List.length y1.2.2.1 : Int) 0 h1_0 h1_1 h1_2 h2_0 h2_1 h2_2 y1.1 y2.1 y1.2.2.1 y1.2.2.2.1 y2.2.2.1 y2.2.2.2.1 :=
  (run_eq _ _ _ _).trans (by kernel_rfl)
theorem F4_lethelaw06_NodeOwn_l1000010_eq (v6 : ByteArray) (v10 : Int) (v45 : Int) (v46 : Int) (v55 : Int) (v56 : Int) (h0_0 : Int) (h0_1 : Int) (h0_2 : Int) (h0_3 : Int) (h0_4 : Int) (h0_5 : Int) (h0_6 : Int) (h1_0 : Bool) (h1_1 : (List S47)) (h1_2 : (List S53)) (h2_0 : Bool) (h2_1 : (List S47)) (h2_2 : (List S53)) (h3_0 : Int) (h3_1 : Int) (h3_2 : ByteArray) (g4 : (List S25)) : F4_lethelaw06_NodeOwn_l1000010 v6 v10 v45 v46 v55 v56 h0_0 h0_1 h0_2 h0_3 h0_4 h0_5 h0_6 h1_0 h1_1 h1_2 h2_0 h2_1 h2_2 h3_0 h3_1 h3_2 g4 =
    if v56 < v55 then
      if (0 : Int) ≤ v10 ∧ v10 < (List.length g4 : Int) then
        if (0 : Int) ≤ v56 ∧ v56 < (List.length (S25.f3 (rd S25.z g4 v10)) : Int) then
          let e1 : (List S25) := List.set (S25.f3 (rd S25.z g4 v10)) (Int.toNat v56) (S25.mk 9 0 ByteArray.empty [])
          let e2 : (List S25) := List.set g4 (Int.toNat v10) (S25.mk (S25.f0 (rd S25.z g4 v10)) (S25.f1 (rd S25.z g4 v10)) (S25.f2 (rd S25.z g4 v10)) e1)
          F4_lethelaw06_NodeOwn_l1000010 v6 v10 v45 v46 v55 (IntKind.i64.wrap (v56 + (1 : Int))) h0_0 h0_1 h0_2 h0_3 h0_4 h0_5 h0_6 h1_0 h1_1 h1_2 h2_0 h2_1 h2_2 h3_0 h3_1 h3_2 e2
        else
          none
      else
        none
    else
      F4_lethelaw06_NodeOwn_l1000007 v6 v45 (IntKind.i64.wrap (v46 + (1 : Int))) h0_0 h0_1 h0_2 h0_3 h0_4 h0_5 h0_6 h1_0 h1_1 h1_2 h2_0 h2_1 h2_2 h3_0 h3_1 h3_2 g4 :=
  (run_eq _ _ _ _).trans (by kernel_rfl)
theorem F4_lethelaw06_NodeOwn_l1000018_eq (v13 : Int) (v15 : Int) (v84 : Int) (v85 : Int) (h0_0 : Bool) (h0_1 : (List S47)) (h0_2 : (List S53)) (h1_0 : Bool) (h1_1 : (List S47)) (h1_2 : (List S53)) (h2_0 : Bool) (h3_0 : Bool) (g4 : (List S47)) (g5 : (List S53)) (g6 : (List S47)) (g7 : (List S53)) : F4_lethelaw06_NodeOwn_l1000018 v13 v15 v84 v85 h0_0 h0_1 h0_2 h1_0 h1_1 h1_2 h2_0 h3_0 g4 g5 g6 g7 =
    if v85 < v84 then
      if (0 : Int) ≤ v85 ∧ v85 < (List.length g4 : Int) then
        F4_lethelaw06_NodeOwn_l1000021 v13 v15 v85 v84 v85 (List.length (S47.f1 (rd S47.z g4 v85)) : Int) 0 h0_0 h0_1 h0_2 h1_0 h1_1 h1_2 h2_0 h3_0 g4 g5 g6 g7
      else
        none
    else
      F4_lethelaw06_NodeOwn_l1000028 v13 v15 (List.length g5 : Int) 0 h0_0 h0_1 h0_2 h1_0 h1_1 h1_2 h2_0 h3_0 g4 g5 g6 g7 :=
  (run_eq _ _ _ _).trans (by kernel_rfl)
theorem F4_lethelaw06_NodeOwn_l1000021_eq (v13 : Int) (v15 : Int) (v16 : Int) (v84 : Int) (v85 : Int) (v94 : Int) (v95 : Int) (h0_0 : Bool) (h0_1 : (List S47)) (h0_2 : (List S53)) (h1_0 : Bool) (h1_1 : (List S47)) (h1_2 : (List S53)) (h2_0 : Bool) (h3_0 : Bool) (g4 : (List S47)) (g5 : (List S53)) (g6 : (List S47)) (g7 : (List S53)) : F4_lethelaw06_NodeOwn_l1000021 v13 v15 v16 v84 v85 v94 v95 h0_0 h0_1 h0_2 h1_0 h1_1 h1_2 h2_0 h3_0 g4 g5 g6 g7 =
    if v95 < v94 then
      if (0 : Int) ≤ v16 ∧ v16 < (List.length g4 : Int) then
        if (0 : Int) ≤ v95 ∧ v95 < (List.length (S47.f1 (rd S47.z g4 v16)) : Int) then
          let e1 : (List S49) := List.set (S47.f1 (rd S47.z g4 v16)) (Int.toNat v95) (S49.mk (-1) (S49.f1 (rd S49.z (S47.f1 (rd S47.z g4 v16)) v95)) (S49.f2 (rd S49.z (S47.f1 (rd S47.z g4 v16)) v95)))
          let e2 : (List S47) := List.set g4 (Int.toNat v16) (S47.mk (S47.f0 (rd S47.z g4 v16)) e1)
          F4_lethelaw06_NodeOwn_l1000021 v13 v15 v16 v84 v85 v94 (IntKind.i64.wrap (v95 + (1 : Int))) h0_0 h0_1 h0_2 h1_0 h1_1 h1_2 h2_0 h3_0 e2 g5 g6 g7
        else
          none
      else
        none
    else
      if (0 : Int) ≤ v16 ∧ v16 < (List.length g4 : Int) then
        let e3 : (List S47) := List.set g4 (Int.toNat v16) (S47.mk (ByteArray.mk #[63]) (S47.f1 (rd S47.z g4 v16)))
        F4_lethelaw06_NodeOwn_l1000018 v13 v15 v84 (IntKind.i64.wrap (v85 + (1 : Int))) h0_0 h0_1 h0_2 h1_0 h1_1 h1_2 h2_0 h3_0 e3 g5 g6 g7
      else
        none :=
  (run_eq _ _ _ _).trans (by kernel_rfl)
theorem F4_lethelaw06_NodeOwn_l1000028_eq (v13 : Int) (v15 : Int) (v116 : Int) (v117 : Int) (h0_0 : Bool) (h0_1 : (List S47)) (h0_2 : (List S53)) (h1_0 : Bool) (h1_1 : (List S47)) (h1_2 : (List S53)) (h2_0 : Bool) (h3_0 : Bool) (g4 : (List S47)) (g5 : (List S53)) (g6 : (List S47)) (g7 : (List S53)) : F4_lethelaw06_NodeOwn_l1000028 v13 v15 v116 v117 h0_0 h0_1 h0_2 h1_0 h1_1 h1_2 h2_0 h3_0 g4 g5 g6 g7 =
    if v117 < v116 then
      if (0 : Int) ≤ v117 ∧ v117 < (List.length g5 : Int) then
        let e1 : (List S53) := List.set g5 (Int.toNat v117) (S53.mk (ByteArray.mk #[33]) (S53.f1 (rd S53.z g5 v117)) (S53.f2 (rd S53.z g5 v117)) (S53.f3 (rd S53.z g5 v117)) (S53.f4 (rd S53.z g5 v117)))
        F4_lethelaw06_NodeOwn_l1000028 v13 v15 v116 (IntKind.i64.wrap (v117 + (1 : Int))) h0_0 h0_1 h0_2 h1_0 h1_1 h1_2 h2_0 h3_0 g4 e1 g6 g7
      else
        none
    else
      if v13 = (0 : Int) then
        if v15 = (0 : Int) then
          (F14_letheref06_Like h3_0 g6 g7 h1_0 h1_1 h1_2).bind fun y2 =>
          if y2.1 = true then
            (F14_letheref06_Like h0_0 h0_1 h0_2 h1_0 h1_1 h1_2).bind fun y3 =>
            some (y3.1, ())
          else
            some (false, ())
        else
          some (false, ())
      else
        some (false, ()) :=
  (run_eq _ _ _ _).trans (by kernel_rfl)
theorem F10_letheref06_Copy_eq (x0_0 : Bool) (x0_1 : (List S47)) (x0_2 : (List S53)) : F10_letheref06_Copy x0_0 x0_1 x0_2 =
    if (0 + List.length x0_2) * 48 ≤ 140737488355328 then
      F10_letheref06_Copy_l1000003 x0_1 (List.length x0_1 : Int) 0 false x0_0 ([] ++ x0_2) [] [] []
    else
      none :=
  (F_eq (G := G) rfl fn1 rfl _).trans ((run_eq _ _ _ _).trans (by kernel_rfl))
theorem F10_letheref06_Copy_l1000003_eq (v14 : (List S47)) (v15 : Int) (v16 : Int) (h0_0 : Bool) (h1_0 : Bool) (g2 : (List S53)) (g3 : (List S47)) (g4 : (List S53)) (g5 : (List S47)) : F10_letheref06_Copy_l1000003 v14 v15 v16 h0_0 h1_0 g2 g3 g4 g5 =
    if v16 < v15 then
      if (0 : Int) ≤ v16 ∧ v16 < (List.length v14 : Int) then
        (F21_letheref05_Copy (S47.f0 (rd S47.z v14 v16)) (S47.f1 (rd S47.z v14 v16))).bind fun y1 =>
        if (List.length g5 + List.length [(S47.mk y1.1 y1.2.1)]) * 40 ≤ 140737488355328 then
          F10_letheref06_Copy_l1000003_1 v14 v15 (IntKind.i64.wrap (v16 + (1 : Int))) h0_0 h1_0 g3 g4 (g5 ++ [(S47.mk y1.1 y1.2.1)]) g2
        else
          none
      else
        none
    else
      some (h1_0, g5, g2, ()) :=
  (run_eq _ _ _ _).trans (by kernel_rfl)
theorem F10_letheref06_Copy_l1000003_1_eq (v14 : (List S47)) (v15 : Int) (v16 : Int) (h0_0 : Bool) (h1_0 : Bool) (g2 : (List S47)) (g3 : (List S53)) (g4 : (List S47)) (g5 : (List S53)) : F10_letheref06_Copy_l1000003_1 v14 v15 v16 h0_0 h1_0 g2 g3 g4 g5 =
    if v16 < v15 then
      if (0 : Int) ≤ v16 ∧ v16 < (List.length v14 : Int) then
        (F21_letheref05_Copy (S47.f0 (rd S47.z v14 v16)) (S47.f1 (rd S47.z v14 v16))).bind fun y1 =>
        if (List.length g4 + List.length [(S47.mk y1.1 y1.2.1)]) * 40 ≤ 140737488355328 then
          F10_letheref06_Copy_l1000003_1 v14 v15 (IntKind.i64.wrap (v16 + (1 : Int))) h0_0 h1_0 g2 g3 (g4 ++ [(S47.mk y1.1 y1.2.1)]) g5
        else
          none
      else
        none
    else
      some (h1_0, g4, g5, ()) :=
  (run_eq _ _ _ _).trans (by kernel_rfl)
theorem F11_letheref06_Seal_eq (x0_0 : Int) (x0_1 : Int) (x0_2 : Int) (x0_3 : Int) (x0_4 : Int) (x0_5 : Int) (x0_6 : Int) (x1 : Int) (x2_0 : Bool) (x2_1 : (List S47)) (x2_2 : (List S53)) : F11_letheref06_Seal x0_0 x0_1 x0_2 x0_3 x0_4 x0_5 x0_6 x1 x2_0 x2_1 x2_2 =
    (F22_letheref06_Term x0_0 x0_1 x0_2 x0_3 x0_4 x0_5 x0_6 x2_0 x2_1 x2_2).bind fun y1 =>
    if ¬ y1.2.2.2.2.1 = (0 : Int) then
      some (ByteArray.empty, y1.2.2.2.2.1, ())
    else
      (F23_letheref03_Pack x1 y1.1 y1.2.1 y1.2.2.1 y1.2.2.2.1).bind fun y2 =>
      some (y2.1, y2.2.1, ()) :=
  (F_eq (G := G) rfl fn2 rfl _).trans ((run_eq _ _ _ _).trans (by kernel_rfl))
theorem F12_node_Term_eq (x0_0 : Int) (x0_1 : Int) (x0_2 : Int) (x0_3 : Int) (x0_4 : Int) (x0_5 : Int) (x0_6 : Int) (x1_0 : Bool) (x1_1 : (List S47)) (x1_2 : (List S53)) : F12_node_Term x0_0 x0_1 x0_2 x0_3 x0_4 x0_5 x0_6 x1_0 x1_1 x1_2 =
    (F24_node_Right x0_0 x0_1 x0_2 x0_3 x0_4 x0_5 x0_6 x1_0 x1_1 x1_2).bind fun y1 =>
    if ¬ y1.1 = (0 : Int) then
      some (0, 0, ByteArray.empty, y1.1, [], ())
    else
      if x1_0 = true then
        (F26_node_number 1).bind fun y2 =>
        (F25_node_row_27 y2.1 y2.2.1 y2.2.2.1 y2.2.2.2.1 x1_1).bind fun y3 =>
        some (y3.1, y3.2.1, y3.2.2.1, 0, y3.2.2.2.1, ())
      else
        (F26_node_number 2).bind fun y4 =>
        (F32_node_row_33 y4.1 y4.2.1 y4.2.2.1 y4.2.2.2.1 x1_2).bind fun y5 =>
        some (y5.1, y5.2.1, y5.2.2.1, 0, y5.2.2.2.1, ()) :=
  (F_eq (G := G) rfl fn3 rfl _).trans ((run_eq _ _ _ _).trans (by kernel_rfl))
theorem F13_node_Open_eq (x0_0 : Int) (x0_1 : Int) (x0_2 : Int) (x0_3 : Int) (x0_4 : Int) (x0_5 : Int) (x0_6 : Int) (x1 : Int) (x2 : ByteArray) : F13_node_Open x0_0 x0_1 x0_2 x0_3 x0_4 x0_5 x0_6 x1 x2 =
    (F35_quota_Right x0_0 x0_1 x0_2 x0_3 x0_4 x0_5 x0_6).bind fun y1 =>
    if ¬ y1.1 = (0 : Int) then
      some (false, 40, [], [], ())
    else
      (F36_box_Unpack x1 x2).bind fun y2 =>
      if ¬ y2.2.2.2.2.1 = (0 : Int) then
        some (false, y2.2.2.2.2.1, [], [], ())
      else
        (F37_node_From x0_0 x0_1 x0_2 x0_3 x0_4 x0_5 x0_6 y2.1 y2.2.1 y2.2.2.1 y2.2.2.2.1).bind fun y3 =>
        some (y3.1, y3.2.1, y3.2.2.1, y3.2.2.2.1, ()) :=
  (F_eq (G := G) rfl fn4 rfl _).trans ((run_eq _ _ _ _).trans (by kernel_rfl))
theorem F14_letheref06_Like_eq (x0_0 : Bool) (x0_1 : (List S47)) (x0_2 : (List S53)) (x1_0 : Bool) (x1_1 : (List S47)) (x1_2 : (List S53)) : F14_letheref06_Like x0_0 x0_1 x0_2 x1_0 x1_1 x1_2 =
    if (!(x0_0 == x1_0)) = true then
      some (false, ())
    else
      if ¬ (List.length x0_2 : Int) = (List.length x1_2 : Int) then
        some (false, ())
      else
        (F38_letheref05_LikeAll x0_1 x1_1).bind fun y1 =>
        if (!y1.1) = true then
          some (false, ())
        else
          F14_letheref06_Like_l1000004 (List.length x0_2 : Int) 0 x0_0 x0_1 x0_2 x1_0 x1_1 x1_2 :=
  (F_eq (G := G) rfl fn5 rfl _).trans ((run_eq _ _ _ _).trans (by kernel_rfl))
theorem F14_letheref06_Like_l1000004_eq (v30 : Int) (v31 : Int) (h0_0 : Bool) (h0_1 : (List S47)) (h0_2 : (List S53)) (h1_0 : Bool) (h1_1 : (List S47)) (h1_2 : (List S53)) : F14_letheref06_Like_l1000004 v30 v31 h0_0 h0_1 h0_2 h1_0 h1_1 h1_2 =
    if v31 < v30 then
      if (0 : Int) ≤ v31 ∧ v31 < (List.length h0_2 : Int) then
        if (0 : Int) ≤ v31 ∧ v31 < (List.length h1_2 : Int) then
          if ¬ ((S53.f0 (rd S53.z h0_2 v31)) = (S53.f0 (rd S53.z h1_2 v31)) ∧ ((S53.f1 (rd S53.z h0_2 v31)) = (S53.f1 (rd S53.z h1_2 v31)) ∧ (S53.f2 (rd S53.z h0_2 v31)) = (S53.f2 (rd S53.z h1_2 v31)) ∧ (S53.f3 (rd S53.z h0_2 v31)) = (S53.f3 (rd S53.z h1_2 v31)) ∧ (S53.f4 (rd S53.z h0_2 v31)) = (S53.f4 (rd S53.z h1_2 v31)) ∧ True) ∧ True) then
            some (false, ())
          else
            F14_letheref06_Like_l1000004 v30 (IntKind.i64.wrap (v31 + (1 : Int))) h0_0 h0_1 h0_2 h1_0 h1_1 h1_2
        else
          none
      else
        none
    else
      some (true, ()) :=
  (run_eq _ _ _ _).trans (by kernel_rfl)
theorem F38_letheref05_LikeAll_eq (x0 : (List S47)) (x1 : (List S47)) : F38_letheref05_LikeAll x0 x1 =
    if ¬ (List.length x0 : Int) = (List.length x1 : Int) then
      some (false, ())
    else
      F38_letheref05_LikeAll_l1000004 x0 x1 (List.length x0 : Int) 0 :=
  (F_eq (G := G) rfl fn6 rfl _).trans ((run_eq _ _ _ _).trans (by kernel_rfl))
theorem F38_letheref05_LikeAll_l1000004_eq (v0 : (List S47)) (v1 : (List S47)) (v12 : Int) (v13 : Int) : F38_letheref05_LikeAll_l1000004 v0 v1 v12 v13 =
    if v13 < v12 then
      if (0 : Int) ≤ v13 ∧ v13 < (List.length v0 : Int) then
        if (0 : Int) ≤ v13 ∧ v13 < (List.length v1 : Int) then
          (F59_letheref05_Like (S47.f0 (rd S47.z v0 v13)) (S47.f1 (rd S47.z v0 v13)) (S47.f0 (rd S47.z v1 v13)) (S47.f1 (rd S47.z v1 v13))).bind fun y1 =>
          if (!y1.1) = true then
            some (false, ())
          else
            F38_letheref05_LikeAll_l1000004 v0 v1 v12 (IntKind.i64.wrap (v13 + (1 : Int)))
        else
          none
      else
        none
    else
      some (true, ()) :=
  (run_eq _ _ _ _).trans (by kernel_rfl)
theorem F59_letheref05_Like_eq (x0_0 : ByteArray) (x0_1 : (List S49)) (x1_0 : ByteArray) (x1_1 : (List S49)) : F59_letheref05_Like x0_0 x0_1 x1_0 x1_1 =
    if x0_0 = x1_0 then
      (F76_letheref05_LikeVersions x0_1 x1_1).bind fun y1 =>
      some (y1.1, ())
    else
      some (false, ()) :=
  (F_eq (G := G) rfl fn7 rfl _).trans ((run_eq _ _ _ _).trans (by kernel_rfl))
theorem F76_letheref05_LikeVersions_eq (x0 : (List S49)) (x1 : (List S49)) : F76_letheref05_LikeVersions x0 x1 =
    if ¬ (List.length x0 : Int) = (List.length x1 : Int) then
      some (false, ())
    else
      F76_letheref05_LikeVersions_l1000004 x0 x1 (List.length x0 : Int) 0 :=
  (F_eq (G := G) rfl fn8 rfl _).trans ((run_eq _ _ _ _).trans (by kernel_rfl))
theorem F76_letheref05_LikeVersions_l1000004_eq (v0 : (List S49)) (v1 : (List S49)) (v12 : Int) (v13 : Int) : F76_letheref05_LikeVersions_l1000004 v0 v1 v12 v13 =
    if v13 < v12 then
      if (0 : Int) ≤ v13 ∧ v13 < (List.length v0 : Int) then
        if (0 : Int) ≤ v13 ∧ v13 < (List.length v1 : Int) then
          if ¬ ((S49.f0 (rd S49.z v0 v13)) = (S49.f0 (rd S49.z v1 v13)) ∧ (S49.f1 (rd S49.z v0 v13)) = (S49.f1 (rd S49.z v1 v13)) ∧ (S49.f2 (rd S49.z v0 v13)) = (S49.f2 (rd S49.z v1 v13)) ∧ True) then
            some (false, ())
          else
            F76_letheref05_LikeVersions_l1000004 v0 v1 v12 (IntKind.i64.wrap (v13 + (1 : Int)))
        else
          none
      else
        none
    else
      some (true, ()) :=
  (run_eq _ _ _ _).trans (by kernel_rfl)
theorem F35_quota_Right_eq (x0_0 : Int) (x0_1 : Int) (x0_2 : Int) (x0_3 : Int) (x0_4 : Int) (x0_5 : Int) (x0_6 : Int) : F35_quota_Right x0_0 x0_1 x0_2 x0_3 x0_4 x0_5 x0_6 =
    (F53_quota_in x0_0 1 64).bind fun y1 =>
    if y1.1 = true then
      (F53_quota_in x0_1 1 16).bind fun y2 =>
      if y2.1 = true then
        (F53_quota_in x0_2 0 32).bind fun y3 =>
        if y3.1 = true then
          (F53_quota_in x0_3 0 16).bind fun y4 =>
          if y4.1 = true then
            (F53_quota_in x0_4 1 4).bind fun y5 =>
            if y5.1 = true then
              (F53_quota_in x0_5 1 8).bind fun y6 =>
              if y6.1 = true then
                (F53_quota_in x0_6 0 32).bind fun y7 =>
                if y7.1 = true then
                  some (0, ())
                else
                  F35_quota_Right_l3 
              else
                F35_quota_Right_l3 
            else
              F35_quota_Right_l3 
          else
            F35_quota_Right_l3 
        else
          F35_quota_Right_l3 
      else
        F35_quota_Right_l3 
    else
      F35_quota_Right_l3  :=
  (F_eq (G := G) rfl fn9 rfl _).trans ((run_eq _ _ _ _).trans (by kernel_rfl))
theorem F35_quota_Right_l3_eq  : F35_quota_Right_l3  =
    some (40, ()) :=
  (run_eq _ _ _ _).trans (by kernel_rfl)
theorem F36_box_Unpack_eq (x0 : Int) (x1 : ByteArray) : F36_box_Unpack x0 x1 =
    (F54_term_Decode x1).bind fun y1 =>
    if ¬ y1.2.2.2.2.1 = (0 : Int) then
      some (0, 0, ByteArray.empty, [], y1.2.2.2.2.1, ())
    else
      (F19_box_Open x0 y1.1 y1.2.1 y1.2.2.1 y1.2.2.2.1).bind fun y2 =>
      some (y2.1, y2.2.1, y2.2.2.1, y2.2.2.2.1, y2.2.2.2.2.1, ()) :=
  (F_eq (G := G) rfl fn10 rfl _).trans ((run_eq _ _ _ _).trans (by kernel_rfl))
theorem F37_node_From_eq (x0_0 : Int) (x0_1 : Int) (x0_2 : Int) (x0_3 : Int) (x0_4 : Int) (x0_5 : Int) (x0_6 : Int) (x1_0 : Int) (x1_1 : Int) (x1_2 : ByteArray) (x1_3 : (List S25)) : F37_node_From x0_0 x0_1 x0_2 x0_3 x0_4 x0_5 x0_6 x1_0 x1_1 x1_2 x1_3 =
    (F35_quota_Right x0_0 x0_1 x0_2 x0_3 x0_4 x0_5 x0_6).bind fun y1 =>
    if ¬ y1.1 = (0 : Int) then
      some (false, 40, [], [], ())
    else
      (F40_term_Right x1_0 x1_1 x1_2 x1_3).bind fun y2 =>
      if ¬ y2.1 = (0 : Int) then
        some (false, y2.1, [], [], ())
      else
        (F55_node_reader_rest x1_0 x1_1 x1_2 x1_3 1 false).bind fun y3 =>
        if y3.2.1 = (1 : Int) then
          (F56_node_reader_want true y3.2.2.2.2.2.1).bind fun y4 =>
          F37_node_From_l1000011 y3.2.2.2.2.1 (List.length y3.2.2.2.2.1 : Int) 0 x0_0 x0_1 x0_2 x0_3 x0_4 x0_5 x0_6 false y4.2.1 (decide (y3.2.1 = (1 : Int))) [] [] [] []
        else
          (F56_node_reader_want (decide (y3.2.1 = (2 : Int))) y3.2.2.2.2.2.1).bind fun y5 =>
          F37_node_From_l1000011 y3.2.2.2.2.1 (List.length y3.2.2.2.2.1 : Int) 0 x0_0 x0_1 x0_2 x0_3 x0_4 x0_5 x0_6 false y5.2.1 (decide (y3.2.1 = (1 : Int))) [] [] [] [] :=
  (F_eq (G := G) rfl fn11 rfl _).trans ((run_eq _ _ _ _).trans (by kernel_rfl))
theorem F37_node_From_l1000011_eq (v46 : (List S25)) (v47 : Int) (v48 : Int) (h0_0 : Int) (h0_1 : Int) (h0_2 : Int) (h0_3 : Int) (h0_4 : Int) (h0_5 : Int) (h0_6 : Int) (h1_0 : Bool) (h2_0 : Bool) (h3_0 : Bool) (g4 : (List S47)) (g5 : (List S53)) (g6 : (List S47)) (g7 : (List S53)) : F37_node_From_l1000011 v46 v47 v48 h0_0 h0_1 h0_2 h0_3 h0_4 h0_5 h0_6 h1_0 h2_0 h3_0 g4 g5 g6 g7 =
    if v48 < v47 then
      if (0 : Int) ≤ v48 ∧ v48 < (List.length v46 : Int) then
        if h3_0 = true then
          (F57_node_reader_entry (S25.f0 (rd S25.z v46 v48)) (S25.f1 (rd S25.z v46 v48)) (S25.f2 (rd S25.z v46 v48)) (S25.f3 (rd S25.z v46 v48)) h2_0).bind fun y1 =>
          if (List.length g6 + List.length [(S47.mk y1.1 y1.2.2.1)]) * 40 ≤ 140737488355328 then
            F37_node_From_l1000011 v46 v47 (IntKind.i64.wrap (v48 + (1 : Int))) h0_0 h0_1 h0_2 h0_3 h0_4 h0_5 h0_6 h1_0 y1.2.1 h3_0 g4 g5 (g6 ++ [(S47.mk y1.1 y1.2.2.1)]) g7
          else
            none
        else
          (F58_node_reader_kid (S25.f0 (rd S25.z v46 v48)) (S25.f1 (rd S25.z v46 v48)) (S25.f2 (rd S25.z v46 v48)) (S25.f3 (rd S25.z v46 v48)) h2_0).bind fun y2 =>
          let e3 : (List S53) := [(S53.mk y2.1 y2.2.1 y2.2.2.1 y2.2.2.2.1 y2.2.2.2.2.1)]
          if (List.length g7 + List.length e3) * 48 ≤ 140737488355328 then
            F37_node_From_l1000011 v46 v47 (IntKind.i64.wrap (v48 + (1 : Int))) h0_0 h0_1 h0_2 h0_3 h0_4 h0_5 h0_6 h1_0 y2.2.2.2.2.2.1 h3_0 g4 g5 g6 (g7 ++ e3)
          else
            none
      else
        none
    else
      if h2_0 = true then
        some (false, 60, [], [], ())
      else
        (F24_node_Right h0_0 h0_1 h0_2 h0_3 h0_4 h0_5 h0_6 h3_0 g6 g7).bind fun y4 =>
        if ¬ y4.1 = (0 : Int) then
          some (false, y4.1, [], [], ())
        else
          some (h3_0, 0, g6, g7, ()) :=
  (run_eq _ _ _ _).trans (by kernel_rfl)
theorem F40_term_Right_eq (x0_0 : Int) (x0_1 : Int) (x0_2 : ByteArray) (x0_3 : (List S25)) : F40_term_Right x0_0 x0_1 x0_2 x0_3 =
    (F60_term_parts x0_0 x0_1 x0_2 x0_3 4001).bind fun y1 =>
    if (4000 : Int) < y1.1 then
      some (23, ())
    else
      (F61_term_deep x0_0 x0_1 x0_2 x0_3 13).bind fun y2 =>
      if (12 : Int) < y2.1 then
        some (22, ())
      else
        (F62_term_shaped x0_0 x0_1 x0_2 x0_3).bind fun y3 =>
        if (!y3.1) = true then
          some (25, ())
        else
          some (0, ()) :=
  (F_eq (G := G) rfl fn12 rfl _).trans ((run_eq _ _ _ _).trans (by kernel_rfl))
theorem F55_node_reader_rest_eq (x1_0 : Int) (x1_1 : Int) (x1_2 : ByteArray) (x1_3 : (List S25)) (x2 : Int) (h0_0 : Bool) : F55_node_reader_rest x1_0 x1_1 x1_2 x1_3 x2 h0_0 =
    if x1_0 = (5 : Int) then
      if (0 : Int) < (List.length x1_3 : Int) then
        if (0 : Int) ≤ 0 ∧ 0 < (List.length x1_3 : Int) then
          (F56_node_reader_want (decide ((S25.f0 (rd S25.z x1_3 0)) = x2)) h0_0).bind fun y1 =>
          if y1.1 = true then
            if (0 : Int) ≤ 0 ∧ 0 < (List.length x1_3 : Int) then
              if (0 : Int) ≤ 1 ∧ (1 : Int) ≤ (List.length x1_3 : Int) ∧ (List.length x1_3 : Int) ≤ (List.length x1_3 : Int) then
                some ((S25.f0 (rd S25.z x1_3 0)), (S25.f1 (rd S25.z x1_3 0)), (S25.f2 (rd S25.z x1_3 0)), (S25.f3 (rd S25.z x1_3 0)), (subL x1_3 1 (List.length x1_3 : Int)), y1.2.1, ())
              else
                none
            else
              none
          else
            some (0, 0, ByteArray.empty, [], [], y1.2.1, ())
        else
          none
      else
        (F56_node_reader_want false h0_0).bind fun y2 =>
        if y2.1 = true then
          if (0 : Int) ≤ 0 ∧ 0 < (List.length x1_3 : Int) then
            if (0 : Int) ≤ 1 ∧ (1 : Int) ≤ (List.length x1_3 : Int) ∧ (List.length x1_3 : Int) ≤ (List.length x1_3 : Int) then
              some ((S25.f0 (rd S25.z x1_3 0)), (S25.f1 (rd S25.z x1_3 0)), (S25.f2 (rd S25.z x1_3 0)), (S25.f3 (rd S25.z x1_3 0)), (subL x1_3 1 (List.length x1_3 : Int)), y2.2.1, ())
            else
              none
          else
            none
        else
          some (0, 0, ByteArray.empty, [], [], y2.2.1, ())
    else
      (F56_node_reader_want false h0_0).bind fun y3 =>
      if y3.1 = true then
        if (0 : Int) ≤ 0 ∧ 0 < (List.length x1_3 : Int) then
          if (0 : Int) ≤ 1 ∧ (1 : Int) ≤ (List.length x1_3 : Int) ∧ (List.length x1_3 : Int) ≤ (List.length x1_3 : Int) then
            some ((S25.f0 (rd S25.z x1_3 0)), (S25.f1 (rd S25.z x1_3 0)), (S25.f2 (rd S25.z x1_3 0)), (S25.f3 (rd S25.z x1_3 0)), (subL x1_3 1 (List.length x1_3 : Int)), y3.2.1, ())
          else
            none
        else
          none
      else
        some (0, 0, ByteArray.empty, [], [], y3.2.1, ()) :=
  (F_eq (G := G) rfl fn13 rfl _).trans ((run_eq _ _ _ _).trans (by kernel_rfl))
theorem F56_node_reader_want_eq (x1 : Bool) (h0_0 : Bool) : F56_node_reader_want x1 h0_0 =
    if h0_0 = true then
      some (false, true, ())
    else
      some ((!(!x1)), (!x1), ()) :=
  (F_eq (G := G) rfl fn14 rfl _).trans ((run_eq _ _ _ _).trans (by kernel_rfl))
theorem F57_node_reader_entry_eq (x1_0 : Int) (x1_1 : Int) (x1_2 : ByteArray) (x1_3 : (List S25)) (h0_0 : Bool) : F57_node_reader_entry x1_0 x1_1 x1_2 x1_3 h0_0 =
    (F55_node_reader_rest x1_0 x1_1 x1_2 x1_3 2 h0_0).bind fun y1 =>
    F57_node_reader_entry_l1000004 y1.2.2.2.2.1 (List.length y1.2.2.2.2.1 : Int) 0 y1.2.2.2.2.2.1 ByteArray.empty y1.2.2.1 [] [] :=
  (F_eq (G := G) rfl fn15 rfl _).trans ((run_eq _ _ _ _).trans (by kernel_rfl))
theorem F57_node_reader_entry_l1000004_eq (v19 : (List S25)) (v20 : Int) (v21 : Int) (h0_0 : Bool) (h1_0 : ByteArray) (h2_0 : ByteArray) (g3 : (List S49)) (g4 : (List S49)) : F57_node_reader_entry_l1000004 v19 v20 v21 h0_0 h1_0 h2_0 g3 g4 =
    if v21 < v20 then
      if (0 : Int) ≤ v21 ∧ v21 < (List.length v19 : Int) then
        if (S25.f0 (rd S25.z v19 v21)) = (5 : Int) then
          (F56_node_reader_want (decide ((List.length (S25.f3 (rd S25.z v19 v21)) : Int) = (3 : Int))) h0_0).bind fun y1 =>
          if y1.1 = true then
            if (0 : Int) ≤ 0 ∧ 0 < (List.length (S25.f3 (rd S25.z v19 v21)) : Int) then
              (F74_node_reader_number (S25.f0 (rd S25.z (S25.f3 (rd S25.z v19 v21)) 0)) (S25.f1 (rd S25.z (S25.f3 (rd S25.z v19 v21)) 0)) (S25.f2 (rd S25.z (S25.f3 (rd S25.z v19 v21)) 0)) (S25.f3 (rd S25.z (S25.f3 (rd S25.z v19 v21)) 0)) y1.2.1).bind fun y2 =>
              if (0 : Int) ≤ 1 ∧ 1 < (List.length (S25.f3 (rd S25.z v19 v21)) : Int) then
                (F75_node_reader_atom (S25.f0 (rd S25.z (S25.f3 (rd S25.z v19 v21)) 1)) (S25.f1 (rd S25.z (S25.f3 (rd S25.z v19 v21)) 1)) (S25.f2 (rd S25.z (S25.f3 (rd S25.z v19 v21)) 1)) (S25.f3 (rd S25.z (S25.f3 (rd S25.z v19 v21)) 1)) y2.2.1).bind fun y3 =>
                if (0 : Int) ≤ 2 ∧ 2 < (List.length (S25.f3 (rd S25.z v19 v21)) : Int) then
                  (F75_node_reader_atom (S25.f0 (rd S25.z (S25.f3 (rd S25.z v19 v21)) 2)) (S25.f1 (rd S25.z (S25.f3 (rd S25.z v19 v21)) 2)) (S25.f2 (rd S25.z (S25.f3 (rd S25.z v19 v21)) 2)) (S25.f3 (rd S25.z (S25.f3 (rd S25.z v19 v21)) 2)) y3.2.1).bind fun y4 =>
                  if (List.length g4 + List.length [(S49.mk y2.1 y3.1 y4.1)]) * 40 ≤ 140737488355328 then
                    F57_node_reader_entry_l8 v19 v20 v21 y4.2.1 h1_0 h2_0 g3 (g4 ++ [(S49.mk y2.1 y3.1 y4.1)])
                  else
                    none
                else
                  none
              else
                none
            else
              none
          else
            F57_node_reader_entry_l8 v19 v20 v21 y1.2.1 h1_0 h2_0 g3 g4
        else
          (F56_node_reader_want false h0_0).bind fun y5 =>
          if y5.1 = true then
            if (0 : Int) ≤ 0 ∧ 0 < (List.length (S25.f3 (rd S25.z v19 v21)) : Int) then
              (F74_node_reader_number (S25.f0 (rd S25.z (S25.f3 (rd S25.z v19 v21)) 0)) (S25.f1 (rd S25.z (S25.f3 (rd S25.z v19 v21)) 0)) (S25.f2 (rd S25.z (S25.f3 (rd S25.z v19 v21)) 0)) (S25.f3 (rd S25.z (S25.f3 (rd S25.z v19 v21)) 0)) y5.2.1).bind fun y6 =>
              if (0 : Int) ≤ 1 ∧ 1 < (List.length (S25.f3 (rd S25.z v19 v21)) : Int) then
                (F75_node_reader_atom (S25.f0 (rd S25.z (S25.f3 (rd S25.z v19 v21)) 1)) (S25.f1 (rd S25.z (S25.f3 (rd S25.z v19 v21)) 1)) (S25.f2 (rd S25.z (S25.f3 (rd S25.z v19 v21)) 1)) (S25.f3 (rd S25.z (S25.f3 (rd S25.z v19 v21)) 1)) y6.2.1).bind fun y7 =>
                if (0 : Int) ≤ 2 ∧ 2 < (List.length (S25.f3 (rd S25.z v19 v21)) : Int) then
                  (F75_node_reader_atom (S25.f0 (rd S25.z (S25.f3 (rd S25.z v19 v21)) 2)) (S25.f1 (rd S25.z (S25.f3 (rd S25.z v19 v21)) 2)) (S25.f2 (rd S25.z (S25.f3 (rd S25.z v19 v21)) 2)) (S25.f3 (rd S25.z (S25.f3 (rd S25.z v19 v21)) 2)) y7.2.1).bind fun y8 =>
                  if (List.length g4 + List.length [(S49.mk y6.1 y7.1 y8.1)]) * 40 ≤ 140737488355328 then
                    F57_node_reader_entry_l8 v19 v20 v21 y8.2.1 h1_0 h2_0 g3 (g4 ++ [(S49.mk y6.1 y7.1 y8.1)])
                  else
                    none
                else
                  none
              else
                none
            else
              none
          else
            F57_node_reader_entry_l8 v19 v20 v21 y5.2.1 h1_0 h2_0 g3 g4
      else
        none
    else
      some (h2_0, h0_0, g4, ()) :=
  (run_eq _ _ _ _).trans (by kernel_rfl)
theorem F57_node_reader_entry_l8_eq (v19 : (List S25)) (v20 : Int) (v21 : Int) (h0_0 : Bool) (h1_0 : ByteArray) (h2_0 : ByteArray) (g3 : (List S49)) (g4 : (List S49)) : F57_node_reader_entry_l8 v19 v20 v21 h0_0 h1_0 h2_0 g3 g4 =
    F57_node_reader_entry_l1000004 v19 v20 (IntKind.i64.wrap (v21 + (1 : Int))) h0_0 h1_0 h2_0 g3 g4 :=
  (run_eq _ _ _ _).trans (by kernel_rfl)
theorem F58_node_reader_kid_eq (x1_0 : Int) (x1_1 : Int) (x1_2 : ByteArray) (x1_3 : (List S25)) (h0_0 : Bool) : F58_node_reader_kid x1_0 x1_1 x1_2 x1_3 h0_0 =
    (F55_node_reader_rest x1_0 x1_1 x1_2 x1_3 2 h0_0).bind fun y1 =>
    if (List.length y1.2.2.2.2.1 : Int) = (4 : Int) then
      if (0 : Int) ≤ 0 ∧ 0 < (List.length y1.2.2.2.2.1 : Int) then
        (F56_node_reader_want (decide ((S25.f0 (rd S25.z y1.2.2.2.2.1 0)) = (3 : Int))) y1.2.2.2.2.2.1).bind fun y2 =>
        if (!y2.1) = true then
          some (ByteArray.empty, 0, 0, 0, 0, y2.2.1, ())
        else
          if (0 : Int) ≤ 0 ∧ 0 < (List.length y1.2.2.2.2.1 : Int) then
            if (0 : Int) ≤ 1 ∧ 1 < (List.length y1.2.2.2.2.1 : Int) then
              (F74_node_reader_number (S25.f0 (rd S25.z y1.2.2.2.2.1 1)) (S25.f1 (rd S25.z y1.2.2.2.2.1 1)) (S25.f2 (rd S25.z y1.2.2.2.2.1 1)) (S25.f3 (rd S25.z y1.2.2.2.2.1 1)) y2.2.1).bind fun y3 =>
              if (0 : Int) ≤ 2 ∧ 2 < (List.length y1.2.2.2.2.1 : Int) then
                (F74_node_reader_number (S25.f0 (rd S25.z y1.2.2.2.2.1 2)) (S25.f1 (rd S25.z y1.2.2.2.2.1 2)) (S25.f2 (rd S25.z y1.2.2.2.2.1 2)) (S25.f3 (rd S25.z y1.2.2.2.2.1 2)) y3.2.1).bind fun y4 =>
                if (0 : Int) ≤ 3 ∧ 3 < (List.length y1.2.2.2.2.1 : Int) then
                  (F74_node_reader_number (S25.f0 (rd S25.z y1.2.2.2.2.1 3)) (S25.f1 (rd S25.z y1.2.2.2.2.1 3)) (S25.f2 (rd S25.z y1.2.2.2.2.1 3)) (S25.f3 (rd S25.z y1.2.2.2.2.1 3)) y4.2.1).bind fun y5 =>
                  some (y1.2.2.1, (S25.f1 (rd S25.z y1.2.2.2.2.1 0)), y3.1, y4.1, y5.1, y5.2.1, ())
                else
                  none
              else
                none
            else
              none
          else
            none
      else
        none
    else
      (F56_node_reader_want false y1.2.2.2.2.2.1).bind fun y6 =>
      if (!y6.1) = true then
        some (ByteArray.empty, 0, 0, 0, 0, y6.2.1, ())
      else
        if (0 : Int) ≤ 0 ∧ 0 < (List.length y1.2.2.2.2.1 : Int) then
          if (0 : Int) ≤ 1 ∧ 1 < (List.length y1.2.2.2.2.1 : Int) then
            (F74_node_reader_number (S25.f0 (rd S25.z y1.2.2.2.2.1 1)) (S25.f1 (rd S25.z y1.2.2.2.2.1 1)) (S25.f2 (rd S25.z y1.2.2.2.2.1 1)) (S25.f3 (rd S25.z y1.2.2.2.2.1 1)) y6.2.1).bind fun y7 =>
            if (0 : Int) ≤ 2 ∧ 2 < (List.length y1.2.2.2.2.1 : Int) then
              (F74_node_reader_number (S25.f0 (rd S25.z y1.2.2.2.2.1 2)) (S25.f1 (rd S25.z y1.2.2.2.2.1 2)) (S25.f2 (rd S25.z y1.2.2.2.2.1 2)) (S25.f3 (rd S25.z y1.2.2.2.2.1 2)) y7.2.1).bind fun y8 =>
              if (0 : Int) ≤ 3 ∧ 3 < (List.length y1.2.2.2.2.1 : Int) then
                (F74_node_reader_number (S25.f0 (rd S25.z y1.2.2.2.2.1 3)) (S25.f1 (rd S25.z y1.2.2.2.2.1 3)) (S25.f2 (rd S25.z y1.2.2.2.2.1 3)) (S25.f3 (rd S25.z y1.2.2.2.2.1 3)) y8.2.1).bind fun y9 =>
                some (y1.2.2.1, (S25.f1 (rd S25.z y1.2.2.2.2.1 0)), y7.1, y8.1, y9.1, y9.2.1, ())
              else
                none
            else
              none
          else
            none
        else
          none :=
  (F_eq (G := G) rfl fn16 rfl _).trans ((run_eq _ _ _ _).trans (by kernel_rfl))
theorem F24_node_Right_eq (x0_0 : Int) (x0_1 : Int) (x0_2 : Int) (x0_3 : Int) (x0_4 : Int) (x0_5 : Int) (x0_6 : Int) (x1_0 : Bool) (x1_1 : (List S47)) (x1_2 : (List S53)) : F24_node_Right x0_0 x0_1 x0_2 x0_3 x0_4 x0_5 x0_6 x1_0 x1_1 x1_2 =
    (F35_quota_Right x0_0 x0_1 x0_2 x0_3 x0_4 x0_5 x0_6).bind fun y1 =>
    if ¬ y1.1 = (0 : Int) then
      some (40, ())
    else
      if x1_0 = true then
        (F49_node_leafRight x0_0 x0_1 x0_2 x0_3 x0_4 x0_5 x0_6 x1_0 x1_1 x1_2).bind fun y2 =>
        some (y2.1, ())
      else
        if (0 : Int) < (List.length x1_1 : Int) then
          some (60, ())
        else
          if (List.length x1_2 : Int) < (2 : Int) then
            some (60, ())
          else
            if (4 : Int) < (List.length x1_2 : Int) then
              some (60, ())
            else
              F24_node_Right_l1000008 x1_2 (List.length x1_2 : Int) 0 x0_0 x0_1 x0_2 x0_3 x0_4 x0_5 x0_6 x1_0 x1_1 x1_2 :=
  (F_eq (G := G) rfl fn17 rfl _).trans ((run_eq _ _ _ _).trans (by kernel_rfl))
theorem F24_node_Right_l1000008_eq (v32 : (List S53)) (v33 : Int) (v34 : Int) (h0_0 : Int) (h0_1 : Int) (h0_2 : Int) (h0_3 : Int) (h0_4 : Int) (h0_5 : Int) (h0_6 : Int) (h1_0 : Bool) (h1_1 : (List S47)) (h1_2 : (List S53)) : F24_node_Right_l1000008 v32 v33 v34 h0_0 h0_1 h0_2 h0_3 h0_4 h0_5 h0_6 h1_0 h1_1 h1_2 =
    if v34 < v33 then
      if (0 : Int) ≤ v34 ∧ v34 < (List.length v32 : Int) then
        if (S53.f0 (rd S53.z v32 v34)) = ByteArray.empty then
          some (4, ())
        else
          if h0_1 < (ByteArray.size (S53.f0 (rd S53.z v32 v34)) : Int) then
            some (5, ())
          else
            (F50_node_RefRight (S53.f1 (rd S53.z v32 v34)) (S53.f2 (rd S53.z v32 v34)) (S53.f3 (rd S53.z v32 v34)) (S53.f4 (rd S53.z v32 v34))).bind fun y1 =>
            if (!y1.1) = true then
              some (61, ())
            else
              if (0 : Int) < v34 then
                if (0 : Int) ≤ (IntKind.i64.wrap (v34 - (1 : Int))) ∧ (IntKind.i64.wrap (v34 - (1 : Int))) < (List.length h1_2 : Int) then
                  if sLt (S53.f0 (rd S53.z h1_2 (IntKind.i64.wrap (v34 - (1 : Int))))) (S53.f0 (rd S53.z v32 v34)) = false then
                    some (60, ())
                  else
                    F24_node_Right_l1000008 v32 v33 (IntKind.i64.wrap (v34 + (1 : Int))) h0_0 h0_1 h0_2 h0_3 h0_4 h0_5 h0_6 h1_0 h1_1 h1_2
                else
                  none
              else
                F24_node_Right_l1000008 v32 v33 (IntKind.i64.wrap (v34 + (1 : Int))) h0_0 h0_1 h0_2 h0_3 h0_4 h0_5 h0_6 h1_0 h1_1 h1_2
      else
        none
    else
      some (0, ()) :=
  (run_eq _ _ _ _).trans (by kernel_rfl)
theorem F49_node_leafRight_eq (x0_0 : Int) (x0_1 : Int) (x0_2 : Int) (x0_3 : Int) (x0_4 : Int) (x0_5 : Int) (x0_6 : Int) (x1_0 : Bool) (x1_1 : (List S47)) (x1_2 : (List S53)) : F49_node_leafRight x0_0 x0_1 x0_2 x0_3 x0_4 x0_5 x0_6 x1_0 x1_1 x1_2 =
    if (0 : Int) < (List.length x1_2 : Int) then
      some (60, ())
    else
      if (4 : Int) < (List.length x1_1 : Int) then
        some (60, ())
      else
        F49_node_leafRight_l1000004 x1_1 (List.length x1_1 : Int) 0 x0_0 x0_1 x0_2 x0_3 x0_4 x0_5 x0_6 x1_0 x1_1 x1_2 :=
  (F_eq (G := G) rfl fn18 rfl _).trans ((run_eq _ _ _ _).trans (by kernel_rfl))
theorem F49_node_leafRight_l1000004_eq (v19 : (List S47)) (v20 : Int) (v21 : Int) (h0_0 : Int) (h0_1 : Int) (h0_2 : Int) (h0_3 : Int) (h0_4 : Int) (h0_5 : Int) (h0_6 : Int) (h1_0 : Bool) (h1_1 : (List S47)) (h1_2 : (List S53)) : F49_node_leafRight_l1000004 v19 v20 v21 h0_0 h0_1 h0_2 h0_3 h0_4 h0_5 h0_6 h1_0 h1_1 h1_2 =
    if v21 < v20 then
      if (0 : Int) ≤ v21 ∧ v21 < (List.length v19 : Int) then
        (F72_entry_Right h0_0 h0_1 h0_2 h0_3 h0_4 h0_5 h0_6 (S47.f0 (rd S47.z v19 v21)) (S47.f1 (rd S47.z v19 v21))).bind fun y1 =>
        if ¬ y1.1 = (0 : Int) then
          some (y1.1, ())
        else
          if (0 : Int) < v21 then
            if (0 : Int) ≤ (IntKind.i64.wrap (v21 - (1 : Int))) ∧ (IntKind.i64.wrap (v21 - (1 : Int))) < (List.length h1_1 : Int) then
              if sLt (S47.f0 (rd S47.z h1_1 (IntKind.i64.wrap (v21 - (1 : Int))))) (S47.f0 (rd S47.z v19 v21)) = false then
                some (60, ())
              else
                F49_node_leafRight_l1000004 v19 v20 (IntKind.i64.wrap (v21 + (1 : Int))) h0_0 h0_1 h0_2 h0_3 h0_4 h0_5 h0_6 h1_0 h1_1 h1_2
            else
              none
          else
            F49_node_leafRight_l1000004 v19 v20 (IntKind.i64.wrap (v21 + (1 : Int))) h0_0 h0_1 h0_2 h0_3 h0_4 h0_5 h0_6 h1_0 h1_1 h1_2
      else
        none
    else
      some (0, ()) :=
  (run_eq _ _ _ _).trans (by kernel_rfl)
theorem F50_node_RefRight_eq (x0_0 : Int) (x0_1 : Int) (x0_2 : Int) (x0_3 : Int) : F50_node_RefRight x0_0 x0_1 x0_2 x0_3 =
    if (0 : Int) ≤ x0_1 then
      if x0_1 ≤ (1048576 : Int) then
        if (0 : Int) ≤ x0_2 then
          if x0_2 ≤ (134217728 : Int) then
            if (1 : Int) ≤ x0_3 then
              some ((decide (x0_3 ≤ (1048576 : Int))), ())
            else
              some (false, ())
          else
            some (false, ())
        else
          some (false, ())
      else
        some (false, ())
    else
      some (false, ()) :=
  (F_eq (G := G) rfl fn19 rfl _).trans ((run_eq _ _ _ _).trans (by kernel_rfl))
theorem F72_entry_Right_eq (x0_0 : Int) (x0_1 : Int) (x0_2 : Int) (x0_3 : Int) (x0_4 : Int) (x0_5 : Int) (x0_6 : Int) (x1_0 : ByteArray) (x1_1 : (List S49)) : F72_entry_Right x0_0 x0_1 x0_2 x0_3 x0_4 x0_5 x0_6 x1_0 x1_1 =
    (F83_entry_named x0_0 x0_1 x0_2 x0_3 x0_4 x0_5 x0_6 x1_0 x1_1).bind fun y1 =>
    if y1.1 = (0 : Int) then
      if (List.length x1_1 : Int) = (0 : Int) then
        some (50, ())
      else
        some (y1.1, ())
    else
      some (y1.1, ()) :=
  (F_eq (G := G) rfl fn20 rfl _).trans ((run_eq _ _ _ _).trans (by kernel_rfl))
theorem F83_entry_named_eq (x0_0 : Int) (x0_1 : Int) (x0_2 : Int) (x0_3 : Int) (x0_4 : Int) (x0_5 : Int) (x0_6 : Int) (x1_0 : ByteArray) (x1_1 : (List S49)) : F83_entry_named x0_0 x0_1 x0_2 x0_3 x0_4 x0_5 x0_6 x1_0 x1_1 =
    (F35_quota_Right x0_0 x0_1 x0_2 x0_3 x0_4 x0_5 x0_6).bind fun y1 =>
    if ¬ y1.1 = (0 : Int) then
      some (40, ())
    else
      if x1_0 = ByteArray.empty then
        some (4, ())
      else
        if x0_1 < (ByteArray.size x1_0 : Int) then
          some (5, ())
        else
          if x0_4 < (List.length x1_1 : Int) then
            some (50, ())
          else
            F83_entry_named_l1000011 0 x1_1 (List.length x1_1 : Int) 0 x0_0 x0_1 x0_2 x0_3 x0_4 x0_5 x0_6 :=
  (F_eq (G := G) rfl fn21 rfl _).trans ((run_eq _ _ _ _).trans (by kernel_rfl))
theorem F83_entry_named_l1000011_eq (v5 : Int) (v32 : (List S49)) (v33 : Int) (v34 : Int) (h0_0 : Int) (h0_1 : Int) (h0_2 : Int) (h0_3 : Int) (h0_4 : Int) (h0_5 : Int) (h0_6 : Int) : F83_entry_named_l1000011 v5 v32 v33 v34 h0_0 h0_1 h0_2 h0_3 h0_4 h0_5 h0_6 =
    if v34 < v33 then
      if (0 : Int) ≤ v34 ∧ v34 < (List.length v32 : Int) then
        if (S49.f0 (rd S49.z v32 v34)) ≤ v5 then
          some (50, ())
        else
          if (1073741824 : Int) < (S49.f0 (rd S49.z v32 v34)) then
            some (50, ())
          else
            (F87_entry_texts h0_0 h0_1 h0_2 h0_3 h0_4 h0_5 h0_6 (S49.f1 (rd S49.z v32 v34)) (S49.f2 (rd S49.z v32 v34))).bind fun y1 =>
            if ¬ y1.1 = (0 : Int) then
              some (y1.1, ())
            else
              F83_entry_named_l1000011 (S49.f0 (rd S49.z v32 v34)) v32 v33 (IntKind.i64.wrap (v34 + (1 : Int))) h0_0 h0_1 h0_2 h0_3 h0_4 h0_5 h0_6
      else
        none
    else
      some (0, ()) :=
  (run_eq _ _ _ _).trans (by kernel_rfl)
theorem F87_entry_texts_eq (x0_0 : Int) (x0_1 : Int) (x0_2 : Int) (x0_3 : Int) (x0_4 : Int) (x0_5 : Int) (x0_6 : Int) (x1 : ByteArray) (x2 : ByteArray) : F87_entry_texts x0_0 x0_1 x0_2 x0_3 x0_4 x0_5 x0_6 x1 x2 =
    if x0_2 < (ByteArray.size x1 : Int) then
      some (5, ())
    else
      if x0_3 < (ByteArray.size x2 : Int) then
        some (5, ())
      else
        some (0, ()) :=
  (F_eq (G := G) rfl fn22 rfl _).trans ((run_eq _ _ _ _).trans (by kernel_rfl))
theorem F74_node_reader_number_eq (x1_0 : Int) (x1_1 : Int) (x1_2 : ByteArray) (x1_3 : (List S25)) (h0_0 : Bool) : F74_node_reader_number x1_0 x1_1 x1_2 x1_3 h0_0 =
    if x1_0 = (1 : Int) then
      (F56_node_reader_want (decide (x1_1 ≤ (2147483647 : Int))) h0_0).bind fun y1 =>
      if y1.1 = true then
        some ((IntKind.i64.wrap x1_1), y1.2.1, ())
      else
        some (0, y1.2.1, ())
    else
      (F56_node_reader_want false h0_0).bind fun y2 =>
      if y2.1 = true then
        some ((IntKind.i64.wrap x1_1), y2.2.1, ())
      else
        some (0, y2.2.1, ()) :=
  (F_eq (G := G) rfl fn23 rfl _).trans ((run_eq _ _ _ _).trans (by kernel_rfl))
theorem F75_node_reader_atom_eq (x1_0 : Int) (x1_1 : Int) (x1_2 : ByteArray) (x1_3 : (List S25)) (h0_0 : Bool) : F75_node_reader_atom x1_0 x1_1 x1_2 x1_3 h0_0 =
    (F56_node_reader_want (decide (x1_0 = (2 : Int))) h0_0).bind fun y1 =>
    some (x1_2, y1.2.1, ()) :=
  (F_eq (G := G) rfl fn24 rfl _).trans ((run_eq _ _ _ _).trans (by kernel_rfl))
theorem F60_term_parts_eq (x0_0 : Int) (x0_1 : Int) (x0_2 : ByteArray) (x0_3 : (List S25)) (x1 : Int) : F60_term_parts x0_0 x0_1 x0_2 x0_3 x1 =
    F60_term_parts_l1000003 x1 1 x0_3 (List.length x0_3 : Int) 0 :=
  (F_eq (G := G) rfl fn25 rfl _).trans ((run_eq _ _ _ _).trans (by kernel_rfl))
theorem F60_term_parts_l1000003_eq (v1 : Int) (v5 : Int) (v9 : (List S25)) (v10 : Int) (v11 : Int) : F60_term_parts_l1000003 v1 v5 v9 v10 v11 =
    if v11 < v10 then
      if (0 : Int) ≤ v11 ∧ v11 < (List.length v9 : Int) then
        if v1 ≤ v5 then
          some (v5, ())
        else
          (F60_term_parts (S25.f0 (rd S25.z v9 v11)) (S25.f1 (rd S25.z v9 v11)) (S25.f2 (rd S25.z v9 v11)) (S25.f3 (rd S25.z v9 v11)) (IntKind.i64.wrap (v1 - v5))).bind fun y1 =>
          F60_term_parts_l1000003 v1 (IntKind.i64.wrap (v5 + y1.1)) v9 v10 (IntKind.i64.wrap (v11 + (1 : Int)))
      else
        none
    else
      some (v5, ()) :=
  (run_eq _ _ _ _).trans (by kernel_rfl)
theorem F61_term_deep_eq (x0_0 : Int) (x0_1 : Int) (x0_2 : ByteArray) (x0_3 : (List S25)) (x1 : Int) : F61_term_deep x0_0 x0_1 x0_2 x0_3 x1 =
    if (1 : Int) < x1 then
      F61_term_deep_l1000004 x1 0 x0_3 (List.length x0_3 : Int) 0
    else
      some ((IntKind.i64.wrap ((0 : Int) + (1 : Int))), ()) :=
  (F_eq (G := G) rfl fn26 rfl _).trans ((run_eq _ _ _ _).trans (by kernel_rfl))
theorem F61_term_deep_l1000004_eq (v1 : Int) (v5 : Int) (v11 : (List S25)) (v12 : Int) (v13 : Int) : F61_term_deep_l1000004 v1 v5 v11 v12 v13 =
    if v13 < v12 then
      if (0 : Int) ≤ v13 ∧ v13 < (List.length v11 : Int) then
        (F61_term_deep (S25.f0 (rd S25.z v11 v13)) (S25.f1 (rd S25.z v11 v13)) (S25.f2 (rd S25.z v11 v13)) (S25.f3 (rd S25.z v11 v13)) (IntKind.i64.wrap (v1 - (1 : Int)))).bind fun y1 =>
        F61_term_deep_l1000004 v1 (mx v5 y1.1) v11 v12 (IntKind.i64.wrap (v13 + (1 : Int)))
      else
        none
    else
      some ((IntKind.i64.wrap (v5 + (1 : Int))), ()) :=
  (run_eq _ _ _ _).trans (by kernel_rfl)
theorem F62_term_shaped_eq (x0_0 : Int) (x0_1 : Int) (x0_2 : ByteArray) (x0_3 : (List S25)) : F62_term_shaped x0_0 x0_1 x0_2 x0_3 =
    if x0_0 = (1 : Int) then
      if x0_0 = (1 : Int) then
        if x0_2 = ByteArray.empty then
          F62_term_shaped_l12 (decide ((List.length x0_3 : Int) = (0 : Int))) x0_0 x0_1 x0_2 x0_3
        else
          F62_term_shaped_l12 false x0_0 x0_1 x0_2 x0_3
      else
        if x0_0 = (2 : Int) then
          if x0_1 = (0 : Int) then
            if (ByteArray.size x0_2 : Int) ≤ (4000 : Int) then
              F62_term_shaped_l12 (decide ((List.length x0_3 : Int) = (0 : Int))) x0_0 x0_1 x0_2 x0_3
            else
              F62_term_shaped_l12 false x0_0 x0_1 x0_2 x0_3
          else
            F62_term_shaped_l12 false x0_0 x0_1 x0_2 x0_3
        else
          if x0_0 = (4 : Int) then
            if x0_2 = ByteArray.empty then
              F62_term_shaped_l12 (decide ((List.length x0_3 : Int) = (1 : Int))) x0_0 x0_1 x0_2 x0_3
            else
              F62_term_shaped_l12 false x0_0 x0_1 x0_2 x0_3
          else
            if x0_0 = (5 : Int) then
              if x0_1 = (0 : Int) then
                F62_term_shaped_l12 (decide (x0_2 = ByteArray.empty)) x0_0 x0_1 x0_2 x0_3
              else
                F62_term_shaped_l12 false x0_0 x0_1 x0_2 x0_3
            else
              F62_term_shaped_l12 false x0_0 x0_1 x0_2 x0_3
    else
      if x0_0 = (3 : Int) then
        if x0_2 = ByteArray.empty then
          F62_term_shaped_l12 (decide ((List.length x0_3 : Int) = (0 : Int))) x0_0 x0_1 x0_2 x0_3
        else
          F62_term_shaped_l12 false x0_0 x0_1 x0_2 x0_3
      else
        if x0_0 = (2 : Int) then
          if x0_1 = (0 : Int) then
            if (ByteArray.size x0_2 : Int) ≤ (4000 : Int) then
              F62_term_shaped_l12 (decide ((List.length x0_3 : Int) = (0 : Int))) x0_0 x0_1 x0_2 x0_3
            else
              F62_term_shaped_l12 false x0_0 x0_1 x0_2 x0_3
          else
            F62_term_shaped_l12 false x0_0 x0_1 x0_2 x0_3
        else
          if x0_0 = (4 : Int) then
            if x0_2 = ByteArray.empty then
              F62_term_shaped_l12 (decide ((List.length x0_3 : Int) = (1 : Int))) x0_0 x0_1 x0_2 x0_3
            else
              F62_term_shaped_l12 false x0_0 x0_1 x0_2 x0_3
          else
            if x0_0 = (5 : Int) then
              if x0_1 = (0 : Int) then
                F62_term_shaped_l12 (decide (x0_2 = ByteArray.empty)) x0_0 x0_1 x0_2 x0_3
              else
                F62_term_shaped_l12 false x0_0 x0_1 x0_2 x0_3
            else
              F62_term_shaped_l12 false x0_0 x0_1 x0_2 x0_3 :=
  (F_eq (G := G) rfl fn27 rfl _).trans ((run_eq _ _ _ _).trans (by kernel_rfl))
theorem F62_term_shaped_l12_eq (v3 : Bool) (h0_0 : Int) (h0_1 : Int) (h0_2 : ByteArray) (h0_3 : (List S25)) : F62_term_shaped_l12 v3 h0_0 h0_1 h0_2 h0_3 =
    if v3 = true then
      (F77_slices_ContainsFunc_78 h0_3).bind fun y1 =>
      some ((!y1.1), ())
    else
      some (false, ()) :=
  (run_eq _ _ _ _).trans (by kernel_rfl)
theorem F77_slices_ContainsFunc_78_eq (x0 : (List S25)) : F77_slices_ContainsFunc_78 x0 =
    (F85_slices_IndexFunc_78 x0).bind fun y1 =>
    some ((decide ((0 : Int) ≤ y1.1)), ()) :=
  (F_eq (G := G) rfl fn28 rfl _).trans ((run_eq _ _ _ _).trans (by kernel_rfl))
theorem F85_slices_IndexFunc_78_eq (x0 : (List S25)) : F85_slices_IndexFunc_78 x0 =
    F85_slices_IndexFunc_78_l1000002 x0 (List.length x0 : Int) 0 :=
  (F_eq (G := G) rfl fn29 rfl _).trans ((run_eq _ _ _ _).trans (by kernel_rfl))
theorem F85_slices_IndexFunc_78_l1000002_eq (v0 : (List S25)) (v7 : Int) (v8 : Int) : F85_slices_IndexFunc_78_l1000002 v0 v7 v8 =
    if v8 < v7 then
      if (0 : Int) ≤ v8 ∧ v8 < (List.length v0 : Int) then
        (F78_term_shaped_1 (S25.f0 (rd S25.z v0 v8)) (S25.f1 (rd S25.z v0 v8)) (S25.f2 (rd S25.z v0 v8)) (S25.f3 (rd S25.z v0 v8))).bind fun y1 =>
        if y1.1 = true then
          some (v8, ())
        else
          F85_slices_IndexFunc_78_l1000002 v0 v7 (IntKind.i64.wrap (v8 + (1 : Int)))
      else
        none
    else
      some ((-1), ()) :=
  (run_eq _ _ _ _).trans (by kernel_rfl)
theorem F78_term_shaped_1_eq (x0_0 : Int) (x0_1 : Int) (x0_2 : ByteArray) (x0_3 : (List S25)) : F78_term_shaped_1 x0_0 x0_1 x0_2 x0_3 =
    (F62_term_shaped x0_0 x0_1 x0_2 x0_3).bind fun y1 =>
    some ((!y1.1), ()) :=
  (F_eq (G := G) rfl fn30 rfl _).trans ((run_eq _ _ _ _).trans (by kernel_rfl))
theorem F54_term_Decode_eq (x0 : ByteArray) : F54_term_Decode x0 =
    (F73_term_reader_term 0 x0 0).bind fun y1 =>
    if ¬ y1.2.2.2.2.1 = (0 : Int) then
      some (0, 0, ByteArray.empty, [], y1.2.2.2.2.1, ())
    else
      if ¬ y1.2.2.2.2.2.1 = ByteArray.empty then
        some (0, 0, ByteArray.empty, [], 24, ())
      else
        some (y1.1, y1.2.1, y1.2.2.1, y1.2.2.2.1, 0, ()) :=
  (F_eq (G := G) rfl fn31 rfl _).trans ((run_eq _ _ _ _).trans (by kernel_rfl))
theorem F19_box_Open_eq (x0 : Int) (x1_0 : Int) (x1_1 : Int) (x1_2 : ByteArray) (x1_3 : (List S25)) : F19_box_Open x0 x1_0 x1_1 x1_2 x1_3 =
    (F40_term_Right x1_0 x1_1 x1_2 x1_3).bind fun y1 =>
    if ¬ y1.1 = (0 : Int) then
      some (0, 0, ByteArray.empty, [], y1.1, ())
    else
      if ¬ x1_0 = (4 : Int) then
        some (0, 0, ByteArray.empty, [], 30, ())
      else
        if ¬ x1_1 = x0 then
          some (0, 0, ByteArray.empty, [], 31, ())
        else
          if (0 : Int) ≤ 0 ∧ 0 < (List.length x1_3 : Int) then
            (F39_box_own (S25.f0 (rd S25.z x1_3 0)) (S25.f1 (rd S25.z x1_3 0)) (S25.f2 (rd S25.z x1_3 0)) (S25.f3 (rd S25.z x1_3 0))).bind fun y2 =>
            some (y2.1, y2.2.1, y2.2.2.1, y2.2.2.2.1, y2.2.2.2.2.1, ())
          else
            none :=
  (F_eq (G := G) rfl fn32 rfl _).trans ((run_eq _ _ _ _).trans (by kernel_rfl))
theorem F39_box_own_eq (x0_0 : Int) (x0_1 : Int) (x0_2 : ByteArray) (x0_3 : (List S25)) : F39_box_own x0_0 x0_1 x0_2 x0_3 =
    (F40_term_Right x0_0 x0_1 x0_2 x0_3).bind fun y1 =>
    if ¬ y1.1 = (0 : Int) then
      some (0, 0, ByteArray.empty, [], y1.1, ())
    else
      (F31_term_Of [(S25.mk x0_0 x0_1 x0_2 x0_3)]).bind fun y2 =>
      if (0 : Int) ≤ 0 ∧ 0 < (List.length y2.2.2.2.1 : Int) then
        some ((S25.f0 (rd S25.z y2.2.2.2.1 0)), (S25.f1 (rd S25.z y2.2.2.2.1 0)), (S25.f2 (rd S25.z y2.2.2.2.1 0)), (S25.f3 (rd S25.z y2.2.2.2.1 0)), 0, ())
      else
        none :=
  (F_eq (G := G) rfl fn33 rfl _).trans ((run_eq _ _ _ _).trans (by kernel_rfl))
theorem F31_term_Of_eq (x0 : (List S25)) : F31_term_Of x0 =
    (F52_term_clone 5 0 ByteArray.empty x0).bind fun y1 =>
    some (y1.1, y1.2.1, y1.2.2.1, y1.2.2.2.1, ()) :=
  (F_eq (G := G) rfl fn34 rfl _).trans ((run_eq _ _ _ _).trans (by kernel_rfl))
theorem F52_term_clone_eq (x0_0 : Int) (x0_1 : Int) (x0_2 : ByteArray) (x0_3 : (List S25)) : F52_term_clone x0_0 x0_1 x0_2 x0_3 =
    F52_term_clone_l1000003 x0_3 (List.length x0_3 : Int) 0 x0_0 x0_1 x0_2 x0_3 0 0 ByteArray.empty [] [] :=
  (F_eq (G := G) rfl fn35 rfl _).trans ((run_eq _ _ _ _).trans (by kernel_rfl))
theorem F52_term_clone_l1000003_eq (v7 : (List S25)) (v8 : Int) (v9 : Int) (h0_0 : Int) (h0_1 : Int) (h0_2 : ByteArray) (h0_3 : (List S25)) (h1_0 : Int) (h1_1 : Int) (h1_2 : ByteArray) (g2 : (List S25)) (g3 : (List S25)) : F52_term_clone_l1000003 v7 v8 v9 h0_0 h0_1 h0_2 h0_3 h1_0 h1_1 h1_2 g2 g3 =
    if v9 < v8 then
      if (0 : Int) ≤ v9 ∧ v9 < (List.length v7 : Int) then
        (F52_term_clone (S25.f0 (rd S25.z v7 v9)) (S25.f1 (rd S25.z v7 v9)) (S25.f2 (rd S25.z v7 v9)) (S25.f3 (rd S25.z v7 v9))).bind fun y1 =>
        if (List.length g2 + List.length [(S25.mk y1.1 y1.2.1 y1.2.2.1 y1.2.2.2.1)]) * 56 ≤ 140737488355328 then
          F52_term_clone_l1000003 v7 v8 (IntKind.i64.wrap (v9 + (1 : Int))) h0_0 h0_1 h0_2 h0_3 h1_0 h1_1 h1_2 (g2 ++ [(S25.mk y1.1 y1.2.1 y1.2.2.1 y1.2.2.2.1)]) g3
        else
          none
      else
        none
    else
      some (h0_0, h0_1, h0_2, g2, ()) :=
  (run_eq _ _ _ _).trans (by kernel_rfl)
theorem F73_term_reader_term_eq (x1 : Int) (h0_0 : ByteArray) (h0_1 : Int) : F73_term_reader_term x1 h0_0 h0_1 =
    (F84_term_reader_head x1 h0_0 h0_1).bind fun y1 =>
    if ¬ y1.2.2.1 = (0 : Int) then
      some (0, 0, ByteArray.empty, [], y1.2.2.1, y1.2.2.2.1, y1.2.2.2.2.1, ())
    else
      if y1.1 = (1 : Int) then
        if y1.1 = (1 : Int) then
          F73_term_reader_term_l1000022 x1 0 y1.2.2.2.1 y1.2.2.2.2.1 0 0 ByteArray.empty y1.1 y1.2.1 ByteArray.empty [] []
        else
          if y1.1 = (2 : Int) then
            if (4000 : Int) < y1.2.1 then
              some (0, 0, ByteArray.empty, [], 25, y1.2.2.2.1, y1.2.2.2.2.1, ())
            else
              let e2 : Int := IntKind.u64.wrap (ByteArray.size y1.2.2.2.1 : Int)
              if e2 < y1.2.1 then
                some (0, 0, ByteArray.empty, [], 20, y1.2.2.2.1, y1.2.2.2.2.1, ())
              else
                if (0 : Int) ≤ 0 ∧ (0 : Int) ≤ y1.2.1 ∧ y1.2.1 ≤ (ByteArray.size y1.2.2.2.1 : Int) then
                  let e3 : ByteArray := subS y1.2.2.2.1 y1.2.1 (ByteArray.size y1.2.2.2.1 : Int)
                  if (0 : Int) ≤ y1.2.1 ∧ y1.2.1 ≤ (ByteArray.size y1.2.2.2.1 : Int) ∧ (ByteArray.size y1.2.2.2.1 : Int) ≤ (ByteArray.size y1.2.2.2.1 : Int) then
                    F73_term_reader_term_l1000022 x1 0 e3 y1.2.2.2.2.1 0 0 ByteArray.empty y1.1 0 (subS y1.2.2.2.1 0 y1.2.1) [] []
                  else
                    none
                else
                  none
          else
            if y1.1 = (4 : Int) then
              F73_term_reader_term_l1000022 x1 1 y1.2.2.2.1 y1.2.2.2.2.1 0 0 ByteArray.empty y1.1 y1.2.1 ByteArray.empty [] []
            else
              if y1.1 = (5 : Int) then
                F73_term_reader_term_l1000022 x1 y1.2.1 y1.2.2.2.1 y1.2.2.2.2.1 0 0 ByteArray.empty y1.1 0 ByteArray.empty [] []
              else
                F73_term_reader_term_l1000022 x1 0 y1.2.2.2.1 y1.2.2.2.2.1 0 0 ByteArray.empty y1.1 0 ByteArray.empty [] []
      else
        if y1.1 = (3 : Int) then
          F73_term_reader_term_l1000022 x1 0 y1.2.2.2.1 y1.2.2.2.2.1 0 0 ByteArray.empty y1.1 y1.2.1 ByteArray.empty [] []
        else
          if y1.1 = (2 : Int) then
            if (4000 : Int) < y1.2.1 then
              some (0, 0, ByteArray.empty, [], 25, y1.2.2.2.1, y1.2.2.2.2.1, ())
            else
              let e4 : Int := IntKind.u64.wrap (ByteArray.size y1.2.2.2.1 : Int)
              if e4 < y1.2.1 then
                some (0, 0, ByteArray.empty, [], 20, y1.2.2.2.1, y1.2.2.2.2.1, ())
              else
                if (0 : Int) ≤ 0 ∧ (0 : Int) ≤ y1.2.1 ∧ y1.2.1 ≤ (ByteArray.size y1.2.2.2.1 : Int) then
                  let e5 : ByteArray := subS y1.2.2.2.1 y1.2.1 (ByteArray.size y1.2.2.2.1 : Int)
                  if (0 : Int) ≤ y1.2.1 ∧ y1.2.1 ≤ (ByteArray.size y1.2.2.2.1 : Int) ∧ (ByteArray.size y1.2.2.2.1 : Int) ≤ (ByteArray.size y1.2.2.2.1 : Int) then
                    F73_term_reader_term_l1000022 x1 0 e5 y1.2.2.2.2.1 0 0 ByteArray.empty y1.1 0 (subS y1.2.2.2.1 0 y1.2.1) [] []
                  else
                    none
                else
                  none
          else
            if y1.1 = (4 : Int) then
              F73_term_reader_term_l1000022 x1 1 y1.2.2.2.1 y1.2.2.2.2.1 0 0 ByteArray.empty y1.1 y1.2.1 ByteArray.empty [] []
            else
              if y1.1 = (5 : Int) then
                F73_term_reader_term_l1000022 x1 y1.2.1 y1.2.2.2.1 y1.2.2.2.2.1 0 0 ByteArray.empty y1.1 0 ByteArray.empty [] []
              else
                F73_term_reader_term_l1000022 x1 0 y1.2.2.2.1 y1.2.2.2.2.1 0 0 ByteArray.empty y1.1 0 ByteArray.empty [] [] :=
  (F_eq (G := G) rfl fn36 rfl _).trans ((run_eq _ _ _ _).trans (by kernel_rfl))
theorem F73_term_reader_term_l1000022_eq (v1 : Int) (v10 : Int) (h0_0 : ByteArray) (h0_1 : Int) (h1_0 : Int) (h1_1 : Int) (h1_2 : ByteArray) (h2_0 : Int) (h2_1 : Int) (h2_2 : ByteArray) (g3 : (List S25)) (g4 : (List S25)) : F73_term_reader_term_l1000022 v1 v10 h0_0 h0_1 h1_0 h1_1 h1_2 h2_0 h2_1 h2_2 g3 g4 =
    if (0 : Int) < v10 then
      (F73_term_reader_term (IntKind.i64.wrap (v1 + (1 : Int))) h0_0 h0_1).bind fun y1 =>
      if ¬ y1.2.2.2.2.1 = (0 : Int) then
        some (0, 0, ByteArray.empty, [], y1.2.2.2.2.1, y1.2.2.2.2.2.1, y1.2.2.2.2.2.2.1, ())
      else
        if (List.length g4 + List.length [(S25.mk y1.1 y1.2.1 y1.2.2.1 y1.2.2.2.1)]) * 56 ≤ 140737488355328 then
          F73_term_reader_term_l1000022 v1 (IntKind.u64.wrap (v10 - (1 : Int))) y1.2.2.2.2.2.1 y1.2.2.2.2.2.2.1 h1_0 h1_1 h1_2 h2_0 h2_1 h2_2 g3 (g4 ++ [(S25.mk y1.1 y1.2.1 y1.2.2.1 y1.2.2.2.1)])
        else
          none
    else
      some (h2_0, h2_1, h2_2, g4, 0, h0_0, h0_1, ()) :=
  (run_eq _ _ _ _).trans (by kernel_rfl)
theorem F84_term_reader_head_eq (x1 : Int) (h0_0 : ByteArray) (h0_1 : Int) : F84_term_reader_head x1 h0_0 h0_1 =
    if (4000 : Int) ≤ h0_1 then
      some (0, 0, 23, h0_0, h0_1, ())
    else
      if (12 : Int) ≤ x1 then
        some (0, 0, 22, h0_0, h0_1, ())
      else
        if h0_0 = ByteArray.empty then
          some (0, 0, 20, h0_0, h0_1, ())
        else
          if (0 : Int) ≤ 0 ∧ 0 < (ByteArray.size h0_0 : Int) then
            if (IntKind.i64.wrap (bt h0_0 0)) < (1 : Int) then
              some (0, 0, 21, h0_0, (IntKind.i64.wrap (h0_1 + (1 : Int))), ())
            else
              if (5 : Int) < (IntKind.i64.wrap (bt h0_0 0)) then
                some (0, 0, 21, h0_0, (IntKind.i64.wrap (h0_1 + (1 : Int))), ())
              else
                if (0 : Int) ≤ 1 ∧ (1 : Int) ≤ (ByteArray.size h0_0 : Int) ∧ (ByteArray.size h0_0 : Int) ≤ (ByteArray.size h0_0 : Int) then
                  (F88_term_GetNum (subS h0_0 1 (ByteArray.size h0_0 : Int))).bind fun y1 =>
                  if ¬ y1.2.2.1 = (0 : Int) then
                    some (0, 0, y1.2.2.1, h0_0, (IntKind.i64.wrap (h0_1 + (1 : Int))), ())
                  else
                    let e2 : ByteArray := subS h0_0 (IntKind.i64.wrap ((1 : Int) + y1.2.1)) (ByteArray.size h0_0 : Int)
                    if (0 : Int) ≤ (IntKind.i64.wrap ((1 : Int) + y1.2.1)) ∧ (IntKind.i64.wrap ((1 : Int) + y1.2.1)) ≤ (ByteArray.size h0_0 : Int) ∧ (ByteArray.size h0_0 : Int) ≤ (ByteArray.size h0_0 : Int) then
                      some ((IntKind.i64.wrap (bt h0_0 0)), y1.1, 0, e2, (IntKind.i64.wrap (h0_1 + (1 : Int))), ())
                    else
                      none
                else
                  none
          else
            none :=
  (F_eq (G := G) rfl fn37 rfl _).trans ((run_eq _ _ _ _).trans (by kernel_rfl))
theorem F88_term_GetNum_eq (x0 : ByteArray) : F88_term_GetNum x0 =
    F88_term_GetNum_l1000003 x0 0 0 :=
  (F_eq (G := G) rfl fn38 rfl _).trans ((run_eq _ _ _ _).trans (by kernel_rfl))
theorem F88_term_GetNum_l1000003_eq (v0 : ByteArray) (v5 : Int) (v6 : Int) : F88_term_GetNum_l1000003 v0 v5 v6 =
    if v6 < (ByteArray.size v0 : Int) then
      if (0 : Int) ≤ v6 ∧ v6 < (ByteArray.size v0 : Int) then
        if v6 = (9 : Int) then
          if (1 : Int) < (bt v0 v6) then
            some (0, 0, 21, ())
          else
            let e1 : Int := IntKind.u64.wrap (bitsR .and .u8 (bt v0 v6) (127 : Int))
            let e2 : Int := IntKind.u64.wrap (IntKind.i64.wrap ((7 : Int) * v6))
            if 0 ≤ e2 then
              if (shrR .u8 (bt v0 v6) (7 : Int)) = (0 : Int) then
                if (bt v0 v6) = (0 : Int) then
                  if (0 : Int) < v6 then
                    some (0, 0, 21, ())
                  else
                    F88_term_GetNum_l12 (bitsR .or .u64 v5 (shlR .u64 e1 e2)) v6
                else
                  F88_term_GetNum_l12 (bitsR .or .u64 v5 (shlR .u64 e1 e2)) v6
              else
                F88_term_GetNum_l1000003 v0 (bitsR .or .u64 v5 (shlR .u64 e1 e2)) (IntKind.i64.wrap (v6 + (1 : Int)))
            else
              none
        else
          let e3 : Int := IntKind.u64.wrap (bitsR .and .u8 (bt v0 v6) (127 : Int))
          let e4 : Int := IntKind.u64.wrap (IntKind.i64.wrap ((7 : Int) * v6))
          if 0 ≤ e4 then
            if (shrR .u8 (bt v0 v6) (7 : Int)) = (0 : Int) then
              if (bt v0 v6) = (0 : Int) then
                if (0 : Int) < v6 then
                  some (0, 0, 21, ())
                else
                  F88_term_GetNum_l12 (bitsR .or .u64 v5 (shlR .u64 e3 e4)) v6
              else
                F88_term_GetNum_l12 (bitsR .or .u64 v5 (shlR .u64 e3 e4)) v6
            else
              F88_term_GetNum_l1000003 v0 (bitsR .or .u64 v5 (shlR .u64 e3 e4)) (IntKind.i64.wrap (v6 + (1 : Int)))
          else
            none
      else
        none
    else
      some (0, 0, 20, ()) :=
  (run_eq _ _ _ _).trans (by kernel_rfl)
theorem F88_term_GetNum_l12_eq (v5 : Int) (v6 : Int) : F88_term_GetNum_l12 v5 v6 =
    some (v5, (IntKind.i64.wrap (v6 + (1 : Int))), 0, ()) :=
  (run_eq _ _ _ _).trans (by kernel_rfl)
theorem F53_quota_in_eq (x0 : Int) (x1 : Int) (x2 : Int) : F53_quota_in x0 x1 x2 =
    if x1 ≤ x0 then
      some ((decide (x0 ≤ x2)), ())
    else
      some (false, ()) :=
  (F_eq (G := G) rfl fn39 rfl _).trans ((run_eq _ _ _ _).trans (by kernel_rfl))
theorem F26_node_number_eq (x0 : Int) : F26_node_number x0 =
    (F51_term_Num (IntKind.u64.wrap x0)).bind fun y1 =>
    some (y1.1, y1.2.1, y1.2.2.1, y1.2.2.2.1, ()) :=
  (F_eq (G := G) rfl fn40 rfl _).trans ((run_eq _ _ _ _).trans (by kernel_rfl))
theorem F25_node_row_27_eq (x0_0 : Int) (x0_1 : Int) (x0_2 : ByteArray) (x0_3 : (List S25)) (x1 : (List S47)) : F25_node_row_27 x0_0 x0_1 x0_2 x0_3 x1 =
    F25_node_row_27_l1000003 x1 (List.length x1 : Int) 0 0 0 ByteArray.empty [(S25.mk x0_0 x0_1 x0_2 x0_3)] [] :=
  (F_eq (G := G) rfl fn41 rfl _).trans ((run_eq _ _ _ _).trans (by kernel_rfl))
theorem F25_node_row_27_l1000003_eq (v12 : (List S47)) (v13 : Int) (v14 : Int) (h0_0 : Int) (h0_1 : Int) (h0_2 : ByteArray) (g1 : (List S25)) (g2 : (List S25)) : F25_node_row_27_l1000003 v12 v13 v14 h0_0 h0_1 h0_2 g1 g2 =
    if v14 < v13 then
      if (0 : Int) ≤ v14 ∧ v14 < (List.length v12 : Int) then
        (F27_node_Term_1 (S47.f0 (rd S47.z v12 v14)) (S47.f1 (rd S47.z v12 v14))).bind fun y1 =>
        if (List.length g1 + List.length [(S25.mk y1.1 y1.2.1 y1.2.2.1 y1.2.2.2.1)]) * 56 ≤ 140737488355328 then
          F25_node_row_27_l1000003 v12 v13 (IntKind.i64.wrap (v14 + (1 : Int))) h0_0 h0_1 h0_2 (g1 ++ [(S25.mk y1.1 y1.2.1 y1.2.2.1 y1.2.2.2.1)]) g2
        else
          none
      else
        none
    else
      (F31_term_Of g1).bind fun y2 =>
      some (y2.1, y2.2.1, y2.2.2.1, y2.2.2.2.1, ()) :=
  (run_eq _ _ _ _).trans (by kernel_rfl)
theorem F32_node_row_33_eq (x0_0 : Int) (x0_1 : Int) (x0_2 : ByteArray) (x0_3 : (List S25)) (x1 : (List S53)) : F32_node_row_33 x0_0 x0_1 x0_2 x0_3 x1 =
    F32_node_row_33_l1000003 x1 (List.length x1 : Int) 0 0 0 ByteArray.empty [(S25.mk x0_0 x0_1 x0_2 x0_3)] [] :=
  (F_eq (G := G) rfl fn42 rfl _).trans ((run_eq _ _ _ _).trans (by kernel_rfl))
theorem F32_node_row_33_l1000003_eq (v12 : (List S53)) (v13 : Int) (v14 : Int) (h0_0 : Int) (h0_1 : Int) (h0_2 : ByteArray) (g1 : (List S25)) (g2 : (List S25)) : F32_node_row_33_l1000003 v12 v13 v14 h0_0 h0_1 h0_2 g1 g2 =
    if v14 < v13 then
      if (0 : Int) ≤ v14 ∧ v14 < (List.length v12 : Int) then
        (F33_node_Term_2 (S53.f0 (rd S53.z v12 v14)) (S53.f1 (rd S53.z v12 v14)) (S53.f2 (rd S53.z v12 v14)) (S53.f3 (rd S53.z v12 v14)) (S53.f4 (rd S53.z v12 v14))).bind fun y1 =>
        if (List.length g1 + List.length [(S25.mk y1.1 y1.2.1 y1.2.2.1 y1.2.2.2.1)]) * 56 ≤ 140737488355328 then
          F32_node_row_33_l1000003 v12 v13 (IntKind.i64.wrap (v14 + (1 : Int))) h0_0 h0_1 h0_2 (g1 ++ [(S25.mk y1.1 y1.2.1 y1.2.2.1 y1.2.2.2.1)]) g2
        else
          none
      else
        none
    else
      (F31_term_Of g1).bind fun y2 =>
      some (y2.1, y2.2.1, y2.2.2.1, y2.2.2.2.1, ()) :=
  (run_eq _ _ _ _).trans (by kernel_rfl)
theorem F33_node_Term_2_eq (x0_0 : ByteArray) (x0_1 : Int) (x0_2 : Int) (x0_3 : Int) (x0_4 : Int) : F33_node_Term_2 x0_0 x0_1 x0_2 x0_3 x0_4 =
    (F29_term_Atom x0_0).bind fun y1 =>
    (F34_term_Key x0_1).bind fun y2 =>
    (F26_node_number x0_2).bind fun y3 =>
    (F26_node_number x0_3).bind fun y4 =>
    (F26_node_number x0_4).bind fun y5 =>
    let e6 : (List S25) := [(S25.mk y1.1 y1.2.1 y1.2.2.1 y1.2.2.2.1), (S25.mk y2.1 y2.2.1 y2.2.2.1 y2.2.2.2.1), (S25.mk y3.1 y3.2.1 y3.2.2.1 y3.2.2.2.1), (S25.mk y4.1 y4.2.1 y4.2.2.1 y4.2.2.2.1), (S25.mk y5.1 y5.2.1 y5.2.2.1 y5.2.2.2.1)]
    (F31_term_Of e6).bind fun y7 =>
    some (y7.1, y7.2.1, y7.2.2.1, y7.2.2.2.1, ()) :=
  (F_eq (G := G) rfl fn43 rfl _).trans ((run_eq _ _ _ _).trans (by kernel_rfl))
theorem F29_term_Atom_eq (x0 : ByteArray) : F29_term_Atom x0 =
    some (2, 0, x0, [], ()) :=
  (F_eq (G := G) rfl fn44 rfl _).trans ((run_eq _ _ _ _).trans (by kernel_rfl))
theorem F34_term_Key_eq (x0 : Int) : F34_term_Key x0 =
    some (3, x0, ByteArray.empty, [], ()) :=
  (F_eq (G := G) rfl fn45 rfl _).trans ((run_eq _ _ _ _).trans (by kernel_rfl))
theorem F27_node_Term_1_eq (x0_0 : ByteArray) (x0_1 : (List S49)) : F27_node_Term_1 x0_0 x0_1 =
    (F29_term_Atom x0_0).bind fun y1 =>
    (F28_node_row_30 y1.1 y1.2.1 y1.2.2.1 y1.2.2.2.1 x0_1).bind fun y2 =>
    some (y2.1, y2.2.1, y2.2.2.1, y2.2.2.2.1, ()) :=
  (F_eq (G := G) rfl fn46 rfl _).trans ((run_eq _ _ _ _).trans (by kernel_rfl))
theorem F28_node_row_30_eq (x0_0 : Int) (x0_1 : Int) (x0_2 : ByteArray) (x0_3 : (List S25)) (x1 : (List S49)) : F28_node_row_30 x0_0 x0_1 x0_2 x0_3 x1 =
    F28_node_row_30_l1000003 x1 (List.length x1 : Int) 0 0 0 ByteArray.empty [(S25.mk x0_0 x0_1 x0_2 x0_3)] [] :=
  (F_eq (G := G) rfl fn47 rfl _).trans ((run_eq _ _ _ _).trans (by kernel_rfl))
theorem F28_node_row_30_l1000003_eq (v12 : (List S49)) (v13 : Int) (v14 : Int) (h0_0 : Int) (h0_1 : Int) (h0_2 : ByteArray) (g1 : (List S25)) (g2 : (List S25)) : F28_node_row_30_l1000003 v12 v13 v14 h0_0 h0_1 h0_2 g1 g2 =
    if v14 < v13 then
      if (0 : Int) ≤ v14 ∧ v14 < (List.length v12 : Int) then
        (F30_node_Term_1_1 (S49.f0 (rd S49.z v12 v14)) (S49.f1 (rd S49.z v12 v14)) (S49.f2 (rd S49.z v12 v14))).bind fun y1 =>
        if (List.length g1 + List.length [(S25.mk y1.1 y1.2.1 y1.2.2.1 y1.2.2.2.1)]) * 56 ≤ 140737488355328 then
          F28_node_row_30_l1000003 v12 v13 (IntKind.i64.wrap (v14 + (1 : Int))) h0_0 h0_1 h0_2 (g1 ++ [(S25.mk y1.1 y1.2.1 y1.2.2.1 y1.2.2.2.1)]) g2
        else
          none
      else
        none
    else
      (F31_term_Of g1).bind fun y2 =>
      some (y2.1, y2.2.1, y2.2.2.1, y2.2.2.2.1, ()) :=
  (run_eq _ _ _ _).trans (by kernel_rfl)
theorem F30_node_Term_1_1_eq (x0_0 : Int) (x0_1 : ByteArray) (x0_2 : ByteArray) : F30_node_Term_1_1 x0_0 x0_1 x0_2 =
    (F26_node_number x0_0).bind fun y1 =>
    (F29_term_Atom x0_1).bind fun y2 =>
    (F29_term_Atom x0_2).bind fun y3 =>
    let e4 : (List S25) := [(S25.mk y1.1 y1.2.1 y1.2.2.1 y1.2.2.2.1), (S25.mk y2.1 y2.2.1 y2.2.2.1 y2.2.2.2.1), (S25.mk y3.1 y3.2.1 y3.2.2.1 y3.2.2.2.1)]
    (F31_term_Of e4).bind fun y5 =>
    some (y5.1, y5.2.1, y5.2.2.1, y5.2.2.2.1, ()) :=
  (F_eq (G := G) rfl fn48 rfl _).trans ((run_eq _ _ _ _).trans (by kernel_rfl))
theorem F51_term_Num_eq (x0 : Int) : F51_term_Num x0 =
    some (1, x0, ByteArray.empty, [], ()) :=
  (F_eq (G := G) rfl fn49 rfl _).trans ((run_eq _ _ _ _).trans (by kernel_rfl))
theorem F22_letheref06_Term_eq (x0_0 : Int) (x0_1 : Int) (x0_2 : Int) (x0_3 : Int) (x0_4 : Int) (x0_5 : Int) (x0_6 : Int) (x1_0 : Bool) (x1_1 : (List S47)) (x1_2 : (List S53)) : F22_letheref06_Term x0_0 x0_1 x0_2 x0_3 x0_4 x0_5 x0_6 x1_0 x1_1 x1_2 =
    (F46_letheref06_Right x0_0 x0_1 x0_2 x0_3 x0_4 x0_5 x0_6 x1_0 x1_1 x1_2).bind fun y1 =>
    if ¬ y1.1 = (0 : Int) then
      some (0, 0, ByteArray.empty, [], y1.1, ())
    else
      (F47_letheref06_Of x1_0 x1_1 x1_2).bind fun y2 =>
      some (y2.1, y2.2.1, y2.2.2.1, y2.2.2.2.1, 0, ()) :=
  (F_eq (G := G) rfl fn50 rfl _).trans ((run_eq _ _ _ _).trans (by kernel_rfl))
theorem F23_letheref03_Pack_eq (x0 : Int) (x1_0 : Int) (x1_1 : Int) (x1_2 : ByteArray) (x1_3 : (List S25)) : F23_letheref03_Pack x0 x1_0 x1_1 x1_2 x1_3 =
    (F18_letheref03_Seal x0 x1_0 x1_1 x1_2 x1_3).bind fun y1 =>
    if ¬ y1.2.2.2.2.1 = (0 : Int) then
      some (ByteArray.empty, y1.2.2.2.2.1, ())
    else
      (F48_letheref02_Bytes y1.1 y1.2.1 y1.2.2.1 y1.2.2.2.1).bind fun y2 =>
      some (y2.1, 0, ()) :=
  (F_eq (G := G) rfl fn51 rfl _).trans ((run_eq _ _ _ _).trans (by kernel_rfl))
theorem F18_letheref03_Seal_eq (x0 : Int) (x1_0 : Int) (x1_1 : Int) (x1_2 : ByteArray) (x1_3 : (List S25)) : F18_letheref03_Seal x0 x1_0 x1_1 x1_2 x1_3 =
    (F17_letheref02_Right x1_0 x1_1 x1_2 x1_3).bind fun y1 =>
    if ¬ y1.1 = (0 : Int) then
      (F17_letheref02_Right x1_0 x1_1 x1_2 x1_3).bind fun y2 =>
      some (0, 0, ByteArray.empty, [], y2.1, ())
    else
      (F44_letheref03_Box x0 x1_0 x1_1 x1_2 x1_3).bind fun y3 =>
      (F17_letheref02_Right y3.1 y3.2.1 y3.2.2.1 y3.2.2.2.1).bind fun y4 =>
      if ¬ y4.1 = (0 : Int) then
        (F17_letheref02_Right y3.1 y3.2.1 y3.2.2.1 y3.2.2.2.1).bind fun y5 =>
        some (0, 0, ByteArray.empty, [], y5.1, ())
      else
        some (y3.1, y3.2.1, y3.2.2.1, y3.2.2.2.1, 0, ()) :=
  (F_eq (G := G) rfl fn52 rfl _).trans ((run_eq _ _ _ _).trans (by kernel_rfl))
theorem F48_letheref02_Bytes_eq (x0_0 : Int) (x0_1 : Int) (x0_2 : ByteArray) (x0_3 : (List S25)) : F48_letheref02_Bytes x0_0 x0_1 x0_2 x0_3 =
    if x0_0 = (1 : Int) then
      if x0_0 = (1 : Int) then
        (F71_letheref02_PutNum x0_1).bind fun y1 =>
        if ByteArray.size (strB [(IntKind.u8.wrap x0_0)]) + ByteArray.size y1.1 ≤ 9223372036854775807 then
          F48_letheref02_Bytes_l11 ((strB [(IntKind.u8.wrap x0_0)]) ++ y1.1) x0_0 x0_1 x0_2 x0_3
        else
          none
      else
        if x0_0 = (2 : Int) then
          (F71_letheref02_PutNum (IntKind.u64.wrap (ByteArray.size x0_2 : Int))).bind fun y2 =>
          if ByteArray.size (strB [(IntKind.u8.wrap x0_0)]) + ByteArray.size y2.1 ≤ 9223372036854775807 then
            let e3 : ByteArray := ((strB [(IntKind.u8.wrap x0_0)]) ++ y2.1) ++ x0_2
            if ByteArray.size ((strB [(IntKind.u8.wrap x0_0)]) ++ y2.1) + ByteArray.size x0_2 ≤ 9223372036854775807 then
              F48_letheref02_Bytes_l11 e3 x0_0 x0_1 x0_2 x0_3
            else
              none
          else
            none
        else
          if x0_0 = (5 : Int) then
            (F71_letheref02_PutNum (IntKind.u64.wrap (List.length x0_3 : Int))).bind fun y4 =>
            if ByteArray.size (strB [(IntKind.u8.wrap x0_0)]) + ByteArray.size y4.1 ≤ 9223372036854775807 then
              F48_letheref02_Bytes_l11 ((strB [(IntKind.u8.wrap x0_0)]) ++ y4.1) x0_0 x0_1 x0_2 x0_3
            else
              none
          else
            F48_letheref02_Bytes_l11 (strB [(IntKind.u8.wrap x0_0)]) x0_0 x0_1 x0_2 x0_3
    else
      if x0_0 = (3 : Int) then
        if x0_0 = (3 : Int) then
          (F71_letheref02_PutNum x0_1).bind fun y5 =>
          if ByteArray.size (strB [(IntKind.u8.wrap x0_0)]) + ByteArray.size y5.1 ≤ 9223372036854775807 then
            F48_letheref02_Bytes_l11 ((strB [(IntKind.u8.wrap x0_0)]) ++ y5.1) x0_0 x0_1 x0_2 x0_3
          else
            none
        else
          if x0_0 = (2 : Int) then
            (F71_letheref02_PutNum (IntKind.u64.wrap (ByteArray.size x0_2 : Int))).bind fun y6 =>
            if ByteArray.size (strB [(IntKind.u8.wrap x0_0)]) + ByteArray.size y6.1 ≤ 9223372036854775807 then
              let e7 : ByteArray := ((strB [(IntKind.u8.wrap x0_0)]) ++ y6.1) ++ x0_2
              if ByteArray.size ((strB [(IntKind.u8.wrap x0_0)]) ++ y6.1) + ByteArray.size x0_2 ≤ 9223372036854775807 then
                F48_letheref02_Bytes_l11 e7 x0_0 x0_1 x0_2 x0_3
              else
                none
            else
              none
          else
            if x0_0 = (5 : Int) then
              (F71_letheref02_PutNum (IntKind.u64.wrap (List.length x0_3 : Int))).bind fun y8 =>
              if ByteArray.size (strB [(IntKind.u8.wrap x0_0)]) + ByteArray.size y8.1 ≤ 9223372036854775807 then
                F48_letheref02_Bytes_l11 ((strB [(IntKind.u8.wrap x0_0)]) ++ y8.1) x0_0 x0_1 x0_2 x0_3
              else
                none
            else
              F48_letheref02_Bytes_l11 (strB [(IntKind.u8.wrap x0_0)]) x0_0 x0_1 x0_2 x0_3
      else
        if x0_0 = (4 : Int) then
          (F71_letheref02_PutNum x0_1).bind fun y9 =>
          if ByteArray.size (strB [(IntKind.u8.wrap x0_0)]) + ByteArray.size y9.1 ≤ 9223372036854775807 then
            F48_letheref02_Bytes_l11 ((strB [(IntKind.u8.wrap x0_0)]) ++ y9.1) x0_0 x0_1 x0_2 x0_3
          else
            none
        else
          if x0_0 = (2 : Int) then
            (F71_letheref02_PutNum (IntKind.u64.wrap (ByteArray.size x0_2 : Int))).bind fun y10 =>
            if ByteArray.size (strB [(IntKind.u8.wrap x0_0)]) + ByteArray.size y10.1 ≤ 9223372036854775807 then
              let e11 : ByteArray := ((strB [(IntKind.u8.wrap x0_0)]) ++ y10.1) ++ x0_2
              if ByteArray.size ((strB [(IntKind.u8.wrap x0_0)]) ++ y10.1) + ByteArray.size x0_2 ≤ 9223372036854775807 then
                F48_letheref02_Bytes_l11 e11 x0_0 x0_1 x0_2 x0_3
              else
                none
            else
              none
          else
            if x0_0 = (5 : Int) then
              (F71_letheref02_PutNum (IntKind.u64.wrap (List.length x0_3 : Int))).bind fun y12 =>
              if ByteArray.size (strB [(IntKind.u8.wrap x0_0)]) + ByteArray.size y12.1 ≤ 9223372036854775807 then
                F48_letheref02_Bytes_l11 ((strB [(IntKind.u8.wrap x0_0)]) ++ y12.1) x0_0 x0_1 x0_2 x0_3
              else
                none
            else
              F48_letheref02_Bytes_l11 (strB [(IntKind.u8.wrap x0_0)]) x0_0 x0_1 x0_2 x0_3 :=
  (F_eq (G := G) rfl fn53 rfl _).trans ((run_eq _ _ _ _).trans (by kernel_rfl))
theorem F48_letheref02_Bytes_l11_eq (v3 : ByteArray) (h0_0 : Int) (h0_1 : Int) (h0_2 : ByteArray) (h0_3 : (List S25)) : F48_letheref02_Bytes_l11 v3 h0_0 h0_1 h0_2 h0_3 =
    F48_letheref02_Bytes_l1000012 v3 h0_3 (List.length h0_3 : Int) 0 :=
  (run_eq _ _ _ _).trans (by kernel_rfl)
theorem F48_letheref02_Bytes_l1000012_eq (v3 : ByteArray) (v45 : (List S25)) (v46 : Int) (v47 : Int) : F48_letheref02_Bytes_l1000012 v3 v45 v46 v47 =
    if v47 < v46 then
      if (0 : Int) ≤ v47 ∧ v47 < (List.length v45 : Int) then
        (F48_letheref02_Bytes (S25.f0 (rd S25.z v45 v47)) (S25.f1 (rd S25.z v45 v47)) (S25.f2 (rd S25.z v45 v47)) (S25.f3 (rd S25.z v45 v47))).bind fun y1 =>
        if ByteArray.size v3 + ByteArray.size y1.1 ≤ 9223372036854775807 then
          F48_letheref02_Bytes_l1000012 (v3 ++ y1.1) v45 v46 (IntKind.i64.wrap (v47 + (1 : Int)))
        else
          none
      else
        none
    else
      some (v3, ()) :=
  (run_eq _ _ _ _).trans (by kernel_rfl)
theorem F71_letheref02_PutNum_eq (x0 : Int) : F71_letheref02_PutNum x0 =
    F71_letheref02_PutNum_l1000002 x0 [] :=
  (F_eq (G := G) rfl fn54 rfl _).trans ((run_eq _ _ _ _).trans (by kernel_rfl))
theorem F71_letheref02_PutNum_l1000002_eq (v0 : Int) (g0 : (List Int)) : F71_letheref02_PutNum_l1000002 v0 g0 =
    if (127 : Int) < v0 then
      let e1 : Int := IntKind.u64.wrap ((Int.tmod v0 (128 : Int)) + (128 : Int))
      if (List.length g0 + List.length [(IntKind.u8.wrap e1)]) * 1 ≤ 140737488355328 then
        F71_letheref02_PutNum_l1000002 (IntKind.u64.wrap (Int.tdiv v0 (128 : Int))) (g0 ++ [(IntKind.u8.wrap e1)])
      else
        none
    else
      if (List.length g0 + List.length [(IntKind.u8.wrap v0)]) * 1 ≤ 140737488355328 then
        some ((strB (g0 ++ [(IntKind.u8.wrap v0)])), ())
      else
        none :=
  (run_eq _ _ _ _).trans (by kernel_rfl)
theorem F17_letheref02_Right_eq (x0_0 : Int) (x0_1 : Int) (x0_2 : ByteArray) (x0_3 : (List S25)) : F17_letheref02_Right x0_0 x0_1 x0_2 x0_3 =
    (F41_letheref02_Parts x0_0 x0_1 x0_2 x0_3 4001).bind fun y1 =>
    if (4000 : Int) < y1.1 then
      some (23, ())
    else
      (F42_letheref02_Deep x0_0 x0_1 x0_2 x0_3 13).bind fun y2 =>
      if (12 : Int) < y2.1 then
        some (22, ())
      else
        (F43_letheref02_shaped x0_0 x0_1 x0_2 x0_3).bind fun y3 =>
        if (!y3.1) = true then
          some (25, ())
        else
          some (0, ()) :=
  (F_eq (G := G) rfl fn55 rfl _).trans ((run_eq _ _ _ _).trans (by kernel_rfl))
theorem F44_letheref03_Box_eq (x0 : Int) (x1_0 : Int) (x1_1 : Int) (x1_2 : ByteArray) (x1_3 : (List S25)) : F44_letheref03_Box x0 x1_0 x1_1 x1_2 x1_3 =
    (F45_letheref02_Copy x1_0 x1_1 x1_2 x1_3).bind fun y1 =>
    some (4, x0, ByteArray.empty, [(S25.mk y1.1 y1.2.1 y1.2.2.1 y1.2.2.2.1)], ()) :=
  (F_eq (G := G) rfl fn56 rfl _).trans ((run_eq _ _ _ _).trans (by kernel_rfl))
theorem F45_letheref02_Copy_eq (x0_0 : Int) (x0_1 : Int) (x0_2 : ByteArray) (x0_3 : (List S25)) : F45_letheref02_Copy x0_0 x0_1 x0_2 x0_3 =
    F45_letheref02_Copy_l1000003 x0_3 (List.length x0_3 : Int) 0 0 0 ByteArray.empty x0_0 x0_1 x0_2 [] [] :=
  (F_eq (G := G) rfl fn57 rfl _).trans ((run_eq _ _ _ _).trans (by kernel_rfl))
theorem F45_letheref02_Copy_l1000003_eq (v15 : (List S25)) (v16 : Int) (v17 : Int) (h0_0 : Int) (h0_1 : Int) (h0_2 : ByteArray) (h1_0 : Int) (h1_1 : Int) (h1_2 : ByteArray) (g2 : (List S25)) (g3 : (List S25)) : F45_letheref02_Copy_l1000003 v15 v16 v17 h0_0 h0_1 h0_2 h1_0 h1_1 h1_2 g2 g3 =
    if v17 < v16 then
      if (0 : Int) ≤ v17 ∧ v17 < (List.length v15 : Int) then
        (F45_letheref02_Copy (S25.f0 (rd S25.z v15 v17)) (S25.f1 (rd S25.z v15 v17)) (S25.f2 (rd S25.z v15 v17)) (S25.f3 (rd S25.z v15 v17))).bind fun y1 =>
        if (List.length g3 + List.length [(S25.mk y1.1 y1.2.1 y1.2.2.1 y1.2.2.2.1)]) * 56 ≤ 140737488355328 then
          F45_letheref02_Copy_l1000003 v15 v16 (IntKind.i64.wrap (v17 + (1 : Int))) h0_0 h0_1 h0_2 h1_0 h1_1 h1_2 g2 (g3 ++ [(S25.mk y1.1 y1.2.1 y1.2.2.1 y1.2.2.2.1)])
        else
          none
      else
        none
    else
      some (h1_0, h1_1, h1_2, g3, ()) :=
  (run_eq _ _ _ _).trans (by kernel_rfl)
theorem F41_letheref02_Parts_eq (x0_0 : Int) (x0_1 : Int) (x0_2 : ByteArray) (x0_3 : (List S25)) (x1 : Int) : F41_letheref02_Parts x0_0 x0_1 x0_2 x0_3 x1 =
    F41_letheref02_Parts_l1000003 x1 1 x0_3 (List.length x0_3 : Int) 0 :=
  (F_eq (G := G) rfl fn58 rfl _).trans ((run_eq _ _ _ _).trans (by kernel_rfl))
theorem F41_letheref02_Parts_l1000003_eq (v1 : Int) (v5 : Int) (v9 : (List S25)) (v10 : Int) (v11 : Int) : F41_letheref02_Parts_l1000003 v1 v5 v9 v10 v11 =
    if v11 < v10 then
      if (0 : Int) ≤ v11 ∧ v11 < (List.length v9 : Int) then
        if v1 ≤ v5 then
          some (v1, ())
        else
          (F41_letheref02_Parts (S25.f0 (rd S25.z v9 v11)) (S25.f1 (rd S25.z v9 v11)) (S25.f2 (rd S25.z v9 v11)) (S25.f3 (rd S25.z v9 v11)) (IntKind.i64.wrap (v1 - v5))).bind fun y1 =>
          F41_letheref02_Parts_l1000003 v1 (IntKind.i64.wrap (v5 + y1.1)) v9 v10 (IntKind.i64.wrap (v11 + (1 : Int)))
      else
        none
    else
      if v1 < v5 then
        some (v1, ())
      else
        some (v5, ()) :=
  (run_eq _ _ _ _).trans (by kernel_rfl)
theorem F42_letheref02_Deep_eq (x0_0 : Int) (x0_1 : Int) (x0_2 : ByteArray) (x0_3 : (List S25)) (x1 : Int) : F42_letheref02_Deep x0_0 x0_1 x0_2 x0_3 x1 =
    if x1 ≤ (1 : Int) then
      some (x1, ())
    else
      F42_letheref02_Deep_l1000005 x1 0 x0_3 (List.length x0_3 : Int) 0 :=
  (F_eq (G := G) rfl fn59 rfl _).trans ((run_eq _ _ _ _).trans (by kernel_rfl))
theorem F42_letheref02_Deep_l1000005_eq (v1 : Int) (v5 : Int) (v13 : (List S25)) (v14 : Int) (v15 : Int) : F42_letheref02_Deep_l1000005 v1 v5 v13 v14 v15 =
    if v15 < v14 then
      if (0 : Int) ≤ v15 ∧ v15 < (List.length v13 : Int) then
        (F42_letheref02_Deep (S25.f0 (rd S25.z v13 v15)) (S25.f1 (rd S25.z v13 v15)) (S25.f2 (rd S25.z v13 v15)) (S25.f3 (rd S25.z v13 v15)) (IntKind.i64.wrap (v1 - (1 : Int)))).bind fun y1 =>
        if v5 < y1.1 then
          if (IntKind.i64.wrap (v1 - (1 : Int))) ≤ y1.1 then
            some (v1, ())
          else
            F42_letheref02_Deep_l1000005 v1 y1.1 v13 v14 (IntKind.i64.wrap (v15 + (1 : Int)))
        else
          if (IntKind.i64.wrap (v1 - (1 : Int))) ≤ v5 then
            some (v1, ())
          else
            F42_letheref02_Deep_l1000005 v1 v5 v13 v14 (IntKind.i64.wrap (v15 + (1 : Int)))
      else
        none
    else
      some ((IntKind.i64.wrap (v5 + (1 : Int))), ()) :=
  (run_eq _ _ _ _).trans (by kernel_rfl)
theorem F43_letheref02_shaped_eq (x0_0 : Int) (x0_1 : Int) (x0_2 : ByteArray) (x0_3 : (List S25)) : F43_letheref02_shaped x0_0 x0_1 x0_2 x0_3 =
    (F63_letheref02_One x0_0 x0_1 x0_2 x0_3).bind fun y1 =>
    if (!y1.1) = true then
      some (false, ())
    else
      F43_letheref02_shaped_l1000004 x0_3 (List.length x0_3 : Int) 0 :=
  (F_eq (G := G) rfl fn60 rfl _).trans ((run_eq _ _ _ _).trans (by kernel_rfl))
theorem F43_letheref02_shaped_l1000004_eq (v9 : (List S25)) (v10 : Int) (v11 : Int) : F43_letheref02_shaped_l1000004 v9 v10 v11 =
    if v11 < v10 then
      if (0 : Int) ≤ v11 ∧ v11 < (List.length v9 : Int) then
        (F43_letheref02_shaped (S25.f0 (rd S25.z v9 v11)) (S25.f1 (rd S25.z v9 v11)) (S25.f2 (rd S25.z v9 v11)) (S25.f3 (rd S25.z v9 v11))).bind fun y1 =>
        if (!y1.1) = true then
          some (false, ())
        else
          F43_letheref02_shaped_l1000004 v9 v10 (IntKind.i64.wrap (v11 + (1 : Int)))
      else
        none
    else
      some (true, ()) :=
  (run_eq _ _ _ _).trans (by kernel_rfl)
theorem F63_letheref02_One_eq (x0_0 : Int) (x0_1 : Int) (x0_2 : ByteArray) (x0_3 : (List S25)) : F63_letheref02_One x0_0 x0_1 x0_2 x0_3 =
    if x0_0 = (1 : Int) then
      if x0_0 = (1 : Int) then
        if x0_2 = ByteArray.empty then
          some ((decide ((List.length x0_3 : Int) = (0 : Int))), ())
        else
          some (false, ())
      else
        if x0_0 = (2 : Int) then
          if x0_1 = (0 : Int) then
            if (ByteArray.size x0_2 : Int) ≤ (4000 : Int) then
              some ((decide ((List.length x0_3 : Int) = (0 : Int))), ())
            else
              some (false, ())
          else
            some (false, ())
        else
          if x0_0 = (4 : Int) then
            if x0_2 = ByteArray.empty then
              some ((decide ((List.length x0_3 : Int) = (1 : Int))), ())
            else
              some (false, ())
          else
            if x0_0 = (5 : Int) then
              if x0_1 = (0 : Int) then
                some ((decide (x0_2 = ByteArray.empty)), ())
              else
                some (false, ())
            else
              some (false, ())
    else
      if x0_0 = (3 : Int) then
        if x0_2 = ByteArray.empty then
          some ((decide ((List.length x0_3 : Int) = (0 : Int))), ())
        else
          some (false, ())
      else
        if x0_0 = (2 : Int) then
          if x0_1 = (0 : Int) then
            if (ByteArray.size x0_2 : Int) ≤ (4000 : Int) then
              some ((decide ((List.length x0_3 : Int) = (0 : Int))), ())
            else
              some (false, ())
          else
            some (false, ())
        else
          if x0_0 = (4 : Int) then
            if x0_2 = ByteArray.empty then
              some ((decide ((List.length x0_3 : Int) = (1 : Int))), ())
            else
              some (false, ())
          else
            if x0_0 = (5 : Int) then
              if x0_1 = (0 : Int) then
                some ((decide (x0_2 = ByteArray.empty)), ())
              else
                some (false, ())
            else
              some (false, ()) :=
  (F_eq (G := G) rfl fn61 rfl _).trans ((run_eq _ _ _ _).trans (by kernel_rfl))
theorem F46_letheref06_Right_eq (x0_0 : Int) (x0_1 : Int) (x0_2 : Int) (x0_3 : Int) (x0_4 : Int) (x0_5 : Int) (x0_6 : Int) (x1_0 : Bool) (x1_1 : (List S47)) (x1_2 : (List S53)) : F46_letheref06_Right x0_0 x0_1 x0_2 x0_3 x0_4 x0_5 x0_6 x1_0 x1_1 x1_2 =
    (F64_letheref04_Right x0_0 x0_1 x0_2 x0_3 x0_4 x0_5 x0_6).bind fun y1 =>
    if (!y1.1) = true then
      some (40, ())
    else
      if x1_0 = true then
        (F65_letheref06_leaf x0_0 x0_1 x0_2 x0_3 x0_4 x0_5 x0_6 x1_0 x1_1 x1_2).bind fun y2 =>
        some (y2.1, ())
      else
        (F66_letheref06_inner x0_0 x0_1 x0_2 x0_3 x0_4 x0_5 x0_6 x1_0 x1_1 x1_2).bind fun y3 =>
        some (y3.1, ()) :=
  (F_eq (G := G) rfl fn62 rfl _).trans ((run_eq _ _ _ _).trans (by kernel_rfl))
theorem F47_letheref06_Of_eq (x0_0 : Bool) (x0_1 : (List S47)) (x0_2 : (List S53)) : F47_letheref06_Of x0_0 x0_1 x0_2 =
    if x0_0 = true then
      (F67_letheref06_Num 1).bind fun y1 =>
      F47_letheref06_Of_l1000004 x0_1 (List.length x0_1 : Int) 0 0 0 ByteArray.empty [(S25.mk y1.1 y1.2.1 y1.2.2.1 y1.2.2.2.1)] []
    else
      (F67_letheref06_Num 2).bind fun y2 =>
      F47_letheref06_Of_l1000011 x0_2 (List.length x0_2 : Int) 0 0 0 ByteArray.empty [(S25.mk y2.1 y2.2.1 y2.2.2.1 y2.2.2.2.1)] [] :=
  (F_eq (G := G) rfl fn63 rfl _).trans ((run_eq _ _ _ _).trans (by kernel_rfl))
theorem F47_letheref06_Of_l1000004_eq (v14 : (List S47)) (v15 : Int) (v16 : Int) (h0_0 : Int) (h0_1 : Int) (h0_2 : ByteArray) (g1 : (List S25)) (g2 : (List S25)) : F47_letheref06_Of_l1000004 v14 v15 v16 h0_0 h0_1 h0_2 g1 g2 =
    if v16 < v15 then
      if (0 : Int) ≤ v16 ∧ v16 < (List.length v14 : Int) then
        (F68_letheref06_entryTerm (S47.f0 (rd S47.z v14 v16)) (S47.f1 (rd S47.z v14 v16))).bind fun y1 =>
        if (List.length g1 + List.length [(S25.mk y1.1 y1.2.1 y1.2.2.1 y1.2.2.2.1)]) * 56 ≤ 140737488355328 then
          F47_letheref06_Of_l1000004 v14 v15 (IntKind.i64.wrap (v16 + (1 : Int))) h0_0 h0_1 h0_2 (g1 ++ [(S25.mk y1.1 y1.2.1 y1.2.2.1 y1.2.2.2.1)]) g2
        else
          none
      else
        none
    else
      (F69_letheref06_Row g1).bind fun y2 =>
      some (y2.1, y2.2.1, y2.2.2.1, y2.2.2.2.1, ()) :=
  (run_eq _ _ _ _).trans (by kernel_rfl)
theorem F47_letheref06_Of_l1000011_eq (v31 : (List S53)) (v32 : Int) (v33 : Int) (h0_0 : Int) (h0_1 : Int) (h0_2 : ByteArray) (g1 : (List S25)) (g2 : (List S25)) : F47_letheref06_Of_l1000011 v31 v32 v33 h0_0 h0_1 h0_2 g1 g2 =
    if v33 < v32 then
      if (0 : Int) ≤ v33 ∧ v33 < (List.length v31 : Int) then
        (F70_letheref06_kidTerm (S53.f0 (rd S53.z v31 v33)) (S53.f1 (rd S53.z v31 v33)) (S53.f2 (rd S53.z v31 v33)) (S53.f3 (rd S53.z v31 v33)) (S53.f4 (rd S53.z v31 v33))).bind fun y1 =>
        if (List.length g1 + List.length [(S25.mk y1.1 y1.2.1 y1.2.2.1 y1.2.2.2.1)]) * 56 ≤ 140737488355328 then
          F47_letheref06_Of_l1000011 v31 v32 (IntKind.i64.wrap (v33 + (1 : Int))) h0_0 h0_1 h0_2 (g1 ++ [(S25.mk y1.1 y1.2.1 y1.2.2.1 y1.2.2.2.1)]) g2
        else
          none
      else
        none
    else
      (F69_letheref06_Row g1).bind fun y2 =>
      some (y2.1, y2.2.1, y2.2.2.1, y2.2.2.2.1, ()) :=
  (run_eq _ _ _ _).trans (by kernel_rfl)
theorem F67_letheref06_Num_eq (x0 : Int) : F67_letheref06_Num x0 =
    some (1, (IntKind.u64.wrap x0), ByteArray.empty, [], ()) :=
  (F_eq (G := G) rfl fn64 rfl _).trans ((run_eq _ _ _ _).trans (by kernel_rfl))
theorem F68_letheref06_entryTerm_eq (x0_0 : ByteArray) (x0_1 : (List S49)) : F68_letheref06_entryTerm x0_0 x0_1 =
    (F81_letheref06_Atom x0_0).bind fun y1 =>
    F68_letheref06_entryTerm_l1000003 x0_1 (List.length x0_1 : Int) 0 0 0 ByteArray.empty [(S25.mk y1.1 y1.2.1 y1.2.2.1 y1.2.2.2.1)] [] :=
  (F_eq (G := G) rfl fn65 rfl _).trans ((run_eq _ _ _ _).trans (by kernel_rfl))
theorem F68_letheref06_entryTerm_l1000003_eq (v11 : (List S49)) (v12 : Int) (v13 : Int) (h0_0 : Int) (h0_1 : Int) (h0_2 : ByteArray) (g1 : (List S25)) (g2 : (List S25)) : F68_letheref06_entryTerm_l1000003 v11 v12 v13 h0_0 h0_1 h0_2 g1 g2 =
    if v13 < v12 then
      if (0 : Int) ≤ v13 ∧ v13 < (List.length v11 : Int) then
        (F67_letheref06_Num (S49.f0 (rd S49.z v11 v13))).bind fun y1 =>
        (F81_letheref06_Atom (S49.f1 (rd S49.z v11 v13))).bind fun y2 =>
        (F81_letheref06_Atom (S49.f2 (rd S49.z v11 v13))).bind fun y3 =>
        let e4 : (List S25) := [(S25.mk y1.1 y1.2.1 y1.2.2.1 y1.2.2.2.1), (S25.mk y2.1 y2.2.1 y2.2.2.1 y2.2.2.2.1), (S25.mk y3.1 y3.2.1 y3.2.2.1 y3.2.2.2.1)]
        (F69_letheref06_Row e4).bind fun y5 =>
        if (List.length g1 + List.length [(S25.mk y5.1 y5.2.1 y5.2.2.1 y5.2.2.2.1)]) * 56 ≤ 140737488355328 then
          F68_letheref06_entryTerm_l1000003 v11 v12 (IntKind.i64.wrap (v13 + (1 : Int))) h0_0 h0_1 h0_2 (g1 ++ [(S25.mk y5.1 y5.2.1 y5.2.2.1 y5.2.2.2.1)]) g2
        else
          none
      else
        none
    else
      (F69_letheref06_Row g1).bind fun y6 =>
      some (y6.1, y6.2.1, y6.2.2.1, y6.2.2.2.1, ()) :=
  (run_eq _ _ _ _).trans (by kernel_rfl)
theorem F69_letheref06_Row_eq (x0 : (List S25)) : F69_letheref06_Row x0 =
    some (5, 0, ByteArray.empty, x0, ()) :=
  (F_eq (G := G) rfl fn66 rfl _).trans ((run_eq _ _ _ _).trans (by kernel_rfl))
theorem F70_letheref06_kidTerm_eq (x0_0 : ByteArray) (x0_1 : Int) (x0_2 : Int) (x0_3 : Int) (x0_4 : Int) : F70_letheref06_kidTerm x0_0 x0_1 x0_2 x0_3 x0_4 =
    (F81_letheref06_Atom x0_0).bind fun y1 =>
    (F82_letheref06_Key x0_1).bind fun y2 =>
    (F67_letheref06_Num x0_2).bind fun y3 =>
    (F67_letheref06_Num x0_3).bind fun y4 =>
    (F67_letheref06_Num x0_4).bind fun y5 =>
    let e6 : (List S25) := [(S25.mk y1.1 y1.2.1 y1.2.2.1 y1.2.2.2.1), (S25.mk y2.1 y2.2.1 y2.2.2.1 y2.2.2.2.1), (S25.mk y3.1 y3.2.1 y3.2.2.1 y3.2.2.2.1), (S25.mk y4.1 y4.2.1 y4.2.2.1 y4.2.2.2.1), (S25.mk y5.1 y5.2.1 y5.2.2.1 y5.2.2.2.1)]
    (F69_letheref06_Row e6).bind fun y7 =>
    some (y7.1, y7.2.1, y7.2.2.1, y7.2.2.2.1, ()) :=
  (F_eq (G := G) rfl fn67 rfl _).trans ((run_eq _ _ _ _).trans (by kernel_rfl))
theorem F81_letheref06_Atom_eq (x0 : ByteArray) : F81_letheref06_Atom x0 =
    some (2, 0, x0, [], ()) :=
  (F_eq (G := G) rfl fn68 rfl _).trans ((run_eq _ _ _ _).trans (by kernel_rfl))
theorem F82_letheref06_Key_eq (x0 : Int) : F82_letheref06_Key x0 =
    some (3, x0, ByteArray.empty, [], ()) :=
  (F_eq (G := G) rfl fn69 rfl _).trans ((run_eq _ _ _ _).trans (by kernel_rfl))
theorem F64_letheref04_Right_eq (x0_0 : Int) (x0_1 : Int) (x0_2 : Int) (x0_3 : Int) (x0_4 : Int) (x0_5 : Int) (x0_6 : Int) : F64_letheref04_Right x0_0 x0_1 x0_2 x0_3 x0_4 x0_5 x0_6 =
    if x0_0 < (1 : Int) then
      F64_letheref04_Right_l2 
    else
      if (64 : Int) < x0_0 then
        F64_letheref04_Right_l2 
      else
        if x0_1 < (1 : Int) then
          F64_letheref04_Right_l2 
        else
          if (16 : Int) < x0_1 then
            F64_letheref04_Right_l2 
          else
            if x0_2 < (0 : Int) then
              F64_letheref04_Right_l2 
            else
              if (32 : Int) < x0_2 then
                F64_letheref04_Right_l2 
              else
                if x0_3 < (0 : Int) then
                  F64_letheref04_Right_l2 
                else
                  if (16 : Int) < x0_3 then
                    F64_letheref04_Right_l2 
                  else
                    if (1 : Int) ≤ x0_4 then
                      if x0_4 ≤ (4 : Int) then
                        if (1 : Int) ≤ x0_5 then
                          if x0_5 ≤ (8 : Int) then
                            if (0 : Int) ≤ x0_6 then
                              some ((decide (x0_6 ≤ (32 : Int))), ())
                            else
                              some (false, ())
                          else
                            some (false, ())
                        else
                          some (false, ())
                      else
                        some (false, ())
                    else
                      some (false, ()) :=
  (F_eq (G := G) rfl fn70 rfl _).trans ((run_eq _ _ _ _).trans (by kernel_rfl))
theorem F64_letheref04_Right_l2_eq  : F64_letheref04_Right_l2  =
    some (false, ()) :=
  (run_eq _ _ _ _).trans (by kernel_rfl)
theorem F65_letheref06_leaf_eq (x0_0 : Int) (x0_1 : Int) (x0_2 : Int) (x0_3 : Int) (x0_4 : Int) (x0_5 : Int) (x0_6 : Int) (x1_0 : Bool) (x1_1 : (List S47)) (x1_2 : (List S53)) : F65_letheref06_leaf x0_0 x0_1 x0_2 x0_3 x0_4 x0_5 x0_6 x1_0 x1_1 x1_2 =
    if (0 : Int) < (List.length x1_2 : Int) then
      some (60, ())
    else
      if (4 : Int) < (List.length x1_1 : Int) then
        some (60, ())
      else
        F65_letheref06_leaf_l1000004 x1_1 (List.length x1_1 : Int) 0 x0_0 x0_1 x0_2 x0_3 x0_4 x0_5 x0_6 x1_0 x1_1 x1_2 :=
  (F_eq (G := G) rfl fn71 rfl _).trans ((run_eq _ _ _ _).trans (by kernel_rfl))
theorem F65_letheref06_leaf_l1000004_eq (v19 : (List S47)) (v20 : Int) (v21 : Int) (h0_0 : Int) (h0_1 : Int) (h0_2 : Int) (h0_3 : Int) (h0_4 : Int) (h0_5 : Int) (h0_6 : Int) (h1_0 : Bool) (h1_1 : (List S47)) (h1_2 : (List S53)) : F65_letheref06_leaf_l1000004 v19 v20 v21 h0_0 h0_1 h0_2 h0_3 h0_4 h0_5 h0_6 h1_0 h1_1 h1_2 =
    if v21 < v20 then
      if (0 : Int) ≤ v21 ∧ v21 < (List.length v19 : Int) then
        (F79_letheref05_Right h0_0 h0_1 h0_2 h0_3 h0_4 h0_5 h0_6 (S47.f0 (rd S47.z v19 v21)) (S47.f1 (rd S47.z v19 v21))).bind fun y1 =>
        if ¬ y1.1 = (0 : Int) then
          some (y1.1, ())
        else
          if (0 : Int) < v21 then
            if (0 : Int) ≤ (IntKind.i64.wrap (v21 - (1 : Int))) ∧ (IntKind.i64.wrap (v21 - (1 : Int))) < (List.length h1_1 : Int) then
              if sLt (S47.f0 (rd S47.z h1_1 (IntKind.i64.wrap (v21 - (1 : Int))))) (S47.f0 (rd S47.z v19 v21)) = false then
                some (60, ())
              else
                F65_letheref06_leaf_l1000004 v19 v20 (IntKind.i64.wrap (v21 + (1 : Int))) h0_0 h0_1 h0_2 h0_3 h0_4 h0_5 h0_6 h1_0 h1_1 h1_2
            else
              none
          else
            F65_letheref06_leaf_l1000004 v19 v20 (IntKind.i64.wrap (v21 + (1 : Int))) h0_0 h0_1 h0_2 h0_3 h0_4 h0_5 h0_6 h1_0 h1_1 h1_2
      else
        none
    else
      some (0, ()) :=
  (run_eq _ _ _ _).trans (by kernel_rfl)
theorem F66_letheref06_inner_eq (x0_0 : Int) (x0_1 : Int) (x0_2 : Int) (x0_3 : Int) (x0_4 : Int) (x0_5 : Int) (x0_6 : Int) (x1_0 : Bool) (x1_1 : (List S47)) (x1_2 : (List S53)) : F66_letheref06_inner x0_0 x0_1 x0_2 x0_3 x0_4 x0_5 x0_6 x1_0 x1_1 x1_2 =
    if (0 : Int) < (List.length x1_1 : Int) then
      some (60, ())
    else
      if (List.length x1_2 : Int) < (2 : Int) then
        some (60, ())
      else
        if (4 : Int) < (List.length x1_2 : Int) then
          some (60, ())
        else
          F66_letheref06_inner_l1000004 x1_2 (List.length x1_2 : Int) 0 x0_0 x0_1 x0_2 x0_3 x0_4 x0_5 x0_6 x1_0 x1_1 x1_2 :=
  (F_eq (G := G) rfl fn72 rfl _).trans ((run_eq _ _ _ _).trans (by kernel_rfl))
theorem F66_letheref06_inner_l1000004_eq (v24 : (List S53)) (v25 : Int) (v26 : Int) (h0_0 : Int) (h0_1 : Int) (h0_2 : Int) (h0_3 : Int) (h0_4 : Int) (h0_5 : Int) (h0_6 : Int) (h1_0 : Bool) (h1_1 : (List S47)) (h1_2 : (List S53)) : F66_letheref06_inner_l1000004 v24 v25 v26 h0_0 h0_1 h0_2 h0_3 h0_4 h0_5 h0_6 h1_0 h1_1 h1_2 =
    if v26 < v25 then
      if (0 : Int) ≤ v26 ∧ v26 < (List.length v24 : Int) then
        if (S53.f0 (rd S53.z v24 v26)) = ByteArray.empty then
          some (4, ())
        else
          if h0_1 < (ByteArray.size (S53.f0 (rd S53.z v24 v26)) : Int) then
            some (5, ())
          else
            (F80_letheref06_RefRight (S53.f1 (rd S53.z v24 v26)) (S53.f2 (rd S53.z v24 v26)) (S53.f3 (rd S53.z v24 v26)) (S53.f4 (rd S53.z v24 v26))).bind fun y1 =>
            if (!y1.1) = true then
              some (61, ())
            else
              if (0 : Int) < v26 then
                if (0 : Int) ≤ (IntKind.i64.wrap (v26 - (1 : Int))) ∧ (IntKind.i64.wrap (v26 - (1 : Int))) < (List.length h1_2 : Int) then
                  if sLt (S53.f0 (rd S53.z h1_2 (IntKind.i64.wrap (v26 - (1 : Int))))) (S53.f0 (rd S53.z v24 v26)) = false then
                    some (60, ())
                  else
                    F66_letheref06_inner_l1000004 v24 v25 (IntKind.i64.wrap (v26 + (1 : Int))) h0_0 h0_1 h0_2 h0_3 h0_4 h0_5 h0_6 h1_0 h1_1 h1_2
                else
                  none
              else
                F66_letheref06_inner_l1000004 v24 v25 (IntKind.i64.wrap (v26 + (1 : Int))) h0_0 h0_1 h0_2 h0_3 h0_4 h0_5 h0_6 h1_0 h1_1 h1_2
      else
        none
    else
      some (0, ()) :=
  (run_eq _ _ _ _).trans (by kernel_rfl)
theorem F80_letheref06_RefRight_eq (x0_0 : Int) (x0_1 : Int) (x0_2 : Int) (x0_3 : Int) : F80_letheref06_RefRight x0_0 x0_1 x0_2 x0_3 =
    if (0 : Int) ≤ x0_1 then
      if x0_1 ≤ (1048576 : Int) then
        if (0 : Int) ≤ x0_2 then
          if x0_2 ≤ (134217728 : Int) then
            if (1 : Int) ≤ x0_3 then
              some ((decide (x0_3 ≤ (1048576 : Int))), ())
            else
              some (false, ())
          else
            some (false, ())
        else
          some (false, ())
      else
        some (false, ())
    else
      some (false, ()) :=
  (F_eq (G := G) rfl fn73 rfl _).trans ((run_eq _ _ _ _).trans (by kernel_rfl))
theorem F79_letheref05_Right_eq (x0_0 : Int) (x0_1 : Int) (x0_2 : Int) (x0_3 : Int) (x0_4 : Int) (x0_5 : Int) (x0_6 : Int) (x1_0 : ByteArray) (x1_1 : (List S49)) : F79_letheref05_Right x0_0 x0_1 x0_2 x0_3 x0_4 x0_5 x0_6 x1_0 x1_1 =
    (F86_letheref05_Named x0_0 x0_1 x0_2 x0_3 x0_4 x0_5 x0_6 x1_0 x1_1).bind fun y1 =>
    if y1.1 = (0 : Int) then
      if (List.length x1_1 : Int) = (0 : Int) then
        some (50, ())
      else
        some (y1.1, ())
    else
      some (y1.1, ()) :=
  (F_eq (G := G) rfl fn74 rfl _).trans ((run_eq _ _ _ _).trans (by kernel_rfl))
theorem F86_letheref05_Named_eq (x0_0 : Int) (x0_1 : Int) (x0_2 : Int) (x0_3 : Int) (x0_4 : Int) (x0_5 : Int) (x0_6 : Int) (x1_0 : ByteArray) (x1_1 : (List S49)) : F86_letheref05_Named x0_0 x0_1 x0_2 x0_3 x0_4 x0_5 x0_6 x1_0 x1_1 =
    (F64_letheref04_Right x0_0 x0_1 x0_2 x0_3 x0_4 x0_5 x0_6).bind fun y1 =>
    if (!y1.1) = true then
      some (40, ())
    else
      if x1_0 = ByteArray.empty then
        some (4, ())
      else
        if x0_1 < (ByteArray.size x1_0 : Int) then
          some (5, ())
        else
          if x0_4 < (List.length x1_1 : Int) then
            some (50, ())
          else
            F86_letheref05_Named_l1000010 x1_1 (List.length x1_1 : Int) 0 x0_0 x0_1 x0_2 x0_3 x0_4 x0_5 x0_6 x1_0 x1_1 :=
  (F_eq (G := G) rfl fn75 rfl _).trans ((run_eq _ _ _ _).trans (by kernel_rfl))
theorem F86_letheref05_Named_l1000010_eq (v26 : (List S49)) (v27 : Int) (v28 : Int) (h0_0 : Int) (h0_1 : Int) (h0_2 : Int) (h0_3 : Int) (h0_4 : Int) (h0_5 : Int) (h0_6 : Int) (h1_0 : ByteArray) (h1_1 : (List S49)) : F86_letheref05_Named_l1000010 v26 v27 v28 h0_0 h0_1 h0_2 h0_3 h0_4 h0_5 h0_6 h1_0 h1_1 =
    if v28 < v27 then
      if (0 : Int) ≤ v28 ∧ v28 < (List.length v26 : Int) then
        if (S49.f0 (rd S49.z v26 v28)) < (1 : Int) then
          some (50, ())
        else
          if (1073741824 : Int) < (S49.f0 (rd S49.z v26 v28)) then
            some (50, ())
          else
            if (0 : Int) < v28 then
              if (0 : Int) ≤ (IntKind.i64.wrap (v28 - (1 : Int))) ∧ (IntKind.i64.wrap (v28 - (1 : Int))) < (List.length h1_1 : Int) then
                if (S49.f0 (rd S49.z v26 v28)) ≤ (S49.f0 (rd S49.z h1_1 (IntKind.i64.wrap (v28 - (1 : Int))))) then
                  some (50, ())
                else
                  if h0_2 < (ByteArray.size (S49.f1 (rd S49.z v26 v28)) : Int) then
                    F86_letheref05_Named_l15 
                  else
                    if h0_3 < (ByteArray.size (S49.f2 (rd S49.z v26 v28)) : Int) then
                      F86_letheref05_Named_l15 
                    else
                      F86_letheref05_Named_l1000010 v26 v27 (IntKind.i64.wrap (v28 + (1 : Int))) h0_0 h0_1 h0_2 h0_3 h0_4 h0_5 h0_6 h1_0 h1_1
              else
                none
            else
              if h0_2 < (ByteArray.size (S49.f1 (rd S49.z v26 v28)) : Int) then
                F86_letheref05_Named_l15 
              else
                if h0_3 < (ByteArray.size (S49.f2 (rd S49.z v26 v28)) : Int) then
                  F86_letheref05_Named_l15 
                else
                  F86_letheref05_Named_l1000010 v26 v27 (IntKind.i64.wrap (v28 + (1 : Int))) h0_0 h0_1 h0_2 h0_3 h0_4 h0_5 h0_6 h1_0 h1_1
      else
        none
    else
      some (0, ()) :=
  (run_eq _ _ _ _).trans (by kernel_rfl)
theorem F86_letheref05_Named_l15_eq  : F86_letheref05_Named_l15  =
    some (5, ()) :=
  (run_eq _ _ _ _).trans (by kernel_rfl)
theorem F21_letheref05_Copy_eq (x0_0 : ByteArray) (x0_1 : (List S49)) : F21_letheref05_Copy x0_0 x0_1 =
    if (0 + List.length x0_1) * 40 ≤ 140737488355328 then
      some (x0_0, ([] ++ x0_1), ())
    else
      none :=
  (F_eq (G := G) rfl fn76 rfl _).trans ((run_eq _ _ _ _).trans (by kernel_rfl))
end
end Go.Proofs.Ytfojcadooepgpaa.NodeOwnx
