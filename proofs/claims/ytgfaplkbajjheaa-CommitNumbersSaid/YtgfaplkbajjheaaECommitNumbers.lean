/- The law CommitNumbers: what each function answers, in plain equations. Under no condition. -/
import Derived.Test.YtgfaplkbajjheaaTCommitNumbers
set_option linter.unusedVariables false
set_option maxRecDepth 100000
namespace Go.Proofs.Ytgfaplkbajjheaa.CommitNumbersx
open Go Go.RowKit Go.Proofs.Ytgfaplkbajjheaa.Rx Go.Proofs.Ytgfaplkbajjheaa.CommitNumbersx
noncomputable section
theorem F8_lethelaw17_CommitNumbers_eq (x0 : (List S30)) (x1 : Int) (x2 : Int) : F8_lethelaw17_CommitNumbers x0 x1 x2 =
    (F32_power_New ).bind fun y1 =>
    (F31_cell_New y1.1 y1.2.1 y1.2.2.1).bind fun y2 =>
    F8_lethelaw17_CommitNumbers_l1000006 x1 x2 (-1) x0 (List.length x0 : Int) 0 y2.2.2.2.1 y2.2.2.2.2.1 y2.2.2.2.2.2.1 y2.1 y2.2.1 y2.2.2.1 :=
  (F_eq (G := G) rfl fn0 rfl _).trans ((run_eq _ _ _ _).trans (by kernel_rfl))
theorem F8_lethelaw17_CommitNumbers_l1000006_eq (v1 : Int) (v2 : Int) (v8 : Int) (v21 : (List S30)) (v22 : Int) (v23 : Int) (h0_1 : ByteArray) (h0_2 : ByteArray) (h0_3 : Int) (h1_0 : Bool) (h1_1 : Int) (h1_2 : Int) : F8_lethelaw17_CommitNumbers_l1000006 v1 v2 v8 v21 v22 v23 h0_1 h0_2 h0_3 h1_0 h1_1 h1_2 =
    if v23 < v22 then
      if (0 : Int) ≤ v23 ∧ v23 < (List.length v21 : Int) then
        if (40 : Int) ≤ v23 then
          (F37_cell_Cell_Count h0_1 h0_2 h0_3 h1_0 h1_1 h1_2).bind fun y1 =>
          let e2 : Int := IntKind.i64.wrap ((1 : Int) + (IntKind.i64.wrap ((2 : Int) * v8)))
          some ((decide (y1.1 = (mx 0 e2))), ())
        else
          if v8 < (0 : Int) then
            (F33_commit_First (S30.f0 (rd S30.z v21 v23)) (S30.f1 (rd S30.z v21 v23)) (S30.f2 (rd S30.z v21 v23)) (S30.f3 (rd S30.z v21 v23)) v1 v2 h0_1 h0_2 h0_3 h1_0 h1_1 h1_2).bind fun y3 =>
            (F35_letheref17_Right (IntKind.i64.wrap (v8 + (1 : Int))) (S30.f0 (rd S30.z v21 v23)) (S30.f1 (rd S30.z v21 v23)) (S30.f2 (rd S30.z v21 v23)) (S30.f3 (rd S30.z v21 v23)) v1 v2).bind fun y4 =>
            if (!y4.1) = true then
              if ¬ y3.2.2.2.2.2.2.2.1 = (170 : Int) then
                some (false, ())
              else
                F8_lethelaw17_CommitNumbers_l21 v1 v2 v8 v21 v22 v23 y3.2.2.2.2.2.2.2.2.1 y3.2.2.2.2.2.2.2.2.2.1 y3.2.2.2.2.2.2.2.2.2.2.1 y3.2.2.2.2.2.2.2.2.2.2.2.1 y3.2.2.2.2.2.2.2.2.2.2.2.2.1 y3.2.2.2.2.2.2.2.2.2.2.2.2.2.1
            else
              (F36_commit_Now y3.2.2.2.2.2.2.2.2.1 y3.2.2.2.2.2.2.2.2.2.1 y3.2.2.2.2.2.2.2.2.2.2.1 y3.2.2.2.2.2.2.2.2.2.2.2.1 y3.2.2.2.2.2.2.2.2.2.2.2.2.1 y3.2.2.2.2.2.2.2.2.2.2.2.2.2.1).bind fun y5 =>
              if ¬ y3.2.2.2.2.2.2.2.1 = (0 : Int) then
                F8_lethelaw17_CommitNumbers_l20 
              else
                if ¬ y5.2.2.2.2.2.2.2.2.1 = (0 : Int) then
                  F8_lethelaw17_CommitNumbers_l20 
                else
                  if ¬ (y3.1 = (IntKind.i64.wrap (v8 + (1 : Int))) ∧ (y3.2.1 = (S30.f0 (rd S30.z v21 v23)) ∧ y3.2.2.1 = (S30.f1 (rd S30.z v21 v23)) ∧ y3.2.2.2.1 = (S30.f2 (rd S30.z v21 v23)) ∧ y3.2.2.2.2.1 = (S30.f3 (rd S30.z v21 v23)) ∧ True) ∧ y3.2.2.2.2.2.1 = v1 ∧ y3.2.2.2.2.2.2.1 = v2 ∧ True) then
                    F8_lethelaw17_CommitNumbers_l20 
                  else
                    if ¬ (y5.1 = (IntKind.i64.wrap (v8 + (1 : Int))) ∧ (y5.2.1 = (S30.f0 (rd S30.z v21 v23)) ∧ y5.2.2.1 = (S30.f1 (rd S30.z v21 v23)) ∧ y5.2.2.2.1 = (S30.f2 (rd S30.z v21 v23)) ∧ y5.2.2.2.2.1 = (S30.f3 (rd S30.z v21 v23)) ∧ True) ∧ y5.2.2.2.2.2.1 = v1 ∧ y5.2.2.2.2.2.2.1 = v2 ∧ True) then
                      F8_lethelaw17_CommitNumbers_l20 
                    else
                      let e6 : Int := Int.tmod (IntKind.i64.wrap (v8 + (1 : Int))) (2 : Int)
                      if ¬ y5.2.2.2.2.2.2.2.1 = e6 then
                        F8_lethelaw17_CommitNumbers_l20 
                      else
                        (F37_cell_Cell_Count y5.2.2.2.2.2.2.2.2.2.1 y5.2.2.2.2.2.2.2.2.2.2.1 y5.2.2.2.2.2.2.2.2.2.2.2.1 y5.2.2.2.2.2.2.2.2.2.2.2.2.1 y5.2.2.2.2.2.2.2.2.2.2.2.2.2.1 y5.2.2.2.2.2.2.2.2.2.2.2.2.2.2.1).bind fun y7 =>
                        let e8 : Int := IntKind.i64.wrap ((2 : Int) * (IntKind.i64.wrap (v8 + (1 : Int))))
                        if ¬ y7.1 = (IntKind.i64.wrap ((1 : Int) + e8)) then
                          F8_lethelaw17_CommitNumbers_l20 
                        else
                          F8_lethelaw17_CommitNumbers_l21 v1 v2 (IntKind.i64.wrap (v8 + (1 : Int))) v21 v22 v23 y7.2.1 y7.2.2.1 y7.2.2.2.1 y7.2.2.2.2.1 y7.2.2.2.2.2.1 y7.2.2.2.2.2.2.1
          else
            (F34_commit_Next (S30.f0 (rd S30.z v21 v23)) (S30.f1 (rd S30.z v21 v23)) (S30.f2 (rd S30.z v21 v23)) (S30.f3 (rd S30.z v21 v23)) v1 v2 h0_1 h0_2 h0_3 h1_0 h1_1 h1_2).bind fun y9 =>
            (F35_letheref17_Right (IntKind.i64.wrap (v8 + (1 : Int))) (S30.f0 (rd S30.z v21 v23)) (S30.f1 (rd S30.z v21 v23)) (S30.f2 (rd S30.z v21 v23)) (S30.f3 (rd S30.z v21 v23)) v1 v2).bind fun y10 =>
            if (!y10.1) = true then
              if ¬ y9.2.2.2.2.2.2.2.1 = (170 : Int) then
                some (false, ())
              else
                F8_lethelaw17_CommitNumbers_l21 v1 v2 v8 v21 v22 v23 y9.2.2.2.2.2.2.2.2.1 y9.2.2.2.2.2.2.2.2.2.1 y9.2.2.2.2.2.2.2.2.2.2.1 y9.2.2.2.2.2.2.2.2.2.2.2.1 y9.2.2.2.2.2.2.2.2.2.2.2.2.1 y9.2.2.2.2.2.2.2.2.2.2.2.2.2.1
            else
              (F36_commit_Now y9.2.2.2.2.2.2.2.2.1 y9.2.2.2.2.2.2.2.2.2.1 y9.2.2.2.2.2.2.2.2.2.2.1 y9.2.2.2.2.2.2.2.2.2.2.2.1 y9.2.2.2.2.2.2.2.2.2.2.2.2.1 y9.2.2.2.2.2.2.2.2.2.2.2.2.2.1).bind fun y11 =>
              if ¬ y9.2.2.2.2.2.2.2.1 = (0 : Int) then
                F8_lethelaw17_CommitNumbers_l20 
              else
                if ¬ y11.2.2.2.2.2.2.2.2.1 = (0 : Int) then
                  F8_lethelaw17_CommitNumbers_l20 
                else
                  if ¬ (y9.1 = (IntKind.i64.wrap (v8 + (1 : Int))) ∧ (y9.2.1 = (S30.f0 (rd S30.z v21 v23)) ∧ y9.2.2.1 = (S30.f1 (rd S30.z v21 v23)) ∧ y9.2.2.2.1 = (S30.f2 (rd S30.z v21 v23)) ∧ y9.2.2.2.2.1 = (S30.f3 (rd S30.z v21 v23)) ∧ True) ∧ y9.2.2.2.2.2.1 = v1 ∧ y9.2.2.2.2.2.2.1 = v2 ∧ True) then
                    F8_lethelaw17_CommitNumbers_l20 
                  else
                    if ¬ (y11.1 = (IntKind.i64.wrap (v8 + (1 : Int))) ∧ (y11.2.1 = (S30.f0 (rd S30.z v21 v23)) ∧ y11.2.2.1 = (S30.f1 (rd S30.z v21 v23)) ∧ y11.2.2.2.1 = (S30.f2 (rd S30.z v21 v23)) ∧ y11.2.2.2.2.1 = (S30.f3 (rd S30.z v21 v23)) ∧ True) ∧ y11.2.2.2.2.2.1 = v1 ∧ y11.2.2.2.2.2.2.1 = v2 ∧ True) then
                      F8_lethelaw17_CommitNumbers_l20 
                    else
                      let e12 : Int := Int.tmod (IntKind.i64.wrap (v8 + (1 : Int))) (2 : Int)
                      if ¬ y11.2.2.2.2.2.2.2.1 = e12 then
                        F8_lethelaw17_CommitNumbers_l20 
                      else
                        (F37_cell_Cell_Count y11.2.2.2.2.2.2.2.2.2.1 y11.2.2.2.2.2.2.2.2.2.2.1 y11.2.2.2.2.2.2.2.2.2.2.2.1 y11.2.2.2.2.2.2.2.2.2.2.2.2.1 y11.2.2.2.2.2.2.2.2.2.2.2.2.2.1 y11.2.2.2.2.2.2.2.2.2.2.2.2.2.2.1).bind fun y13 =>
                        let e14 : Int := IntKind.i64.wrap ((2 : Int) * (IntKind.i64.wrap (v8 + (1 : Int))))
                        if ¬ y13.1 = (IntKind.i64.wrap ((1 : Int) + e14)) then
                          F8_lethelaw17_CommitNumbers_l20 
                        else
                          F8_lethelaw17_CommitNumbers_l21 v1 v2 (IntKind.i64.wrap (v8 + (1 : Int))) v21 v22 v23 y13.2.1 y13.2.2.1 y13.2.2.2.1 y13.2.2.2.2.1 y13.2.2.2.2.2.1 y13.2.2.2.2.2.2.1
      else
        none
    else
      (F37_cell_Cell_Count h0_1 h0_2 h0_3 h1_0 h1_1 h1_2).bind fun y15 =>
      let e16 : Int := IntKind.i64.wrap ((1 : Int) + (IntKind.i64.wrap ((2 : Int) * v8)))
      some ((decide (y15.1 = (mx 0 e16))), ()) :=
  (run_eq _ _ _ _).trans (by kernel_rfl)
theorem F8_lethelaw17_CommitNumbers_l21_eq (v1 : Int) (v2 : Int) (v8 : Int) (v21 : (List S30)) (v22 : Int) (v23 : Int) (h0_1 : ByteArray) (h0_2 : ByteArray) (h0_3 : Int) (h1_0 : Bool) (h1_1 : Int) (h1_2 : Int) : F8_lethelaw17_CommitNumbers_l21 v1 v2 v8 v21 v22 v23 h0_1 h0_2 h0_3 h1_0 h1_1 h1_2 =
    F8_lethelaw17_CommitNumbers_l1000006 v1 v2 v8 v21 v22 (IntKind.i64.wrap (v23 + (1 : Int))) h0_1 h0_2 h0_3 h1_0 h1_1 h1_2 :=
  (run_eq _ _ _ _).trans (by kernel_rfl)
theorem F8_lethelaw17_CommitNumbers_l20_eq  : F8_lethelaw17_CommitNumbers_l20  =
    some (false, ()) :=
  (run_eq _ _ _ _).trans (by kernel_rfl)
theorem F32_power_New_eq  : F32_power_New  =
    some (false, 0, 0, ()) :=
  (F_eq (G := G) rfl fn1 rfl _).trans ((run_eq _ _ _ _).trans (by kernel_rfl))
theorem F31_cell_New_eq (h0_0 : Bool) (h0_1 : Int) (h0_2 : Int) : F31_cell_New h0_0 h0_1 h0_2 =
    some (h0_0, h0_1, h0_2, ByteArray.empty, ByteArray.empty, 0, ()) :=
  (F_eq (G := G) rfl fn2 rfl _).trans ((run_eq _ _ _ _).trans (by kernel_rfl))
theorem F37_cell_Cell_Count_eq (h0_1 : ByteArray) (h0_2 : ByteArray) (h0_3 : Int) (h1_0 : Bool) (h1_1 : Int) (h1_2 : Int) : F37_cell_Cell_Count h0_1 h0_2 h0_3 h1_0 h1_1 h1_2 =
    some (h0_3, h0_1, h0_2, h0_3, h1_0, h1_1, h1_2, ()) :=
  (F_eq (G := G) rfl fn3 rfl _).trans ((run_eq _ _ _ _).trans (by kernel_rfl))
theorem F33_commit_First_eq (x1_0 : Int) (x1_1 : Int) (x1_2 : Int) (x1_3 : Int) (x2 : Int) (x3 : Int) (h0_1 : ByteArray) (h0_2 : ByteArray) (h0_3 : Int) (h1_0 : Bool) (h1_1 : Int) (h1_2 : Int) : F33_commit_First x1_0 x1_1 x1_2 x1_3 x2 x3 h0_1 h0_2 h0_3 h1_0 h1_1 h1_2 =
    (F64_cell_Cell_Slots h0_1 h0_2 h0_3 h1_0 h1_1 h1_2).bind fun y1 =>
    if (0 : Int) < (List.length y1.2.2.2.2.2.2.1 : Int) then
      some (0, 0, 0, 0, 0, 0, 0, 131, y1.1, y1.2.1, y1.2.2.1, y1.2.2.2.1, y1.2.2.2.2.1, y1.2.2.2.2.2.1, ())
    else
      (F101_commit_set 0 0 x1_0 x1_1 x1_2 x1_3 x2 x3 y1.1 y1.2.1 y1.2.2.1 y1.2.2.2.1 y1.2.2.2.2.1 y1.2.2.2.2.2.1).bind fun y2 =>
      some (y2.1, y2.2.1, y2.2.2.1, y2.2.2.2.1, y2.2.2.2.2.1, y2.2.2.2.2.2.1, y2.2.2.2.2.2.2.1, y2.2.2.2.2.2.2.2.1, y2.2.2.2.2.2.2.2.2.1, y2.2.2.2.2.2.2.2.2.2.1, y2.2.2.2.2.2.2.2.2.2.2.1, y2.2.2.2.2.2.2.2.2.2.2.2.1, y2.2.2.2.2.2.2.2.2.2.2.2.2.1, y2.2.2.2.2.2.2.2.2.2.2.2.2.2.1, ()) :=
  (F_eq (G := G) rfl fn4 rfl _).trans ((run_eq _ _ _ _).trans (by kernel_rfl))
theorem F35_letheref17_Right_eq (x0_0 : Int) (x0_1 : Int) (x0_2 : Int) (x0_3 : Int) (x0_4 : Int) (x0_5 : Int) (x0_6 : Int) : F35_letheref17_Right x0_0 x0_1 x0_2 x0_3 x0_4 x0_5 x0_6 =
    if (0 : Int) ≤ x0_0 then
      if x0_0 ≤ (2147483647 : Int) then
        (F18_letheref06_RefRight x0_1 x0_2 x0_3 x0_4).bind fun y1 =>
        if y1.1 = true then
          if (0 : Int) ≤ x0_5 then
            if x0_5 ≤ (1048576 : Int) then
              if (0 : Int) ≤ x0_6 then
                some ((decide (x0_6 ≤ (134217728 : Int))), ())
              else
                some (false, ())
            else
              some (false, ())
          else
            some (false, ())
        else
          some (false, ())
      else
        some (false, ())
    else
      some (false, ()) :=
  (F_eq (G := G) rfl fn5 rfl _).trans ((run_eq _ _ _ _).trans (by kernel_rfl))
theorem F36_commit_Now_eq (h0_1 : ByteArray) (h0_2 : ByteArray) (h0_3 : Int) (h1_0 : Bool) (h1_1 : Int) (h1_2 : Int) : F36_commit_Now h0_1 h0_2 h0_3 h1_0 h1_1 h1_2 =
    (F64_cell_Cell_Slots h0_1 h0_2 h0_3 h1_0 h1_1 h1_2).bind fun y1 =>
    if (List.length y1.2.2.2.2.2.2.1 : Int) = (0 : Int) then
      some (0, 0, 0, 0, 0, 0, 0, 0, 171, y1.1, y1.2.1, y1.2.2.1, y1.2.2.2.1, y1.2.2.2.2.1, y1.2.2.2.2.2.1, ())
    else
      F36_commit_Now_l1000007 (List.length y1.2.2.2.2.2.2.1 : Int) 0 y1.1 y1.2.1 y1.2.2.1 y1.2.2.2.1 y1.2.2.2.2.1 y1.2.2.2.2.2.1 0 0 0 0 0 0 0 0 0 0 0 0 0 0 (-1) 0 0 0 0 0 0 0 (-1) y1.2.2.2.2.2.2.1 :=
  (F_eq (G := G) rfl fn6 rfl _).trans ((run_eq _ _ _ _).trans (by kernel_rfl))
theorem F36_commit_Now_l1000007_eq (v23 : Int) (v24 : Int) (h0_1 : ByteArray) (h0_2 : ByteArray) (h0_3 : Int) (h1_0 : Bool) (h1_1 : Int) (h1_2 : Int) (h2_0 : Int) (h2_1 : Int) (h2_2 : Int) (h2_3 : Int) (h2_4 : Int) (h2_5 : Int) (h2_6 : Int) (h3_0 : Int) (h3_1 : Int) (h3_2 : Int) (h3_3 : Int) (h3_4 : Int) (h3_5 : Int) (h3_6 : Int) (h3_7 : Int) (h4_0 : Int) (h4_1 : Int) (h4_2 : Int) (h4_3 : Int) (h4_4 : Int) (h4_5 : Int) (h4_6 : Int) (h4_7 : Int) (g5 : (List Int)) : F36_commit_Now_l1000007 v23 v24 h0_1 h0_2 h0_3 h1_0 h1_1 h1_2 h2_0 h2_1 h2_2 h2_3 h2_4 h2_5 h2_6 h3_0 h3_1 h3_2 h3_3 h3_4 h3_5 h3_6 h3_7 h4_0 h4_1 h4_2 h4_3 h4_4 h4_5 h4_6 h4_7 g5 =
    if v24 < v23 then
      if (0 : Int) ≤ v24 ∧ v24 < (List.length g5 : Int) then
        (F53_cell_Cell_Get (rd (0 : Int) g5 v24) h0_1 h0_2 h0_3 h1_0 h1_1 h1_2).bind fun y1 =>
        (F29_commit_Parse y1.1).bind fun y2 =>
        if y2.2.2.2.2.2.2.2.1 = (0 : Int) then
          if (h4_0 = h3_0 ∧ (h4_1 = h3_1 ∧ h4_2 = h3_2 ∧ h4_3 = h3_3 ∧ h4_4 = h3_4 ∧ True) ∧ h4_5 = h3_5 ∧ h4_6 = h3_6 ∧ True) ∧ h4_7 = h3_7 ∧ True then
            F36_commit_Now_l13 v23 v24 y1.2.2.1 y1.2.2.2.1 y1.2.2.2.2.1 y1.2.2.2.2.2.1 y1.2.2.2.2.2.2.1 y1.2.2.2.2.2.2.2.1 h2_0 h2_1 h2_2 h2_3 h2_4 h2_5 h2_6 h3_0 h3_1 h3_2 h3_3 h3_4 h3_5 h3_6 h3_7 y2.1 y2.2.1 y2.2.2.1 y2.2.2.2.1 y2.2.2.2.2.1 y2.2.2.2.2.2.1 y2.2.2.2.2.2.2.1 (rd (0 : Int) g5 v24) g5
          else
            if h4_0 < y2.1 then
              F36_commit_Now_l13 v23 v24 y1.2.2.1 y1.2.2.2.1 y1.2.2.2.2.1 y1.2.2.2.2.2.1 y1.2.2.2.2.2.2.1 y1.2.2.2.2.2.2.2.1 h2_0 h2_1 h2_2 h2_3 h2_4 h2_5 h2_6 h3_0 h3_1 h3_2 h3_3 h3_4 h3_5 h3_6 h3_7 y2.1 y2.2.1 y2.2.2.1 y2.2.2.2.1 y2.2.2.2.2.1 y2.2.2.2.2.2.1 y2.2.2.2.2.2.2.1 (rd (0 : Int) g5 v24) g5
            else
              F36_commit_Now_l13 v23 v24 y1.2.2.1 y1.2.2.2.1 y1.2.2.2.2.1 y1.2.2.2.2.2.1 y1.2.2.2.2.2.2.1 y1.2.2.2.2.2.2.2.1 h2_0 h2_1 h2_2 h2_3 h2_4 h2_5 h2_6 h3_0 h3_1 h3_2 h3_3 h3_4 h3_5 h3_6 h3_7 h4_0 h4_1 h4_2 h4_3 h4_4 h4_5 h4_6 h4_7 g5
        else
          F36_commit_Now_l13 v23 v24 y1.2.2.1 y1.2.2.2.1 y1.2.2.2.2.1 y1.2.2.2.2.2.1 y1.2.2.2.2.2.2.1 y1.2.2.2.2.2.2.2.1 h2_0 h2_1 h2_2 h2_3 h2_4 h2_5 h2_6 h3_0 h3_1 h3_2 h3_3 h3_4 h3_5 h3_6 h3_7 h4_0 h4_1 h4_2 h4_3 h4_4 h4_5 h4_6 h4_7 g5
      else
        none
    else
      if (h4_0 = h3_0 ∧ (h4_1 = h3_1 ∧ h4_2 = h3_2 ∧ h4_3 = h3_3 ∧ h4_4 = h3_4 ∧ True) ∧ h4_5 = h3_5 ∧ h4_6 = h3_6 ∧ True) ∧ h4_7 = h3_7 ∧ True then
        some (0, 0, 0, 0, 0, 0, 0, 0, 170, h0_1, h0_2, h0_3, h1_0, h1_1, h1_2, ())
      else
        some (h4_0, h4_1, h4_2, h4_3, h4_4, h4_5, h4_6, h4_7, 0, h0_1, h0_2, h0_3, h1_0, h1_1, h1_2, ()) :=
  (run_eq _ _ _ _).trans (by kernel_rfl)
theorem F36_commit_Now_l13_eq (v23 : Int) (v24 : Int) (h0_1 : ByteArray) (h0_2 : ByteArray) (h0_3 : Int) (h1_0 : Bool) (h1_1 : Int) (h1_2 : Int) (h2_0 : Int) (h2_1 : Int) (h2_2 : Int) (h2_3 : Int) (h2_4 : Int) (h2_5 : Int) (h2_6 : Int) (h3_0 : Int) (h3_1 : Int) (h3_2 : Int) (h3_3 : Int) (h3_4 : Int) (h3_5 : Int) (h3_6 : Int) (h3_7 : Int) (h4_0 : Int) (h4_1 : Int) (h4_2 : Int) (h4_3 : Int) (h4_4 : Int) (h4_5 : Int) (h4_6 : Int) (h4_7 : Int) (g5 : (List Int)) : F36_commit_Now_l13 v23 v24 h0_1 h0_2 h0_3 h1_0 h1_1 h1_2 h2_0 h2_1 h2_2 h2_3 h2_4 h2_5 h2_6 h3_0 h3_1 h3_2 h3_3 h3_4 h3_5 h3_6 h3_7 h4_0 h4_1 h4_2 h4_3 h4_4 h4_5 h4_6 h4_7 g5 =
    F36_commit_Now_l1000007 v23 (IntKind.i64.wrap (v24 + (1 : Int))) h0_1 h0_2 h0_3 h1_0 h1_1 h1_2 h2_0 h2_1 h2_2 h2_3 h2_4 h2_5 h2_6 h3_0 h3_1 h3_2 h3_3 h3_4 h3_5 h3_6 h3_7 h4_0 h4_1 h4_2 h4_3 h4_4 h4_5 h4_6 h4_7 g5 :=
  (run_eq _ _ _ _).trans (by kernel_rfl)
theorem F34_commit_Next_eq (x1_0 : Int) (x1_1 : Int) (x1_2 : Int) (x1_3 : Int) (x2 : Int) (x3 : Int) (h0_1 : ByteArray) (h0_2 : ByteArray) (h0_3 : Int) (h1_0 : Bool) (h1_1 : Int) (h1_2 : Int) : F34_commit_Next x1_0 x1_1 x1_2 x1_3 x2 x3 h0_1 h0_2 h0_3 h1_0 h1_1 h1_2 =
    (F64_cell_Cell_Slots h0_1 h0_2 h0_3 h1_0 h1_1 h1_2).bind fun y1 =>
    if (List.length y1.2.2.2.2.2.2.1 : Int) = (2 : Int) then
      some (0, 0, 0, 0, 0, 0, 0, 172, y1.1, y1.2.1, y1.2.2.1, y1.2.2.2.1, y1.2.2.2.2.1, y1.2.2.2.2.2.1, ())
    else
      (F36_commit_Now y1.1 y1.2.1 y1.2.2.1 y1.2.2.2.1 y1.2.2.2.2.1 y1.2.2.2.2.2.1).bind fun y2 =>
      if ¬ y2.2.2.2.2.2.2.2.2.1 = (0 : Int) then
        some (0, 0, 0, 0, 0, 0, 0, y2.2.2.2.2.2.2.2.2.1, y2.2.2.2.2.2.2.2.2.2.1, y2.2.2.2.2.2.2.2.2.2.2.1, y2.2.2.2.2.2.2.2.2.2.2.2.1, y2.2.2.2.2.2.2.2.2.2.2.2.2.1, y2.2.2.2.2.2.2.2.2.2.2.2.2.2.1, y2.2.2.2.2.2.2.2.2.2.2.2.2.2.2.1, ())
      else
        let e3 : Int := IntKind.i64.wrap ((1 : Int) - y2.2.2.2.2.2.2.2.1)
        (F101_commit_set e3 (IntKind.i64.wrap (y2.1 + (1 : Int))) x1_0 x1_1 x1_2 x1_3 x2 x3 y2.2.2.2.2.2.2.2.2.2.1 y2.2.2.2.2.2.2.2.2.2.2.1 y2.2.2.2.2.2.2.2.2.2.2.2.1 y2.2.2.2.2.2.2.2.2.2.2.2.2.1 y2.2.2.2.2.2.2.2.2.2.2.2.2.2.1 y2.2.2.2.2.2.2.2.2.2.2.2.2.2.2.1).bind fun y4 =>
        if y4.2.2.2.2.2.2.2.1 = (0 : Int) then
          (F50_cell_Cell_Erase y2.2.2.2.2.2.2.2.1 y4.2.2.2.2.2.2.2.2.1 y4.2.2.2.2.2.2.2.2.2.1 y4.2.2.2.2.2.2.2.2.2.2.1 y4.2.2.2.2.2.2.2.2.2.2.2.1 y4.2.2.2.2.2.2.2.2.2.2.2.2.1 y4.2.2.2.2.2.2.2.2.2.2.2.2.2.1).bind fun y5 =>
          if ¬ y5.1 = (0 : Int) then
            some (0, 0, 0, 0, 0, 0, 0, y5.1, y5.2.1, y5.2.2.1, y5.2.2.2.1, y5.2.2.2.2.1, y5.2.2.2.2.2.1, y5.2.2.2.2.2.2.1, ())
          else
            some (y4.1, y4.2.1, y4.2.2.1, y4.2.2.2.1, y4.2.2.2.2.1, y4.2.2.2.2.2.1, y4.2.2.2.2.2.2.1, 0, y5.2.1, y5.2.2.1, y5.2.2.2.1, y5.2.2.2.2.1, y5.2.2.2.2.2.1, y5.2.2.2.2.2.2.1, ())
        else
          if ¬ y4.2.2.2.2.2.2.2.1 = (0 : Int) then
            some (0, 0, 0, 0, 0, 0, 0, y4.2.2.2.2.2.2.2.1, y4.2.2.2.2.2.2.2.2.1, y4.2.2.2.2.2.2.2.2.2.1, y4.2.2.2.2.2.2.2.2.2.2.1, y4.2.2.2.2.2.2.2.2.2.2.2.1, y4.2.2.2.2.2.2.2.2.2.2.2.2.1, y4.2.2.2.2.2.2.2.2.2.2.2.2.2.1, ())
          else
            some (y4.1, y4.2.1, y4.2.2.1, y4.2.2.2.1, y4.2.2.2.2.1, y4.2.2.2.2.2.1, y4.2.2.2.2.2.2.1, 0, y4.2.2.2.2.2.2.2.2.1, y4.2.2.2.2.2.2.2.2.2.1, y4.2.2.2.2.2.2.2.2.2.2.1, y4.2.2.2.2.2.2.2.2.2.2.2.1, y4.2.2.2.2.2.2.2.2.2.2.2.2.1, y4.2.2.2.2.2.2.2.2.2.2.2.2.2.1, ()) :=
  (F_eq (G := G) rfl fn7 rfl _).trans ((run_eq _ _ _ _).trans (by kernel_rfl))
theorem F64_cell_Cell_Slots_eq (h0_1 : ByteArray) (h0_2 : ByteArray) (h0_3 : Int) (h1_0 : Bool) (h1_1 : Int) (h1_2 : Int) : F64_cell_Cell_Slots h0_1 h0_2 h0_3 h1_0 h1_1 h1_2 =
    F64_cell_Cell_Slots_l1000003 h0_1 h0_2 0 h0_1 h0_2 h0_3 h1_0 h1_1 h1_2 [] :=
  (F_eq (G := G) rfl fn8 rfl _).trans ((run_eq _ _ _ _).trans (by kernel_rfl))
theorem F64_cell_Cell_Slots_l1000003_eq (v9_0 : ByteArray) (v9_1 : ByteArray) (v10 : Int) (h0_1 : ByteArray) (h0_2 : ByteArray) (h0_3 : Int) (h1_0 : Bool) (h1_1 : Int) (h1_2 : Int) (g2 : (List Int)) : F64_cell_Cell_Slots_l1000003 v9_0 v9_1 v10 h0_1 h0_2 h0_3 h1_0 h1_1 h1_2 g2 =
    if v10 < (2 : Int) then
      if v10 = (0 : Int) then
        if ¬ v9_0 = ByteArray.empty then
          if (List.length g2 + List.length [v10]) * 8 ≤ 140737488355328 then
            F64_cell_Cell_Slots_l7 v9_0 v9_1 v10 h0_1 h0_2 h0_3 h1_0 h1_1 h1_2 (g2 ++ [v10])
          else
            none
        else
          F64_cell_Cell_Slots_l7 v9_0 v9_1 v10 h0_1 h0_2 h0_3 h1_0 h1_1 h1_2 g2
      else
        if v10 = (1 : Int) then
          if ¬ v9_1 = ByteArray.empty then
            if (List.length g2 + List.length [v10]) * 8 ≤ 140737488355328 then
              F64_cell_Cell_Slots_l7 v9_0 v9_1 v10 h0_1 h0_2 h0_3 h1_0 h1_1 h1_2 (g2 ++ [v10])
            else
              none
          else
            F64_cell_Cell_Slots_l7 v9_0 v9_1 v10 h0_1 h0_2 h0_3 h1_0 h1_1 h1_2 g2
        else
          none
    else
      some (h0_1, h0_2, h0_3, h1_0, h1_1, h1_2, g2, ()) :=
  (run_eq _ _ _ _).trans (by kernel_rfl)
theorem F64_cell_Cell_Slots_l7_eq (v9_0 : ByteArray) (v9_1 : ByteArray) (v10 : Int) (h0_1 : ByteArray) (h0_2 : ByteArray) (h0_3 : Int) (h1_0 : Bool) (h1_1 : Int) (h1_2 : Int) (g2 : (List Int)) : F64_cell_Cell_Slots_l7 v9_0 v9_1 v10 h0_1 h0_2 h0_3 h1_0 h1_1 h1_2 g2 =
    F64_cell_Cell_Slots_l1000003 v9_0 v9_1 (IntKind.i64.wrap (v10 + (1 : Int))) h0_1 h0_2 h0_3 h1_0 h1_1 h1_2 g2 :=
  (run_eq _ _ _ _).trans (by kernel_rfl)
theorem F101_commit_set_eq (x1 : Int) (x2_0 : Int) (x2_1 : Int) (x2_2 : Int) (x2_3 : Int) (x2_4 : Int) (x2_5 : Int) (x2_6 : Int) (h0_1 : ByteArray) (h0_2 : ByteArray) (h0_3 : Int) (h1_0 : Bool) (h1_1 : Int) (h1_2 : Int) : F101_commit_set x1 x2_0 x2_1 x2_2 x2_3 x2_4 x2_5 x2_6 h0_1 h0_2 h0_3 h1_0 h1_1 h1_2 =
    (F27_commit_Bytes x2_0 x2_1 x2_2 x2_3 x2_4 x2_5 x2_6).bind fun y1 =>
    if y1.2.1 = (0 : Int) then
      (F48_cell_Cell_Set x1 y1.1 h0_1 h0_2 h0_3 h1_0 h1_1 h1_2).bind fun y2 =>
      if ¬ y2.1 = (0 : Int) then
        some (0, 0, 0, 0, 0, 0, 0, y2.1, y2.2.1, y2.2.2.1, y2.2.2.2.1, y2.2.2.2.2.1, y2.2.2.2.2.2.1, y2.2.2.2.2.2.2.1, ())
      else
        some (x2_0, x2_1, x2_2, x2_3, x2_4, x2_5, x2_6, 0, y2.2.1, y2.2.2.1, y2.2.2.2.1, y2.2.2.2.2.1, y2.2.2.2.2.2.1, y2.2.2.2.2.2.2.1, ())
    else
      if ¬ y1.2.1 = (0 : Int) then
        some (0, 0, 0, 0, 0, 0, 0, y1.2.1, h0_1, h0_2, h0_3, h1_0, h1_1, h1_2, ())
      else
        some (x2_0, x2_1, x2_2, x2_3, x2_4, x2_5, x2_6, 0, h0_1, h0_2, h0_3, h1_0, h1_1, h1_2, ()) :=
  (F_eq (G := G) rfl fn9 rfl _).trans ((run_eq _ _ _ _).trans (by kernel_rfl))
theorem F50_cell_Cell_Erase_eq (x1 : Int) (h0_1 : ByteArray) (h0_2 : ByteArray) (h0_3 : Int) (h1_0 : Bool) (h1_1 : Int) (h1_2 : Int) : F50_cell_Cell_Erase x1 h0_1 h0_2 h0_3 h1_0 h1_1 h1_2 =
    (F103_cell_Cell_is x1 h0_1 h0_2 h0_3 h1_0 h1_1 h1_2).bind fun y1 =>
    if (!y1.1) = true then
      some (130, y1.2.1, y1.2.2.1, y1.2.2.2.1, y1.2.2.2.2.1, y1.2.2.2.2.2.1, y1.2.2.2.2.2.2.1, ())
    else
      if x1 = (0 : Int) then
        if y1.2.1 = ByteArray.empty then
          some (132, y1.2.1, y1.2.2.1, y1.2.2.2.1, y1.2.2.2.2.1, y1.2.2.2.2.2.1, y1.2.2.2.2.2.2.1, ())
        else
          (F104_cell_Cell_lay x1 ByteArray.empty y1.2.1 y1.2.2.1 y1.2.2.2.1 y1.2.2.2.2.1 y1.2.2.2.2.2.1 y1.2.2.2.2.2.2.1).bind fun y3 =>
          some (y3.1, y3.2.1, y3.2.2.1, y3.2.2.2.1, y3.2.2.2.2.1, y3.2.2.2.2.2.1, y3.2.2.2.2.2.2.1, ())
      else
        if x1 = (1 : Int) then
          if y1.2.2.1 = ByteArray.empty then
            some (132, y1.2.1, y1.2.2.1, y1.2.2.2.1, y1.2.2.2.2.1, y1.2.2.2.2.2.1, y1.2.2.2.2.2.2.1, ())
          else
            (F104_cell_Cell_lay x1 ByteArray.empty y1.2.1 y1.2.2.1 y1.2.2.2.1 y1.2.2.2.2.1 y1.2.2.2.2.2.1 y1.2.2.2.2.2.2.1).bind fun y2 =>
            some (y2.1, y2.2.1, y2.2.2.1, y2.2.2.2.1, y2.2.2.2.2.1, y2.2.2.2.2.2.1, y2.2.2.2.2.2.2.1, ())
        else
          none :=
  (F_eq (G := G) rfl fn10 rfl _).trans ((run_eq _ _ _ _).trans (by kernel_rfl))
theorem F103_cell_Cell_is_eq (x1 : Int) (h0_1 : ByteArray) (h0_2 : ByteArray) (h0_3 : Int) (h1_0 : Bool) (h1_1 : Int) (h1_2 : Int) : F103_cell_Cell_is x1 h0_1 h0_2 h0_3 h1_0 h1_1 h1_2 =
    if (0 : Int) ≤ x1 then
      some ((decide (x1 < (2 : Int))), h0_1, h0_2, h0_3, h1_0, h1_1, h1_2, ())
    else
      some (false, h0_1, h0_2, h0_3, h1_0, h1_1, h1_2, ()) :=
  (F_eq (G := G) rfl fn11 rfl _).trans ((run_eq _ _ _ _).trans (by kernel_rfl))
theorem F104_cell_Cell_lay_eq (x1 : Int) (x2 : ByteArray) (h0_1 : ByteArray) (h0_2 : ByteArray) (h0_3 : Int) (h1_0 : Bool) (h1_1 : Int) (h1_2 : Int) : F104_cell_Cell_lay x1 x2 h0_1 h0_2 h0_3 h1_0 h1_1 h1_2 =
    (F142_power_Power_Spend h1_0 h1_1 h1_2).bind fun y1 =>
    if ¬ y1.1 = (0 : Int) then
      some (y1.1, h0_1, h0_2, h0_3, y1.2.1, y1.2.2.1, y1.2.2.2.1, ())
    else
      if x1 = (0 : Int) then
        some (0, x2, h0_2, (IntKind.i64.wrap (h0_3 + (1 : Int))), y1.2.1, y1.2.2.1, y1.2.2.2.1, ())
      else
        if x1 = (1 : Int) then
          some (0, h0_1, x2, (IntKind.i64.wrap (h0_3 + (1 : Int))), y1.2.1, y1.2.2.1, y1.2.2.2.1, ())
        else
          none :=
  (F_eq (G := G) rfl fn12 rfl _).trans ((run_eq _ _ _ _).trans (by kernel_rfl))
theorem F142_power_Power_Spend_eq (h0_0 : Bool) (h0_1 : Int) (h0_2 : Int) : F142_power_Power_Spend h0_0 h0_1 h0_2 =
    if h0_0 = true then
      some (110, h0_0, h0_1, h0_2, ())
    else
      if (0 : Int) < h0_1 then
        some (0, (decide ((IntKind.i64.wrap (h0_1 - (1 : Int))) = (0 : Int))), (IntKind.i64.wrap (h0_1 - (1 : Int))), (IntKind.i64.wrap (h0_2 + (1 : Int))), ())
      else
        some (0, h0_0, h0_1, (IntKind.i64.wrap (h0_2 + (1 : Int))), ()) :=
  (F_eq (G := G) rfl fn13 rfl _).trans ((run_eq _ _ _ _).trans (by kernel_rfl))
theorem F27_commit_Bytes_eq (x0_0 : Int) (x0_1 : Int) (x0_2 : Int) (x0_3 : Int) (x0_4 : Int) (x0_5 : Int) (x0_6 : Int) : F27_commit_Bytes x0_0 x0_1 x0_2 x0_3 x0_4 x0_5 x0_6 =
    if x0_0 < (0 : Int) then
      F27_commit_Bytes_l2 
    else
      if (2147483647 : Int) < x0_0 then
        F27_commit_Bytes_l2 
      else
        (F17_node_RefRight x0_1 x0_2 x0_3 x0_4).bind fun y1 =>
        if (!y1.1) = true then
          F27_commit_Bytes_l2 
        else
          if x0_5 < (0 : Int) then
            F27_commit_Bytes_l2 
          else
            if (1048576 : Int) < x0_5 then
              F27_commit_Bytes_l2 
            else
              if x0_6 < (0 : Int) then
                F27_commit_Bytes_l2 
              else
                if (134217728 : Int) < x0_6 then
                  F27_commit_Bytes_l2 
                else
                  (F92_term_Num (IntKind.u64.wrap x0_0)).bind fun y2 =>
                  (F80_term_Key x0_1).bind fun y3 =>
                  let e4 : (List S38) := [(S38.mk y2.1 y2.2.1 y2.2.2.1 y2.2.2.2.1), (S38.mk y3.1 y3.2.1 y3.2.2.1 y3.2.2.2.1)]
                  F27_commit_Bytes_l1000005 (List.length [x0_2, x0_3, x0_4, x0_5, x0_6] : Int) 0 e4 [x0_2, x0_3, x0_4, x0_5, x0_6] :=
  (F_eq (G := G) rfl fn14 rfl _).trans ((run_eq _ _ _ _).trans (by kernel_rfl))
theorem F27_commit_Bytes_l2_eq  : F27_commit_Bytes_l2  =
    some (ByteArray.empty, 170, ()) :=
  (run_eq _ _ _ _).trans (by kernel_rfl)
theorem F27_commit_Bytes_l1000005_eq (v64 : Int) (v65 : Int) (g0 : (List S38)) (g1 : (List Int)) : F27_commit_Bytes_l1000005 v64 v65 g0 g1 =
    if v65 < v64 then
      if (0 : Int) ≤ v65 ∧ v65 < (List.length g1 : Int) then
        (F92_term_Num (IntKind.u64.wrap (rd (0 : Int) g1 v65))).bind fun y1 =>
        if (List.length g0 + List.length [(S38.mk y1.1 y1.2.1 y1.2.2.1 y1.2.2.2.1)]) * 56 ≤ 140737488355328 then
          F27_commit_Bytes_l1000005 v64 (IntKind.i64.wrap (v65 + (1 : Int))) (g0 ++ [(S38.mk y1.1 y1.2.1 y1.2.2.1 y1.2.2.2.1)]) g1
        else
          none
      else
        none
    else
      (F77_term_Of g0).bind fun y2 =>
      (F93_term_Encode y2.1 y2.2.1 y2.2.2.1 y2.2.2.2.1).bind fun y3 =>
      some (y3.1, y3.2.1, ()) :=
  (run_eq _ _ _ _).trans (by kernel_rfl)
theorem F48_cell_Cell_Set_eq (x1 : Int) (x2 : ByteArray) (h0_1 : ByteArray) (h0_2 : ByteArray) (h0_3 : Int) (h1_0 : Bool) (h1_1 : Int) (h1_2 : Int) : F48_cell_Cell_Set x1 x2 h0_1 h0_2 h0_3 h1_0 h1_1 h1_2 =
    (F103_cell_Cell_is x1 h0_1 h0_2 h0_3 h1_0 h1_1 h1_2).bind fun y1 =>
    if (!y1.1) = true then
      some (130, y1.2.1, y1.2.2.1, y1.2.2.2.1, y1.2.2.2.2.1, y1.2.2.2.2.2.1, y1.2.2.2.2.2.2.1, ())
    else
      if x1 = (0 : Int) then
        if ¬ y1.2.1 = ByteArray.empty then
          some (131, y1.2.1, y1.2.2.1, y1.2.2.2.1, y1.2.2.2.2.1, y1.2.2.2.2.2.1, y1.2.2.2.2.2.2.1, ())
        else
          if x2 = ByteArray.empty then
            F48_cell_Cell_Set_l6 y1.2.1 y1.2.2.1 y1.2.2.2.1 y1.2.2.2.2.1 y1.2.2.2.2.2.1 y1.2.2.2.2.2.2.1
          else
            if (200 : Int) < (ByteArray.size x2 : Int) then
              F48_cell_Cell_Set_l6 y1.2.1 y1.2.2.1 y1.2.2.2.1 y1.2.2.2.2.1 y1.2.2.2.2.2.1 y1.2.2.2.2.2.2.1
            else
              (F104_cell_Cell_lay x1 x2 y1.2.1 y1.2.2.1 y1.2.2.2.1 y1.2.2.2.2.1 y1.2.2.2.2.2.1 y1.2.2.2.2.2.2.1).bind fun y3 =>
              some (y3.1, y3.2.1, y3.2.2.1, y3.2.2.2.1, y3.2.2.2.2.1, y3.2.2.2.2.2.1, y3.2.2.2.2.2.2.1, ())
      else
        if x1 = (1 : Int) then
          if ¬ y1.2.2.1 = ByteArray.empty then
            some (131, y1.2.1, y1.2.2.1, y1.2.2.2.1, y1.2.2.2.2.1, y1.2.2.2.2.2.1, y1.2.2.2.2.2.2.1, ())
          else
            if x2 = ByteArray.empty then
              F48_cell_Cell_Set_l6 y1.2.1 y1.2.2.1 y1.2.2.2.1 y1.2.2.2.2.1 y1.2.2.2.2.2.1 y1.2.2.2.2.2.2.1
            else
              if (200 : Int) < (ByteArray.size x2 : Int) then
                F48_cell_Cell_Set_l6 y1.2.1 y1.2.2.1 y1.2.2.2.1 y1.2.2.2.2.1 y1.2.2.2.2.2.1 y1.2.2.2.2.2.2.1
              else
                (F104_cell_Cell_lay x1 x2 y1.2.1 y1.2.2.1 y1.2.2.2.1 y1.2.2.2.2.1 y1.2.2.2.2.2.1 y1.2.2.2.2.2.2.1).bind fun y2 =>
                some (y2.1, y2.2.1, y2.2.2.1, y2.2.2.2.1, y2.2.2.2.2.1, y2.2.2.2.2.2.1, y2.2.2.2.2.2.2.1, ())
        else
          none :=
  (F_eq (G := G) rfl fn15 rfl _).trans ((run_eq _ _ _ _).trans (by kernel_rfl))
theorem F48_cell_Cell_Set_l6_eq (h0_1 : ByteArray) (h0_2 : ByteArray) (h0_3 : Int) (h1_0 : Bool) (h1_1 : Int) (h1_2 : Int) : F48_cell_Cell_Set_l6 h0_1 h0_2 h0_3 h1_0 h1_1 h1_2 =
    some (2, h0_1, h0_2, h0_3, h1_0, h1_1, h1_2, ()) :=
  (run_eq _ _ _ _).trans (by kernel_rfl)
theorem F17_node_RefRight_eq (x0_0 : Int) (x0_1 : Int) (x0_2 : Int) (x0_3 : Int) : F17_node_RefRight x0_0 x0_1 x0_2 x0_3 =
    if (0 : Int) ≤ x0_1 then
      if x0_1 ≤ (1048576 : Int) then
        if (0 : Int) ≤ x0_2 then
          if x0_2 ≤ (134217728 : Int) then
            if (1 : Int) ≤ x0_3 then
              some ((decide (x0_3 ≤ (1048576 : Int))), ())
            else
              some (false, ())
          else
            some (false, ())
        else
          some (false, ())
      else
        some (false, ())
    else
      some (false, ()) :=
  (F_eq (G := G) rfl fn16 rfl _).trans ((run_eq _ _ _ _).trans (by kernel_rfl))
theorem F92_term_Num_eq (x0 : Int) : F92_term_Num x0 =
    some (1, x0, ByteArray.empty, [], ()) :=
  (F_eq (G := G) rfl fn17 rfl _).trans ((run_eq _ _ _ _).trans (by kernel_rfl))
theorem F80_term_Key_eq (x0 : Int) : F80_term_Key x0 =
    some (3, x0, ByteArray.empty, [], ()) :=
  (F_eq (G := G) rfl fn18 rfl _).trans ((run_eq _ _ _ _).trans (by kernel_rfl))
theorem F77_term_Of_eq (x0 : (List S38)) : F77_term_Of x0 =
    (F124_term_clone 5 0 ByteArray.empty x0).bind fun y1 =>
    some (y1.1, y1.2.1, y1.2.2.1, y1.2.2.2.1, ()) :=
  (F_eq (G := G) rfl fn19 rfl _).trans ((run_eq _ _ _ _).trans (by kernel_rfl))
theorem F93_term_Encode_eq (x0_0 : Int) (x0_1 : Int) (x0_2 : ByteArray) (x0_3 : (List S38)) : F93_term_Encode x0_0 x0_1 x0_2 x0_3 =
    (F82_term_Right x0_0 x0_1 x0_2 x0_3).bind fun y1 =>
    if ¬ y1.1 = (0 : Int) then
      some (ByteArray.empty, y1.1, ())
    else
      (F138_term_write x0_0 x0_1 x0_2 x0_3 []).bind fun y2 =>
      some ((strOf y2.1), 0, ()) :=
  (F_eq (G := G) rfl fn20 rfl _).trans ((run_eq _ _ _ _).trans (by kernel_rfl))
theorem F82_term_Right_eq (x0_0 : Int) (x0_1 : Int) (x0_2 : ByteArray) (x0_3 : (List S38)) : F82_term_Right x0_0 x0_1 x0_2 x0_3 =
    (F127_term_parts x0_0 x0_1 x0_2 x0_3 4001).bind fun y1 =>
    if (4000 : Int) < y1.1 then
      some (23, ())
    else
      (F128_term_deep x0_0 x0_1 x0_2 x0_3 13).bind fun y2 =>
      if (12 : Int) < y2.1 then
        some (22, ())
      else
        (F129_term_shaped x0_0 x0_1 x0_2 x0_3).bind fun y3 =>
        if (!y3.1) = true then
          some (25, ())
        else
          some (0, ()) :=
  (F_eq (G := G) rfl fn21 rfl _).trans ((run_eq _ _ _ _).trans (by kernel_rfl))
theorem F138_term_write_eq (x1_0 : Int) (x1_1 : Int) (x1_2 : ByteArray) (x1_3 : (List S38)) (g0 : (List Int)) : F138_term_write x1_0 x1_1 x1_2 x1_3 g0 =
    if (List.length g0 + List.length [(IntKind.u8.wrap x1_0)]) * 1 ≤ 140737488355328 then
      if x1_0 = (1 : Int) then
        if x1_0 = (1 : Int) then
          (F162_term_PutNum x1_1).bind fun y1 =>
          let e2 : (List Int) := (g0 ++ [(IntKind.u8.wrap x1_0)]) ++ (bytesOf y1.1)
          if (List.length (g0 ++ [(IntKind.u8.wrap x1_0)]) + List.length (bytesOf y1.1)) * 1 ≤ 140737488355328 then
            F138_term_write_l11 e2 x1_0 x1_1 x1_2 x1_3
          else
            none
        else
          if x1_0 = (2 : Int) then
            (F162_term_PutNum (IntKind.u64.wrap (ByteArray.size x1_2 : Int))).bind fun y3 =>
            let e4 : (List Int) := (g0 ++ [(IntKind.u8.wrap x1_0)]) ++ (bytesOf y3.1)
            if (List.length (g0 ++ [(IntKind.u8.wrap x1_0)]) + List.length (bytesOf y3.1)) * 1 ≤ 140737488355328 then
              if (List.length e4 + List.length (bytesOf x1_2)) * 1 ≤ 140737488355328 then
                F138_term_write_l11 (e4 ++ (bytesOf x1_2)) x1_0 x1_1 x1_2 x1_3
              else
                none
            else
              none
          else
            if x1_0 = (5 : Int) then
              (F162_term_PutNum (IntKind.u64.wrap (List.length x1_3 : Int))).bind fun y5 =>
              let e6 : (List Int) := (g0 ++ [(IntKind.u8.wrap x1_0)]) ++ (bytesOf y5.1)
              if (List.length (g0 ++ [(IntKind.u8.wrap x1_0)]) + List.length (bytesOf y5.1)) * 1 ≤ 140737488355328 then
                F138_term_write_l11 e6 x1_0 x1_1 x1_2 x1_3
              else
                none
            else
              F138_term_write_l11 (g0 ++ [(IntKind.u8.wrap x1_0)]) x1_0 x1_1 x1_2 x1_3
      else
        if x1_0 = (3 : Int) then
          if x1_0 = (3 : Int) then
            (F162_term_PutNum x1_1).bind fun y7 =>
            let e8 : (List Int) := (g0 ++ [(IntKind.u8.wrap x1_0)]) ++ (bytesOf y7.1)
            if (List.length (g0 ++ [(IntKind.u8.wrap x1_0)]) + List.length (bytesOf y7.1)) * 1 ≤ 140737488355328 then
              F138_term_write_l11 e8 x1_0 x1_1 x1_2 x1_3
            else
              none
          else
            if x1_0 = (2 : Int) then
              (F162_term_PutNum (IntKind.u64.wrap (ByteArray.size x1_2 : Int))).bind fun y9 =>
              let e10 : (List Int) := (g0 ++ [(IntKind.u8.wrap x1_0)]) ++ (bytesOf y9.1)
              if (List.length (g0 ++ [(IntKind.u8.wrap x1_0)]) + List.length (bytesOf y9.1)) * 1 ≤ 140737488355328 then
                if (List.length e10 + List.length (bytesOf x1_2)) * 1 ≤ 140737488355328 then
                  F138_term_write_l11 (e10 ++ (bytesOf x1_2)) x1_0 x1_1 x1_2 x1_3
                else
                  none
              else
                none
            else
              if x1_0 = (5 : Int) then
                (F162_term_PutNum (IntKind.u64.wrap (List.length x1_3 : Int))).bind fun y11 =>
                let e12 : (List Int) := (g0 ++ [(IntKind.u8.wrap x1_0)]) ++ (bytesOf y11.1)
                if (List.length (g0 ++ [(IntKind.u8.wrap x1_0)]) + List.length (bytesOf y11.1)) * 1 ≤ 140737488355328 then
                  F138_term_write_l11 e12 x1_0 x1_1 x1_2 x1_3
                else
                  none
              else
                F138_term_write_l11 (g0 ++ [(IntKind.u8.wrap x1_0)]) x1_0 x1_1 x1_2 x1_3
        else
          if x1_0 = (4 : Int) then
            (F162_term_PutNum x1_1).bind fun y13 =>
            let e14 : (List Int) := (g0 ++ [(IntKind.u8.wrap x1_0)]) ++ (bytesOf y13.1)
            if (List.length (g0 ++ [(IntKind.u8.wrap x1_0)]) + List.length (bytesOf y13.1)) * 1 ≤ 140737488355328 then
              F138_term_write_l11 e14 x1_0 x1_1 x1_2 x1_3
            else
              none
          else
            if x1_0 = (2 : Int) then
              (F162_term_PutNum (IntKind.u64.wrap (ByteArray.size x1_2 : Int))).bind fun y15 =>
              let e16 : (List Int) := (g0 ++ [(IntKind.u8.wrap x1_0)]) ++ (bytesOf y15.1)
              if (List.length (g0 ++ [(IntKind.u8.wrap x1_0)]) + List.length (bytesOf y15.1)) * 1 ≤ 140737488355328 then
                if (List.length e16 + List.length (bytesOf x1_2)) * 1 ≤ 140737488355328 then
                  F138_term_write_l11 (e16 ++ (bytesOf x1_2)) x1_0 x1_1 x1_2 x1_3
                else
                  none
              else
                none
            else
              if x1_0 = (5 : Int) then
                (F162_term_PutNum (IntKind.u64.wrap (List.length x1_3 : Int))).bind fun y17 =>
                let e18 : (List Int) := (g0 ++ [(IntKind.u8.wrap x1_0)]) ++ (bytesOf y17.1)
                if (List.length (g0 ++ [(IntKind.u8.wrap x1_0)]) + List.length (bytesOf y17.1)) * 1 ≤ 140737488355328 then
                  F138_term_write_l11 e18 x1_0 x1_1 x1_2 x1_3
                else
                  none
              else
                F138_term_write_l11 (g0 ++ [(IntKind.u8.wrap x1_0)]) x1_0 x1_1 x1_2 x1_3
    else
      none :=
  (F_eq (G := G) rfl fn22 rfl _).trans ((run_eq _ _ _ _).trans (by kernel_rfl))
theorem F138_term_write_l11_eq (g1 : (List Int)) (h2_0 : Int) (h2_1 : Int) (h2_2 : ByteArray) (h2_3 : (List S38)) : F138_term_write_l11 g1 h2_0 h2_1 h2_2 h2_3 =
    F138_term_write_l1000012 h2_3 (List.length h2_3 : Int) 0 g1 :=
  (run_eq _ _ _ _).trans (by kernel_rfl)
theorem F138_term_write_l1000012_eq (v46 : (List S38)) (v47 : Int) (v48 : Int) (g1 : (List Int)) : F138_term_write_l1000012 v46 v47 v48 g1 =
    if v48 < v47 then
      if (0 : Int) ≤ v48 ∧ v48 < (List.length v46 : Int) then
        (F138_term_write (S38.f0 (rd S38.z v46 v48)) (S38.f1 (rd S38.z v46 v48)) (S38.f2 (rd S38.z v46 v48)) (S38.f3 (rd S38.z v46 v48)) g1).bind fun y1 =>
        F138_term_write_l1000012 v46 v47 (IntKind.i64.wrap (v48 + (1 : Int))) y1.1
      else
        none
    else
      some (g1, ()) :=
  (run_eq _ _ _ _).trans (by kernel_rfl)
theorem F127_term_parts_eq (x0_0 : Int) (x0_1 : Int) (x0_2 : ByteArray) (x0_3 : (List S38)) (x1 : Int) : F127_term_parts x0_0 x0_1 x0_2 x0_3 x1 =
    F127_term_parts_l1000003 x1 1 x0_3 (List.length x0_3 : Int) 0 :=
  (F_eq (G := G) rfl fn23 rfl _).trans ((run_eq _ _ _ _).trans (by kernel_rfl))
theorem F127_term_parts_l1000003_eq (v1 : Int) (v5 : Int) (v9 : (List S38)) (v10 : Int) (v11 : Int) : F127_term_parts_l1000003 v1 v5 v9 v10 v11 =
    if v11 < v10 then
      if (0 : Int) ≤ v11 ∧ v11 < (List.length v9 : Int) then
        if v1 ≤ v5 then
          some (v5, ())
        else
          (F127_term_parts (S38.f0 (rd S38.z v9 v11)) (S38.f1 (rd S38.z v9 v11)) (S38.f2 (rd S38.z v9 v11)) (S38.f3 (rd S38.z v9 v11)) (IntKind.i64.wrap (v1 - v5))).bind fun y1 =>
          F127_term_parts_l1000003 v1 (IntKind.i64.wrap (v5 + y1.1)) v9 v10 (IntKind.i64.wrap (v11 + (1 : Int)))
      else
        none
    else
      some (v5, ()) :=
  (run_eq _ _ _ _).trans (by kernel_rfl)
theorem F128_term_deep_eq (x0_0 : Int) (x0_1 : Int) (x0_2 : ByteArray) (x0_3 : (List S38)) (x1 : Int) : F128_term_deep x0_0 x0_1 x0_2 x0_3 x1 =
    if (1 : Int) < x1 then
      F128_term_deep_l1000004 x1 0 x0_3 (List.length x0_3 : Int) 0
    else
      some ((IntKind.i64.wrap ((0 : Int) + (1 : Int))), ()) :=
  (F_eq (G := G) rfl fn24 rfl _).trans ((run_eq _ _ _ _).trans (by kernel_rfl))
theorem F128_term_deep_l1000004_eq (v1 : Int) (v5 : Int) (v11 : (List S38)) (v12 : Int) (v13 : Int) : F128_term_deep_l1000004 v1 v5 v11 v12 v13 =
    if v13 < v12 then
      if (0 : Int) ≤ v13 ∧ v13 < (List.length v11 : Int) then
        (F128_term_deep (S38.f0 (rd S38.z v11 v13)) (S38.f1 (rd S38.z v11 v13)) (S38.f2 (rd S38.z v11 v13)) (S38.f3 (rd S38.z v11 v13)) (IntKind.i64.wrap (v1 - (1 : Int)))).bind fun y1 =>
        F128_term_deep_l1000004 v1 (mx v5 y1.1) v11 v12 (IntKind.i64.wrap (v13 + (1 : Int)))
      else
        none
    else
      some ((IntKind.i64.wrap (v5 + (1 : Int))), ()) :=
  (run_eq _ _ _ _).trans (by kernel_rfl)
theorem F129_term_shaped_eq (x0_0 : Int) (x0_1 : Int) (x0_2 : ByteArray) (x0_3 : (List S38)) : F129_term_shaped x0_0 x0_1 x0_2 x0_3 =
    if x0_0 = (1 : Int) then
      if x0_0 = (1 : Int) then
        if x0_2 = ByteArray.empty then
          F129_term_shaped_l12 (decide ((List.length x0_3 : Int) = (0 : Int))) x0_0 x0_1 x0_2 x0_3
        else
          F129_term_shaped_l12 false x0_0 x0_1 x0_2 x0_3
      else
        if x0_0 = (2 : Int) then
          if x0_1 = (0 : Int) then
            if (ByteArray.size x0_2 : Int) ≤ (4000 : Int) then
              F129_term_shaped_l12 (decide ((List.length x0_3 : Int) = (0 : Int))) x0_0 x0_1 x0_2 x0_3
            else
              F129_term_shaped_l12 false x0_0 x0_1 x0_2 x0_3
          else
            F129_term_shaped_l12 false x0_0 x0_1 x0_2 x0_3
        else
          if x0_0 = (4 : Int) then
            if x0_2 = ByteArray.empty then
              F129_term_shaped_l12 (decide ((List.length x0_3 : Int) = (1 : Int))) x0_0 x0_1 x0_2 x0_3
            else
              F129_term_shaped_l12 false x0_0 x0_1 x0_2 x0_3
          else
            if x0_0 = (5 : Int) then
              if x0_1 = (0 : Int) then
                F129_term_shaped_l12 (decide (x0_2 = ByteArray.empty)) x0_0 x0_1 x0_2 x0_3
              else
                F129_term_shaped_l12 false x0_0 x0_1 x0_2 x0_3
            else
              F129_term_shaped_l12 false x0_0 x0_1 x0_2 x0_3
    else
      if x0_0 = (3 : Int) then
        if x0_2 = ByteArray.empty then
          F129_term_shaped_l12 (decide ((List.length x0_3 : Int) = (0 : Int))) x0_0 x0_1 x0_2 x0_3
        else
          F129_term_shaped_l12 false x0_0 x0_1 x0_2 x0_3
      else
        if x0_0 = (2 : Int) then
          if x0_1 = (0 : Int) then
            if (ByteArray.size x0_2 : Int) ≤ (4000 : Int) then
              F129_term_shaped_l12 (decide ((List.length x0_3 : Int) = (0 : Int))) x0_0 x0_1 x0_2 x0_3
            else
              F129_term_shaped_l12 false x0_0 x0_1 x0_2 x0_3
          else
            F129_term_shaped_l12 false x0_0 x0_1 x0_2 x0_3
        else
          if x0_0 = (4 : Int) then
            if x0_2 = ByteArray.empty then
              F129_term_shaped_l12 (decide ((List.length x0_3 : Int) = (1 : Int))) x0_0 x0_1 x0_2 x0_3
            else
              F129_term_shaped_l12 false x0_0 x0_1 x0_2 x0_3
          else
            if x0_0 = (5 : Int) then
              if x0_1 = (0 : Int) then
                F129_term_shaped_l12 (decide (x0_2 = ByteArray.empty)) x0_0 x0_1 x0_2 x0_3
              else
                F129_term_shaped_l12 false x0_0 x0_1 x0_2 x0_3
            else
              F129_term_shaped_l12 false x0_0 x0_1 x0_2 x0_3 :=
  (F_eq (G := G) rfl fn25 rfl _).trans ((run_eq _ _ _ _).trans (by kernel_rfl))
theorem F129_term_shaped_l12_eq (v3 : Bool) (h0_0 : Int) (h0_1 : Int) (h0_2 : ByteArray) (h0_3 : (List S38)) : F129_term_shaped_l12 v3 h0_0 h0_1 h0_2 h0_3 =
    if v3 = true then
      (F156_slices_ContainsFunc_157 h0_3).bind fun y1 =>
      some ((!y1.1), ())
    else
      some (false, ()) :=
  (run_eq _ _ _ _).trans (by kernel_rfl)
theorem F156_slices_ContainsFunc_157_eq (x0 : (List S38)) : F156_slices_ContainsFunc_157 x0 =
    (F185_slices_IndexFunc_157 x0).bind fun y1 =>
    some ((decide ((0 : Int) ≤ y1.1)), ()) :=
  (F_eq (G := G) rfl fn26 rfl _).trans ((run_eq _ _ _ _).trans (by kernel_rfl))
theorem F185_slices_IndexFunc_157_eq (x0 : (List S38)) : F185_slices_IndexFunc_157 x0 =
    F185_slices_IndexFunc_157_l1000002 x0 (List.length x0 : Int) 0 :=
  (F_eq (G := G) rfl fn27 rfl _).trans ((run_eq _ _ _ _).trans (by kernel_rfl))
theorem F185_slices_IndexFunc_157_l1000002_eq (v0 : (List S38)) (v7 : Int) (v8 : Int) : F185_slices_IndexFunc_157_l1000002 v0 v7 v8 =
    if v8 < v7 then
      if (0 : Int) ≤ v8 ∧ v8 < (List.length v0 : Int) then
        (F157_term_shaped_1 (S38.f0 (rd S38.z v0 v8)) (S38.f1 (rd S38.z v0 v8)) (S38.f2 (rd S38.z v0 v8)) (S38.f3 (rd S38.z v0 v8))).bind fun y1 =>
        if y1.1 = true then
          some (v8, ())
        else
          F185_slices_IndexFunc_157_l1000002 v0 v7 (IntKind.i64.wrap (v8 + (1 : Int)))
      else
        none
    else
      some ((-1), ()) :=
  (run_eq _ _ _ _).trans (by kernel_rfl)
theorem F157_term_shaped_1_eq (x0_0 : Int) (x0_1 : Int) (x0_2 : ByteArray) (x0_3 : (List S38)) : F157_term_shaped_1 x0_0 x0_1 x0_2 x0_3 =
    (F129_term_shaped x0_0 x0_1 x0_2 x0_3).bind fun y1 =>
    some ((!y1.1), ()) :=
  (F_eq (G := G) rfl fn28 rfl _).trans ((run_eq _ _ _ _).trans (by kernel_rfl))
theorem F162_term_PutNum_eq (x0 : Int) : F162_term_PutNum x0 =
    F162_term_PutNum_l1000002 x0 [] :=
  (F_eq (G := G) rfl fn29 rfl _).trans ((run_eq _ _ _ _).trans (by kernel_rfl))
theorem F162_term_PutNum_l1000002_eq (v0 : Int) (g0 : (List Int)) : F162_term_PutNum_l1000002 v0 g0 =
    if (128 : Int) ≤ v0 then
      let e1 : (List Int) := [(bitsR .or .u8 (IntKind.u8.wrap v0) (128 : Int))]
      if (List.length g0 + List.length e1) * 1 ≤ 140737488355328 then
        F162_term_PutNum_l1000002 (shrR .u64 v0 (7 : Int)) (g0 ++ e1)
      else
        none
    else
      if (List.length g0 + List.length [(IntKind.u8.wrap v0)]) * 1 ≤ 140737488355328 then
        some ((strOf (g0 ++ [(IntKind.u8.wrap v0)])), ())
      else
        none :=
  (run_eq _ _ _ _).trans (by kernel_rfl)
theorem F124_term_clone_eq (x0_0 : Int) (x0_1 : Int) (x0_2 : ByteArray) (x0_3 : (List S38)) : F124_term_clone x0_0 x0_1 x0_2 x0_3 =
    F124_term_clone_l1000003 x0_3 (List.length x0_3 : Int) 0 x0_0 x0_1 x0_2 x0_3 0 0 ByteArray.empty [] [] :=
  (F_eq (G := G) rfl fn30 rfl _).trans ((run_eq _ _ _ _).trans (by kernel_rfl))
theorem F124_term_clone_l1000003_eq (v7 : (List S38)) (v8 : Int) (v9 : Int) (h0_0 : Int) (h0_1 : Int) (h0_2 : ByteArray) (h0_3 : (List S38)) (h1_0 : Int) (h1_1 : Int) (h1_2 : ByteArray) (g2 : (List S38)) (g3 : (List S38)) : F124_term_clone_l1000003 v7 v8 v9 h0_0 h0_1 h0_2 h0_3 h1_0 h1_1 h1_2 g2 g3 =
    if v9 < v8 then
      if (0 : Int) ≤ v9 ∧ v9 < (List.length v7 : Int) then
        (F124_term_clone (S38.f0 (rd S38.z v7 v9)) (S38.f1 (rd S38.z v7 v9)) (S38.f2 (rd S38.z v7 v9)) (S38.f3 (rd S38.z v7 v9))).bind fun y1 =>
        if (List.length g2 + List.length [(S38.mk y1.1 y1.2.1 y1.2.2.1 y1.2.2.2.1)]) * 56 ≤ 140737488355328 then
          F124_term_clone_l1000003 v7 v8 (IntKind.i64.wrap (v9 + (1 : Int))) h0_0 h0_1 h0_2 h0_3 h1_0 h1_1 h1_2 (g2 ++ [(S38.mk y1.1 y1.2.1 y1.2.2.1 y1.2.2.2.1)]) g3
        else
          none
      else
        none
    else
      some (h0_0, h0_1, h0_2, g2, ()) :=
  (run_eq _ _ _ _).trans (by kernel_rfl)
theorem F53_cell_Cell_Get_eq (x1 : Int) (h0_1 : ByteArray) (h0_2 : ByteArray) (h0_3 : Int) (h1_0 : Bool) (h1_1 : Int) (h1_2 : Int) : F53_cell_Cell_Get x1 h0_1 h0_2 h0_3 h1_0 h1_1 h1_2 =
    (F103_cell_Cell_is x1 h0_1 h0_2 h0_3 h1_0 h1_1 h1_2).bind fun y1 =>
    if (!y1.1) = true then
      some (ByteArray.empty, false, y1.2.1, y1.2.2.1, y1.2.2.2.1, y1.2.2.2.2.1, y1.2.2.2.2.2.1, y1.2.2.2.2.2.2.1, ())
    else
      if x1 = (0 : Int) then
        if x1 = (0 : Int) then
          some (y1.2.1, (decide (¬ y1.2.1 = ByteArray.empty)), y1.2.1, y1.2.2.1, y1.2.2.2.1, y1.2.2.2.2.1, y1.2.2.2.2.2.1, y1.2.2.2.2.2.2.1, ())
        else
          if x1 = (1 : Int) then
            some (y1.2.1, (decide (¬ y1.2.2.1 = ByteArray.empty)), y1.2.1, y1.2.2.1, y1.2.2.2.1, y1.2.2.2.2.1, y1.2.2.2.2.2.1, y1.2.2.2.2.2.2.1, ())
          else
            none
      else
        if x1 = (1 : Int) then
          if x1 = (0 : Int) then
            some (y1.2.2.1, (decide (¬ y1.2.1 = ByteArray.empty)), y1.2.1, y1.2.2.1, y1.2.2.2.1, y1.2.2.2.2.1, y1.2.2.2.2.2.1, y1.2.2.2.2.2.2.1, ())
          else
            if x1 = (1 : Int) then
              some (y1.2.2.1, (decide (¬ y1.2.2.1 = ByteArray.empty)), y1.2.1, y1.2.2.1, y1.2.2.2.1, y1.2.2.2.2.1, y1.2.2.2.2.2.1, y1.2.2.2.2.2.2.1, ())
            else
              none
        else
          none :=
  (F_eq (G := G) rfl fn31 rfl _).trans ((run_eq _ _ _ _).trans (by kernel_rfl))
theorem F29_commit_Parse_eq (x0 : ByteArray) : F29_commit_Parse x0 =
    (F98_term_Decode x0).bind fun y1 =>
    if ¬ y1.2.2.2.2.1 = (0 : Int) then
      some (0, 0, 0, 0, 0, 0, 0, 170, ())
    else
      if ¬ y1.1 = (5 : Int) then
        some (0, 0, 0, 0, 0, 0, 0, 170, ())
      else
        if ¬ (List.length y1.2.2.2.1 : Int) = (7 : Int) then
          some (0, 0, 0, 0, 0, 0, 0, 170, ())
        else
          F29_commit_Parse_l1000006 x0 y1.2.2.2.1 (List.length y1.2.2.2.1 : Int) 0 0 0 0 0 0 0 0 y1.1 y1.2.1 y1.2.2.1 y1.2.2.2.1 0 0 0 0 0 0 0 :=
  (F_eq (G := G) rfl fn32 rfl _).trans ((run_eq _ _ _ _).trans (by kernel_rfl))
theorem F29_commit_Parse_l1000006_eq (v0 : ByteArray) (v32 : (List S38)) (v33 : Int) (v34 : Int) (h0_0 : Int) (h0_1 : Int) (h0_2 : Int) (h0_3 : Int) (h0_4 : Int) (h0_5 : Int) (h0_6 : Int) (h1_0 : Int) (h1_1 : Int) (h1_2 : ByteArray) (h1_3 : (List S38)) (h2_0 : Int) (h2_1 : Int) (h2_2 : Int) (h2_3 : Int) (h2_4 : Int) (h2_5 : Int) (h2_6 : Int) : F29_commit_Parse_l1000006 v0 v32 v33 v34 h0_0 h0_1 h0_2 h0_3 h0_4 h0_5 h0_6 h1_0 h1_1 h1_2 h1_3 h2_0 h2_1 h2_2 h2_3 h2_4 h2_5 h2_6 =
    if v34 < v33 then
      if (0 : Int) ≤ v34 ∧ v34 < (List.length v32 : Int) then
        let e1 : Int := IntKind.i64.wrap (mn (S38.f1 (rd S38.z v32 v34)) 2147483648)
        if v34 = (0 : Int) then
          F29_commit_Parse_l9 v0 v32 v33 v34 h0_0 h0_1 h0_2 h0_3 h0_4 h0_5 h0_6 h1_0 h1_1 h1_2 h1_3 e1 h2_1 h2_2 h2_3 h2_4 h2_5 h2_6
        else
          if v34 = (1 : Int) then
            F29_commit_Parse_l9 v0 v32 v33 v34 h0_0 h0_1 h0_2 h0_3 h0_4 h0_5 h0_6 h1_0 h1_1 h1_2 h1_3 h2_0 e1 h2_2 h2_3 h2_4 h2_5 h2_6
          else
            if v34 = (2 : Int) then
              F29_commit_Parse_l9 v0 v32 v33 v34 h0_0 h0_1 h0_2 h0_3 h0_4 h0_5 h0_6 h1_0 h1_1 h1_2 h1_3 h2_0 h2_1 e1 h2_3 h2_4 h2_5 h2_6
            else
              if v34 = (3 : Int) then
                F29_commit_Parse_l9 v0 v32 v33 v34 h0_0 h0_1 h0_2 h0_3 h0_4 h0_5 h0_6 h1_0 h1_1 h1_2 h1_3 h2_0 h2_1 h2_2 e1 h2_4 h2_5 h2_6
              else
                if v34 = (4 : Int) then
                  F29_commit_Parse_l9 v0 v32 v33 v34 h0_0 h0_1 h0_2 h0_3 h0_4 h0_5 h0_6 h1_0 h1_1 h1_2 h1_3 h2_0 h2_1 h2_2 h2_3 e1 h2_5 h2_6
                else
                  if v34 = (5 : Int) then
                    F29_commit_Parse_l9 v0 v32 v33 v34 h0_0 h0_1 h0_2 h0_3 h0_4 h0_5 h0_6 h1_0 h1_1 h1_2 h1_3 h2_0 h2_1 h2_2 h2_3 h2_4 e1 h2_6
                  else
                    if v34 = (6 : Int) then
                      F29_commit_Parse_l9 v0 v32 v33 v34 h0_0 h0_1 h0_2 h0_3 h0_4 h0_5 h0_6 h1_0 h1_1 h1_2 h1_3 h2_0 h2_1 h2_2 h2_3 h2_4 h2_5 e1
                    else
                      none
      else
        none
    else
      if (0 : Int) ≤ 1 ∧ 1 < (List.length h1_3 : Int) then
        (F27_commit_Bytes h2_0 (S38.f1 (rd S38.z h1_3 1)) h2_2 h2_3 h2_4 h2_5 h2_6).bind fun y2 =>
        if ¬ y2.2.1 = (0 : Int) then
          some (0, 0, 0, 0, 0, 0, 0, 170, ())
        else
          if ¬ y2.1 = v0 then
            some (0, 0, 0, 0, 0, 0, 0, 170, ())
          else
            some (h2_0, (S38.f1 (rd S38.z h1_3 1)), h2_2, h2_3, h2_4, h2_5, h2_6, 0, ())
      else
        none :=
  (run_eq _ _ _ _).trans (by kernel_rfl)
theorem F29_commit_Parse_l9_eq (v0 : ByteArray) (v32 : (List S38)) (v33 : Int) (v34 : Int) (h0_0 : Int) (h0_1 : Int) (h0_2 : Int) (h0_3 : Int) (h0_4 : Int) (h0_5 : Int) (h0_6 : Int) (h1_0 : Int) (h1_1 : Int) (h1_2 : ByteArray) (h1_3 : (List S38)) (h2_0 : Int) (h2_1 : Int) (h2_2 : Int) (h2_3 : Int) (h2_4 : Int) (h2_5 : Int) (h2_6 : Int) : F29_commit_Parse_l9 v0 v32 v33 v34 h0_0 h0_1 h0_2 h0_3 h0_4 h0_5 h0_6 h1_0 h1_1 h1_2 h1_3 h2_0 h2_1 h2_2 h2_3 h2_4 h2_5 h2_6 =
    F29_commit_Parse_l1000006 v0 v32 v33 (IntKind.i64.wrap (v34 + (1 : Int))) h0_0 h0_1 h0_2 h0_3 h0_4 h0_5 h0_6 h1_0 h1_1 h1_2 h1_3 h2_0 h2_1 h2_2 h2_3 h2_4 h2_5 h2_6 :=
  (run_eq _ _ _ _).trans (by kernel_rfl)
theorem F98_term_Decode_eq (x0 : ByteArray) : F98_term_Decode x0 =
    (F140_term_reader_term 0 x0 0).bind fun y1 =>
    if ¬ y1.2.2.2.2.1 = (0 : Int) then
      some (0, 0, ByteArray.empty, [], y1.2.2.2.2.1, ())
    else
      if ¬ y1.2.2.2.2.2.1 = ByteArray.empty then
        some (0, 0, ByteArray.empty, [], 24, ())
      else
        some (y1.1, y1.2.1, y1.2.2.1, y1.2.2.2.1, 0, ()) :=
  (F_eq (G := G) rfl fn33 rfl _).trans ((run_eq _ _ _ _).trans (by kernel_rfl))
theorem F140_term_reader_term_eq (x1 : Int) (h0_0 : ByteArray) (h0_1 : Int) : F140_term_reader_term x1 h0_0 h0_1 =
    (F163_term_reader_head x1 h0_0 h0_1).bind fun y1 =>
    if ¬ y1.2.2.1 = (0 : Int) then
      some (0, 0, ByteArray.empty, [], y1.2.2.1, y1.2.2.2.1, y1.2.2.2.2.1, ())
    else
      if y1.1 = (1 : Int) then
        if y1.1 = (1 : Int) then
          F140_term_reader_term_l1000022 x1 0 y1.2.2.2.1 y1.2.2.2.2.1 0 0 ByteArray.empty y1.1 y1.2.1 ByteArray.empty [] []
        else
          if y1.1 = (2 : Int) then
            if (4000 : Int) < y1.2.1 then
              some (0, 0, ByteArray.empty, [], 25, y1.2.2.2.1, y1.2.2.2.2.1, ())
            else
              let e2 : Int := IntKind.u64.wrap (ByteArray.size y1.2.2.2.1 : Int)
              if e2 < y1.2.1 then
                some (0, 0, ByteArray.empty, [], 20, y1.2.2.2.1, y1.2.2.2.2.1, ())
              else
                if (0 : Int) ≤ 0 ∧ (0 : Int) ≤ y1.2.1 ∧ y1.2.1 ≤ (ByteArray.size y1.2.2.2.1 : Int) then
                  let e3 : ByteArray := subS y1.2.2.2.1 y1.2.1 (ByteArray.size y1.2.2.2.1 : Int)
                  if (0 : Int) ≤ y1.2.1 ∧ y1.2.1 ≤ (ByteArray.size y1.2.2.2.1 : Int) ∧ (ByteArray.size y1.2.2.2.1 : Int) ≤ (ByteArray.size y1.2.2.2.1 : Int) then
                    F140_term_reader_term_l1000022 x1 0 e3 y1.2.2.2.2.1 0 0 ByteArray.empty y1.1 0 (subS y1.2.2.2.1 0 y1.2.1) [] []
                  else
                    none
                else
                  none
          else
            if y1.1 = (4 : Int) then
              F140_term_reader_term_l1000022 x1 1 y1.2.2.2.1 y1.2.2.2.2.1 0 0 ByteArray.empty y1.1 y1.2.1 ByteArray.empty [] []
            else
              if y1.1 = (5 : Int) then
                F140_term_reader_term_l1000022 x1 y1.2.1 y1.2.2.2.1 y1.2.2.2.2.1 0 0 ByteArray.empty y1.1 0 ByteArray.empty [] []
              else
                F140_term_reader_term_l1000022 x1 0 y1.2.2.2.1 y1.2.2.2.2.1 0 0 ByteArray.empty y1.1 0 ByteArray.empty [] []
      else
        if y1.1 = (3 : Int) then
          F140_term_reader_term_l1000022 x1 0 y1.2.2.2.1 y1.2.2.2.2.1 0 0 ByteArray.empty y1.1 y1.2.1 ByteArray.empty [] []
        else
          if y1.1 = (2 : Int) then
            if (4000 : Int) < y1.2.1 then
              some (0, 0, ByteArray.empty, [], 25, y1.2.2.2.1, y1.2.2.2.2.1, ())
            else
              let e4 : Int := IntKind.u64.wrap (ByteArray.size y1.2.2.2.1 : Int)
              if e4 < y1.2.1 then
                some (0, 0, ByteArray.empty, [], 20, y1.2.2.2.1, y1.2.2.2.2.1, ())
              else
                if (0 : Int) ≤ 0 ∧ (0 : Int) ≤ y1.2.1 ∧ y1.2.1 ≤ (ByteArray.size y1.2.2.2.1 : Int) then
                  let e5 : ByteArray := subS y1.2.2.2.1 y1.2.1 (ByteArray.size y1.2.2.2.1 : Int)
                  if (0 : Int) ≤ y1.2.1 ∧ y1.2.1 ≤ (ByteArray.size y1.2.2.2.1 : Int) ∧ (ByteArray.size y1.2.2.2.1 : Int) ≤ (ByteArray.size y1.2.2.2.1 : Int) then
                    F140_term_reader_term_l1000022 x1 0 e5 y1.2.2.2.2.1 0 0 ByteArray.empty y1.1 0 (subS y1.2.2.2.1 0 y1.2.1) [] []
                  else
                    none
                else
                  none
          else
            if y1.1 = (4 : Int) then
              F140_term_reader_term_l1000022 x1 1 y1.2.2.2.1 y1.2.2.2.2.1 0 0 ByteArray.empty y1.1 y1.2.1 ByteArray.empty [] []
            else
              if y1.1 = (5 : Int) then
                F140_term_reader_term_l1000022 x1 y1.2.1 y1.2.2.2.1 y1.2.2.2.2.1 0 0 ByteArray.empty y1.1 0 ByteArray.empty [] []
              else
                F140_term_reader_term_l1000022 x1 0 y1.2.2.2.1 y1.2.2.2.2.1 0 0 ByteArray.empty y1.1 0 ByteArray.empty [] [] :=
  (F_eq (G := G) rfl fn34 rfl _).trans ((run_eq _ _ _ _).trans (by kernel_rfl))
theorem F140_term_reader_term_l1000022_eq (v1 : Int) (v10 : Int) (h0_0 : ByteArray) (h0_1 : Int) (h1_0 : Int) (h1_1 : Int) (h1_2 : ByteArray) (h2_0 : Int) (h2_1 : Int) (h2_2 : ByteArray) (g3 : (List S38)) (g4 : (List S38)) : F140_term_reader_term_l1000022 v1 v10 h0_0 h0_1 h1_0 h1_1 h1_2 h2_0 h2_1 h2_2 g3 g4 =
    if (0 : Int) < v10 then
      (F140_term_reader_term (IntKind.i64.wrap (v1 + (1 : Int))) h0_0 h0_1).bind fun y1 =>
      if ¬ y1.2.2.2.2.1 = (0 : Int) then
        some (0, 0, ByteArray.empty, [], y1.2.2.2.2.1, y1.2.2.2.2.2.1, y1.2.2.2.2.2.2.1, ())
      else
        if (List.length g4 + List.length [(S38.mk y1.1 y1.2.1 y1.2.2.1 y1.2.2.2.1)]) * 56 ≤ 140737488355328 then
          F140_term_reader_term_l1000022 v1 (IntKind.u64.wrap (v10 - (1 : Int))) y1.2.2.2.2.2.1 y1.2.2.2.2.2.2.1 h1_0 h1_1 h1_2 h2_0 h2_1 h2_2 g3 (g4 ++ [(S38.mk y1.1 y1.2.1 y1.2.2.1 y1.2.2.2.1)])
        else
          none
    else
      some (h2_0, h2_1, h2_2, g4, 0, h0_0, h0_1, ()) :=
  (run_eq _ _ _ _).trans (by kernel_rfl)
theorem F163_term_reader_head_eq (x1 : Int) (h0_0 : ByteArray) (h0_1 : Int) : F163_term_reader_head x1 h0_0 h0_1 =
    if (4000 : Int) ≤ h0_1 then
      some (0, 0, 23, h0_0, h0_1, ())
    else
      if (12 : Int) ≤ x1 then
        some (0, 0, 22, h0_0, h0_1, ())
      else
        if h0_0 = ByteArray.empty then
          some (0, 0, 20, h0_0, h0_1, ())
        else
          if (0 : Int) ≤ 0 ∧ 0 < (ByteArray.size h0_0 : Int) then
            if (IntKind.i64.wrap (bt h0_0 0)) < (1 : Int) then
              some (0, 0, 21, h0_0, (IntKind.i64.wrap (h0_1 + (1 : Int))), ())
            else
              if (5 : Int) < (IntKind.i64.wrap (bt h0_0 0)) then
                some (0, 0, 21, h0_0, (IntKind.i64.wrap (h0_1 + (1 : Int))), ())
              else
                if (0 : Int) ≤ 1 ∧ (1 : Int) ≤ (ByteArray.size h0_0 : Int) ∧ (ByteArray.size h0_0 : Int) ≤ (ByteArray.size h0_0 : Int) then
                  (F186_term_GetNum (subS h0_0 1 (ByteArray.size h0_0 : Int))).bind fun y1 =>
                  if ¬ y1.2.2.1 = (0 : Int) then
                    some (0, 0, y1.2.2.1, h0_0, (IntKind.i64.wrap (h0_1 + (1 : Int))), ())
                  else
                    let e2 : ByteArray := subS h0_0 (IntKind.i64.wrap ((1 : Int) + y1.2.1)) (ByteArray.size h0_0 : Int)
                    if (0 : Int) ≤ (IntKind.i64.wrap ((1 : Int) + y1.2.1)) ∧ (IntKind.i64.wrap ((1 : Int) + y1.2.1)) ≤ (ByteArray.size h0_0 : Int) ∧ (ByteArray.size h0_0 : Int) ≤ (ByteArray.size h0_0 : Int) then
                      some ((IntKind.i64.wrap (bt h0_0 0)), y1.1, 0, e2, (IntKind.i64.wrap (h0_1 + (1 : Int))), ())
                    else
                      none
                else
                  none
          else
            none :=
  (F_eq (G := G) rfl fn35 rfl _).trans ((run_eq _ _ _ _).trans (by kernel_rfl))
theorem F186_term_GetNum_eq (x0 : ByteArray) : F186_term_GetNum x0 =
    F186_term_GetNum_l1000003 x0 0 0 :=
  (F_eq (G := G) rfl fn36 rfl _).trans ((run_eq _ _ _ _).trans (by kernel_rfl))
theorem F186_term_GetNum_l1000003_eq (v0 : ByteArray) (v5 : Int) (v6 : Int) : F186_term_GetNum_l1000003 v0 v5 v6 =
    if v6 < (ByteArray.size v0 : Int) then
      if (0 : Int) ≤ v6 ∧ v6 < (ByteArray.size v0 : Int) then
        if v6 = (9 : Int) then
          if (1 : Int) < (bt v0 v6) then
            some (0, 0, 21, ())
          else
            let e1 : Int := IntKind.u64.wrap (bitsR .and .u8 (bt v0 v6) (127 : Int))
            let e2 : Int := IntKind.u64.wrap (IntKind.i64.wrap ((7 : Int) * v6))
            if 0 ≤ e2 then
              if (shrR .u8 (bt v0 v6) (7 : Int)) = (0 : Int) then
                if (bt v0 v6) = (0 : Int) then
                  if (0 : Int) < v6 then
                    some (0, 0, 21, ())
                  else
                    F186_term_GetNum_l12 (bitsR .or .u64 v5 (shlR .u64 e1 e2)) v6
                else
                  F186_term_GetNum_l12 (bitsR .or .u64 v5 (shlR .u64 e1 e2)) v6
              else
                F186_term_GetNum_l1000003 v0 (bitsR .or .u64 v5 (shlR .u64 e1 e2)) (IntKind.i64.wrap (v6 + (1 : Int)))
            else
              none
        else
          let e3 : Int := IntKind.u64.wrap (bitsR .and .u8 (bt v0 v6) (127 : Int))
          let e4 : Int := IntKind.u64.wrap (IntKind.i64.wrap ((7 : Int) * v6))
          if 0 ≤ e4 then
            if (shrR .u8 (bt v0 v6) (7 : Int)) = (0 : Int) then
              if (bt v0 v6) = (0 : Int) then
                if (0 : Int) < v6 then
                  some (0, 0, 21, ())
                else
                  F186_term_GetNum_l12 (bitsR .or .u64 v5 (shlR .u64 e3 e4)) v6
              else
                F186_term_GetNum_l12 (bitsR .or .u64 v5 (shlR .u64 e3 e4)) v6
            else
              F186_term_GetNum_l1000003 v0 (bitsR .or .u64 v5 (shlR .u64 e3 e4)) (IntKind.i64.wrap (v6 + (1 : Int)))
          else
            none
      else
        none
    else
      some (0, 0, 20, ()) :=
  (run_eq _ _ _ _).trans (by kernel_rfl)
theorem F186_term_GetNum_l12_eq (v5 : Int) (v6 : Int) : F186_term_GetNum_l12 v5 v6 =
    some (v5, (IntKind.i64.wrap (v6 + (1 : Int))), 0, ()) :=
  (run_eq _ _ _ _).trans (by kernel_rfl)
theorem F18_letheref06_RefRight_eq (x0_0 : Int) (x0_1 : Int) (x0_2 : Int) (x0_3 : Int) : F18_letheref06_RefRight x0_0 x0_1 x0_2 x0_3 =
    if (0 : Int) ≤ x0_1 then
      if x0_1 ≤ (1048576 : Int) then
        if (0 : Int) ≤ x0_2 then
          if x0_2 ≤ (134217728 : Int) then
            if (1 : Int) ≤ x0_3 then
              some ((decide (x0_3 ≤ (1048576 : Int))), ())
            else
              some (false, ())
          else
            some (false, ())
        else
          some (false, ())
      else
        some (false, ())
    else
      some (false, ()) :=
  (F_eq (G := G) rfl fn37 rfl _).trans ((run_eq _ _ _ _).trans (by kernel_rfl))
end
end Go.Proofs.Ytgfaplkbajjheaa.CommitNumbersx
