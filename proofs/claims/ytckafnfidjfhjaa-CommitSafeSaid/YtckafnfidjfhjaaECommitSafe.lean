/- The law CommitSafe: what each function answers, in plain equations. Under no condition. -/
import Derived.Test.YtckafnfidjfhjaaTCommitSafe
set_option linter.unusedVariables false
set_option maxRecDepth 100000
namespace Go.Proofs.Ytckafnfidjfhjaa.CommitSafex
open Go Go.RowKit Go.Proofs.Ytckafnfidjfhjaa.Rx Go.Proofs.Ytckafnfidjfhjaa.CommitSafex
noncomputable section
theorem F3_lethelaw17_CommitSafe_eq (x0 : (List S32)) (x1 : (List Int)) : F3_lethelaw17_CommitSafe x0 x1 =
    (F6_power_New ).bind fun y1 =>
    (F5_cell_New y1.1 y1.2.1 y1.2.2.1).bind fun y2 =>
    F3_lethelaw17_CommitSafe_l1000007 x1 false x0 (List.length x0 : Int) 0 y2.2.2.2.1 y2.2.2.2.2.1 y2.2.2.2.2.2.1 0 0 0 0 0 0 0 y2.1 y2.2.1 y2.2.2.1 :=
  (F_eq (G := G) rfl fn0 rfl _).trans ((run_eq _ _ _ _).trans (by kernel_rfl))
theorem F3_lethelaw17_CommitSafe_l1000007_eq (v1 : (List Int)) (v7 : Bool) (v33 : (List S32)) (v34 : Int) (v35 : Int) (h0_1 : ByteArray) (h0_2 : ByteArray) (h0_3 : Int) (h1_0 : Int) (h1_1 : Int) (h1_2 : Int) (h1_3 : Int) (h1_4 : Int) (h1_5 : Int) (h1_6 : Int) (h2_0 : Bool) (h2_1 : Int) (h2_2 : Int) : F3_lethelaw17_CommitSafe_l1000007 v1 v7 v33 v34 v35 h0_1 h0_2 h0_3 h1_0 h1_1 h1_2 h1_3 h1_4 h1_5 h1_6 h2_0 h2_1 h2_2 =
    if v35 < v34 then
      if (0 : Int) ≤ v35 ∧ v35 < (List.length v33 : Int) then
        if (30 : Int) ≤ v35 then
          some (true, ())
        else
          if (!v7) = true then
            (F7_letheref17_Right 0 (S32.f1 (rd S32.z v33 v35)) (S32.f2 (rd S32.z v33 v35)) (S32.f3 (rd S32.z v33 v35)) (S32.f4 (rd S32.z v33 v35)) (S32.f5 (rd S32.z v33 v35)) (S32.f6 (rd S32.z v33 v35))).bind fun y1 =>
            if (!y1.1) = true then
              F3_lethelaw17_CommitSafe_l40 v1 v7 v33 v34 v35 h0_1 h0_2 h0_3 h1_0 h1_1 h1_2 h1_3 h1_4 h1_5 h1_6 h2_0 h2_1 h2_2
            else
              if (!v7) = true then
                (F8_commit_First (S32.f1 (rd S32.z v33 v35)) (S32.f2 (rd S32.z v33 v35)) (S32.f3 (rd S32.z v33 v35)) (S32.f4 (rd S32.z v33 v35)) (S32.f5 (rd S32.z v33 v35)) (S32.f6 (rd S32.z v33 v35)) h0_1 h0_2 h0_3 h2_0 h2_1 h2_2).bind fun y2 =>
                if ¬ y2.2.2.2.2.2.2.2.1 = (0 : Int) then
                  F3_lethelaw17_CommitSafe_l17 
                else
                  if ¬ (y2.1 = (0 : Int) ∧ (y2.2.1 = (S32.f1 (rd S32.z v33 v35)) ∧ y2.2.2.1 = (S32.f2 (rd S32.z v33 v35)) ∧ y2.2.2.2.1 = (S32.f3 (rd S32.z v33 v35)) ∧ y2.2.2.2.2.1 = (S32.f4 (rd S32.z v33 v35)) ∧ True) ∧ y2.2.2.2.2.2.1 = (S32.f5 (rd S32.z v33 v35)) ∧ y2.2.2.2.2.2.2.1 = (S32.f6 (rd S32.z v33 v35)) ∧ True) then
                    F3_lethelaw17_CommitSafe_l17 
                  else
                    F3_lethelaw17_CommitSafe_l40 v1 true v33 v34 v35 y2.2.2.2.2.2.2.2.2.1 y2.2.2.2.2.2.2.2.2.2.1 y2.2.2.2.2.2.2.2.2.2.2.1 0 (S32.f1 (rd S32.z v33 v35)) (S32.f2 (rd S32.z v33 v35)) (S32.f3 (rd S32.z v33 v35)) (S32.f4 (rd S32.z v33 v35)) (S32.f5 (rd S32.z v33 v35)) (S32.f6 (rd S32.z v33 v35)) y2.2.2.2.2.2.2.2.2.2.2.2.1 y2.2.2.2.2.2.2.2.2.2.2.2.2.1 y2.2.2.2.2.2.2.2.2.2.2.2.2.2.1
              else
                (F9_cell_Cell_Count h0_1 h0_2 h0_3 h2_0 h2_1 h2_2).bind fun y3 =>
                if v35 < (List.length v1 : Int) then
                  if (0 : Int) ≤ v35 ∧ v35 < (List.length v1 : Int) then
                    if (0 : Int) ≤ (rd (0 : Int) v1 v35) then
                      if (0 : Int) ≤ v35 ∧ v35 < (List.length v1 : Int) then
                        if (rd (0 : Int) v1 v35) < (2 : Int) then
                          if (0 : Int) ≤ v35 ∧ v35 < (List.length v1 : Int) then
                            (F10_power_Power_Cut (rd (0 : Int) v1 v35) y3.2.2.2.2.1 y3.2.2.2.2.2.1 y3.2.2.2.2.2.2.1).bind fun y4 =>
                            F3_lethelaw17_CommitSafe_l24 v1 v7 y3.1 (rd (0 : Int) v1 v35) v33 v34 v35 y3.2.1 y3.2.2.1 y3.2.2.2.1 h1_0 h1_1 h1_2 h1_3 h1_4 h1_5 h1_6 0 (S32.f1 (rd S32.z v33 v35)) (S32.f2 (rd S32.z v33 v35)) (S32.f3 (rd S32.z v33 v35)) (S32.f4 (rd S32.z v33 v35)) (S32.f5 (rd S32.z v33 v35)) (S32.f6 (rd S32.z v33 v35)) y4.1 y4.2.1 y4.2.2.1
                          else
                            none
                        else
                          F3_lethelaw17_CommitSafe_l24 v1 v7 y3.1 2 v33 v34 v35 y3.2.1 y3.2.2.1 y3.2.2.2.1 h1_0 h1_1 h1_2 h1_3 h1_4 h1_5 h1_6 0 (S32.f1 (rd S32.z v33 v35)) (S32.f2 (rd S32.z v33 v35)) (S32.f3 (rd S32.z v33 v35)) (S32.f4 (rd S32.z v33 v35)) (S32.f5 (rd S32.z v33 v35)) (S32.f6 (rd S32.z v33 v35)) y3.2.2.2.2.1 y3.2.2.2.2.2.1 y3.2.2.2.2.2.2.1
                      else
                        none
                    else
                      F3_lethelaw17_CommitSafe_l24 v1 v7 y3.1 2 v33 v34 v35 y3.2.1 y3.2.2.1 y3.2.2.2.1 h1_0 h1_1 h1_2 h1_3 h1_4 h1_5 h1_6 0 (S32.f1 (rd S32.z v33 v35)) (S32.f2 (rd S32.z v33 v35)) (S32.f3 (rd S32.z v33 v35)) (S32.f4 (rd S32.z v33 v35)) (S32.f5 (rd S32.z v33 v35)) (S32.f6 (rd S32.z v33 v35)) y3.2.2.2.2.1 y3.2.2.2.2.2.1 y3.2.2.2.2.2.2.1
                  else
                    none
                else
                  F3_lethelaw17_CommitSafe_l24 v1 v7 y3.1 2 v33 v34 v35 y3.2.1 y3.2.2.1 y3.2.2.2.1 h1_0 h1_1 h1_2 h1_3 h1_4 h1_5 h1_6 0 (S32.f1 (rd S32.z v33 v35)) (S32.f2 (rd S32.z v33 v35)) (S32.f3 (rd S32.z v33 v35)) (S32.f4 (rd S32.z v33 v35)) (S32.f5 (rd S32.z v33 v35)) (S32.f6 (rd S32.z v33 v35)) y3.2.2.2.2.1 y3.2.2.2.2.2.1 y3.2.2.2.2.2.2.1
          else
            (F7_letheref17_Right (IntKind.i64.wrap (h1_0 + (1 : Int))) (S32.f1 (rd S32.z v33 v35)) (S32.f2 (rd S32.z v33 v35)) (S32.f3 (rd S32.z v33 v35)) (S32.f4 (rd S32.z v33 v35)) (S32.f5 (rd S32.z v33 v35)) (S32.f6 (rd S32.z v33 v35))).bind fun y5 =>
            if (!y5.1) = true then
              F3_lethelaw17_CommitSafe_l40 v1 v7 v33 v34 v35 h0_1 h0_2 h0_3 h1_0 h1_1 h1_2 h1_3 h1_4 h1_5 h1_6 h2_0 h2_1 h2_2
            else
              if (!v7) = true then
                (F8_commit_First (S32.f1 (rd S32.z v33 v35)) (S32.f2 (rd S32.z v33 v35)) (S32.f3 (rd S32.z v33 v35)) (S32.f4 (rd S32.z v33 v35)) (S32.f5 (rd S32.z v33 v35)) (S32.f6 (rd S32.z v33 v35)) h0_1 h0_2 h0_3 h2_0 h2_1 h2_2).bind fun y6 =>
                if ¬ y6.2.2.2.2.2.2.2.1 = (0 : Int) then
                  F3_lethelaw17_CommitSafe_l17 
                else
                  if ¬ (y6.1 = (IntKind.i64.wrap (h1_0 + (1 : Int))) ∧ (y6.2.1 = (S32.f1 (rd S32.z v33 v35)) ∧ y6.2.2.1 = (S32.f2 (rd S32.z v33 v35)) ∧ y6.2.2.2.1 = (S32.f3 (rd S32.z v33 v35)) ∧ y6.2.2.2.2.1 = (S32.f4 (rd S32.z v33 v35)) ∧ True) ∧ y6.2.2.2.2.2.1 = (S32.f5 (rd S32.z v33 v35)) ∧ y6.2.2.2.2.2.2.1 = (S32.f6 (rd S32.z v33 v35)) ∧ True) then
                    F3_lethelaw17_CommitSafe_l17 
                  else
                    F3_lethelaw17_CommitSafe_l40 v1 true v33 v34 v35 y6.2.2.2.2.2.2.2.2.1 y6.2.2.2.2.2.2.2.2.2.1 y6.2.2.2.2.2.2.2.2.2.2.1 (IntKind.i64.wrap (h1_0 + (1 : Int))) (S32.f1 (rd S32.z v33 v35)) (S32.f2 (rd S32.z v33 v35)) (S32.f3 (rd S32.z v33 v35)) (S32.f4 (rd S32.z v33 v35)) (S32.f5 (rd S32.z v33 v35)) (S32.f6 (rd S32.z v33 v35)) y6.2.2.2.2.2.2.2.2.2.2.2.1 y6.2.2.2.2.2.2.2.2.2.2.2.2.1 y6.2.2.2.2.2.2.2.2.2.2.2.2.2.1
              else
                (F9_cell_Cell_Count h0_1 h0_2 h0_3 h2_0 h2_1 h2_2).bind fun y7 =>
                if v35 < (List.length v1 : Int) then
                  if (0 : Int) ≤ v35 ∧ v35 < (List.length v1 : Int) then
                    if (0 : Int) ≤ (rd (0 : Int) v1 v35) then
                      if (0 : Int) ≤ v35 ∧ v35 < (List.length v1 : Int) then
                        if (rd (0 : Int) v1 v35) < (2 : Int) then
                          if (0 : Int) ≤ v35 ∧ v35 < (List.length v1 : Int) then
                            (F10_power_Power_Cut (rd (0 : Int) v1 v35) y7.2.2.2.2.1 y7.2.2.2.2.2.1 y7.2.2.2.2.2.2.1).bind fun y8 =>
                            F3_lethelaw17_CommitSafe_l24 v1 v7 y7.1 (rd (0 : Int) v1 v35) v33 v34 v35 y7.2.1 y7.2.2.1 y7.2.2.2.1 h1_0 h1_1 h1_2 h1_3 h1_4 h1_5 h1_6 (IntKind.i64.wrap (h1_0 + (1 : Int))) (S32.f1 (rd S32.z v33 v35)) (S32.f2 (rd S32.z v33 v35)) (S32.f3 (rd S32.z v33 v35)) (S32.f4 (rd S32.z v33 v35)) (S32.f5 (rd S32.z v33 v35)) (S32.f6 (rd S32.z v33 v35)) y8.1 y8.2.1 y8.2.2.1
                          else
                            none
                        else
                          F3_lethelaw17_CommitSafe_l24 v1 v7 y7.1 2 v33 v34 v35 y7.2.1 y7.2.2.1 y7.2.2.2.1 h1_0 h1_1 h1_2 h1_3 h1_4 h1_5 h1_6 (IntKind.i64.wrap (h1_0 + (1 : Int))) (S32.f1 (rd S32.z v33 v35)) (S32.f2 (rd S32.z v33 v35)) (S32.f3 (rd S32.z v33 v35)) (S32.f4 (rd S32.z v33 v35)) (S32.f5 (rd S32.z v33 v35)) (S32.f6 (rd S32.z v33 v35)) y7.2.2.2.2.1 y7.2.2.2.2.2.1 y7.2.2.2.2.2.2.1
                      else
                        none
                    else
                      F3_lethelaw17_CommitSafe_l24 v1 v7 y7.1 2 v33 v34 v35 y7.2.1 y7.2.2.1 y7.2.2.2.1 h1_0 h1_1 h1_2 h1_3 h1_4 h1_5 h1_6 (IntKind.i64.wrap (h1_0 + (1 : Int))) (S32.f1 (rd S32.z v33 v35)) (S32.f2 (rd S32.z v33 v35)) (S32.f3 (rd S32.z v33 v35)) (S32.f4 (rd S32.z v33 v35)) (S32.f5 (rd S32.z v33 v35)) (S32.f6 (rd S32.z v33 v35)) y7.2.2.2.2.1 y7.2.2.2.2.2.1 y7.2.2.2.2.2.2.1
                  else
                    none
                else
                  F3_lethelaw17_CommitSafe_l24 v1 v7 y7.1 2 v33 v34 v35 y7.2.1 y7.2.2.1 y7.2.2.2.1 h1_0 h1_1 h1_2 h1_3 h1_4 h1_5 h1_6 (IntKind.i64.wrap (h1_0 + (1 : Int))) (S32.f1 (rd S32.z v33 v35)) (S32.f2 (rd S32.z v33 v35)) (S32.f3 (rd S32.z v33 v35)) (S32.f4 (rd S32.z v33 v35)) (S32.f5 (rd S32.z v33 v35)) (S32.f6 (rd S32.z v33 v35)) y7.2.2.2.2.1 y7.2.2.2.2.2.1 y7.2.2.2.2.2.2.1
      else
        none
    else
      some (true, ()) :=
  (run_eq _ _ _ _).trans (by kernel_rfl)
theorem F3_lethelaw17_CommitSafe_l40_eq (v1 : (List Int)) (v7 : Bool) (v33 : (List S32)) (v34 : Int) (v35 : Int) (h0_1 : ByteArray) (h0_2 : ByteArray) (h0_3 : Int) (h1_0 : Int) (h1_1 : Int) (h1_2 : Int) (h1_3 : Int) (h1_4 : Int) (h1_5 : Int) (h1_6 : Int) (h2_0 : Bool) (h2_1 : Int) (h2_2 : Int) : F3_lethelaw17_CommitSafe_l40 v1 v7 v33 v34 v35 h0_1 h0_2 h0_3 h1_0 h1_1 h1_2 h1_3 h1_4 h1_5 h1_6 h2_0 h2_1 h2_2 =
    F3_lethelaw17_CommitSafe_l1000007 v1 v7 v33 v34 (IntKind.i64.wrap (v35 + (1 : Int))) h0_1 h0_2 h0_3 h1_0 h1_1 h1_2 h1_3 h1_4 h1_5 h1_6 h2_0 h2_1 h2_2 :=
  (run_eq _ _ _ _).trans (by kernel_rfl)
theorem F3_lethelaw17_CommitSafe_l17_eq  : F3_lethelaw17_CommitSafe_l17  =
    some (false, ()) :=
  (run_eq _ _ _ _).trans (by kernel_rfl)
theorem F3_lethelaw17_CommitSafe_l24_eq (v1 : (List Int)) (v7 : Bool) (v12 : Int) (v13 : Int) (v33 : (List S32)) (v34 : Int) (v35 : Int) (h0_1 : ByteArray) (h0_2 : ByteArray) (h0_3 : Int) (h1_0 : Int) (h1_1 : Int) (h1_2 : Int) (h1_3 : Int) (h1_4 : Int) (h1_5 : Int) (h1_6 : Int) (h2_0 : Int) (h2_1 : Int) (h2_2 : Int) (h2_3 : Int) (h2_4 : Int) (h2_5 : Int) (h2_6 : Int) (h3_0 : Bool) (h3_1 : Int) (h3_2 : Int) : F3_lethelaw17_CommitSafe_l24 v1 v7 v12 v13 v33 v34 v35 h0_1 h0_2 h0_3 h1_0 h1_1 h1_2 h1_3 h1_4 h1_5 h1_6 h2_0 h2_1 h2_2 h2_3 h2_4 h2_5 h2_6 h3_0 h3_1 h3_2 =
    (F11_commit_Next h2_1 h2_2 h2_3 h2_4 h2_5 h2_6 h0_1 h0_2 h0_3 h3_0 h3_1 h3_2).bind fun y1 =>
    if (!((decide (y1.2.2.2.2.2.2.2.1 = (0 : Int))) == (decide (v13 = (2 : Int))))) = true then
      F3_lethelaw17_CommitSafe_l26 
    else
      if v13 < (2 : Int) then
        if ¬ y1.2.2.2.2.2.2.2.1 = (110 : Int) then
          F3_lethelaw17_CommitSafe_l26 
        else
          if y1.2.2.2.2.2.2.2.1 = (0 : Int) then
            if ¬ (y1.1 = h2_0 ∧ (y1.2.1 = h2_1 ∧ y1.2.2.1 = h2_2 ∧ y1.2.2.2.1 = h2_3 ∧ y1.2.2.2.2.1 = h2_4 ∧ True) ∧ y1.2.2.2.2.2.1 = h2_5 ∧ y1.2.2.2.2.2.2.1 = h2_6 ∧ True) then
              F3_lethelaw17_CommitSafe_l26 
            else
              (F9_cell_Cell_Count y1.2.2.2.2.2.2.2.2.1 y1.2.2.2.2.2.2.2.2.2.1 y1.2.2.2.2.2.2.2.2.2.2.1 y1.2.2.2.2.2.2.2.2.2.2.2.1 y1.2.2.2.2.2.2.2.2.2.2.2.2.1 y1.2.2.2.2.2.2.2.2.2.2.2.2.2.1).bind fun y2 =>
              if ¬ y2.1 = (IntKind.i64.wrap (v12 + v13)) then
                F3_lethelaw17_CommitSafe_l26 
              else
                F3_lethelaw17_CommitSafe_l27 v1 v7 v13 v33 v34 v35 v13 (decide (v13 < (2 : Int))) true (decide (¬ y1.2.2.2.2.2.2.2.1 = (110 : Int))) y1.2.2.2.2.2.2.2.1 (decide (y1.2.2.2.2.2.2.2.1 = (0 : Int))) true (decide (¬ (y1.1 = h2_0 ∧ (y1.2.1 = h2_1 ∧ y1.2.2.1 = h2_2 ∧ y1.2.2.2.1 = h2_3 ∧ y1.2.2.2.2.1 = h2_4 ∧ True) ∧ y1.2.2.2.2.2.1 = h2_5 ∧ y1.2.2.2.2.2.2.1 = h2_6 ∧ True))) y2.1 v12 v13 (IntKind.i64.wrap (v12 + v13)) (decide (¬ y2.1 = (IntKind.i64.wrap (v12 + v13)))) y2.2.1 y2.2.2.1 y2.2.2.2.1 h1_0 h1_1 h1_2 h1_3 h1_4 h1_5 h1_6 h2_0 h2_1 h2_2 h2_3 h2_4 h2_5 h2_6 y2.2.2.2.2.1 y2.2.2.2.2.2.1 y2.2.2.2.2.2.2.1
          else
            (F9_cell_Cell_Count y1.2.2.2.2.2.2.2.2.1 y1.2.2.2.2.2.2.2.2.2.1 y1.2.2.2.2.2.2.2.2.2.2.1 y1.2.2.2.2.2.2.2.2.2.2.2.1 y1.2.2.2.2.2.2.2.2.2.2.2.2.1 y1.2.2.2.2.2.2.2.2.2.2.2.2.2.1).bind fun y3 =>
            if ¬ y3.1 = (IntKind.i64.wrap (v12 + v13)) then
              F3_lethelaw17_CommitSafe_l26 
            else
              F3_lethelaw17_CommitSafe_l27 v1 v7 v13 v33 v34 v35 v13 (decide (v13 < (2 : Int))) true (decide (¬ y1.2.2.2.2.2.2.2.1 = (110 : Int))) y1.2.2.2.2.2.2.2.1 (decide (y1.2.2.2.2.2.2.2.1 = (0 : Int))) false false y3.1 v12 v13 (IntKind.i64.wrap (v12 + v13)) (decide (¬ y3.1 = (IntKind.i64.wrap (v12 + v13)))) y3.2.1 y3.2.2.1 y3.2.2.2.1 h1_0 h1_1 h1_2 h1_3 h1_4 h1_5 h1_6 h2_0 h2_1 h2_2 h2_3 h2_4 h2_5 h2_6 y3.2.2.2.2.1 y3.2.2.2.2.2.1 y3.2.2.2.2.2.2.1
      else
        if y1.2.2.2.2.2.2.2.1 = (0 : Int) then
          if ¬ (y1.1 = h2_0 ∧ (y1.2.1 = h2_1 ∧ y1.2.2.1 = h2_2 ∧ y1.2.2.2.1 = h2_3 ∧ y1.2.2.2.2.1 = h2_4 ∧ True) ∧ y1.2.2.2.2.2.1 = h2_5 ∧ y1.2.2.2.2.2.2.1 = h2_6 ∧ True) then
            F3_lethelaw17_CommitSafe_l26 
          else
            (F9_cell_Cell_Count y1.2.2.2.2.2.2.2.2.1 y1.2.2.2.2.2.2.2.2.2.1 y1.2.2.2.2.2.2.2.2.2.2.1 y1.2.2.2.2.2.2.2.2.2.2.2.1 y1.2.2.2.2.2.2.2.2.2.2.2.2.1 y1.2.2.2.2.2.2.2.2.2.2.2.2.2.1).bind fun y4 =>
            if ¬ y4.1 = (IntKind.i64.wrap (v12 + v13)) then
              F3_lethelaw17_CommitSafe_l26 
            else
              F3_lethelaw17_CommitSafe_l27 v1 v7 v13 v33 v34 v35 v13 (decide (v13 < (2 : Int))) false false y1.2.2.2.2.2.2.2.1 (decide (y1.2.2.2.2.2.2.2.1 = (0 : Int))) true (decide (¬ (y1.1 = h2_0 ∧ (y1.2.1 = h2_1 ∧ y1.2.2.1 = h2_2 ∧ y1.2.2.2.1 = h2_3 ∧ y1.2.2.2.2.1 = h2_4 ∧ True) ∧ y1.2.2.2.2.2.1 = h2_5 ∧ y1.2.2.2.2.2.2.1 = h2_6 ∧ True))) y4.1 v12 v13 (IntKind.i64.wrap (v12 + v13)) (decide (¬ y4.1 = (IntKind.i64.wrap (v12 + v13)))) y4.2.1 y4.2.2.1 y4.2.2.2.1 h1_0 h1_1 h1_2 h1_3 h1_4 h1_5 h1_6 h2_0 h2_1 h2_2 h2_3 h2_4 h2_5 h2_6 y4.2.2.2.2.1 y4.2.2.2.2.2.1 y4.2.2.2.2.2.2.1
        else
          (F9_cell_Cell_Count y1.2.2.2.2.2.2.2.2.1 y1.2.2.2.2.2.2.2.2.2.1 y1.2.2.2.2.2.2.2.2.2.2.1 y1.2.2.2.2.2.2.2.2.2.2.2.1 y1.2.2.2.2.2.2.2.2.2.2.2.2.1 y1.2.2.2.2.2.2.2.2.2.2.2.2.2.1).bind fun y5 =>
          if ¬ y5.1 = (IntKind.i64.wrap (v12 + v13)) then
            F3_lethelaw17_CommitSafe_l26 
          else
            F3_lethelaw17_CommitSafe_l27 v1 v7 v13 v33 v34 v35 v13 (decide (v13 < (2 : Int))) false false y1.2.2.2.2.2.2.2.1 (decide (y1.2.2.2.2.2.2.2.1 = (0 : Int))) false false y5.1 v12 v13 (IntKind.i64.wrap (v12 + v13)) (decide (¬ y5.1 = (IntKind.i64.wrap (v12 + v13)))) y5.2.1 y5.2.2.1 y5.2.2.2.1 h1_0 h1_1 h1_2 h1_3 h1_4 h1_5 h1_6 h2_0 h2_1 h2_2 h2_3 h2_4 h2_5 h2_6 y5.2.2.2.2.1 y5.2.2.2.2.2.1 y5.2.2.2.2.2.2.1 :=
  (run_eq _ _ _ _).trans (by kernel_rfl)
theorem F3_lethelaw17_CommitSafe_l26_eq  : F3_lethelaw17_CommitSafe_l26  =
    some (false, ()) :=
  (run_eq _ _ _ _).trans (by kernel_rfl)
theorem F3_lethelaw17_CommitSafe_l27_eq (v1 : (List Int)) (v7 : Bool) (v13 : Int) (v33 : (List S32)) (v34 : Int) (v35 : Int) (v120 : Int) (v121 : Bool) (v122 : Bool) (v125 : Bool) (v128 : Int) (v129 : Bool) (v130 : Bool) (v134 : Bool) (v138 : Int) (v139 : Int) (v140 : Int) (v141 : Int) (v142 : Bool) (h0_1 : ByteArray) (h0_2 : ByteArray) (h0_3 : Int) (h1_0 : Int) (h1_1 : Int) (h1_2 : Int) (h1_3 : Int) (h1_4 : Int) (h1_5 : Int) (h1_6 : Int) (h2_0 : Int) (h2_1 : Int) (h2_2 : Int) (h2_3 : Int) (h2_4 : Int) (h2_5 : Int) (h2_6 : Int) (h3_0 : Bool) (h3_1 : Int) (h3_2 : Int) : F3_lethelaw17_CommitSafe_l27 v1 v7 v13 v33 v34 v35 v120 v121 v122 v125 v128 v129 v130 v134 v138 v139 v140 v141 v142 h0_1 h0_2 h0_3 h1_0 h1_1 h1_2 h1_3 h1_4 h1_5 h1_6 h2_0 h2_1 h2_2 h2_3 h2_4 h2_5 h2_6 h3_0 h3_1 h3_2 =
    if (0 : Int) < v13 then
      F3_lethelaw17_CommitSafe_l30 v1 v7 v13 v33 v34 v35 v120 v121 v122 v125 v128 v129 v130 v134 v138 v139 v140 v141 v142 h0_1 h0_2 h0_3 h2_0 h2_1 h2_2 h2_3 h2_4 h2_5 h2_6 h1_0 h1_1 h1_2 h1_3 h1_4 h1_5 h1_6 h3_0 h3_1 h3_2
    else
      F3_lethelaw17_CommitSafe_l30 v1 v7 v13 v33 v34 v35 v120 v121 v122 v125 v128 v129 v130 v134 v138 v139 v140 v141 v142 h0_1 h0_2 h0_3 h1_0 h1_1 h1_2 h1_3 h1_4 h1_5 h1_6 h1_0 h1_1 h1_2 h1_3 h1_4 h1_5 h1_6 h3_0 h3_1 h3_2 :=
  (run_eq _ _ _ _).trans (by kernel_rfl)
theorem F3_lethelaw17_CommitSafe_l30_eq (v1 : (List Int)) (v7 : Bool) (v13 : Int) (v33 : (List S32)) (v34 : Int) (v35 : Int) (v120 : Int) (v121 : Bool) (v122 : Bool) (v125 : Bool) (v128 : Int) (v129 : Bool) (v130 : Bool) (v134 : Bool) (v138 : Int) (v139 : Int) (v140 : Int) (v141 : Int) (v142 : Bool) (h0_1 : ByteArray) (h0_2 : ByteArray) (h0_3 : Int) (h1_0 : Int) (h1_1 : Int) (h1_2 : Int) (h1_3 : Int) (h1_4 : Int) (h1_5 : Int) (h1_6 : Int) (h2_0 : Int) (h2_1 : Int) (h2_2 : Int) (h2_3 : Int) (h2_4 : Int) (h2_5 : Int) (h2_6 : Int) (h3_0 : Bool) (h3_1 : Int) (h3_2 : Int) : F3_lethelaw17_CommitSafe_l30 v1 v7 v13 v33 v34 v35 v120 v121 v122 v125 v128 v129 v130 v134 v138 v139 v140 v141 v142 h0_1 h0_2 h0_3 h1_0 h1_1 h1_2 h1_3 h1_4 h1_5 h1_6 h2_0 h2_1 h2_2 h2_3 h2_4 h2_5 h2_6 h3_0 h3_1 h3_2 =
    (F12_commit_Now h0_1 h0_2 h0_3 h3_0 h3_1 h3_2).bind fun y1 =>
    (F13_power_Power_Restore y1.2.2.2.2.2.2.2.2.2.2.2.2.1 y1.2.2.2.2.2.2.2.2.2.2.2.2.2.1 y1.2.2.2.2.2.2.2.2.2.2.2.2.2.2.1).bind fun y2 =>
    (F14_commit_Stale y1.2.2.2.2.2.2.2.2.2.1 y1.2.2.2.2.2.2.2.2.2.2.1 y1.2.2.2.2.2.2.2.2.2.2.2.1 y2.1 y2.2.1 y2.2.2.1).bind fun y3 =>
    (F12_commit_Now y3.2.2.1 y3.2.2.2.1 y3.2.2.2.2.1 y3.2.2.2.2.2.1 y3.2.2.2.2.2.2.1 y3.2.2.2.2.2.2.2.1).bind fun y4 =>
    if ¬ y1.2.2.2.2.2.2.2.2.1 = (0 : Int) then
      F3_lethelaw17_CommitSafe_l35 
    else
      if ¬ y3.2.1 = (0 : Int) then
        F3_lethelaw17_CommitSafe_l35 
      else
        if ¬ y4.2.2.2.2.2.2.2.2.1 = (0 : Int) then
          F3_lethelaw17_CommitSafe_l35 
        else
          if ¬ (y1.1 = h1_0 ∧ (y1.2.1 = h1_1 ∧ y1.2.2.1 = h1_2 ∧ y1.2.2.2.1 = h1_3 ∧ y1.2.2.2.2.1 = h1_4 ∧ True) ∧ y1.2.2.2.2.2.1 = h1_5 ∧ y1.2.2.2.2.2.2.1 = h1_6 ∧ True) then
            F3_lethelaw17_CommitSafe_l35 
          else
            if ¬ (y4.1 = h1_0 ∧ (y4.2.1 = h1_1 ∧ y4.2.2.1 = h1_2 ∧ y4.2.2.2.1 = h1_3 ∧ y4.2.2.2.2.1 = h1_4 ∧ True) ∧ y4.2.2.2.2.2.1 = h1_5 ∧ y4.2.2.2.2.2.2.1 = h1_6 ∧ True) then
              F3_lethelaw17_CommitSafe_l35 
            else
              if (!(y3.1 == (decide (v13 = (1 : Int))))) = true then
                F3_lethelaw17_CommitSafe_l35 
              else
                (F15_cell_Cell_Slots y4.2.2.2.2.2.2.2.2.2.1 y4.2.2.2.2.2.2.2.2.2.2.1 y4.2.2.2.2.2.2.2.2.2.2.2.1 y4.2.2.2.2.2.2.2.2.2.2.2.2.1 y4.2.2.2.2.2.2.2.2.2.2.2.2.2.1 y4.2.2.2.2.2.2.2.2.2.2.2.2.2.2.1).bind fun y5 =>
                if ¬ (List.length y5.2.2.2.2.2.2.1 : Int) = (1 : Int) then
                  F3_lethelaw17_CommitSafe_l35 
                else
                  (F15_cell_Cell_Slots y5.1 y5.2.1 y5.2.2.1 y5.2.2.2.1 y5.2.2.2.2.1 y5.2.2.2.2.2.1).bind fun y6 =>
                  if (0 : Int) ≤ 0 ∧ 0 < (List.length y6.2.2.2.2.2.2.1 : Int) then
                    if ¬ (rd (0 : Int) y6.2.2.2.2.2.2.1 0) = y4.2.2.2.2.2.2.2.1 then
                      F3_lethelaw17_CommitSafe_l35 
                    else
                      (F16_cell_Cell_Get y4.2.2.2.2.2.2.2.1 y6.1 y6.2.1 y6.2.2.1 y6.2.2.2.1 y6.2.2.2.2.1 y6.2.2.2.2.2.1).bind fun y7 =>
                      (F17_thief_Keys [y7.1]).bind fun y8 =>
                      if ¬ (List.length y8.1 : Int) = (1 : Int) then
                        F3_lethelaw17_CommitSafe_l39 
                      else
                        if (0 : Int) ≤ 0 ∧ 0 < (List.length y8.1 : Int) then
                          if ¬ (rd (0 : Int) y8.1 0) = h1_1 then
                            F3_lethelaw17_CommitSafe_l39 
                          else
                            if ¬ (h1_0 = h2_0 ∧ (h1_1 = h2_1 ∧ h1_2 = h2_2 ∧ h1_3 = h2_3 ∧ h1_4 = h2_4 ∧ True) ∧ h1_5 = h2_5 ∧ h1_6 = h2_6 ∧ True) then
                              if ¬ h1_0 = (IntKind.i64.wrap (h2_0 + (1 : Int))) then
                                F3_lethelaw17_CommitSafe_l39 
                              else
                                F3_lethelaw17_CommitSafe_l40 v1 v7 v33 v34 v35 y7.2.2.1 y7.2.2.2.1 y7.2.2.2.2.1 h1_0 h1_1 h1_2 h1_3 h1_4 h1_5 h1_6 y7.2.2.2.2.2.1 y7.2.2.2.2.2.2.1 y7.2.2.2.2.2.2.2.1
                            else
                              F3_lethelaw17_CommitSafe_l40 v1 v7 v33 v34 v35 y7.2.2.1 y7.2.2.2.1 y7.2.2.2.2.1 h1_0 h1_1 h1_2 h1_3 h1_4 h1_5 h1_6 y7.2.2.2.2.2.1 y7.2.2.2.2.2.2.1 y7.2.2.2.2.2.2.2.1
                        else
                          none
                  else
                    none :=
  (run_eq _ _ _ _).trans (by kernel_rfl)
theorem F3_lethelaw17_CommitSafe_l35_eq  : F3_lethelaw17_CommitSafe_l35  =
    some (false, ()) :=
  (run_eq _ _ _ _).trans (by kernel_rfl)
theorem F3_lethelaw17_CommitSafe_l39_eq  : F3_lethelaw17_CommitSafe_l39  =
    some (false, ()) :=
  (run_eq _ _ _ _).trans (by kernel_rfl)
theorem F6_power_New_eq  : F6_power_New  =
    some (false, 0, 0, ()) :=
  (F_eq (G := G) rfl fn1 rfl _).trans ((run_eq _ _ _ _).trans (by kernel_rfl))
theorem F5_cell_New_eq (h0_0 : Bool) (h0_1 : Int) (h0_2 : Int) : F5_cell_New h0_0 h0_1 h0_2 =
    some (h0_0, h0_1, h0_2, ByteArray.empty, ByteArray.empty, 0, ()) :=
  (F_eq (G := G) rfl fn2 rfl _).trans ((run_eq _ _ _ _).trans (by kernel_rfl))
theorem F7_letheref17_Right_eq (x0_0 : Int) (x0_1 : Int) (x0_2 : Int) (x0_3 : Int) (x0_4 : Int) (x0_5 : Int) (x0_6 : Int) : F7_letheref17_Right x0_0 x0_1 x0_2 x0_3 x0_4 x0_5 x0_6 =
    if (0 : Int) ≤ x0_0 then
      if x0_0 ≤ (2147483647 : Int) then
        (F25_letheref06_RefRight x0_1 x0_2 x0_3 x0_4).bind fun y1 =>
        if y1.1 = true then
          if (0 : Int) ≤ x0_5 then
            if x0_5 ≤ (1048576 : Int) then
              if (0 : Int) ≤ x0_6 then
                some ((decide (x0_6 ≤ (134217728 : Int))), ())
              else
                some (false, ())
            else
              some (false, ())
          else
            some (false, ())
        else
          some (false, ())
      else
        some (false, ())
    else
      some (false, ()) :=
  (F_eq (G := G) rfl fn3 rfl _).trans ((run_eq _ _ _ _).trans (by kernel_rfl))
theorem F8_commit_First_eq (x1_0 : Int) (x1_1 : Int) (x1_2 : Int) (x1_3 : Int) (x2 : Int) (x3 : Int) (h0_1 : ByteArray) (h0_2 : ByteArray) (h0_3 : Int) (h1_0 : Bool) (h1_1 : Int) (h1_2 : Int) : F8_commit_First x1_0 x1_1 x1_2 x1_3 x2 x3 h0_1 h0_2 h0_3 h1_0 h1_1 h1_2 =
    (F15_cell_Cell_Slots h0_1 h0_2 h0_3 h1_0 h1_1 h1_2).bind fun y1 =>
    if (0 : Int) < (List.length y1.2.2.2.2.2.2.1 : Int) then
      some (0, 0, 0, 0, 0, 0, 0, 131, y1.1, y1.2.1, y1.2.2.1, y1.2.2.2.1, y1.2.2.2.2.1, y1.2.2.2.2.2.1, ())
    else
      (F26_commit_set 0 0 x1_0 x1_1 x1_2 x1_3 x2 x3 y1.1 y1.2.1 y1.2.2.1 y1.2.2.2.1 y1.2.2.2.2.1 y1.2.2.2.2.2.1).bind fun y2 =>
      some (y2.1, y2.2.1, y2.2.2.1, y2.2.2.2.1, y2.2.2.2.2.1, y2.2.2.2.2.2.1, y2.2.2.2.2.2.2.1, y2.2.2.2.2.2.2.2.1, y2.2.2.2.2.2.2.2.2.1, y2.2.2.2.2.2.2.2.2.2.1, y2.2.2.2.2.2.2.2.2.2.2.1, y2.2.2.2.2.2.2.2.2.2.2.2.1, y2.2.2.2.2.2.2.2.2.2.2.2.2.1, y2.2.2.2.2.2.2.2.2.2.2.2.2.2.1, ()) :=
  (F_eq (G := G) rfl fn4 rfl _).trans ((run_eq _ _ _ _).trans (by kernel_rfl))
theorem F9_cell_Cell_Count_eq (h0_1 : ByteArray) (h0_2 : ByteArray) (h0_3 : Int) (h1_0 : Bool) (h1_1 : Int) (h1_2 : Int) : F9_cell_Cell_Count h0_1 h0_2 h0_3 h1_0 h1_1 h1_2 =
    some (h0_3, h0_1, h0_2, h0_3, h1_0, h1_1, h1_2, ()) :=
  (F_eq (G := G) rfl fn5 rfl _).trans ((run_eq _ _ _ _).trans (by kernel_rfl))
theorem F10_power_Power_Cut_eq (x1 : Int) (h0_0 : Bool) (h0_1 : Int) (h0_2 : Int) : F10_power_Power_Cut x1 h0_0 h0_1 h0_2 =
    if h0_0 = true then
      some (h0_0, h0_1, h0_2, ())
    else
      some ((decide (x1 = (0 : Int))), (mn (mx x1 0) 1073741824), h0_2, ()) :=
  (F_eq (G := G) rfl fn6 rfl _).trans ((run_eq _ _ _ _).trans (by kernel_rfl))
theorem F11_commit_Next_eq (x1_0 : Int) (x1_1 : Int) (x1_2 : Int) (x1_3 : Int) (x2 : Int) (x3 : Int) (h0_1 : ByteArray) (h0_2 : ByteArray) (h0_3 : Int) (h1_0 : Bool) (h1_1 : Int) (h1_2 : Int) : F11_commit_Next x1_0 x1_1 x1_2 x1_3 x2 x3 h0_1 h0_2 h0_3 h1_0 h1_1 h1_2 =
    (F15_cell_Cell_Slots h0_1 h0_2 h0_3 h1_0 h1_1 h1_2).bind fun y1 =>
    if (List.length y1.2.2.2.2.2.2.1 : Int) = (2 : Int) then
      some (0, 0, 0, 0, 0, 0, 0, 172, y1.1, y1.2.1, y1.2.2.1, y1.2.2.2.1, y1.2.2.2.2.1, y1.2.2.2.2.2.1, ())
    else
      (F12_commit_Now y1.1 y1.2.1 y1.2.2.1 y1.2.2.2.1 y1.2.2.2.2.1 y1.2.2.2.2.2.1).bind fun y2 =>
      if ¬ y2.2.2.2.2.2.2.2.2.1 = (0 : Int) then
        some (0, 0, 0, 0, 0, 0, 0, y2.2.2.2.2.2.2.2.2.1, y2.2.2.2.2.2.2.2.2.2.1, y2.2.2.2.2.2.2.2.2.2.2.1, y2.2.2.2.2.2.2.2.2.2.2.2.1, y2.2.2.2.2.2.2.2.2.2.2.2.2.1, y2.2.2.2.2.2.2.2.2.2.2.2.2.2.1, y2.2.2.2.2.2.2.2.2.2.2.2.2.2.2.1, ())
      else
        let e3 : Int := IntKind.i64.wrap ((1 : Int) - y2.2.2.2.2.2.2.2.1)
        (F26_commit_set e3 (IntKind.i64.wrap (y2.1 + (1 : Int))) x1_0 x1_1 x1_2 x1_3 x2 x3 y2.2.2.2.2.2.2.2.2.2.1 y2.2.2.2.2.2.2.2.2.2.2.1 y2.2.2.2.2.2.2.2.2.2.2.2.1 y2.2.2.2.2.2.2.2.2.2.2.2.2.1 y2.2.2.2.2.2.2.2.2.2.2.2.2.2.1 y2.2.2.2.2.2.2.2.2.2.2.2.2.2.2.1).bind fun y4 =>
        if y4.2.2.2.2.2.2.2.1 = (0 : Int) then
          (F27_cell_Cell_Erase y2.2.2.2.2.2.2.2.1 y4.2.2.2.2.2.2.2.2.1 y4.2.2.2.2.2.2.2.2.2.1 y4.2.2.2.2.2.2.2.2.2.2.1 y4.2.2.2.2.2.2.2.2.2.2.2.1 y4.2.2.2.2.2.2.2.2.2.2.2.2.1 y4.2.2.2.2.2.2.2.2.2.2.2.2.2.1).bind fun y5 =>
          if ¬ y5.1 = (0 : Int) then
            some (0, 0, 0, 0, 0, 0, 0, y5.1, y5.2.1, y5.2.2.1, y5.2.2.2.1, y5.2.2.2.2.1, y5.2.2.2.2.2.1, y5.2.2.2.2.2.2.1, ())
          else
            some (y4.1, y4.2.1, y4.2.2.1, y4.2.2.2.1, y4.2.2.2.2.1, y4.2.2.2.2.2.1, y4.2.2.2.2.2.2.1, 0, y5.2.1, y5.2.2.1, y5.2.2.2.1, y5.2.2.2.2.1, y5.2.2.2.2.2.1, y5.2.2.2.2.2.2.1, ())
        else
          if ¬ y4.2.2.2.2.2.2.2.1 = (0 : Int) then
            some (0, 0, 0, 0, 0, 0, 0, y4.2.2.2.2.2.2.2.1, y4.2.2.2.2.2.2.2.2.1, y4.2.2.2.2.2.2.2.2.2.1, y4.2.2.2.2.2.2.2.2.2.2.1, y4.2.2.2.2.2.2.2.2.2.2.2.1, y4.2.2.2.2.2.2.2.2.2.2.2.2.1, y4.2.2.2.2.2.2.2.2.2.2.2.2.2.1, ())
          else
            some (y4.1, y4.2.1, y4.2.2.1, y4.2.2.2.1, y4.2.2.2.2.1, y4.2.2.2.2.2.1, y4.2.2.2.2.2.2.1, 0, y4.2.2.2.2.2.2.2.2.1, y4.2.2.2.2.2.2.2.2.2.1, y4.2.2.2.2.2.2.2.2.2.2.1, y4.2.2.2.2.2.2.2.2.2.2.2.1, y4.2.2.2.2.2.2.2.2.2.2.2.2.1, y4.2.2.2.2.2.2.2.2.2.2.2.2.2.1, ()) :=
  (F_eq (G := G) rfl fn7 rfl _).trans ((run_eq _ _ _ _).trans (by kernel_rfl))
theorem F12_commit_Now_eq (h0_1 : ByteArray) (h0_2 : ByteArray) (h0_3 : Int) (h1_0 : Bool) (h1_1 : Int) (h1_2 : Int) : F12_commit_Now h0_1 h0_2 h0_3 h1_0 h1_1 h1_2 =
    (F15_cell_Cell_Slots h0_1 h0_2 h0_3 h1_0 h1_1 h1_2).bind fun y1 =>
    if (List.length y1.2.2.2.2.2.2.1 : Int) = (0 : Int) then
      some (0, 0, 0, 0, 0, 0, 0, 0, 171, y1.1, y1.2.1, y1.2.2.1, y1.2.2.2.1, y1.2.2.2.2.1, y1.2.2.2.2.2.1, ())
    else
      F12_commit_Now_l1000007 (List.length y1.2.2.2.2.2.2.1 : Int) 0 y1.1 y1.2.1 y1.2.2.1 y1.2.2.2.1 y1.2.2.2.2.1 y1.2.2.2.2.2.1 0 0 0 0 0 0 0 0 0 0 0 0 0 0 (-1) 0 0 0 0 0 0 0 (-1) y1.2.2.2.2.2.2.1 :=
  (F_eq (G := G) rfl fn8 rfl _).trans ((run_eq _ _ _ _).trans (by kernel_rfl))
theorem F12_commit_Now_l1000007_eq (v23 : Int) (v24 : Int) (h0_1 : ByteArray) (h0_2 : ByteArray) (h0_3 : Int) (h1_0 : Bool) (h1_1 : Int) (h1_2 : Int) (h2_0 : Int) (h2_1 : Int) (h2_2 : Int) (h2_3 : Int) (h2_4 : Int) (h2_5 : Int) (h2_6 : Int) (h3_0 : Int) (h3_1 : Int) (h3_2 : Int) (h3_3 : Int) (h3_4 : Int) (h3_5 : Int) (h3_6 : Int) (h3_7 : Int) (h4_0 : Int) (h4_1 : Int) (h4_2 : Int) (h4_3 : Int) (h4_4 : Int) (h4_5 : Int) (h4_6 : Int) (h4_7 : Int) (g5 : (List Int)) : F12_commit_Now_l1000007 v23 v24 h0_1 h0_2 h0_3 h1_0 h1_1 h1_2 h2_0 h2_1 h2_2 h2_3 h2_4 h2_5 h2_6 h3_0 h3_1 h3_2 h3_3 h3_4 h3_5 h3_6 h3_7 h4_0 h4_1 h4_2 h4_3 h4_4 h4_5 h4_6 h4_7 g5 =
    if v24 < v23 then
      if (0 : Int) ≤ v24 ∧ v24 < (List.length g5 : Int) then
        (F16_cell_Cell_Get (rd (0 : Int) g5 v24) h0_1 h0_2 h0_3 h1_0 h1_1 h1_2).bind fun y1 =>
        (F28_commit_Parse y1.1).bind fun y2 =>
        if y2.2.2.2.2.2.2.2.1 = (0 : Int) then
          if (h4_0 = h3_0 ∧ (h4_1 = h3_1 ∧ h4_2 = h3_2 ∧ h4_3 = h3_3 ∧ h4_4 = h3_4 ∧ True) ∧ h4_5 = h3_5 ∧ h4_6 = h3_6 ∧ True) ∧ h4_7 = h3_7 ∧ True then
            F12_commit_Now_l13 v23 v24 y1.2.2.1 y1.2.2.2.1 y1.2.2.2.2.1 y1.2.2.2.2.2.1 y1.2.2.2.2.2.2.1 y1.2.2.2.2.2.2.2.1 h2_0 h2_1 h2_2 h2_3 h2_4 h2_5 h2_6 h3_0 h3_1 h3_2 h3_3 h3_4 h3_5 h3_6 h3_7 y2.1 y2.2.1 y2.2.2.1 y2.2.2.2.1 y2.2.2.2.2.1 y2.2.2.2.2.2.1 y2.2.2.2.2.2.2.1 (rd (0 : Int) g5 v24) g5
          else
            if h4_0 < y2.1 then
              F12_commit_Now_l13 v23 v24 y1.2.2.1 y1.2.2.2.1 y1.2.2.2.2.1 y1.2.2.2.2.2.1 y1.2.2.2.2.2.2.1 y1.2.2.2.2.2.2.2.1 h2_0 h2_1 h2_2 h2_3 h2_4 h2_5 h2_6 h3_0 h3_1 h3_2 h3_3 h3_4 h3_5 h3_6 h3_7 y2.1 y2.2.1 y2.2.2.1 y2.2.2.2.1 y2.2.2.2.2.1 y2.2.2.2.2.2.1 y2.2.2.2.2.2.2.1 (rd (0 : Int) g5 v24) g5
            else
              F12_commit_Now_l13 v23 v24 y1.2.2.1 y1.2.2.2.1 y1.2.2.2.2.1 y1.2.2.2.2.2.1 y1.2.2.2.2.2.2.1 y1.2.2.2.2.2.2.2.1 h2_0 h2_1 h2_2 h2_3 h2_4 h2_5 h2_6 h3_0 h3_1 h3_2 h3_3 h3_4 h3_5 h3_6 h3_7 h4_0 h4_1 h4_2 h4_3 h4_4 h4_5 h4_6 h4_7 g5
        else
          F12_commit_Now_l13 v23 v24 y1.2.2.1 y1.2.2.2.1 y1.2.2.2.2.1 y1.2.2.2.2.2.1 y1.2.2.2.2.2.2.1 y1.2.2.2.2.2.2.2.1 h2_0 h2_1 h2_2 h2_3 h2_4 h2_5 h2_6 h3_0 h3_1 h3_2 h3_3 h3_4 h3_5 h3_6 h3_7 h4_0 h4_1 h4_2 h4_3 h4_4 h4_5 h4_6 h4_7 g5
      else
        none
    else
      if (h4_0 = h3_0 ∧ (h4_1 = h3_1 ∧ h4_2 = h3_2 ∧ h4_3 = h3_3 ∧ h4_4 = h3_4 ∧ True) ∧ h4_5 = h3_5 ∧ h4_6 = h3_6 ∧ True) ∧ h4_7 = h3_7 ∧ True then
        some (0, 0, 0, 0, 0, 0, 0, 0, 170, h0_1, h0_2, h0_3, h1_0, h1_1, h1_2, ())
      else
        some (h4_0, h4_1, h4_2, h4_3, h4_4, h4_5, h4_6, h4_7, 0, h0_1, h0_2, h0_3, h1_0, h1_1, h1_2, ()) :=
  (run_eq _ _ _ _).trans (by kernel_rfl)
theorem F12_commit_Now_l13_eq (v23 : Int) (v24 : Int) (h0_1 : ByteArray) (h0_2 : ByteArray) (h0_3 : Int) (h1_0 : Bool) (h1_1 : Int) (h1_2 : Int) (h2_0 : Int) (h2_1 : Int) (h2_2 : Int) (h2_3 : Int) (h2_4 : Int) (h2_5 : Int) (h2_6 : Int) (h3_0 : Int) (h3_1 : Int) (h3_2 : Int) (h3_3 : Int) (h3_4 : Int) (h3_5 : Int) (h3_6 : Int) (h3_7 : Int) (h4_0 : Int) (h4_1 : Int) (h4_2 : Int) (h4_3 : Int) (h4_4 : Int) (h4_5 : Int) (h4_6 : Int) (h4_7 : Int) (g5 : (List Int)) : F12_commit_Now_l13 v23 v24 h0_1 h0_2 h0_3 h1_0 h1_1 h1_2 h2_0 h2_1 h2_2 h2_3 h2_4 h2_5 h2_6 h3_0 h3_1 h3_2 h3_3 h3_4 h3_5 h3_6 h3_7 h4_0 h4_1 h4_2 h4_3 h4_4 h4_5 h4_6 h4_7 g5 =
    F12_commit_Now_l1000007 v23 (IntKind.i64.wrap (v24 + (1 : Int))) h0_1 h0_2 h0_3 h1_0 h1_1 h1_2 h2_0 h2_1 h2_2 h2_3 h2_4 h2_5 h2_6 h3_0 h3_1 h3_2 h3_3 h3_4 h3_5 h3_6 h3_7 h4_0 h4_1 h4_2 h4_3 h4_4 h4_5 h4_6 h4_7 g5 :=
  (run_eq _ _ _ _).trans (by kernel_rfl)
theorem F13_power_Power_Restore_eq (h0_0 : Bool) (h0_1 : Int) (h0_2 : Int) : F13_power_Power_Restore h0_0 h0_1 h0_2 =
    some (false, 0, h0_2, ()) :=
  (F_eq (G := G) rfl fn9 rfl _).trans ((run_eq _ _ _ _).trans (by kernel_rfl))
theorem F14_commit_Stale_eq (h0_1 : ByteArray) (h0_2 : ByteArray) (h0_3 : Int) (h1_0 : Bool) (h1_1 : Int) (h1_2 : Int) : F14_commit_Stale h0_1 h0_2 h0_3 h1_0 h1_1 h1_2 =
    (F15_cell_Cell_Slots h0_1 h0_2 h0_3 h1_0 h1_1 h1_2).bind fun y1 =>
    if (List.length y1.2.2.2.2.2.2.1 : Int) < (2 : Int) then
      some (false, 0, y1.1, y1.2.1, y1.2.2.1, y1.2.2.2.1, y1.2.2.2.2.1, y1.2.2.2.2.2.1, ())
    else
      (F12_commit_Now y1.1 y1.2.1 y1.2.2.1 y1.2.2.2.1 y1.2.2.2.2.1 y1.2.2.2.2.2.1).bind fun y2 =>
      if y2.2.2.2.2.2.2.2.2.1 = (0 : Int) then
        let e3 : Int := IntKind.i64.wrap ((1 : Int) - y2.2.2.2.2.2.2.2.1)
        (F27_cell_Cell_Erase e3 y2.2.2.2.2.2.2.2.2.2.1 y2.2.2.2.2.2.2.2.2.2.2.1 y2.2.2.2.2.2.2.2.2.2.2.2.1 y2.2.2.2.2.2.2.2.2.2.2.2.2.1 y2.2.2.2.2.2.2.2.2.2.2.2.2.2.1 y2.2.2.2.2.2.2.2.2.2.2.2.2.2.2.1).bind fun y4 =>
        some ((decide (y4.1 = (0 : Int))), y4.1, y4.2.1, y4.2.2.1, y4.2.2.2.1, y4.2.2.2.2.1, y4.2.2.2.2.2.1, y4.2.2.2.2.2.2.1, ())
      else
        some ((decide (y2.2.2.2.2.2.2.2.2.1 = (0 : Int))), y2.2.2.2.2.2.2.2.2.1, y2.2.2.2.2.2.2.2.2.2.1, y2.2.2.2.2.2.2.2.2.2.2.1, y2.2.2.2.2.2.2.2.2.2.2.2.1, y2.2.2.2.2.2.2.2.2.2.2.2.2.1, y2.2.2.2.2.2.2.2.2.2.2.2.2.2.1, y2.2.2.2.2.2.2.2.2.2.2.2.2.2.2.1, ()) :=
  (F_eq (G := G) rfl fn10 rfl _).trans ((run_eq _ _ _ _).trans (by kernel_rfl))
theorem F15_cell_Cell_Slots_eq (h0_1 : ByteArray) (h0_2 : ByteArray) (h0_3 : Int) (h1_0 : Bool) (h1_1 : Int) (h1_2 : Int) : F15_cell_Cell_Slots h0_1 h0_2 h0_3 h1_0 h1_1 h1_2 =
    F15_cell_Cell_Slots_l1000003 h0_1 h0_2 0 h0_1 h0_2 h0_3 h1_0 h1_1 h1_2 [] :=
  (F_eq (G := G) rfl fn11 rfl _).trans ((run_eq _ _ _ _).trans (by kernel_rfl))
theorem F15_cell_Cell_Slots_l1000003_eq (v9_0 : ByteArray) (v9_1 : ByteArray) (v10 : Int) (h0_1 : ByteArray) (h0_2 : ByteArray) (h0_3 : Int) (h1_0 : Bool) (h1_1 : Int) (h1_2 : Int) (g2 : (List Int)) : F15_cell_Cell_Slots_l1000003 v9_0 v9_1 v10 h0_1 h0_2 h0_3 h1_0 h1_1 h1_2 g2 =
    if v10 < (2 : Int) then
      if v10 = (0 : Int) then
        if ¬ v9_0 = ByteArray.empty then
          if (List.length g2 + List.length [v10]) * 8 ≤ 140737488355328 then
            F15_cell_Cell_Slots_l7 v9_0 v9_1 v10 h0_1 h0_2 h0_3 h1_0 h1_1 h1_2 (g2 ++ [v10])
          else
            none
        else
          F15_cell_Cell_Slots_l7 v9_0 v9_1 v10 h0_1 h0_2 h0_3 h1_0 h1_1 h1_2 g2
      else
        if v10 = (1 : Int) then
          if ¬ v9_1 = ByteArray.empty then
            if (List.length g2 + List.length [v10]) * 8 ≤ 140737488355328 then
              F15_cell_Cell_Slots_l7 v9_0 v9_1 v10 h0_1 h0_2 h0_3 h1_0 h1_1 h1_2 (g2 ++ [v10])
            else
              none
          else
            F15_cell_Cell_Slots_l7 v9_0 v9_1 v10 h0_1 h0_2 h0_3 h1_0 h1_1 h1_2 g2
        else
          none
    else
      some (h0_1, h0_2, h0_3, h1_0, h1_1, h1_2, g2, ()) :=
  (run_eq _ _ _ _).trans (by kernel_rfl)
theorem F15_cell_Cell_Slots_l7_eq (v9_0 : ByteArray) (v9_1 : ByteArray) (v10 : Int) (h0_1 : ByteArray) (h0_2 : ByteArray) (h0_3 : Int) (h1_0 : Bool) (h1_1 : Int) (h1_2 : Int) (g2 : (List Int)) : F15_cell_Cell_Slots_l7 v9_0 v9_1 v10 h0_1 h0_2 h0_3 h1_0 h1_1 h1_2 g2 =
    F15_cell_Cell_Slots_l1000003 v9_0 v9_1 (IntKind.i64.wrap (v10 + (1 : Int))) h0_1 h0_2 h0_3 h1_0 h1_1 h1_2 g2 :=
  (run_eq _ _ _ _).trans (by kernel_rfl)
theorem F16_cell_Cell_Get_eq (x1 : Int) (h0_1 : ByteArray) (h0_2 : ByteArray) (h0_3 : Int) (h1_0 : Bool) (h1_1 : Int) (h1_2 : Int) : F16_cell_Cell_Get x1 h0_1 h0_2 h0_3 h1_0 h1_1 h1_2 =
    (F29_cell_Cell_is x1 h0_1 h0_2 h0_3 h1_0 h1_1 h1_2).bind fun y1 =>
    if (!y1.1) = true then
      some (ByteArray.empty, false, y1.2.1, y1.2.2.1, y1.2.2.2.1, y1.2.2.2.2.1, y1.2.2.2.2.2.1, y1.2.2.2.2.2.2.1, ())
    else
      if x1 = (0 : Int) then
        if x1 = (0 : Int) then
          some (y1.2.1, (decide (¬ y1.2.1 = ByteArray.empty)), y1.2.1, y1.2.2.1, y1.2.2.2.1, y1.2.2.2.2.1, y1.2.2.2.2.2.1, y1.2.2.2.2.2.2.1, ())
        else
          if x1 = (1 : Int) then
            some (y1.2.1, (decide (¬ y1.2.2.1 = ByteArray.empty)), y1.2.1, y1.2.2.1, y1.2.2.2.1, y1.2.2.2.2.1, y1.2.2.2.2.2.1, y1.2.2.2.2.2.2.1, ())
          else
            none
      else
        if x1 = (1 : Int) then
          if x1 = (0 : Int) then
            some (y1.2.2.1, (decide (¬ y1.2.1 = ByteArray.empty)), y1.2.1, y1.2.2.1, y1.2.2.2.1, y1.2.2.2.2.1, y1.2.2.2.2.2.1, y1.2.2.2.2.2.2.1, ())
          else
            if x1 = (1 : Int) then
              some (y1.2.2.1, (decide (¬ y1.2.2.1 = ByteArray.empty)), y1.2.1, y1.2.2.1, y1.2.2.2.1, y1.2.2.2.2.1, y1.2.2.2.2.2.1, y1.2.2.2.2.2.2.1, ())
            else
              none
        else
          none :=
  (F_eq (G := G) rfl fn12 rfl _).trans ((run_eq _ _ _ _).trans (by kernel_rfl))
theorem F17_thief_Keys_eq (x0 : (List ByteArray)) : F17_thief_Keys x0 =
    (F33_thief_taken x0).bind fun y1 =>
    (F32_maps_Keys y1.1).bind fun y2 =>
    (F31_slices_Sorted y2.1).bind fun y3 =>
    (F30_slices_Clip y3.2.1).bind fun y4 =>
    some (y4.1, ()) :=
  (F_eq (G := G) rfl fn13 rfl _).trans ((run_eq _ _ _ _).trans (by kernel_rfl))
theorem F33_thief_taken_eq (x0 : (List ByteArray)) : F33_thief_taken x0 =
    F33_thief_taken_l1000003 x0 (List.length x0 : Int) 0 (MapD.nil : MapD Int S89) (MapD.nil : MapD ByteArray S89) (MapD.nil : MapD Int (List S114)) :=
  (F_eq (G := G) rfl fn14 rfl _).trans ((run_eq _ _ _ _).trans (by kernel_rfl))
theorem F33_thief_taken_l1000003_eq (v13 : (List ByteArray)) (v14 : Int) (v15 : Int) (g1 : (MapD Int S89)) (g2 : (MapD ByteArray S89)) (g3 : (MapD Int (List S114))) : F33_thief_taken_l1000003 v13 v14 v15 g1 g2 g3 =
    if v15 < v14 then
      if (0 : Int) ≤ v15 ∧ v15 < (List.length v13 : Int) then
        (F45_term_Decode (rd ByteArray.empty v13 v15)).bind fun y1 =>
        if ¬ y1.2.2.2.2.1 = (0 : Int) then
          (F49_term_Atom (rd ByteArray.empty v13 v15)).bind fun y2 =>
          (F50_thief_loot_take y2.1 y2.2.1 y2.2.2.1 y2.2.2.2.1 g1 g2 g3).bind fun y3 =>
          F33_thief_taken_l1000003 v13 v14 (IntKind.i64.wrap (v15 + (1 : Int))) y3.1 y3.2.1 y3.2.2.1
        else
          (F50_thief_loot_take y1.1 y1.2.1 y1.2.2.1 y1.2.2.2.1 g1 g2 g3).bind fun y4 =>
          F33_thief_taken_l1000003 v13 v14 (IntKind.i64.wrap (v15 + (1 : Int))) y4.1 y4.2.1 y4.2.2.1
      else
        none
    else
      some (g1, g2, g3, ()) :=
  (run_eq _ _ _ _).trans (by kernel_rfl)
theorem F45_term_Decode_eq (x0 : ByteArray) : F45_term_Decode x0 =
    (F67_term_reader_term 0 x0 0).bind fun y1 =>
    if ¬ y1.2.2.2.2.1 = (0 : Int) then
      some (0, 0, ByteArray.empty, [], y1.2.2.2.2.1, ())
    else
      if ¬ y1.2.2.2.2.2.1 = ByteArray.empty then
        some (0, 0, ByteArray.empty, [], 24, ())
      else
        some (y1.1, y1.2.1, y1.2.2.1, y1.2.2.2.1, 0, ()) :=
  (F_eq (G := G) rfl fn15 rfl _).trans ((run_eq _ _ _ _).trans (by kernel_rfl))
theorem F49_term_Atom_eq (x0 : ByteArray) : F49_term_Atom x0 =
    some (2, 0, x0, [], ()) :=
  (F_eq (G := G) rfl fn16 rfl _).trans ((run_eq _ _ _ _).trans (by kernel_rfl))
theorem F50_thief_loot_take_eq (x1_0 : Int) (x1_1 : Int) (x1_2 : ByteArray) (x1_3 : (List S114)) (g1 : (MapD Int S89)) (g2 : (MapD ByteArray S89)) (g3 : (MapD Int (List S114))) : F50_thief_loot_take x1_0 x1_1 x1_2 x1_3 g1 g2 g3 =
    if x1_0 = (2 : Int) then
      some (g1, (mset keyS g2 x1_2 (S89.mk )), g3, ())
    else
      if x1_0 = (5 : Int) then
        F50_thief_loot_take_l1000006 x1_3 (List.length x1_3 : Int) 0 g1 g2 g3
      else
        if x1_0 = (3 : Int) then
          if keyI x1_1 x1_1 = true then
            F50_thief_loot_take_l1000015 (List.length (mget keyI [] g3 x1_1) : Int) 0 (mset keyI g1 x1_1 (S89.mk )) g2 (mdel keyI g3 x1_1) (mget keyI [] g3 x1_1)
          else
            none
        else
          if x1_0 = (4 : Int) then
            if (mhas keyI g1 x1_1) = true then
              if (0 : Int) ≤ 0 ∧ 0 < (List.length x1_3 : Int) then
                (F50_thief_loot_take (S114.f0 (rd S114.z x1_3 0)) (S114.f1 (rd S114.z x1_3 0)) (S114.f2 (rd S114.z x1_3 0)) (S114.f3 (rd S114.z x1_3 0)) g1 g2 g3).bind fun y1 =>
                some (y1.1, y1.2.1, y1.2.2.1, ())
              else
                none
            else
              if (0 : Int) ≤ 0 ∧ 0 < (List.length x1_3 : Int) then
                let e2 : (List S114) := [(S114.mk (S114.f0 (rd S114.z x1_3 0)) (S114.f1 (rd S114.z x1_3 0)) (S114.f2 (rd S114.z x1_3 0)) (S114.f3 (rd S114.z x1_3 0)))]
                if (List.length (mget keyI [] g3 x1_1) + List.length e2) * 56 ≤ 140737488355328 then
                  if keyI x1_1 x1_1 = true then
                    some (g1, g2, (mset keyI g3 x1_1 ((mget keyI [] g3 x1_1) ++ e2)), ())
                  else
                    none
                else
                  none
              else
                none
          else
            some (g1, g2, g3, ()) :=
  (F_eq (G := G) rfl fn17 rfl _).trans ((run_eq _ _ _ _).trans (by kernel_rfl))
theorem F50_thief_loot_take_l1000006_eq (v25 : (List S114)) (v26 : Int) (v27 : Int) (g1 : (MapD Int S89)) (g2 : (MapD ByteArray S89)) (g3 : (MapD Int (List S114))) : F50_thief_loot_take_l1000006 v25 v26 v27 g1 g2 g3 =
    if v27 < v26 then
      if (0 : Int) ≤ v27 ∧ v27 < (List.length v25 : Int) then
        (F50_thief_loot_take (S114.f0 (rd S114.z v25 v27)) (S114.f1 (rd S114.z v25 v27)) (S114.f2 (rd S114.z v25 v27)) (S114.f3 (rd S114.z v25 v27)) g1 g2 g3).bind fun y1 =>
        F50_thief_loot_take_l1000006 v25 v26 (IntKind.i64.wrap (v27 + (1 : Int))) y1.1 y1.2.1 y1.2.2.1
      else
        none
    else
      some (g1, g2, g3, ()) :=
  (run_eq _ _ _ _).trans (by kernel_rfl)
theorem F50_thief_loot_take_l1000015_eq (v58 : Int) (v59 : Int) (g1 : (MapD Int S89)) (g2 : (MapD ByteArray S89)) (g3 : (MapD Int (List S114))) (g5 : (List S114)) : F50_thief_loot_take_l1000015 v58 v59 g1 g2 g3 g5 =
    if v59 < v58 then
      if (0 : Int) ≤ v59 ∧ v59 < (List.length g5 : Int) then
        (F50_thief_loot_take (S114.f0 (rd S114.z g5 v59)) (S114.f1 (rd S114.z g5 v59)) (S114.f2 (rd S114.z g5 v59)) (S114.f3 (rd S114.z g5 v59)) g1 g2 g3).bind fun y1 =>
        F50_thief_loot_take_l1000015 v58 (IntKind.i64.wrap (v59 + (1 : Int))) y1.1 y1.2.1 y1.2.2.1 g5
      else
        none
    else
      some (g1, g2, g3, ()) :=
  (run_eq _ _ _ _).trans (by kernel_rfl)
theorem F67_term_reader_term_eq (x1 : Int) (h0_0 : ByteArray) (h0_1 : Int) : F67_term_reader_term x1 h0_0 h0_1 =
    (F80_term_reader_head x1 h0_0 h0_1).bind fun y1 =>
    if ¬ y1.2.2.1 = (0 : Int) then
      some (0, 0, ByteArray.empty, [], y1.2.2.1, y1.2.2.2.1, y1.2.2.2.2.1, ())
    else
      if y1.1 = (1 : Int) then
        if y1.1 = (1 : Int) then
          F67_term_reader_term_l1000022 x1 0 y1.2.2.2.1 y1.2.2.2.2.1 0 0 ByteArray.empty y1.1 y1.2.1 ByteArray.empty [] []
        else
          if y1.1 = (2 : Int) then
            if (4000 : Int) < y1.2.1 then
              some (0, 0, ByteArray.empty, [], 25, y1.2.2.2.1, y1.2.2.2.2.1, ())
            else
              let e2 : Int := IntKind.u64.wrap (ByteArray.size y1.2.2.2.1 : Int)
              if e2 < y1.2.1 then
                some (0, 0, ByteArray.empty, [], 20, y1.2.2.2.1, y1.2.2.2.2.1, ())
              else
                if (0 : Int) ≤ 0 ∧ (0 : Int) ≤ y1.2.1 ∧ y1.2.1 ≤ (ByteArray.size y1.2.2.2.1 : Int) then
                  let e3 : ByteArray := subS y1.2.2.2.1 y1.2.1 (ByteArray.size y1.2.2.2.1 : Int)
                  if (0 : Int) ≤ y1.2.1 ∧ y1.2.1 ≤ (ByteArray.size y1.2.2.2.1 : Int) ∧ (ByteArray.size y1.2.2.2.1 : Int) ≤ (ByteArray.size y1.2.2.2.1 : Int) then
                    F67_term_reader_term_l1000022 x1 0 e3 y1.2.2.2.2.1 0 0 ByteArray.empty y1.1 0 (subS y1.2.2.2.1 0 y1.2.1) [] []
                  else
                    none
                else
                  none
          else
            if y1.1 = (4 : Int) then
              F67_term_reader_term_l1000022 x1 1 y1.2.2.2.1 y1.2.2.2.2.1 0 0 ByteArray.empty y1.1 y1.2.1 ByteArray.empty [] []
            else
              if y1.1 = (5 : Int) then
                F67_term_reader_term_l1000022 x1 y1.2.1 y1.2.2.2.1 y1.2.2.2.2.1 0 0 ByteArray.empty y1.1 0 ByteArray.empty [] []
              else
                F67_term_reader_term_l1000022 x1 0 y1.2.2.2.1 y1.2.2.2.2.1 0 0 ByteArray.empty y1.1 0 ByteArray.empty [] []
      else
        if y1.1 = (3 : Int) then
          F67_term_reader_term_l1000022 x1 0 y1.2.2.2.1 y1.2.2.2.2.1 0 0 ByteArray.empty y1.1 y1.2.1 ByteArray.empty [] []
        else
          if y1.1 = (2 : Int) then
            if (4000 : Int) < y1.2.1 then
              some (0, 0, ByteArray.empty, [], 25, y1.2.2.2.1, y1.2.2.2.2.1, ())
            else
              let e4 : Int := IntKind.u64.wrap (ByteArray.size y1.2.2.2.1 : Int)
              if e4 < y1.2.1 then
                some (0, 0, ByteArray.empty, [], 20, y1.2.2.2.1, y1.2.2.2.2.1, ())
              else
                if (0 : Int) ≤ 0 ∧ (0 : Int) ≤ y1.2.1 ∧ y1.2.1 ≤ (ByteArray.size y1.2.2.2.1 : Int) then
                  let e5 : ByteArray := subS y1.2.2.2.1 y1.2.1 (ByteArray.size y1.2.2.2.1 : Int)
                  if (0 : Int) ≤ y1.2.1 ∧ y1.2.1 ≤ (ByteArray.size y1.2.2.2.1 : Int) ∧ (ByteArray.size y1.2.2.2.1 : Int) ≤ (ByteArray.size y1.2.2.2.1 : Int) then
                    F67_term_reader_term_l1000022 x1 0 e5 y1.2.2.2.2.1 0 0 ByteArray.empty y1.1 0 (subS y1.2.2.2.1 0 y1.2.1) [] []
                  else
                    none
                else
                  none
          else
            if y1.1 = (4 : Int) then
              F67_term_reader_term_l1000022 x1 1 y1.2.2.2.1 y1.2.2.2.2.1 0 0 ByteArray.empty y1.1 y1.2.1 ByteArray.empty [] []
            else
              if y1.1 = (5 : Int) then
                F67_term_reader_term_l1000022 x1 y1.2.1 y1.2.2.2.1 y1.2.2.2.2.1 0 0 ByteArray.empty y1.1 0 ByteArray.empty [] []
              else
                F67_term_reader_term_l1000022 x1 0 y1.2.2.2.1 y1.2.2.2.2.1 0 0 ByteArray.empty y1.1 0 ByteArray.empty [] [] :=
  (F_eq (G := G) rfl fn18 rfl _).trans ((run_eq _ _ _ _).trans (by kernel_rfl))
theorem F67_term_reader_term_l1000022_eq (v1 : Int) (v10 : Int) (h0_0 : ByteArray) (h0_1 : Int) (h1_0 : Int) (h1_1 : Int) (h1_2 : ByteArray) (h2_0 : Int) (h2_1 : Int) (h2_2 : ByteArray) (g3 : (List S114)) (g4 : (List S114)) : F67_term_reader_term_l1000022 v1 v10 h0_0 h0_1 h1_0 h1_1 h1_2 h2_0 h2_1 h2_2 g3 g4 =
    if (0 : Int) < v10 then
      (F67_term_reader_term (IntKind.i64.wrap (v1 + (1 : Int))) h0_0 h0_1).bind fun y1 =>
      if ¬ y1.2.2.2.2.1 = (0 : Int) then
        some (0, 0, ByteArray.empty, [], y1.2.2.2.2.1, y1.2.2.2.2.2.1, y1.2.2.2.2.2.2.1, ())
      else
        let e2 : (List S114) := g4 ++ [(S114.mk y1.1 y1.2.1 y1.2.2.1 y1.2.2.2.1)]
        if (List.length g4 + List.length [(S114.mk y1.1 y1.2.1 y1.2.2.1 y1.2.2.2.1)]) * 56 ≤ 140737488355328 then
          F67_term_reader_term_l1000022 v1 (IntKind.u64.wrap (v10 - (1 : Int))) y1.2.2.2.2.2.1 y1.2.2.2.2.2.2.1 h1_0 h1_1 h1_2 h2_0 h2_1 h2_2 g3 e2
        else
          none
    else
      some (h2_0, h2_1, h2_2, g4, 0, h0_0, h0_1, ()) :=
  (run_eq _ _ _ _).trans (by kernel_rfl)
theorem F80_term_reader_head_eq (x1 : Int) (h0_0 : ByteArray) (h0_1 : Int) : F80_term_reader_head x1 h0_0 h0_1 =
    if (4000 : Int) ≤ h0_1 then
      some (0, 0, 23, h0_0, h0_1, ())
    else
      if (12 : Int) ≤ x1 then
        some (0, 0, 22, h0_0, h0_1, ())
      else
        if h0_0 = ByteArray.empty then
          some (0, 0, 20, h0_0, h0_1, ())
        else
          if (0 : Int) ≤ 0 ∧ 0 < (ByteArray.size h0_0 : Int) then
            if (IntKind.i64.wrap (bt h0_0 0)) < (1 : Int) then
              some (0, 0, 21, h0_0, (IntKind.i64.wrap (h0_1 + (1 : Int))), ())
            else
              if (5 : Int) < (IntKind.i64.wrap (bt h0_0 0)) then
                some (0, 0, 21, h0_0, (IntKind.i64.wrap (h0_1 + (1 : Int))), ())
              else
                if (0 : Int) ≤ 1 ∧ (1 : Int) ≤ (ByteArray.size h0_0 : Int) ∧ (ByteArray.size h0_0 : Int) ≤ (ByteArray.size h0_0 : Int) then
                  (F106_term_GetNum (subS h0_0 1 (ByteArray.size h0_0 : Int))).bind fun y1 =>
                  if ¬ y1.2.2.1 = (0 : Int) then
                    some (0, 0, y1.2.2.1, h0_0, (IntKind.i64.wrap (h0_1 + (1 : Int))), ())
                  else
                    let e2 : ByteArray := subS h0_0 (IntKind.i64.wrap ((1 : Int) + y1.2.1)) (ByteArray.size h0_0 : Int)
                    if (0 : Int) ≤ (IntKind.i64.wrap ((1 : Int) + y1.2.1)) ∧ (IntKind.i64.wrap ((1 : Int) + y1.2.1)) ≤ (ByteArray.size h0_0 : Int) ∧ (ByteArray.size h0_0 : Int) ≤ (ByteArray.size h0_0 : Int) then
                      some ((IntKind.i64.wrap (bt h0_0 0)), y1.1, 0, e2, (IntKind.i64.wrap (h0_1 + (1 : Int))), ())
                    else
                      none
                else
                  none
          else
            none :=
  (F_eq (G := G) rfl fn19 rfl _).trans ((run_eq _ _ _ _).trans (by kernel_rfl))
theorem F106_term_GetNum_eq (x0 : ByteArray) : F106_term_GetNum x0 =
    F106_term_GetNum_l1000003 x0 0 0 :=
  (F_eq (G := G) rfl fn20 rfl _).trans ((run_eq _ _ _ _).trans (by kernel_rfl))
theorem F106_term_GetNum_l1000003_eq (v0 : ByteArray) (v5 : Int) (v6 : Int) : F106_term_GetNum_l1000003 v0 v5 v6 =
    if v6 < (ByteArray.size v0 : Int) then
      if (0 : Int) ≤ v6 ∧ v6 < (ByteArray.size v0 : Int) then
        if v6 = (9 : Int) then
          if (1 : Int) < (bt v0 v6) then
            some (0, 0, 21, ())
          else
            let e1 : Int := IntKind.u64.wrap (bitsR .and .u8 (bt v0 v6) (127 : Int))
            let e2 : Int := IntKind.u64.wrap (IntKind.i64.wrap ((7 : Int) * v6))
            if 0 ≤ e2 then
              if (shrR .u8 (bt v0 v6) (7 : Int)) = (0 : Int) then
                if (bt v0 v6) = (0 : Int) then
                  if (0 : Int) < v6 then
                    some (0, 0, 21, ())
                  else
                    F106_term_GetNum_l12 (bitsR .or .u64 v5 (shlR .u64 e1 e2)) v6
                else
                  F106_term_GetNum_l12 (bitsR .or .u64 v5 (shlR .u64 e1 e2)) v6
              else
                F106_term_GetNum_l1000003 v0 (bitsR .or .u64 v5 (shlR .u64 e1 e2)) (IntKind.i64.wrap (v6 + (1 : Int)))
            else
              none
        else
          let e3 : Int := IntKind.u64.wrap (bitsR .and .u8 (bt v0 v6) (127 : Int))
          let e4 : Int := IntKind.u64.wrap (IntKind.i64.wrap ((7 : Int) * v6))
          if 0 ≤ e4 then
            if (shrR .u8 (bt v0 v6) (7 : Int)) = (0 : Int) then
              if (bt v0 v6) = (0 : Int) then
                if (0 : Int) < v6 then
                  some (0, 0, 21, ())
                else
                  F106_term_GetNum_l12 (bitsR .or .u64 v5 (shlR .u64 e3 e4)) v6
              else
                F106_term_GetNum_l12 (bitsR .or .u64 v5 (shlR .u64 e3 e4)) v6
            else
              F106_term_GetNum_l1000003 v0 (bitsR .or .u64 v5 (shlR .u64 e3 e4)) (IntKind.i64.wrap (v6 + (1 : Int)))
          else
            none
      else
        none
    else
      some (0, 0, 20, ()) :=
  (run_eq _ _ _ _).trans (by kernel_rfl)
theorem F106_term_GetNum_l12_eq (v5 : Int) (v6 : Int) : F106_term_GetNum_l12 v5 v6 =
    some (v5, (IntKind.i64.wrap (v6 + (1 : Int))), 0, ()) :=
  (run_eq _ _ _ _).trans (by kernel_rfl)
theorem F32_maps_Keys_eq (g0 : (MapD Int S89)) : F32_maps_Keys g0 =
    some (g0, ()) :=
  (F_eq (G := G) rfl fn21 rfl _).trans ((run_eq _ _ _ _).trans (by kernel_rfl))
theorem F31_slices_Sorted_eq (g1 : (MapD Int S89)) : F31_slices_Sorted g1 =
    if mwfU g1 = true then
      some (g1, (sortU (mkeysU g1)), ())
    else
      none :=
  (F_giv (G := G) rfl _).trans (by kernel_rfl)
theorem F30_slices_Clip_eq (x0 : (List Int)) : F30_slices_Clip x0 =
    if (0 : Int) ≤ 0 ∧ (0 : Int) ≤ (List.length x0 : Int) ∧ (List.length x0 : Int) ≤ (List.length x0 : Int) ∧ (List.length x0 : Int) ≤ (List.length x0 : Int) then
      some ((subL x0 0 (List.length x0 : Int)), ())
    else
      none :=
  (F_eq (G := G) rfl fn23 rfl _).trans ((run_eq _ _ _ _).trans (by kernel_rfl))
theorem F29_cell_Cell_is_eq (x1 : Int) (h0_1 : ByteArray) (h0_2 : ByteArray) (h0_3 : Int) (h1_0 : Bool) (h1_1 : Int) (h1_2 : Int) : F29_cell_Cell_is x1 h0_1 h0_2 h0_3 h1_0 h1_1 h1_2 =
    if (0 : Int) ≤ x1 then
      some ((decide (x1 < (2 : Int))), h0_1, h0_2, h0_3, h1_0, h1_1, h1_2, ())
    else
      some (false, h0_1, h0_2, h0_3, h1_0, h1_1, h1_2, ()) :=
  (F_eq (G := G) rfl fn24 rfl _).trans ((run_eq _ _ _ _).trans (by kernel_rfl))
theorem F27_cell_Cell_Erase_eq (x1 : Int) (h0_1 : ByteArray) (h0_2 : ByteArray) (h0_3 : Int) (h1_0 : Bool) (h1_1 : Int) (h1_2 : Int) : F27_cell_Cell_Erase x1 h0_1 h0_2 h0_3 h1_0 h1_1 h1_2 =
    (F29_cell_Cell_is x1 h0_1 h0_2 h0_3 h1_0 h1_1 h1_2).bind fun y1 =>
    if (!y1.1) = true then
      some (130, y1.2.1, y1.2.2.1, y1.2.2.2.1, y1.2.2.2.2.1, y1.2.2.2.2.2.1, y1.2.2.2.2.2.2.1, ())
    else
      if x1 = (0 : Int) then
        if y1.2.1 = ByteArray.empty then
          some (132, y1.2.1, y1.2.2.1, y1.2.2.2.1, y1.2.2.2.2.1, y1.2.2.2.2.2.1, y1.2.2.2.2.2.2.1, ())
        else
          (F44_cell_Cell_lay x1 ByteArray.empty y1.2.1 y1.2.2.1 y1.2.2.2.1 y1.2.2.2.2.1 y1.2.2.2.2.2.1 y1.2.2.2.2.2.2.1).bind fun y3 =>
          some (y3.1, y3.2.1, y3.2.2.1, y3.2.2.2.1, y3.2.2.2.2.1, y3.2.2.2.2.2.1, y3.2.2.2.2.2.2.1, ())
      else
        if x1 = (1 : Int) then
          if y1.2.2.1 = ByteArray.empty then
            some (132, y1.2.1, y1.2.2.1, y1.2.2.2.1, y1.2.2.2.2.1, y1.2.2.2.2.2.1, y1.2.2.2.2.2.2.1, ())
          else
            (F44_cell_Cell_lay x1 ByteArray.empty y1.2.1 y1.2.2.1 y1.2.2.2.1 y1.2.2.2.2.1 y1.2.2.2.2.2.1 y1.2.2.2.2.2.2.1).bind fun y2 =>
            some (y2.1, y2.2.1, y2.2.2.1, y2.2.2.2.1, y2.2.2.2.2.1, y2.2.2.2.2.2.1, y2.2.2.2.2.2.2.1, ())
        else
          none :=
  (F_eq (G := G) rfl fn25 rfl _).trans ((run_eq _ _ _ _).trans (by kernel_rfl))
theorem F44_cell_Cell_lay_eq (x1 : Int) (x2 : ByteArray) (h0_1 : ByteArray) (h0_2 : ByteArray) (h0_3 : Int) (h1_0 : Bool) (h1_1 : Int) (h1_2 : Int) : F44_cell_Cell_lay x1 x2 h0_1 h0_2 h0_3 h1_0 h1_1 h1_2 =
    (F66_power_Power_Spend h1_0 h1_1 h1_2).bind fun y1 =>
    if ¬ y1.1 = (0 : Int) then
      some (y1.1, h0_1, h0_2, h0_3, y1.2.1, y1.2.2.1, y1.2.2.2.1, ())
    else
      if x1 = (0 : Int) then
        some (0, x2, h0_2, (IntKind.i64.wrap (h0_3 + (1 : Int))), y1.2.1, y1.2.2.1, y1.2.2.2.1, ())
      else
        if x1 = (1 : Int) then
          some (0, h0_1, x2, (IntKind.i64.wrap (h0_3 + (1 : Int))), y1.2.1, y1.2.2.1, y1.2.2.2.1, ())
        else
          none :=
  (F_eq (G := G) rfl fn26 rfl _).trans ((run_eq _ _ _ _).trans (by kernel_rfl))
theorem F66_power_Power_Spend_eq (h0_0 : Bool) (h0_1 : Int) (h0_2 : Int) : F66_power_Power_Spend h0_0 h0_1 h0_2 =
    if h0_0 = true then
      some (110, h0_0, h0_1, h0_2, ())
    else
      if (0 : Int) < h0_1 then
        some (0, (decide ((IntKind.i64.wrap (h0_1 - (1 : Int))) = (0 : Int))), (IntKind.i64.wrap (h0_1 - (1 : Int))), (IntKind.i64.wrap (h0_2 + (1 : Int))), ())
      else
        some (0, h0_0, h0_1, (IntKind.i64.wrap (h0_2 + (1 : Int))), ()) :=
  (F_eq (G := G) rfl fn27 rfl _).trans ((run_eq _ _ _ _).trans (by kernel_rfl))
theorem F28_commit_Parse_eq (x0 : ByteArray) : F28_commit_Parse x0 =
    (F45_term_Decode x0).bind fun y1 =>
    if ¬ y1.2.2.2.2.1 = (0 : Int) then
      some (0, 0, 0, 0, 0, 0, 0, 170, ())
    else
      if ¬ y1.1 = (5 : Int) then
        some (0, 0, 0, 0, 0, 0, 0, 170, ())
      else
        if ¬ (List.length y1.2.2.2.1 : Int) = (7 : Int) then
          some (0, 0, 0, 0, 0, 0, 0, 170, ())
        else
          F28_commit_Parse_l1000006 x0 y1.2.2.2.1 (List.length y1.2.2.2.1 : Int) 0 0 0 0 0 0 0 0 y1.1 y1.2.1 y1.2.2.1 y1.2.2.2.1 0 0 0 0 0 0 0 :=
  (F_eq (G := G) rfl fn28 rfl _).trans ((run_eq _ _ _ _).trans (by kernel_rfl))
theorem F28_commit_Parse_l1000006_eq (v0 : ByteArray) (v32 : (List S114)) (v33 : Int) (v34 : Int) (h0_0 : Int) (h0_1 : Int) (h0_2 : Int) (h0_3 : Int) (h0_4 : Int) (h0_5 : Int) (h0_6 : Int) (h1_0 : Int) (h1_1 : Int) (h1_2 : ByteArray) (h1_3 : (List S114)) (h2_0 : Int) (h2_1 : Int) (h2_2 : Int) (h2_3 : Int) (h2_4 : Int) (h2_5 : Int) (h2_6 : Int) : F28_commit_Parse_l1000006 v0 v32 v33 v34 h0_0 h0_1 h0_2 h0_3 h0_4 h0_5 h0_6 h1_0 h1_1 h1_2 h1_3 h2_0 h2_1 h2_2 h2_3 h2_4 h2_5 h2_6 =
    if v34 < v33 then
      if (0 : Int) ≤ v34 ∧ v34 < (List.length v32 : Int) then
        let e1 : Int := IntKind.i64.wrap (mn (S114.f1 (rd S114.z v32 v34)) 2147483648)
        if v34 = (0 : Int) then
          F28_commit_Parse_l9 v0 v32 v33 v34 h0_0 h0_1 h0_2 h0_3 h0_4 h0_5 h0_6 h1_0 h1_1 h1_2 h1_3 e1 h2_1 h2_2 h2_3 h2_4 h2_5 h2_6
        else
          if v34 = (1 : Int) then
            F28_commit_Parse_l9 v0 v32 v33 v34 h0_0 h0_1 h0_2 h0_3 h0_4 h0_5 h0_6 h1_0 h1_1 h1_2 h1_3 h2_0 e1 h2_2 h2_3 h2_4 h2_5 h2_6
          else
            if v34 = (2 : Int) then
              F28_commit_Parse_l9 v0 v32 v33 v34 h0_0 h0_1 h0_2 h0_3 h0_4 h0_5 h0_6 h1_0 h1_1 h1_2 h1_3 h2_0 h2_1 e1 h2_3 h2_4 h2_5 h2_6
            else
              if v34 = (3 : Int) then
                F28_commit_Parse_l9 v0 v32 v33 v34 h0_0 h0_1 h0_2 h0_3 h0_4 h0_5 h0_6 h1_0 h1_1 h1_2 h1_3 h2_0 h2_1 h2_2 e1 h2_4 h2_5 h2_6
              else
                if v34 = (4 : Int) then
                  F28_commit_Parse_l9 v0 v32 v33 v34 h0_0 h0_1 h0_2 h0_3 h0_4 h0_5 h0_6 h1_0 h1_1 h1_2 h1_3 h2_0 h2_1 h2_2 h2_3 e1 h2_5 h2_6
                else
                  if v34 = (5 : Int) then
                    F28_commit_Parse_l9 v0 v32 v33 v34 h0_0 h0_1 h0_2 h0_3 h0_4 h0_5 h0_6 h1_0 h1_1 h1_2 h1_3 h2_0 h2_1 h2_2 h2_3 h2_4 e1 h2_6
                  else
                    if v34 = (6 : Int) then
                      F28_commit_Parse_l9 v0 v32 v33 v34 h0_0 h0_1 h0_2 h0_3 h0_4 h0_5 h0_6 h1_0 h1_1 h1_2 h1_3 h2_0 h2_1 h2_2 h2_3 h2_4 h2_5 e1
                    else
                      none
      else
        none
    else
      if (0 : Int) ≤ 1 ∧ 1 < (List.length h1_3 : Int) then
        (F42_commit_Bytes h2_0 (S114.f1 (rd S114.z h1_3 1)) h2_2 h2_3 h2_4 h2_5 h2_6).bind fun y2 =>
        if ¬ y2.2.1 = (0 : Int) then
          some (0, 0, 0, 0, 0, 0, 0, 170, ())
        else
          if ¬ y2.1 = v0 then
            some (0, 0, 0, 0, 0, 0, 0, 170, ())
          else
            some (h2_0, (S114.f1 (rd S114.z h1_3 1)), h2_2, h2_3, h2_4, h2_5, h2_6, 0, ())
      else
        none :=
  (run_eq _ _ _ _).trans (by kernel_rfl)
theorem F28_commit_Parse_l9_eq (v0 : ByteArray) (v32 : (List S114)) (v33 : Int) (v34 : Int) (h0_0 : Int) (h0_1 : Int) (h0_2 : Int) (h0_3 : Int) (h0_4 : Int) (h0_5 : Int) (h0_6 : Int) (h1_0 : Int) (h1_1 : Int) (h1_2 : ByteArray) (h1_3 : (List S114)) (h2_0 : Int) (h2_1 : Int) (h2_2 : Int) (h2_3 : Int) (h2_4 : Int) (h2_5 : Int) (h2_6 : Int) : F28_commit_Parse_l9 v0 v32 v33 v34 h0_0 h0_1 h0_2 h0_3 h0_4 h0_5 h0_6 h1_0 h1_1 h1_2 h1_3 h2_0 h2_1 h2_2 h2_3 h2_4 h2_5 h2_6 =
    F28_commit_Parse_l1000006 v0 v32 v33 (IntKind.i64.wrap (v34 + (1 : Int))) h0_0 h0_1 h0_2 h0_3 h0_4 h0_5 h0_6 h1_0 h1_1 h1_2 h1_3 h2_0 h2_1 h2_2 h2_3 h2_4 h2_5 h2_6 :=
  (run_eq _ _ _ _).trans (by kernel_rfl)
theorem F42_commit_Bytes_eq (x0_0 : Int) (x0_1 : Int) (x0_2 : Int) (x0_3 : Int) (x0_4 : Int) (x0_5 : Int) (x0_6 : Int) : F42_commit_Bytes x0_0 x0_1 x0_2 x0_3 x0_4 x0_5 x0_6 =
    if x0_0 < (0 : Int) then
      F42_commit_Bytes_l2 
    else
      if (2147483647 : Int) < x0_0 then
        F42_commit_Bytes_l2 
      else
        (F61_node_RefRight x0_1 x0_2 x0_3 x0_4).bind fun y1 =>
        if (!y1.1) = true then
          F42_commit_Bytes_l2 
        else
          if x0_5 < (0 : Int) then
            F42_commit_Bytes_l2 
          else
            if (1048576 : Int) < x0_5 then
              F42_commit_Bytes_l2 
            else
              if x0_6 < (0 : Int) then
                F42_commit_Bytes_l2 
              else
                if (134217728 : Int) < x0_6 then
                  F42_commit_Bytes_l2 
                else
                  (F62_term_Num (IntKind.u64.wrap x0_0)).bind fun y2 =>
                  (F63_term_Key x0_1).bind fun y3 =>
                  let e4 : (List S114) := [(S114.mk y2.1 y2.2.1 y2.2.2.1 y2.2.2.2.1), (S114.mk y3.1 y3.2.1 y3.2.2.1 y3.2.2.2.1)]
                  F42_commit_Bytes_l1000005 (List.length [x0_2, x0_3, x0_4, x0_5, x0_6] : Int) 0 e4 [x0_2, x0_3, x0_4, x0_5, x0_6] :=
  (F_eq (G := G) rfl fn29 rfl _).trans ((run_eq _ _ _ _).trans (by kernel_rfl))
theorem F42_commit_Bytes_l2_eq  : F42_commit_Bytes_l2  =
    some (ByteArray.empty, 170, ()) :=
  (run_eq _ _ _ _).trans (by kernel_rfl)
theorem F42_commit_Bytes_l1000005_eq (v64 : Int) (v65 : Int) (g0 : (List S114)) (g1 : (List Int)) : F42_commit_Bytes_l1000005 v64 v65 g0 g1 =
    if v65 < v64 then
      if (0 : Int) ≤ v65 ∧ v65 < (List.length g1 : Int) then
        (F62_term_Num (IntKind.u64.wrap (rd (0 : Int) g1 v65))).bind fun y1 =>
        let e2 : (List S114) := g0 ++ [(S114.mk y1.1 y1.2.1 y1.2.2.1 y1.2.2.2.1)]
        if (List.length g0 + List.length [(S114.mk y1.1 y1.2.1 y1.2.2.1 y1.2.2.2.1)]) * 56 ≤ 140737488355328 then
          F42_commit_Bytes_l1000005 v64 (IntKind.i64.wrap (v65 + (1 : Int))) e2 g1
        else
          none
      else
        none
    else
      (F65_term_Of g0).bind fun y3 =>
      (F64_term_Encode y3.1 y3.2.1 y3.2.2.1 y3.2.2.2.1).bind fun y4 =>
      some (y4.1, y4.2.1, ()) :=
  (run_eq _ _ _ _).trans (by kernel_rfl)
theorem F61_node_RefRight_eq (x0_0 : Int) (x0_1 : Int) (x0_2 : Int) (x0_3 : Int) : F61_node_RefRight x0_0 x0_1 x0_2 x0_3 =
    if (0 : Int) ≤ x0_1 then
      if x0_1 ≤ (1048576 : Int) then
        if (0 : Int) ≤ x0_2 then
          if x0_2 ≤ (134217728 : Int) then
            if (1 : Int) ≤ x0_3 then
              some ((decide (x0_3 ≤ (1048576 : Int))), ())
            else
              some (false, ())
          else
            some (false, ())
        else
          some (false, ())
      else
        some (false, ())
    else
      some (false, ()) :=
  (F_eq (G := G) rfl fn30 rfl _).trans ((run_eq _ _ _ _).trans (by kernel_rfl))
theorem F62_term_Num_eq (x0 : Int) : F62_term_Num x0 =
    some (1, x0, ByteArray.empty, [], ()) :=
  (F_eq (G := G) rfl fn31 rfl _).trans ((run_eq _ _ _ _).trans (by kernel_rfl))
theorem F63_term_Key_eq (x0 : Int) : F63_term_Key x0 =
    some (3, x0, ByteArray.empty, [], ()) :=
  (F_eq (G := G) rfl fn32 rfl _).trans ((run_eq _ _ _ _).trans (by kernel_rfl))
theorem F65_term_Of_eq (x0 : (List S114)) : F65_term_Of x0 =
    (F79_term_clone 5 0 ByteArray.empty x0).bind fun y1 =>
    some (y1.1, y1.2.1, y1.2.2.1, y1.2.2.2.1, ()) :=
  (F_eq (G := G) rfl fn33 rfl _).trans ((run_eq _ _ _ _).trans (by kernel_rfl))
theorem F64_term_Encode_eq (x0_0 : Int) (x0_1 : Int) (x0_2 : ByteArray) (x0_3 : (List S114)) : F64_term_Encode x0_0 x0_1 x0_2 x0_3 =
    (F77_term_Right x0_0 x0_1 x0_2 x0_3).bind fun y1 =>
    if ¬ y1.1 = (0 : Int) then
      some (ByteArray.empty, y1.1, ())
    else
      (F78_term_write x0_0 x0_1 x0_2 x0_3 []).bind fun y2 =>
      some ((strB y2.1), 0, ()) :=
  (F_eq (G := G) rfl fn34 rfl _).trans ((run_eq _ _ _ _).trans (by kernel_rfl))
theorem F77_term_Right_eq (x0_0 : Int) (x0_1 : Int) (x0_2 : ByteArray) (x0_3 : (List S114)) : F77_term_Right x0_0 x0_1 x0_2 x0_3 =
    (F102_term_parts x0_0 x0_1 x0_2 x0_3 4001).bind fun y1 =>
    if (4000 : Int) < y1.1 then
      some (23, ())
    else
      (F103_term_deep x0_0 x0_1 x0_2 x0_3 13).bind fun y2 =>
      if (12 : Int) < y2.1 then
        some (22, ())
      else
        (F104_term_shaped x0_0 x0_1 x0_2 x0_3).bind fun y3 =>
        if (!y3.1) = true then
          some (25, ())
        else
          some (0, ()) :=
  (F_eq (G := G) rfl fn35 rfl _).trans ((run_eq _ _ _ _).trans (by kernel_rfl))
theorem F78_term_write_eq (x1_0 : Int) (x1_1 : Int) (x1_2 : ByteArray) (x1_3 : (List S114)) (g0 : (List Int)) : F78_term_write x1_0 x1_1 x1_2 x1_3 g0 =
    if (List.length g0 + List.length [(IntKind.u8.wrap x1_0)]) * 1 ≤ 140737488355328 then
      if x1_0 = (1 : Int) then
        if x1_0 = (1 : Int) then
          (F105_term_PutNum x1_1).bind fun y1 =>
          let e2 : (List Int) := (g0 ++ [(IntKind.u8.wrap x1_0)]) ++ (bytesOf y1.1)
          if (List.length (g0 ++ [(IntKind.u8.wrap x1_0)]) + List.length (bytesOf y1.1)) * 1 ≤ 140737488355328 then
            F78_term_write_l11 e2 x1_0 x1_1 x1_2 x1_3
          else
            none
        else
          if x1_0 = (2 : Int) then
            (F105_term_PutNum (IntKind.u64.wrap (ByteArray.size x1_2 : Int))).bind fun y3 =>
            let e4 : (List Int) := (g0 ++ [(IntKind.u8.wrap x1_0)]) ++ (bytesOf y3.1)
            if (List.length (g0 ++ [(IntKind.u8.wrap x1_0)]) + List.length (bytesOf y3.1)) * 1 ≤ 140737488355328 then
              if (List.length e4 + List.length (bytesOf x1_2)) * 1 ≤ 140737488355328 then
                F78_term_write_l11 (e4 ++ (bytesOf x1_2)) x1_0 x1_1 x1_2 x1_3
              else
                none
            else
              none
          else
            if x1_0 = (5 : Int) then
              (F105_term_PutNum (IntKind.u64.wrap (List.length x1_3 : Int))).bind fun y5 =>
              let e6 : (List Int) := (g0 ++ [(IntKind.u8.wrap x1_0)]) ++ (bytesOf y5.1)
              if (List.length (g0 ++ [(IntKind.u8.wrap x1_0)]) + List.length (bytesOf y5.1)) * 1 ≤ 140737488355328 then
                F78_term_write_l11 e6 x1_0 x1_1 x1_2 x1_3
              else
                none
            else
              F78_term_write_l11 (g0 ++ [(IntKind.u8.wrap x1_0)]) x1_0 x1_1 x1_2 x1_3
      else
        if x1_0 = (3 : Int) then
          if x1_0 = (3 : Int) then
            (F105_term_PutNum x1_1).bind fun y7 =>
            let e8 : (List Int) := (g0 ++ [(IntKind.u8.wrap x1_0)]) ++ (bytesOf y7.1)
            if (List.length (g0 ++ [(IntKind.u8.wrap x1_0)]) + List.length (bytesOf y7.1)) * 1 ≤ 140737488355328 then
              F78_term_write_l11 e8 x1_0 x1_1 x1_2 x1_3
            else
              none
          else
            if x1_0 = (2 : Int) then
              (F105_term_PutNum (IntKind.u64.wrap (ByteArray.size x1_2 : Int))).bind fun y9 =>
              let e10 : (List Int) := (g0 ++ [(IntKind.u8.wrap x1_0)]) ++ (bytesOf y9.1)
              if (List.length (g0 ++ [(IntKind.u8.wrap x1_0)]) + List.length (bytesOf y9.1)) * 1 ≤ 140737488355328 then
                if (List.length e10 + List.length (bytesOf x1_2)) * 1 ≤ 140737488355328 then
                  F78_term_write_l11 (e10 ++ (bytesOf x1_2)) x1_0 x1_1 x1_2 x1_3
                else
                  none
              else
                none
            else
              if x1_0 = (5 : Int) then
                (F105_term_PutNum (IntKind.u64.wrap (List.length x1_3 : Int))).bind fun y11 =>
                let e12 : (List Int) := (g0 ++ [(IntKind.u8.wrap x1_0)]) ++ (bytesOf y11.1)
                if (List.length (g0 ++ [(IntKind.u8.wrap x1_0)]) + List.length (bytesOf y11.1)) * 1 ≤ 140737488355328 then
                  F78_term_write_l11 e12 x1_0 x1_1 x1_2 x1_3
                else
                  none
              else
                F78_term_write_l11 (g0 ++ [(IntKind.u8.wrap x1_0)]) x1_0 x1_1 x1_2 x1_3
        else
          if x1_0 = (4 : Int) then
            (F105_term_PutNum x1_1).bind fun y13 =>
            let e14 : (List Int) := (g0 ++ [(IntKind.u8.wrap x1_0)]) ++ (bytesOf y13.1)
            if (List.length (g0 ++ [(IntKind.u8.wrap x1_0)]) + List.length (bytesOf y13.1)) * 1 ≤ 140737488355328 then
              F78_term_write_l11 e14 x1_0 x1_1 x1_2 x1_3
            else
              none
          else
            if x1_0 = (2 : Int) then
              (F105_term_PutNum (IntKind.u64.wrap (ByteArray.size x1_2 : Int))).bind fun y15 =>
              let e16 : (List Int) := (g0 ++ [(IntKind.u8.wrap x1_0)]) ++ (bytesOf y15.1)
              if (List.length (g0 ++ [(IntKind.u8.wrap x1_0)]) + List.length (bytesOf y15.1)) * 1 ≤ 140737488355328 then
                if (List.length e16 + List.length (bytesOf x1_2)) * 1 ≤ 140737488355328 then
                  F78_term_write_l11 (e16 ++ (bytesOf x1_2)) x1_0 x1_1 x1_2 x1_3
                else
                  none
              else
                none
            else
              if x1_0 = (5 : Int) then
                (F105_term_PutNum (IntKind.u64.wrap (List.length x1_3 : Int))).bind fun y17 =>
                let e18 : (List Int) := (g0 ++ [(IntKind.u8.wrap x1_0)]) ++ (bytesOf y17.1)
                if (List.length (g0 ++ [(IntKind.u8.wrap x1_0)]) + List.length (bytesOf y17.1)) * 1 ≤ 140737488355328 then
                  F78_term_write_l11 e18 x1_0 x1_1 x1_2 x1_3
                else
                  none
              else
                F78_term_write_l11 (g0 ++ [(IntKind.u8.wrap x1_0)]) x1_0 x1_1 x1_2 x1_3
    else
      none :=
  (F_eq (G := G) rfl fn36 rfl _).trans ((run_eq _ _ _ _).trans (by kernel_rfl))
theorem F78_term_write_l11_eq (g1 : (List Int)) (h2_0 : Int) (h2_1 : Int) (h2_2 : ByteArray) (h2_3 : (List S114)) : F78_term_write_l11 g1 h2_0 h2_1 h2_2 h2_3 =
    F78_term_write_l1000012 h2_3 (List.length h2_3 : Int) 0 g1 :=
  (run_eq _ _ _ _).trans (by kernel_rfl)
theorem F78_term_write_l1000012_eq (v46 : (List S114)) (v47 : Int) (v48 : Int) (g1 : (List Int)) : F78_term_write_l1000012 v46 v47 v48 g1 =
    if v48 < v47 then
      if (0 : Int) ≤ v48 ∧ v48 < (List.length v46 : Int) then
        (F78_term_write (S114.f0 (rd S114.z v46 v48)) (S114.f1 (rd S114.z v46 v48)) (S114.f2 (rd S114.z v46 v48)) (S114.f3 (rd S114.z v46 v48)) g1).bind fun y1 =>
        F78_term_write_l1000012 v46 v47 (IntKind.i64.wrap (v48 + (1 : Int))) y1.1
      else
        none
    else
      some (g1, ()) :=
  (run_eq _ _ _ _).trans (by kernel_rfl)
theorem F102_term_parts_eq (x0_0 : Int) (x0_1 : Int) (x0_2 : ByteArray) (x0_3 : (List S114)) (x1 : Int) : F102_term_parts x0_0 x0_1 x0_2 x0_3 x1 =
    F102_term_parts_l1000003 x1 1 x0_3 (List.length x0_3 : Int) 0 :=
  (F_eq (G := G) rfl fn37 rfl _).trans ((run_eq _ _ _ _).trans (by kernel_rfl))
theorem F102_term_parts_l1000003_eq (v1 : Int) (v5 : Int) (v9 : (List S114)) (v10 : Int) (v11 : Int) : F102_term_parts_l1000003 v1 v5 v9 v10 v11 =
    if v11 < v10 then
      if (0 : Int) ≤ v11 ∧ v11 < (List.length v9 : Int) then
        if v1 ≤ v5 then
          some (v5, ())
        else
          (F102_term_parts (S114.f0 (rd S114.z v9 v11)) (S114.f1 (rd S114.z v9 v11)) (S114.f2 (rd S114.z v9 v11)) (S114.f3 (rd S114.z v9 v11)) (IntKind.i64.wrap (v1 - v5))).bind fun y1 =>
          F102_term_parts_l1000003 v1 (IntKind.i64.wrap (v5 + y1.1)) v9 v10 (IntKind.i64.wrap (v11 + (1 : Int)))
      else
        none
    else
      some (v5, ()) :=
  (run_eq _ _ _ _).trans (by kernel_rfl)
theorem F103_term_deep_eq (x0_0 : Int) (x0_1 : Int) (x0_2 : ByteArray) (x0_3 : (List S114)) (x1 : Int) : F103_term_deep x0_0 x0_1 x0_2 x0_3 x1 =
    if (1 : Int) < x1 then
      F103_term_deep_l1000004 x1 0 x0_3 (List.length x0_3 : Int) 0
    else
      some ((IntKind.i64.wrap ((0 : Int) + (1 : Int))), ()) :=
  (F_eq (G := G) rfl fn38 rfl _).trans ((run_eq _ _ _ _).trans (by kernel_rfl))
theorem F103_term_deep_l1000004_eq (v1 : Int) (v5 : Int) (v11 : (List S114)) (v12 : Int) (v13 : Int) : F103_term_deep_l1000004 v1 v5 v11 v12 v13 =
    if v13 < v12 then
      if (0 : Int) ≤ v13 ∧ v13 < (List.length v11 : Int) then
        (F103_term_deep (S114.f0 (rd S114.z v11 v13)) (S114.f1 (rd S114.z v11 v13)) (S114.f2 (rd S114.z v11 v13)) (S114.f3 (rd S114.z v11 v13)) (IntKind.i64.wrap (v1 - (1 : Int)))).bind fun y1 =>
        F103_term_deep_l1000004 v1 (mx v5 y1.1) v11 v12 (IntKind.i64.wrap (v13 + (1 : Int)))
      else
        none
    else
      some ((IntKind.i64.wrap (v5 + (1 : Int))), ()) :=
  (run_eq _ _ _ _).trans (by kernel_rfl)
theorem F104_term_shaped_eq (x0_0 : Int) (x0_1 : Int) (x0_2 : ByteArray) (x0_3 : (List S114)) : F104_term_shaped x0_0 x0_1 x0_2 x0_3 =
    if x0_0 = (1 : Int) then
      if x0_0 = (1 : Int) then
        if x0_2 = ByteArray.empty then
          F104_term_shaped_l12 (decide ((List.length x0_3 : Int) = (0 : Int))) x0_0 x0_1 x0_2 x0_3
        else
          F104_term_shaped_l12 false x0_0 x0_1 x0_2 x0_3
      else
        if x0_0 = (2 : Int) then
          if x0_1 = (0 : Int) then
            if (ByteArray.size x0_2 : Int) ≤ (4000 : Int) then
              F104_term_shaped_l12 (decide ((List.length x0_3 : Int) = (0 : Int))) x0_0 x0_1 x0_2 x0_3
            else
              F104_term_shaped_l12 false x0_0 x0_1 x0_2 x0_3
          else
            F104_term_shaped_l12 false x0_0 x0_1 x0_2 x0_3
        else
          if x0_0 = (4 : Int) then
            if x0_2 = ByteArray.empty then
              F104_term_shaped_l12 (decide ((List.length x0_3 : Int) = (1 : Int))) x0_0 x0_1 x0_2 x0_3
            else
              F104_term_shaped_l12 false x0_0 x0_1 x0_2 x0_3
          else
            if x0_0 = (5 : Int) then
              if x0_1 = (0 : Int) then
                F104_term_shaped_l12 (decide (x0_2 = ByteArray.empty)) x0_0 x0_1 x0_2 x0_3
              else
                F104_term_shaped_l12 false x0_0 x0_1 x0_2 x0_3
            else
              F104_term_shaped_l12 false x0_0 x0_1 x0_2 x0_3
    else
      if x0_0 = (3 : Int) then
        if x0_2 = ByteArray.empty then
          F104_term_shaped_l12 (decide ((List.length x0_3 : Int) = (0 : Int))) x0_0 x0_1 x0_2 x0_3
        else
          F104_term_shaped_l12 false x0_0 x0_1 x0_2 x0_3
      else
        if x0_0 = (2 : Int) then
          if x0_1 = (0 : Int) then
            if (ByteArray.size x0_2 : Int) ≤ (4000 : Int) then
              F104_term_shaped_l12 (decide ((List.length x0_3 : Int) = (0 : Int))) x0_0 x0_1 x0_2 x0_3
            else
              F104_term_shaped_l12 false x0_0 x0_1 x0_2 x0_3
          else
            F104_term_shaped_l12 false x0_0 x0_1 x0_2 x0_3
        else
          if x0_0 = (4 : Int) then
            if x0_2 = ByteArray.empty then
              F104_term_shaped_l12 (decide ((List.length x0_3 : Int) = (1 : Int))) x0_0 x0_1 x0_2 x0_3
            else
              F104_term_shaped_l12 false x0_0 x0_1 x0_2 x0_3
          else
            if x0_0 = (5 : Int) then
              if x0_1 = (0 : Int) then
                F104_term_shaped_l12 (decide (x0_2 = ByteArray.empty)) x0_0 x0_1 x0_2 x0_3
              else
                F104_term_shaped_l12 false x0_0 x0_1 x0_2 x0_3
            else
              F104_term_shaped_l12 false x0_0 x0_1 x0_2 x0_3 :=
  (F_eq (G := G) rfl fn39 rfl _).trans ((run_eq _ _ _ _).trans (by kernel_rfl))
theorem F104_term_shaped_l12_eq (v3 : Bool) (h0_0 : Int) (h0_1 : Int) (h0_2 : ByteArray) (h0_3 : (List S114)) : F104_term_shaped_l12 v3 h0_0 h0_1 h0_2 h0_3 =
    if v3 = true then
      (F120_slices_ContainsFunc_121 h0_3).bind fun y1 =>
      some ((!y1.1), ())
    else
      some (false, ()) :=
  (run_eq _ _ _ _).trans (by kernel_rfl)
theorem F120_slices_ContainsFunc_121_eq (x0 : (List S114)) : F120_slices_ContainsFunc_121 x0 =
    (F124_slices_IndexFunc_121 x0).bind fun y1 =>
    some ((decide ((0 : Int) ≤ y1.1)), ()) :=
  (F_eq (G := G) rfl fn40 rfl _).trans ((run_eq _ _ _ _).trans (by kernel_rfl))
theorem F124_slices_IndexFunc_121_eq (x0 : (List S114)) : F124_slices_IndexFunc_121 x0 =
    F124_slices_IndexFunc_121_l1000002 x0 (List.length x0 : Int) 0 :=
  (F_eq (G := G) rfl fn41 rfl _).trans ((run_eq _ _ _ _).trans (by kernel_rfl))
theorem F124_slices_IndexFunc_121_l1000002_eq (v0 : (List S114)) (v7 : Int) (v8 : Int) : F124_slices_IndexFunc_121_l1000002 v0 v7 v8 =
    if v8 < v7 then
      if (0 : Int) ≤ v8 ∧ v8 < (List.length v0 : Int) then
        (F121_term_shaped_1 (S114.f0 (rd S114.z v0 v8)) (S114.f1 (rd S114.z v0 v8)) (S114.f2 (rd S114.z v0 v8)) (S114.f3 (rd S114.z v0 v8))).bind fun y1 =>
        if y1.1 = true then
          some (v8, ())
        else
          F124_slices_IndexFunc_121_l1000002 v0 v7 (IntKind.i64.wrap (v8 + (1 : Int)))
      else
        none
    else
      some ((-1), ()) :=
  (run_eq _ _ _ _).trans (by kernel_rfl)
theorem F121_term_shaped_1_eq (x0_0 : Int) (x0_1 : Int) (x0_2 : ByteArray) (x0_3 : (List S114)) : F121_term_shaped_1 x0_0 x0_1 x0_2 x0_3 =
    (F104_term_shaped x0_0 x0_1 x0_2 x0_3).bind fun y1 =>
    some ((!y1.1), ()) :=
  (F_eq (G := G) rfl fn42 rfl _).trans ((run_eq _ _ _ _).trans (by kernel_rfl))
theorem F105_term_PutNum_eq (x0 : Int) : F105_term_PutNum x0 =
    F105_term_PutNum_l1000002 x0 [] :=
  (F_eq (G := G) rfl fn43 rfl _).trans ((run_eq _ _ _ _).trans (by kernel_rfl))
theorem F105_term_PutNum_l1000002_eq (v0 : Int) (g0 : (List Int)) : F105_term_PutNum_l1000002 v0 g0 =
    if (128 : Int) ≤ v0 then
      let e1 : (List Int) := [(bitsR .or .u8 (IntKind.u8.wrap v0) (128 : Int))]
      if (List.length g0 + List.length e1) * 1 ≤ 140737488355328 then
        F105_term_PutNum_l1000002 (shrR .u64 v0 (7 : Int)) (g0 ++ e1)
      else
        none
    else
      if (List.length g0 + List.length [(IntKind.u8.wrap v0)]) * 1 ≤ 140737488355328 then
        some ((strB (g0 ++ [(IntKind.u8.wrap v0)])), ())
      else
        none :=
  (run_eq _ _ _ _).trans (by kernel_rfl)
theorem F79_term_clone_eq (x0_0 : Int) (x0_1 : Int) (x0_2 : ByteArray) (x0_3 : (List S114)) : F79_term_clone x0_0 x0_1 x0_2 x0_3 =
    F79_term_clone_l1000003 x0_3 (List.length x0_3 : Int) 0 x0_0 x0_1 x0_2 x0_3 0 0 ByteArray.empty [] [] :=
  (F_eq (G := G) rfl fn44 rfl _).trans ((run_eq _ _ _ _).trans (by kernel_rfl))
theorem F79_term_clone_l1000003_eq (v7 : (List S114)) (v8 : Int) (v9 : Int) (h0_0 : Int) (h0_1 : Int) (h0_2 : ByteArray) (h0_3 : (List S114)) (h1_0 : Int) (h1_1 : Int) (h1_2 : ByteArray) (g2 : (List S114)) (g3 : (List S114)) : F79_term_clone_l1000003 v7 v8 v9 h0_0 h0_1 h0_2 h0_3 h1_0 h1_1 h1_2 g2 g3 =
    if v9 < v8 then
      if (0 : Int) ≤ v9 ∧ v9 < (List.length v7 : Int) then
        (F79_term_clone (S114.f0 (rd S114.z v7 v9)) (S114.f1 (rd S114.z v7 v9)) (S114.f2 (rd S114.z v7 v9)) (S114.f3 (rd S114.z v7 v9))).bind fun y1 =>
        let e2 : (List S114) := g2 ++ [(S114.mk y1.1 y1.2.1 y1.2.2.1 y1.2.2.2.1)]
        if (List.length g2 + List.length [(S114.mk y1.1 y1.2.1 y1.2.2.1 y1.2.2.2.1)]) * 56 ≤ 140737488355328 then
          F79_term_clone_l1000003 v7 v8 (IntKind.i64.wrap (v9 + (1 : Int))) h0_0 h0_1 h0_2 h0_3 h1_0 h1_1 h1_2 e2 g3
        else
          none
      else
        none
    else
      some (h0_0, h0_1, h0_2, g2, ()) :=
  (run_eq _ _ _ _).trans (by kernel_rfl)
theorem F26_commit_set_eq (x1 : Int) (x2_0 : Int) (x2_1 : Int) (x2_2 : Int) (x2_3 : Int) (x2_4 : Int) (x2_5 : Int) (x2_6 : Int) (h0_1 : ByteArray) (h0_2 : ByteArray) (h0_3 : Int) (h1_0 : Bool) (h1_1 : Int) (h1_2 : Int) : F26_commit_set x1 x2_0 x2_1 x2_2 x2_3 x2_4 x2_5 x2_6 h0_1 h0_2 h0_3 h1_0 h1_1 h1_2 =
    (F42_commit_Bytes x2_0 x2_1 x2_2 x2_3 x2_4 x2_5 x2_6).bind fun y1 =>
    if y1.2.1 = (0 : Int) then
      (F43_cell_Cell_Set x1 y1.1 h0_1 h0_2 h0_3 h1_0 h1_1 h1_2).bind fun y2 =>
      if ¬ y2.1 = (0 : Int) then
        some (0, 0, 0, 0, 0, 0, 0, y2.1, y2.2.1, y2.2.2.1, y2.2.2.2.1, y2.2.2.2.2.1, y2.2.2.2.2.2.1, y2.2.2.2.2.2.2.1, ())
      else
        some (x2_0, x2_1, x2_2, x2_3, x2_4, x2_5, x2_6, 0, y2.2.1, y2.2.2.1, y2.2.2.2.1, y2.2.2.2.2.1, y2.2.2.2.2.2.1, y2.2.2.2.2.2.2.1, ())
    else
      if ¬ y1.2.1 = (0 : Int) then
        some (0, 0, 0, 0, 0, 0, 0, y1.2.1, h0_1, h0_2, h0_3, h1_0, h1_1, h1_2, ())
      else
        some (x2_0, x2_1, x2_2, x2_3, x2_4, x2_5, x2_6, 0, h0_1, h0_2, h0_3, h1_0, h1_1, h1_2, ()) :=
  (F_eq (G := G) rfl fn45 rfl _).trans ((run_eq _ _ _ _).trans (by kernel_rfl))
theorem F43_cell_Cell_Set_eq (x1 : Int) (x2 : ByteArray) (h0_1 : ByteArray) (h0_2 : ByteArray) (h0_3 : Int) (h1_0 : Bool) (h1_1 : Int) (h1_2 : Int) : F43_cell_Cell_Set x1 x2 h0_1 h0_2 h0_3 h1_0 h1_1 h1_2 =
    (F29_cell_Cell_is x1 h0_1 h0_2 h0_3 h1_0 h1_1 h1_2).bind fun y1 =>
    if (!y1.1) = true then
      some (130, y1.2.1, y1.2.2.1, y1.2.2.2.1, y1.2.2.2.2.1, y1.2.2.2.2.2.1, y1.2.2.2.2.2.2.1, ())
    else
      if x1 = (0 : Int) then
        if ¬ y1.2.1 = ByteArray.empty then
          some (131, y1.2.1, y1.2.2.1, y1.2.2.2.1, y1.2.2.2.2.1, y1.2.2.2.2.2.1, y1.2.2.2.2.2.2.1, ())
        else
          if x2 = ByteArray.empty then
            F43_cell_Cell_Set_l6 y1.2.1 y1.2.2.1 y1.2.2.2.1 y1.2.2.2.2.1 y1.2.2.2.2.2.1 y1.2.2.2.2.2.2.1
          else
            if (200 : Int) < (ByteArray.size x2 : Int) then
              F43_cell_Cell_Set_l6 y1.2.1 y1.2.2.1 y1.2.2.2.1 y1.2.2.2.2.1 y1.2.2.2.2.2.1 y1.2.2.2.2.2.2.1
            else
              (F44_cell_Cell_lay x1 x2 y1.2.1 y1.2.2.1 y1.2.2.2.1 y1.2.2.2.2.1 y1.2.2.2.2.2.1 y1.2.2.2.2.2.2.1).bind fun y3 =>
              some (y3.1, y3.2.1, y3.2.2.1, y3.2.2.2.1, y3.2.2.2.2.1, y3.2.2.2.2.2.1, y3.2.2.2.2.2.2.1, ())
      else
        if x1 = (1 : Int) then
          if ¬ y1.2.2.1 = ByteArray.empty then
            some (131, y1.2.1, y1.2.2.1, y1.2.2.2.1, y1.2.2.2.2.1, y1.2.2.2.2.2.1, y1.2.2.2.2.2.2.1, ())
          else
            if x2 = ByteArray.empty then
              F43_cell_Cell_Set_l6 y1.2.1 y1.2.2.1 y1.2.2.2.1 y1.2.2.2.2.1 y1.2.2.2.2.2.1 y1.2.2.2.2.2.2.1
            else
              if (200 : Int) < (ByteArray.size x2 : Int) then
                F43_cell_Cell_Set_l6 y1.2.1 y1.2.2.1 y1.2.2.2.1 y1.2.2.2.2.1 y1.2.2.2.2.2.1 y1.2.2.2.2.2.2.1
              else
                (F44_cell_Cell_lay x1 x2 y1.2.1 y1.2.2.1 y1.2.2.2.1 y1.2.2.2.2.1 y1.2.2.2.2.2.1 y1.2.2.2.2.2.2.1).bind fun y2 =>
                some (y2.1, y2.2.1, y2.2.2.1, y2.2.2.2.1, y2.2.2.2.2.1, y2.2.2.2.2.2.1, y2.2.2.2.2.2.2.1, ())
        else
          none :=
  (F_eq (G := G) rfl fn46 rfl _).trans ((run_eq _ _ _ _).trans (by kernel_rfl))
theorem F43_cell_Cell_Set_l6_eq (h0_1 : ByteArray) (h0_2 : ByteArray) (h0_3 : Int) (h1_0 : Bool) (h1_1 : Int) (h1_2 : Int) : F43_cell_Cell_Set_l6 h0_1 h0_2 h0_3 h1_0 h1_1 h1_2 =
    some (2, h0_1, h0_2, h0_3, h1_0, h1_1, h1_2, ()) :=
  (run_eq _ _ _ _).trans (by kernel_rfl)
theorem F25_letheref06_RefRight_eq (x0_0 : Int) (x0_1 : Int) (x0_2 : Int) (x0_3 : Int) : F25_letheref06_RefRight x0_0 x0_1 x0_2 x0_3 =
    if (0 : Int) ≤ x0_1 then
      if x0_1 ≤ (1048576 : Int) then
        if (0 : Int) ≤ x0_2 then
          if x0_2 ≤ (134217728 : Int) then
            if (1 : Int) ≤ x0_3 then
              some ((decide (x0_3 ≤ (1048576 : Int))), ())
            else
              some (false, ())
          else
            some (false, ())
        else
          some (false, ())
      else
        some (false, ())
    else
      some (false, ()) :=
  (F_eq (G := G) rfl fn47 rfl _).trans ((run_eq _ _ _ _).trans (by kernel_rfl))
end
end Go.Proofs.Ytckafnfidjfhjaa.CommitSafex
