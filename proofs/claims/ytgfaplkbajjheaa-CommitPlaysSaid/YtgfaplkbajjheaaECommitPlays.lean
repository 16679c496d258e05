/- The law CommitPlays: what each function answers, in plain equations. Under no condition. -/
import Derived.Test.YtgfaplkbajjheaaTCommitPlays
set_option linter.unusedVariables false
set_option maxRecDepth 100000
namespace Go.Proofs.Ytgfaplkbajjheaa.CommitPlaysx
open Go Go.RowKit Go.Proofs.Ytgfaplkbajjheaa.Rx Go.Proofs.Ytgfaplkbajjheaa.CommitPlaysx
noncomputable section
theorem F9_lethelaw17_CommitPlays_eq (x0 : (List S71)) : F9_lethelaw17_CommitPlays x0 =
    (F32_power_New ).bind fun y1 =>
    (F31_cell_New y1.1 y1.2.1 y1.2.2.1).bind fun y2 =>
    (F39_letheref11_New ).bind fun y3 =>
    (F38_letheref13_New y3.1 y3.2.1 y3.2.2.1).bind fun y4 =>
    F9_lethelaw17_CommitPlays_l1000006 x0 (List.length x0 : Int) 0 y2.2.2.2.1 y2.2.2.2.2.1 y2.2.2.2.2.2.1 y4.2.2.2.1 y4.2.2.2.2.1 y4.2.2.2.2.2.1 y2.1 y2.2.1 y2.2.2.1 y4.1 y4.2.1 y4.2.2.1 :=
  (F_eq (G := G) rfl fn0 rfl _).trans ((run_eq _ _ _ _).trans (by kernel_rfl))
theorem F9_lethelaw17_CommitPlays_l1000006_eq (v34 : (List S71)) (v35 : Int) (v36 : Int) (h0_1 : ByteArray) (h0_2 : ByteArray) (h0_3 : Int) (h1_1 : ByteArray) (h1_2 : ByteArray) (h1_3 : Int) (h2_0 : Bool) (h2_1 : Int) (h2_2 : Int) (h3_0 : Bool) (h3_1 : Int) (h3_2 : Int) : F9_lethelaw17_CommitPlays_l1000006 v34 v35 v36 h0_1 h0_2 h0_3 h1_1 h1_2 h1_3 h2_0 h2_1 h2_2 h3_0 h3_1 h3_2 =
    if v36 < v35 then
      if (0 : Int) ≤ v36 ∧ v36 < (List.length v34 : Int) then
        if (60 : Int) ≤ v36 then
          some (true, ())
        else
          if (S71.f0 (rd S71.z v34 v36)) = (1 : Int) then
            (F34_commit_Next (S71.f1 (rd S71.z v34 v36)) (S71.f2 (rd S71.z v34 v36)) (S71.f3 (rd S71.z v34 v36)) (S71.f4 (rd S71.z v34 v36)) (S71.f5 (rd S71.z v34 v36)) (S71.f6 (rd S71.z v34 v36)) h0_1 h0_2 h0_3 h2_0 h2_1 h2_2).bind fun y1 =>
            (F40_letheref17_Next (S71.f1 (rd S71.z v34 v36)) (S71.f2 (rd S71.z v34 v36)) (S71.f3 (rd S71.z v34 v36)) (S71.f4 (rd S71.z v34 v36)) (S71.f5 (rd S71.z v34 v36)) (S71.f6 (rd S71.z v34 v36)) h1_1 h1_2 h1_3 h3_0 h3_1 h3_2).bind fun y2 =>
            if ¬ (y1.1 = y2.1 ∧ (y1.2.1 = y2.2.1 ∧ y1.2.2.1 = y2.2.2.1 ∧ y1.2.2.2.1 = y2.2.2.2.1 ∧ y1.2.2.2.2.1 = y2.2.2.2.2.1 ∧ True) ∧ y1.2.2.2.2.2.1 = y2.2.2.2.2.2.1 ∧ y1.2.2.2.2.2.2.1 = y2.2.2.2.2.2.2.1 ∧ True) then
              some (false, ())
            else
              if ¬ y1.2.2.2.2.2.2.2.1 = y2.2.2.2.2.2.2.2.1 then
                some (false, ())
              else
                F9_lethelaw17_CommitPlays_l41 v34 v35 v36 y1.2.2.2.2.2.2.2.2.1 y1.2.2.2.2.2.2.2.2.2.1 y1.2.2.2.2.2.2.2.2.2.2.1 y2.2.2.2.2.2.2.2.2.1 y2.2.2.2.2.2.2.2.2.2.1 y2.2.2.2.2.2.2.2.2.2.2.1 y1.2.2.2.2.2.2.2.2.2.2.2.1 y1.2.2.2.2.2.2.2.2.2.2.2.2.1 y1.2.2.2.2.2.2.2.2.2.2.2.2.2.1 y2.2.2.2.2.2.2.2.2.2.2.2.1 y2.2.2.2.2.2.2.2.2.2.2.2.2.1 y2.2.2.2.2.2.2.2.2.2.2.2.2.2.1
          else
            if (S71.f0 (rd S71.z v34 v36)) = (2 : Int) then
              (F41_commit_Stale h0_1 h0_2 h0_3 h2_0 h2_1 h2_2).bind fun y3 =>
              (F42_letheref17_Stale h1_1 h1_2 h1_3 h3_0 h3_1 h3_2).bind fun y4 =>
              if (!(y3.1 == y4.1)) = true then
                some (false, ())
              else
                if ¬ y3.2.1 = y4.2.1 then
                  some (false, ())
                else
                  F9_lethelaw17_CommitPlays_l41 v34 v35 v36 y3.2.2.1 y3.2.2.2.1 y3.2.2.2.2.1 y4.2.2.1 y4.2.2.2.1 y4.2.2.2.2.1 y3.2.2.2.2.2.1 y3.2.2.2.2.2.2.1 y3.2.2.2.2.2.2.2.1 y4.2.2.2.2.2.1 y4.2.2.2.2.2.2.1 y4.2.2.2.2.2.2.2.1
            else
              if (S71.f0 (rd S71.z v34 v36)) = (3 : Int) then
                (F36_commit_Now h0_1 h0_2 h0_3 h2_0 h2_1 h2_2).bind fun y5 =>
                (F43_letheref17_Now h1_1 h1_2 h1_3 h3_0 h3_1 h3_2).bind fun y6 =>
                if ¬ (y5.1 = y6.1 ∧ (y5.2.1 = y6.2.1 ∧ y5.2.2.1 = y6.2.2.1 ∧ y5.2.2.2.1 = y6.2.2.2.1 ∧ y5.2.2.2.2.1 = y6.2.2.2.2.1 ∧ True) ∧ y5.2.2.2.2.2.1 = y6.2.2.2.2.2.1 ∧ y5.2.2.2.2.2.2.1 = y6.2.2.2.2.2.2.1 ∧ True) then
                  some (false, ())
                else
                  if ¬ y5.2.2.2.2.2.2.2.1 = y6.2.2.2.2.2.2.2.1 then
                    some (false, ())
                  else
                    if ¬ y5.2.2.2.2.2.2.2.2.1 = y6.2.2.2.2.2.2.2.2.1 then
                      some (false, ())
                    else
                      F9_lethelaw17_CommitPlays_l41 v34 v35 v36 y5.2.2.2.2.2.2.2.2.2.1 y5.2.2.2.2.2.2.2.2.2.2.1 y5.2.2.2.2.2.2.2.2.2.2.2.1 y6.2.2.2.2.2.2.2.2.2.1 y6.2.2.2.2.2.2.2.2.2.2.1 y6.2.2.2.2.2.2.2.2.2.2.2.1 y5.2.2.2.2.2.2.2.2.2.2.2.2.1 y5.2.2.2.2.2.2.2.2.2.2.2.2.2.1 y5.2.2.2.2.2.2.2.2.2.2.2.2.2.2.1 y6.2.2.2.2.2.2.2.2.2.2.2.2.1 y6.2.2.2.2.2.2.2.2.2.2.2.2.2.1 y6.2.2.2.2.2.2.2.2.2.2.2.2.2.2.1
              else
                if (S71.f0 (rd S71.z v34 v36)) = (4 : Int) then
                  (F44_power_Power_Cut (S71.f5 (rd S71.z v34 v36)) h2_0 h2_1 h2_2).bind fun y7 =>
                  (F45_letheref11_Power_Cut (S71.f5 (rd S71.z v34 v36)) h3_0 h3_1 h3_2).bind fun y8 =>
                  F9_lethelaw17_CommitPlays_l41 v34 v35 v36 h0_1 h0_2 h0_3 h1_1 h1_2 h1_3 y7.1 y7.2.1 y7.2.2.1 y8.1 y8.2.1 y8.2.2.1
                else
                  if (S71.f0 (rd S71.z v34 v36)) = (5 : Int) then
                    (F46_power_Power_Restore h2_0 h2_1 h2_2).bind fun y9 =>
                    (F47_letheref11_Power_Restore h3_0 h3_1 h3_2).bind fun y10 =>
                    F9_lethelaw17_CommitPlays_l41 v34 v35 v36 h0_1 h0_2 h0_3 h1_1 h1_2 h1_3 y9.1 y9.2.1 y9.2.2.1 y10.1 y10.2.1 y10.2.2.1
                  else
                    if (S71.f0 (rd S71.z v34 v36)) = (6 : Int) then
                      (F48_cell_Cell_Set (S71.f5 (rd S71.z v34 v36)) (S71.f7 (rd S71.z v34 v36)) h0_1 h0_2 h0_3 h2_0 h2_1 h2_2).bind fun y11 =>
                      (F49_letheref13_Cell_Set (S71.f5 (rd S71.z v34 v36)) (S71.f7 (rd S71.z v34 v36)) h1_1 h1_2 h1_3 h3_0 h3_1 h3_2).bind fun y12 =>
                      if ¬ y11.1 = y12.1 then
                        some (false, ())
                      else
                        F9_lethelaw17_CommitPlays_l41 v34 v35 v36 y11.2.1 y11.2.2.1 y11.2.2.2.1 y12.2.1 y12.2.2.1 y12.2.2.2.1 y11.2.2.2.2.1 y11.2.2.2.2.2.1 y11.2.2.2.2.2.2.1 y12.2.2.2.2.1 y12.2.2.2.2.2.1 y12.2.2.2.2.2.2.1
                    else
                      if (S71.f0 (rd S71.z v34 v36)) = (7 : Int) then
                        (F50_cell_Cell_Erase (S71.f5 (rd S71.z v34 v36)) h0_1 h0_2 h0_3 h2_0 h2_1 h2_2).bind fun y13 =>
                        (F51_letheref13_Cell_Erase (S71.f5 (rd S71.z v34 v36)) h1_1 h1_2 h1_3 h3_0 h3_1 h3_2).bind fun y14 =>
                        if ¬ y13.1 = y14.1 then
                          some (false, ())
                        else
                          F9_lethelaw17_CommitPlays_l41 v34 v35 v36 y13.2.1 y13.2.2.1 y13.2.2.2.1 y14.2.1 y14.2.2.1 y14.2.2.2.1 y13.2.2.2.2.1 y13.2.2.2.2.2.1 y13.2.2.2.2.2.2.1 y14.2.2.2.2.1 y14.2.2.2.2.2.1 y14.2.2.2.2.2.2.1
                      else
                        (F33_commit_First (S71.f1 (rd S71.z v34 v36)) (S71.f2 (rd S71.z v34 v36)) (S71.f3 (rd S71.z v34 v36)) (S71.f4 (rd S71.z v34 v36)) (S71.f5 (rd S71.z v34 v36)) (S71.f6 (rd S71.z v34 v36)) h0_1 h0_2 h0_3 h2_0 h2_1 h2_2).bind fun y15 =>
                        (F52_letheref17_First (S71.f1 (rd S71.z v34 v36)) (S71.f2 (rd S71.z v34 v36)) (S71.f3 (rd S71.z v34 v36)) (S71.f4 (rd S71.z v34 v36)) (S71.f5 (rd S71.z v34 v36)) (S71.f6 (rd S71.z v34 v36)) h1_1 h1_2 h1_3 h3_0 h3_1 h3_2).bind fun y16 =>
                        if ¬ (y15.1 = y16.1 ∧ (y15.2.1 = y16.2.1 ∧ y15.2.2.1 = y16.2.2.1 ∧ y15.2.2.2.1 = y16.2.2.2.1 ∧ y15.2.2.2.2.1 = y16.2.2.2.2.1 ∧ True) ∧ y15.2.2.2.2.2.1 = y16.2.2.2.2.2.1 ∧ y15.2.2.2.2.2.2.1 = y16.2.2.2.2.2.2.1 ∧ True) then
                          some (false, ())
                        else
                          if ¬ y15.2.2.2.2.2.2.2.1 = y16.2.2.2.2.2.2.2.1 then
                            some (false, ())
                          else
                            F9_lethelaw17_CommitPlays_l41 v34 v35 v36 y15.2.2.2.2.2.2.2.2.1 y15.2.2.2.2.2.2.2.2.2.1 y15.2.2.2.2.2.2.2.2.2.2.1 y16.2.2.2.2.2.2.2.2.1 y16.2.2.2.2.2.2.2.2.2.1 y16.2.2.2.2.2.2.2.2.2.2.1 y15.2.2.2.2.2.2.2.2.2.2.2.1 y15.2.2.2.2.2.2.2.2.2.2.2.2.1 y15.2.2.2.2.2.2.2.2.2.2.2.2.2.1 y16.2.2.2.2.2.2.2.2.2.2.2.1 y16.2.2.2.2.2.2.2.2.2.2.2.2.1 y16.2.2.2.2.2.2.2.2.2.2.2.2.2.1
      else
        none
    else
      some (true, ()) :=
  (run_eq _ _ _ _).trans (by kernel_rfl)
theorem F9_lethelaw17_CommitPlays_l41_eq (v34 : (List S71)) (v35 : Int) (v36 : Int) (h0_1 : ByteArray) (h0_2 : ByteArray) (h0_3 : Int) (h1_1 : ByteArray) (h1_2 : ByteArray) (h1_3 : Int) (h2_0 : Bool) (h2_1 : Int) (h2_2 : Int) (h3_0 : Bool) (h3_1 : Int) (h3_2 : Int) : F9_lethelaw17_CommitPlays_l41 v34 v35 v36 h0_1 h0_2 h0_3 h1_1 h1_2 h1_3 h2_0 h2_1 h2_2 h3_0 h3_1 h3_2 =
    F9_lethelaw17_CommitPlays_l1000042 0 v34 v35 v36 h0_1 h0_2 h0_3 h1_1 h1_2 h1_3 h2_0 h2_1 h2_2 h3_0 h3_1 h3_2 :=
  (run_eq _ _ _ _).trans (by kernel_rfl)
theorem F9_lethelaw17_CommitPlays_l1000042_eq (v25 : Int) (v34 : (List S71)) (v35 : Int) (v36 : Int) (h0_1 : ByteArray) (h0_2 : ByteArray) (h0_3 : Int) (h1_1 : ByteArray) (h1_2 : ByteArray) (h1_3 : Int) (h2_0 : Bool) (h2_1 : Int) (h2_2 : Int) (h3_0 : Bool) (h3_1 : Int) (h3_2 : Int) : F9_lethelaw17_CommitPlays_l1000042 v25 v34 v35 v36 h0_1 h0_2 h0_3 h1_1 h1_2 h1_3 h2_0 h2_1 h2_2 h3_0 h3_1 h3_2 =
    if v25 < (2 : Int) then
      (F53_cell_Cell_Get v25 h0_1 h0_2 h0_3 h2_0 h2_1 h2_2).bind fun y1 =>
      if v25 = (0 : Int) then
        if ¬ y1.1 = h1_1 then
          F9_lethelaw17_CommitPlays_l46 
        else
          if v25 = (0 : Int) then
            if (!(y1.2.1 == (decide (¬ h1_1 = ByteArray.empty)))) = true then
              F9_lethelaw17_CommitPlays_l46 
            else
              F9_lethelaw17_CommitPlays_l43_1 v25 v34 v35 v36 y1.2.1 v25 h1_1 (decide (¬ h1_1 = ByteArray.empty)) (!(y1.2.1 == (decide (¬ h1_1 = ByteArray.empty)))) y1.2.2.1 y1.2.2.2.1 y1.2.2.2.2.1 h1_1 h1_2 h1_3 y1.2.2.2.2.2.1 y1.2.2.2.2.2.2.1 y1.2.2.2.2.2.2.2.1 h3_0 h3_1 h3_2
          else
            if v25 = (1 : Int) then
              if (!(y1.2.1 == (decide (¬ h1_2 = ByteArray.empty)))) = true then
                F9_lethelaw17_CommitPlays_l46 
              else
                F9_lethelaw17_CommitPlays_l43 v25 v34 v35 v36 y1.2.1 v25 h1_2 (decide (¬ h1_2 = ByteArray.empty)) (!(y1.2.1 == (decide (¬ h1_2 = ByteArray.empty)))) y1.2.2.1 y1.2.2.2.1 y1.2.2.2.2.1 h1_1 h1_2 h1_3 y1.2.2.2.2.2.1 y1.2.2.2.2.2.2.1 y1.2.2.2.2.2.2.2.1 h3_0 h3_1 h3_2
            else
              none
      else
        if v25 = (1 : Int) then
          if ¬ y1.1 = h1_2 then
            F9_lethelaw17_CommitPlays_l46 
          else
            if v25 = (0 : Int) then
              if (!(y1.2.1 == (decide (¬ h1_1 = ByteArray.empty)))) = true then
                F9_lethelaw17_CommitPlays_l46 
              else
                F9_lethelaw17_CommitPlays_l43_1 v25 v34 v35 v36 y1.2.1 v25 h1_1 (decide (¬ h1_1 = ByteArray.empty)) (!(y1.2.1 == (decide (¬ h1_1 = ByteArray.empty)))) y1.2.2.1 y1.2.2.2.1 y1.2.2.2.2.1 h1_1 h1_2 h1_3 y1.2.2.2.2.2.1 y1.2.2.2.2.2.2.1 y1.2.2.2.2.2.2.2.1 h3_0 h3_1 h3_2
            else
              if v25 = (1 : Int) then
                if (!(y1.2.1 == (decide (¬ h1_2 = ByteArray.empty)))) = true then
                  F9_lethelaw17_CommitPlays_l46 
                else
                  F9_lethelaw17_CommitPlays_l43 v25 v34 v35 v36 y1.2.1 v25 h1_2 (decide (¬ h1_2 = ByteArray.empty)) (!(y1.2.1 == (decide (¬ h1_2 = ByteArray.empty)))) y1.2.2.1 y1.2.2.2.1 y1.2.2.2.2.1 h1_1 h1_2 h1_3 y1.2.2.2.2.2.1 y1.2.2.2.2.2.2.1 y1.2.2.2.2.2.2.2.1 h3_0 h3_1 h3_2
              else
                none
        else
          none
    else
      (F37_cell_Cell_Count h0_1 h0_2 h0_3 h2_0 h2_1 h2_2).bind fun y2 =>
      if ¬ y2.1 = h1_3 then
        some (false, ())
      else
        (F54_power_Power_On y2.2.2.2.2.1 y2.2.2.2.2.2.1 y2.2.2.2.2.2.2.1).bind fun y3 =>
        if (!(y3.1 == h3_0)) = true then
          some (false, ())
        else
          F9_lethelaw17_CommitPlays_l1000006 v34 v35 (IntKind.i64.wrap (v36 + (1 : Int))) y2.2.1 y2.2.2.1 y2.2.2.2.1 h1_1 h1_2 h1_3 y3.2.1 y3.2.2.1 y3.2.2.2.1 h3_0 h3_1 h3_2 :=
  (run_eq _ _ _ _).trans (by kernel_rfl)
theorem F9_lethelaw17_CommitPlays_l46_eq  : F9_lethelaw17_CommitPlays_l46  =
    some (false, ()) :=
  (run_eq _ _ _ _).trans (by kernel_rfl)
theorem F9_lethelaw17_CommitPlays_l43_eq (v25 : Int) (v34 : (List S71)) (v35 : Int) (v36 : Int) (v227 : Bool) (v229 : Int) (v233 : ByteArray) (v234 : Bool) (v235 : Bool) (h0_1 : ByteArray) (h0_2 : ByteArray) (h0_3 : Int) (h1_1 : ByteArray) (h1_2 : ByteArray) (h1_3 : Int) (h2_0 : Bool) (h2_1 : Int) (h2_2 : Int) (h3_0 : Bool) (h3_1 : Int) (h3_2 : Int) : F9_lethelaw17_CommitPlays_l43 v25 v34 v35 v36 v227 v229 v233 v234 v235 h0_1 h0_2 h0_3 h1_1 h1_2 h1_3 h2_0 h2_1 h2_2 h3_0 h3_1 h3_2 =
    F9_lethelaw17_CommitPlays_l1000042 (IntKind.i64.wrap (v25 + (1 : Int))) v34 v35 v36 h0_1 h0_2 h0_3 h1_1 h1_2 h1_3 h2_0 h2_1 h2_2 h3_0 h3_1 h3_2 :=
  (run_eq _ _ _ _).trans (by kernel_rfl)
theorem F9_lethelaw17_CommitPlays_l43_1_eq (v25 : Int) (v34 : (List S71)) (v35 : Int) (v36 : Int) (v227 : Bool) (v229 : Int) (v233 : ByteArray) (v234 : Bool) (v235 : Bool) (h0_1 : ByteArray) (h0_2 : ByteArray) (h0_3 : Int) (h1_1 : ByteArray) (h1_2 : ByteArray) (h1_3 : Int) (h2_0 : Bool) (h2_1 : Int) (h2_2 : Int) (h3_0 : Bool) (h3_1 : Int) (h3_2 : Int) : F9_lethelaw17_CommitPlays_l43_1 v25 v34 v35 v36 v227 v229 v233 v234 v235 h0_1 h0_2 h0_3 h1_1 h1_2 h1_3 h2_0 h2_1 h2_2 h3_0 h3_1 h3_2 =
    F9_lethelaw17_CommitPlays_l1000042 (IntKind.i64.wrap (v25 + (1 : Int))) v34 v35 v36 h0_1 h0_2 h0_3 h1_1 h1_2 h1_3 h2_0 h2_1 h2_2 h3_0 h3_1 h3_2 :=
  (run_eq _ _ _ _).trans (by kernel_rfl)
theorem F32_power_New_eq  : F32_power_New  =
    some (false, 0, 0, ()) :=
  (F_eq (G := G) rfl fn1 rfl _).trans ((run_eq _ _ _ _).trans (by kernel_rfl))
theorem F31_cell_New_eq (h0_0 : Bool) (h0_1 : Int) (h0_2 : Int) : F31_cell_New h0_0 h0_1 h0_2 =
    some (h0_0, h0_1, h0_2, ByteArray.empty, ByteArray.empty, 0, ()) :=
  (F_eq (G := G) rfl fn2 rfl _).trans ((run_eq _ _ _ _).trans (by kernel_rfl))
theorem F39_letheref11_New_eq  : F39_letheref11_New  =
    some (true, 0, 0, ()) :=
  (F_eq (G := G) rfl fn3 rfl _).trans ((run_eq _ _ _ _).trans (by kernel_rfl))
theorem F38_letheref13_New_eq (h0_0 : Bool) (h0_1 : Int) (h0_2 : Int) : F38_letheref13_New h0_0 h0_1 h0_2 =
    some (h0_0, h0_1, h0_2, ByteArray.empty, ByteArray.empty, 0, ()) :=
  (F_eq (G := G) rfl fn4 rfl _).trans ((run_eq _ _ _ _).trans (by kernel_rfl))
theorem F34_commit_Next_eq (x1_0 : Int) (x1_1 : Int) (x1_2 : Int) (x1_3 : Int) (x2 : Int) (x3 : Int) (h0_1 : ByteArray) (h0_2 : ByteArray) (h0_3 : Int) (h1_0 : Bool) (h1_1 : Int) (h1_2 : Int) : F34_commit_Next x1_0 x1_1 x1_2 x1_3 x2 x3 h0_1 h0_2 h0_3 h1_0 h1_1 h1_2 =
    (F64_cell_Cell_Slots h0_1 h0_2 h0_3 h1_0 h1_1 h1_2).bind fun y1 =>
    if (List.length y1.2.2.2.2.2.2.1 : Int) = (2 : Int) then
      some (0, 0, 0, 0, 0, 0, 0, 172, y1.1, y1.2.1, y1.2.2.1, y1.2.2.2.1, y1.2.2.2.2.1, y1.2.2.2.2.2.1, ())
    else
      (F36_commit_Now y1.1 y1.2.1 y1.2.2.1 y1.2.2.2.1 y1.2.2.2.2.1 y1.2.2.2.2.2.1).bind fun y2 =>
      if ¬ y2.2.2.2.2.2.2.2.2.1 = (0 : Int) then
        some (0, 0, 0, 0, 0, 0, 0, y2.2.2.2.2.2.2.2.2.1, y2.2.2.2.2.2.2.2.2.2.1, y2.2.2.2.2.2.2.2.2.2.2.1, y2.2.2.2.2.2.2.2.2.2.2.2.1, y2.2.2.2.2.2.2.2.2.2.2.2.2.1, y2.2.2.2.2.2.2.2.2.2.2.2.2.2.1, y2.2.2.2.2.2.2.2.2.2.2.2.2.2.2.1, ())
      else
        let e3 : Int := IntKind.i64.wrap ((1 : Int) - y2.2.2.2.2.2.2.2.1)
        (F101_commit_set e3 (IntKind.i64.wrap (y2.1 + (1 : Int))) x1_0 x1_1 x1_2 x1_3 x2 x3 y2.2.2.2.2.2.2.2.2.2.1 y2.2.2.2.2.2.2.2.2.2.2.1 y2.2.2.2.2.2.2.2.2.2.2.2.1 y2.2.2.2.2.2.2.2.2.2.2.2.2.1 y2.2.2.2.2.2.2.2.2.2.2.2.2.2.1 y2.2.2.2.2.2.2.2.2.2.2.2.2.2.2.1).bind fun y4 =>
        if y4.2.2.2.2.2.2.2.1 = (0 : Int) then
          (F50_cell_Cell_Erase y2.2.2.2.2.2.2.2.1 y4.2.2.2.2.2.2.2.2.1 y4.2.2.2.2.2.2.2.2.2.1 y4.2.2.2.2.2.2.2.2.2.2.1 y4.2.2.2.2.2.2.2.2.2.2.2.1 y4.2.2.2.2.2.2.2.2.2.2.2.2.1 y4.2.2.2.2.2.2.2.2.2.2.2.2.2.1).bind fun y5 =>
          if ¬ y5.1 = (0 : Int) then
            some (0, 0, 0, 0, 0, 0, 0, y5.1, y5.2.1, y5.2.2.1, y5.2.2.2.1, y5.2.2.2.2.1, y5.2.2.2.2.2.1, y5.2.2.2.2.2.2.1, ())
          else
            some (y4.1, y4.2.1, y4.2.2.1, y4.2.2.2.1, y4.2.2.2.2.1, y4.2.2.2.2.2.1, y4.2.2.2.2.2.2.1, 0, y5.2.1, y5.2.2.1, y5.2.2.2.1, y5.2.2.2.2.1, y5.2.2.2.2.2.1, y5.2.2.2.2.2.2.1, ())
        else
          if ¬ y4.2.2.2.2.2.2.2.1 = (0 : Int) then
            some (0, 0, 0, 0, 0, 0, 0, y4.2.2.2.2.2.2.2.1, y4.2.2.2.2.2.2.2.2.1, y4.2.2.2.2.2.2.2.2.2.1, y4.2.2.2.2.2.2.2.2.2.2.1, y4.2.2.2.2.2.2.2.2.2.2.2.1, y4.2.2.2.2.2.2.2.2.2.2.2.2.1, y4.2.2.2.2.2.2.2.2.2.2.2.2.2.1, ())
          else
            some (y4.1, y4.2.1, y4.2.2.1, y4.2.2.2.1, y4.2.2.2.2.1, y4.2.2.2.2.2.1, y4.2.2.2.2.2.2.1, 0, y4.2.2.2.2.2.2.2.2.1, y4.2.2.2.2.2.2.2.2.2.1, y4.2.2.2.2.2.2.2.2.2.2.1, y4.2.2.2.2.2.2.2.2.2.2.2.1, y4.2.2.2.2.2.2.2.2.2.2.2.2.1, y4.2.2.2.2.2.2.2.2.2.2.2.2.2.1, ()) :=
  (F_eq (G := G) rfl fn5 rfl _).trans ((run_eq _ _ _ _).trans (by kernel_rfl))
theorem F40_letheref17_Next_eq (x1_0 : Int) (x1_1 : Int) (x1_2 : Int) (x1_3 : Int) (x2 : Int) (x3 : Int) (h0_1 : ByteArray) (h0_2 : ByteArray) (h0_3 : Int) (h1_0 : Bool) (h1_1 : Int) (h1_2 : Int) : F40_letheref17_Next x1_0 x1_1 x1_2 x1_3 x2 x3 h0_1 h0_2 h0_3 h1_0 h1_1 h1_2 =
    if ¬ h0_1 = ByteArray.empty then
      if ¬ h0_2 = ByteArray.empty then
        some (0, 0, 0, 0, 0, 0, 0, 172, h0_1, h0_2, h0_3, h1_0, h1_1, h1_2, ())
      else
        (F43_letheref17_Now h0_1 h0_2 h0_3 h1_0 h1_1 h1_2).bind fun y1 =>
        if ¬ y1.2.2.2.2.2.2.2.2.1 = (0 : Int) then
          some (0, 0, 0, 0, 0, 0, 0, y1.2.2.2.2.2.2.2.2.1, y1.2.2.2.2.2.2.2.2.2.1, y1.2.2.2.2.2.2.2.2.2.2.1, y1.2.2.2.2.2.2.2.2.2.2.2.1, y1.2.2.2.2.2.2.2.2.2.2.2.2.1, y1.2.2.2.2.2.2.2.2.2.2.2.2.2.1, y1.2.2.2.2.2.2.2.2.2.2.2.2.2.2.1, ())
        else
          let e2 : Int := IntKind.i64.wrap ((1 : Int) - y1.2.2.2.2.2.2.2.1)
          (F102_letheref17_set e2 (IntKind.i64.wrap (y1.1 + (1 : Int))) x1_0 x1_1 x1_2 x1_3 x2 x3 y1.2.2.2.2.2.2.2.2.2.1 y1.2.2.2.2.2.2.2.2.2.2.1 y1.2.2.2.2.2.2.2.2.2.2.2.1 y1.2.2.2.2.2.2.2.2.2.2.2.2.1 y1.2.2.2.2.2.2.2.2.2.2.2.2.2.1 y1.2.2.2.2.2.2.2.2.2.2.2.2.2.2.1).bind fun y3 =>
          if ¬ y3.2.2.2.2.2.2.2.1 = (0 : Int) then
            some (0, 0, 0, 0, 0, 0, 0, y3.2.2.2.2.2.2.2.1, y3.2.2.2.2.2.2.2.2.1, y3.2.2.2.2.2.2.2.2.2.1, y3.2.2.2.2.2.2.2.2.2.2.1, y3.2.2.2.2.2.2.2.2.2.2.2.1, y3.2.2.2.2.2.2.2.2.2.2.2.2.1, y3.2.2.2.2.2.2.2.2.2.2.2.2.2.1, ())
          else
            (F51_letheref13_Cell_Erase y1.2.2.2.2.2.2.2.1 y3.2.2.2.2.2.2.2.2.1 y3.2.2.2.2.2.2.2.2.2.1 y3.2.2.2.2.2.2.2.2.2.2.1 y3.2.2.2.2.2.2.2.2.2.2.2.1 y3.2.2.2.2.2.2.2.2.2.2.2.2.1 y3.2.2.2.2.2.2.2.2.2.2.2.2.2.1).bind fun y4 =>
            if ¬ y4.1 = (0 : Int) then
              some (0, 0, 0, 0, 0, 0, 0, y4.1, y4.2.1, y4.2.2.1, y4.2.2.2.1, y4.2.2.2.2.1, y4.2.2.2.2.2.1, y4.2.2.2.2.2.2.1, ())
            else
              some (y3.1, y3.2.1, y3.2.2.1, y3.2.2.2.1, y3.2.2.2.2.1, y3.2.2.2.2.2.1, y3.2.2.2.2.2.2.1, 0, y4.2.1, y4.2.2.1, y4.2.2.2.1, y4.2.2.2.2.1, y4.2.2.2.2.2.1, y4.2.2.2.2.2.2.1, ())
    else
      (F43_letheref17_Now h0_1 h0_2 h0_3 h1_0 h1_1 h1_2).bind fun y5 =>
      if ¬ y5.2.2.2.2.2.2.2.2.1 = (0 : Int) then
        some (0, 0, 0, 0, 0, 0, 0, y5.2.2.2.2.2.2.2.2.1, y5.2.2.2.2.2.2.2.2.2.1, y5.2.2.2.2.2.2.2.2.2.2.1, y5.2.2.2.2.2.2.2.2.2.2.2.1, y5.2.2.2.2.2.2.2.2.2.2.2.2.1, y5.2.2.2.2.2.2.2.2.2.2.2.2.2.1, y5.2.2.2.2.2.2.2.2.2.2.2.2.2.2.1, ())
      else
        let e6 : Int := IntKind.i64.wrap ((1 : Int) - y5.2.2.2.2.2.2.2.1)
        (F102_letheref17_set e6 (IntKind.i64.wrap (y5.1 + (1 : Int))) x1_0 x1_1 x1_2 x1_3 x2 x3 y5.2.2.2.2.2.2.2.2.2.1 y5.2.2.2.2.2.2.2.2.2.2.1 y5.2.2.2.2.2.2.2.2.2.2.2.1 y5.2.2.2.2.2.2.2.2.2.2.2.2.1 y5.2.2.2.2.2.2.2.2.2.2.2.2.2.1 y5.2.2.2.2.2.2.2.2.2.2.2.2.2.2.1).bind fun y7 =>
        if ¬ y7.2.2.2.2.2.2.2.1 = (0 : Int) then
          some (0, 0, 0, 0, 0, 0, 0, y7.2.2.2.2.2.2.2.1, y7.2.2.2.2.2.2.2.2.1, y7.2.2.2.2.2.2.2.2.2.1, y7.2.2.2.2.2.2.2.2.2.2.1, y7.2.2.2.2.2.2.2.2.2.2.2.1, y7.2.2.2.2.2.2.2.2.2.2.2.2.1, y7.2.2.2.2.2.2.2.2.2.2.2.2.2.1, ())
        else
          (F51_letheref13_Cell_Erase y5.2.2.2.2.2.2.2.1 y7.2.2.2.2.2.2.2.2.1 y7.2.2.2.2.2.2.2.2.2.1 y7.2.2.2.2.2.2.2.2.2.2.1 y7.2.2.2.2.2.2.2.2.2.2.2.1 y7.2.2.2.2.2.2.2.2.2.2.2.2.1 y7.2.2.2.2.2.2.2.2.2.2.2.2.2.1).bind fun y8 =>
          if ¬ y8.1 = (0 : Int) then
            some (0, 0, 0, 0, 0, 0, 0, y8.1, y8.2.1, y8.2.2.1, y8.2.2.2.1, y8.2.2.2.2.1, y8.2.2.2.2.2.1, y8.2.2.2.2.2.2.1, ())
          else
            some (y7.1, y7.2.1, y7.2.2.1, y7.2.2.2.1, y7.2.2.2.2.1, y7.2.2.2.2.2.1, y7.2.2.2.2.2.2.1, 0, y8.2.1, y8.2.2.1, y8.2.2.2.1, y8.2.2.2.2.1, y8.2.2.2.2.2.1, y8.2.2.2.2.2.2.1, ()) :=
  (F_eq (G := G) rfl fn6 rfl _).trans ((run_eq _ _ _ _).trans (by kernel_rfl))
theorem F41_commit_Stale_eq (h0_1 : ByteArray) (h0_2 : ByteArray) (h0_3 : Int) (h1_0 : Bool) (h1_1 : Int) (h1_2 : Int) : F41_commit_Stale h0_1 h0_2 h0_3 h1_0 h1_1 h1_2 =
    (F64_cell_Cell_Slots h0_1 h0_2 h0_3 h1_0 h1_1 h1_2).bind fun y1 =>
    if (List.length y1.2.2.2.2.2.2.1 : Int) < (2 : Int) then
      some (false, 0, y1.1, y1.2.1, y1.2.2.1, y1.2.2.2.1, y1.2.2.2.2.1, y1.2.2.2.2.2.1, ())
    else
      (F36_commit_Now y1.1 y1.2.1 y1.2.2.1 y1.2.2.2.1 y1.2.2.2.2.1 y1.2.2.2.2.2.1).bind fun y2 =>
      if y2.2.2.2.2.2.2.2.2.1 = (0 : Int) then
        let e3 : Int := IntKind.i64.wrap ((1 : Int) - y2.2.2.2.2.2.2.2.1)
        (F50_cell_Cell_Erase e3 y2.2.2.2.2.2.2.2.2.2.1 y2.2.2.2.2.2.2.2.2.2.2.1 y2.2.2.2.2.2.2.2.2.2.2.2.1 y2.2.2.2.2.2.2.2.2.2.2.2.2.1 y2.2.2.2.2.2.2.2.2.2.2.2.2.2.1 y2.2.2.2.2.2.2.2.2.2.2.2.2.2.2.1).bind fun y4 =>
        some ((decide (y4.1 = (0 : Int))), y4.1, y4.2.1, y4.2.2.1, y4.2.2.2.1, y4.2.2.2.2.1, y4.2.2.2.2.2.1, y4.2.2.2.2.2.2.1, ())
      else
        some ((decide (y2.2.2.2.2.2.2.2.2.1 = (0 : Int))), y2.2.2.2.2.2.2.2.2.1, y2.2.2.2.2.2.2.2.2.2.1, y2.2.2.2.2.2.2.2.2.2.2.1, y2.2.2.2.2.2.2.2.2.2.2.2.1, y2.2.2.2.2.2.2.2.2.2.2.2.2.1, y2.2.2.2.2.2.2.2.2.2.2.2.2.2.1, y2.2.2.2.2.2.2.2.2.2.2.2.2.2.2.1, ()) :=
  (F_eq (G := G) rfl fn7 rfl _).trans ((run_eq _ _ _ _).trans (by kernel_rfl))
theorem F42_letheref17_Stale_eq (h0_1 : ByteArray) (h0_2 : ByteArray) (h0_3 : Int) (h1_0 : Bool) (h1_1 : Int) (h1_2 : Int) : F42_letheref17_Stale h0_1 h0_2 h0_3 h1_0 h1_1 h1_2 =
    if h0_1 = ByteArray.empty then
      some (false, 0, h0_1, h0_2, h0_3, h1_0, h1_1, h1_2, ())
    else
      if h0_2 = ByteArray.empty then
        some (false, 0, h0_1, h0_2, h0_3, h1_0, h1_1, h1_2, ())
      else
        (F43_letheref17_Now h0_1 h0_2 h0_3 h1_0 h1_1 h1_2).bind fun y1 =>
        if ¬ y1.2.2.2.2.2.2.2.2.1 = (0 : Int) then
          some (false, y1.2.2.2.2.2.2.2.2.1, y1.2.2.2.2.2.2.2.2.2.1, y1.2.2.2.2.2.2.2.2.2.2.1, y1.2.2.2.2.2.2.2.2.2.2.2.1, y1.2.2.2.2.2.2.2.2.2.2.2.2.1, y1.2.2.2.2.2.2.2.2.2.2.2.2.2.1, y1.2.2.2.2.2.2.2.2.2.2.2.2.2.2.1, ())
        else
          let e2 : Int := IntKind.i64.wrap ((1 : Int) - y1.2.2.2.2.2.2.2.1)
          (F51_letheref13_Cell_Erase e2 y1.2.2.2.2.2.2.2.2.2.1 y1.2.2.2.2.2.2.2.2.2.2.1 y1.2.2.2.2.2.2.2.2.2.2.2.1 y1.2.2.2.2.2.2.2.2.2.2.2.2.1 y1.2.2.2.2.2.2.2.2.2.2.2.2.2.1 y1.2.2.2.2.2.2.2.2.2.2.2.2.2.2.1).bind fun y3 =>
          some ((decide (y3.1 = (0 : Int))), y3.1, y3.2.1, y3.2.2.1, y3.2.2.2.1, y3.2.2.2.2.1, y3.2.2.2.2.2.1, y3.2.2.2.2.2.2.1, ()) :=
  (F_eq (G := G) rfl fn8 rfl _).trans ((run_eq _ _ _ _).trans (by kernel_rfl))
theorem F36_commit_Now_eq (h0_1 : ByteArray) (h0_2 : ByteArray) (h0_3 : Int) (h1_0 : Bool) (h1_1 : Int) (h1_2 : Int) : F36_commit_Now h0_1 h0_2 h0_3 h1_0 h1_1 h1_2 =
    (F64_cell_Cell_Slots h0_1 h0_2 h0_3 h1_0 h1_1 h1_2).bind fun y1 =>
    if (List.length y1.2.2.2.2.2.2.1 : Int) = (0 : Int) then
      some (0, 0, 0, 0, 0, 0, 0, 0, 171, y1.1, y1.2.1, y1.2.2.1, y1.2.2.2.1, y1.2.2.2.2.1, y1.2.2.2.2.2.1, ())
    else
      F36_commit_Now_l1000007 (List.length y1.2.2.2.2.2.2.1 : Int) 0 y1.1 y1.2.1 y1.2.2.1 y1.2.2.2.1 y1.2.2.2.2.1 y1.2.2.2.2.2.1 0 0 0 0 0 0 0 0 0 0 0 0 0 0 (-1) 0 0 0 0 0 0 0 (-1) y1.2.2.2.2.2.2.1 :=
  (F_eq (G := G) rfl fn9 rfl _).trans ((run_eq _ _ _ _).trans (by kernel_rfl))
theorem F36_commit_Now_l1000007_eq (v23 : Int) (v24 : Int) (h0_1 : ByteArray) (h0_2 : ByteArray) (h0_3 : Int) (h1_0 : Bool) (h1_1 : Int) (h1_2 : Int) (h2_0 : Int) (h2_1 : Int) (h2_2 : Int) (h2_3 : Int) (h2_4 : Int) (h2_5 : Int) (h2_6 : Int) (h3_0 : Int) (h3_1 : Int) (h3_2 : Int) (h3_3 : Int) (h3_4 : Int) (h3_5 : Int) (h3_6 : Int) (h3_7 : Int) (h4_0 : Int) (h4_1 : Int) (h4_2 : Int) (h4_3 : Int) (h4_4 : Int) (h4_5 : Int) (h4_6 : Int) (h4_7 : Int) (g5 : (List Int)) : F36_commit_Now_l1000007 v23 v24 h0_1 h0_2 h0_3 h1_0 h1_1 h1_2 h2_0 h2_1 h2_2 h2_3 h2_4 h2_5 h2_6 h3_0 h3_1 h3_2 h3_3 h3_4 h3_5 h3_6 h3_7 h4_0 h4_1 h4_2 h4_3 h4_4 h4_5 h4_6 h4_7 g5 =
    if v24 < v23 then
      if (0 : Int) ≤ v24 ∧ v24 < (List.length g5 : Int) then
        (F53_cell_Cell_Get (rd (0 : Int) g5 v24) h0_1 h0_2 h0_3 h1_0 h1_1 h1_2).bind fun y1 =>
        (F29_commit_Parse y1.1).bind fun y2 =>
        if y2.2.2.2.2.2.2.2.1 = (0 : Int) then
          if (h4_0 = h3_0 ∧ (h4_1 = h3_1 ∧ h4_2 = h3_2 ∧ h4_3 = h3_3 ∧ h4_4 = h3_4 ∧ True) ∧ h4_5 = h3_5 ∧ h4_6 = h3_6 ∧ True) ∧ h4_7 = h3_7 ∧ True then
            F36_commit_Now_l13 v23 v24 y1.2.2.1 y1.2.2.2.1 y1.2.2.2.2.1 y1.2.2.2.2.2.1 y1.2.2.2.2.2.2.1 y1.2.2.2.2.2.2.2.1 h2_0 h2_1 h2_2 h2_3 h2_4 h2_5 h2_6 h3_0 h3_1 h3_2 h3_3 h3_4 h3_5 h3_6 h3_7 y2.1 y2.2.1 y2.2.2.1 y2.2.2.2.1 y2.2.2.2.2.1 y2.2.2.2.2.2.1 y2.2.2.2.2.2.2.1 (rd (0 : Int) g5 v24) g5
          else
            if h4_0 < y2.1 then
              F36_commit_Now_l13 v23 v24 y1.2.2.1 y1.2.2.2.1 y1.2.2.2.2.1 y1.2.2.2.2.2.1 y1.2.2.2.2.2.2.1 y1.2.2.2.2.2.2.2.1 h2_0 h2_1 h2_2 h2_3 h2_4 h2_5 h2_6 h3_0 h3_1 h3_2 h3_3 h3_4 h3_5 h3_6 h3_7 y2.1 y2.2.1 y2.2.2.1 y2.2.2.2.1 y2.2.2.2.2.1 y2.2.2.2.2.2.1 y2.2.2.2.2.2.2.1 (rd (0 : Int) g5 v24) g5
            else
              F36_commit_Now_l13 v23 v24 y1.2.2.1 y1.2.2.2.1 y1.2.2.2.2.1 y1.2.2.2.2.2.1 y1.2.2.2.2.2.2.1 y1.2.2.2.2.2.2.2.1 h2_0 h2_1 h2_2 h2_3 h2_4 h2_5 h2_6 h3_0 h3_1 h3_2 h3_3 h3_4 h3_5 h3_6 h3_7 h4_0 h4_1 h4_2 h4_3 h4_4 h4_5 h4_6 h4_7 g5
        else
          F36_commit_Now_l13 v23 v24 y1.2.2.1 y1.2.2.2.1 y1.2.2.2.2.1 y1.2.2.2.2.2.1 y1.2.2.2.2.2.2.1 y1.2.2.2.2.2.2.2.1 h2_0 h2_1 h2_2 h2_3 h2_4 h2_5 h2_6 h3_0 h3_1 h3_2 h3_3 h3_4 h3_5 h3_6 h3_7 h4_0 h4_1 h4_2 h4_3 h4_4 h4_5 h4_6 h4_7 g5
      else
        none
    else
      if (h4_0 = h3_0 ∧ (h4_1 = h3_1 ∧ h4_2 = h3_2 ∧ h4_3 = h3_3 ∧ h4_4 = h3_4 ∧ True) ∧ h4_5 = h3_5 ∧ h4_6 = h3_6 ∧ True) ∧ h4_7 = h3_7 ∧ True then
        some (0, 0, 0, 0, 0, 0, 0, 0, 170, h0_1, h0_2, h0_3, h1_0, h1_1, h1_2, ())
      else
        some (h4_0, h4_1, h4_2, h4_3, h4_4, h4_5, h4_6, h4_7, 0, h0_1, h0_2, h0_3, h1_0, h1_1, h1_2, ()) :=
  (run_eq _ _ _ _).trans (by kernel_rfl)
theorem F36_commit_Now_l13_eq (v23 : Int) (v24 : Int) (h0_1 : ByteArray) (h0_2 : ByteArray) (h0_3 : Int) (h1_0 : Bool) (h1_1 : Int) (h1_2 : Int) (h2_0 : Int) (h2_1 : Int) (h2_2 : Int) (h2_3 : Int) (h2_4 : Int) (h2_5 : Int) (h2_6 : Int) (h3_0 : Int) (h3_1 : Int) (h3_2 : Int) (h3_3 : Int) (h3_4 : Int) (h3_5 : Int) (h3_6 : Int) (h3_7 : Int) (h4_0 : Int) (h4_1 : Int) (h4_2 : Int) (h4_3 : Int) (h4_4 : Int) (h4_5 : Int) (h4_6 : Int) (h4_7 : Int) (g5 : (List Int)) : F36_commit_Now_l13 v23 v24 h0_1 h0_2 h0_3 h1_0 h1_1 h1_2 h2_0 h2_1 h2_2 h2_3 h2_4 h2_5 h2_6 h3_0 h3_1 h3_2 h3_3 h3_4 h3_5 h3_6 h3_7 h4_0 h4_1 h4_2 h4_3 h4_4 h4_5 h4_6 h4_7 g5 =
    F36_commit_Now_l1000007 v23 (IntKind.i64.wrap (v24 + (1 : Int))) h0_1 h0_2 h0_3 h1_0 h1_1 h1_2 h2_0 h2_1 h2_2 h2_3 h2_4 h2_5 h2_6 h3_0 h3_1 h3_2 h3_3 h3_4 h3_5 h3_6 h3_7 h4_0 h4_1 h4_2 h4_3 h4_4 h4_5 h4_6 h4_7 g5 :=
  (run_eq _ _ _ _).trans (by kernel_rfl)
theorem F43_letheref17_Now_eq (h0_1 : ByteArray) (h0_2 : ByteArray) (h0_3 : Int) (h1_0 : Bool) (h1_1 : Int) (h1_2 : Int) : F43_letheref17_Now h0_1 h0_2 h0_3 h1_0 h1_1 h1_2 =
    (F30_letheref17_Parse h0_1).bind fun y1 =>
    (F30_letheref17_Parse h0_2).bind fun y2 =>
    if h0_1 = ByteArray.empty then
      if h0_2 = ByteArray.empty then
        some (0, 0, 0, 0, 0, 0, 0, 0, 171, h0_1, h0_2, h0_3, h1_0, h1_1, h1_2, ())
      else
        if ¬ y1.2.2.2.2.2.2.2.1 = (0 : Int) then
          if ¬ y2.2.2.2.2.2.2.2.1 = (0 : Int) then
            some (0, 0, 0, 0, 0, 0, 0, 0, 170, h0_1, h0_2, h0_3, h1_0, h1_1, h1_2, ())
          else
            F43_letheref17_Now_l7 y1.2.2.2.2.2.2.2.1 y2.2.2.2.2.2.2.2.1 h0_1 h0_2 h0_3 h1_0 h1_1 h1_2 0 0 0 0 0 0 0 y1.1 y1.2.1 y1.2.2.1 y1.2.2.2.1 y1.2.2.2.2.1 y1.2.2.2.2.2.1 y1.2.2.2.2.2.2.1 y2.1 y2.2.1 y2.2.2.1 y2.2.2.2.1 y2.2.2.2.2.1 y2.2.2.2.2.2.1 y2.2.2.2.2.2.2.1
        else
          F43_letheref17_Now_l7 y1.2.2.2.2.2.2.2.1 y2.2.2.2.2.2.2.2.1 h0_1 h0_2 h0_3 h1_0 h1_1 h1_2 0 0 0 0 0 0 0 y1.1 y1.2.1 y1.2.2.1 y1.2.2.2.1 y1.2.2.2.2.1 y1.2.2.2.2.2.1 y1.2.2.2.2.2.2.1 y2.1 y2.2.1 y2.2.2.1 y2.2.2.2.1 y2.2.2.2.2.1 y2.2.2.2.2.2.1 y2.2.2.2.2.2.2.1
    else
      if ¬ y1.2.2.2.2.2.2.2.1 = (0 : Int) then
        if ¬ y2.2.2.2.2.2.2.2.1 = (0 : Int) then
          some (0, 0, 0, 0, 0, 0, 0, 0, 170, h0_1, h0_2, h0_3, h1_0, h1_1, h1_2, ())
        else
          F43_letheref17_Now_l7 y1.2.2.2.2.2.2.2.1 y2.2.2.2.2.2.2.2.1 h0_1 h0_2 h0_3 h1_0 h1_1 h1_2 0 0 0 0 0 0 0 y1.1 y1.2.1 y1.2.2.1 y1.2.2.2.1 y1.2.2.2.2.1 y1.2.2.2.2.2.1 y1.2.2.2.2.2.2.1 y2.1 y2.2.1 y2.2.2.1 y2.2.2.2.1 y2.2.2.2.2.1 y2.2.2.2.2.2.1 y2.2.2.2.2.2.2.1
      else
        F43_letheref17_Now_l7 y1.2.2.2.2.2.2.2.1 y2.2.2.2.2.2.2.2.1 h0_1 h0_2 h0_3 h1_0 h1_1 h1_2 0 0 0 0 0 0 0 y1.1 y1.2.1 y1.2.2.1 y1.2.2.2.1 y1.2.2.2.2.1 y1.2.2.2.2.2.1 y1.2.2.2.2.2.2.1 y2.1 y2.2.1 y2.2.2.1 y2.2.2.2.1 y2.2.2.2.2.1 y2.2.2.2.2.2.1 y2.2.2.2.2.2.2.1 :=
  (F_eq (G := G) rfl fn10 rfl _).trans ((run_eq _ _ _ _).trans (by kernel_rfl))
theorem F43_letheref17_Now_l7_eq (v6 : Int) (v8 : Int) (h0_1 : ByteArray) (h0_2 : ByteArray) (h0_3 : Int) (h1_0 : Bool) (h1_1 : Int) (h1_2 : Int) (h2_0 : Int) (h2_1 : Int) (h2_2 : Int) (h2_3 : Int) (h2_4 : Int) (h2_5 : Int) (h2_6 : Int) (h3_0 : Int) (h3_1 : Int) (h3_2 : Int) (h3_3 : Int) (h3_4 : Int) (h3_5 : Int) (h3_6 : Int) (h4_0 : Int) (h4_1 : Int) (h4_2 : Int) (h4_3 : Int) (h4_4 : Int) (h4_5 : Int) (h4_6 : Int) : F43_letheref17_Now_l7 v6 v8 h0_1 h0_2 h0_3 h1_0 h1_1 h1_2 h2_0 h2_1 h2_2 h2_3 h2_4 h2_5 h2_6 h3_0 h3_1 h3_2 h3_3 h3_4 h3_5 h3_6 h4_0 h4_1 h4_2 h4_3 h4_4 h4_5 h4_6 =
    if ¬ v6 = (0 : Int) then
      F43_letheref17_Now_l8 h0_1 h0_2 h0_3 h1_0 h1_1 h1_2 h2_0 h2_1 h2_2 h2_3 h2_4 h2_5 h2_6 h4_0 h4_1 h4_2 h4_3 h4_4 h4_5 h4_6
    else
      if v8 = (0 : Int) then
        if h3_0 < h4_0 then
          F43_letheref17_Now_l8 h0_1 h0_2 h0_3 h1_0 h1_1 h1_2 h2_0 h2_1 h2_2 h2_3 h2_4 h2_5 h2_6 h4_0 h4_1 h4_2 h4_3 h4_4 h4_5 h4_6
        else
          F43_letheref17_Now_l9 h0_1 h0_2 h0_3 h1_0 h1_1 h1_2 h2_0 h2_1 h2_2 h2_3 h2_4 h2_5 h2_6 h3_0 h3_1 h3_2 h3_3 h3_4 h3_5 h3_6
      else
        F43_letheref17_Now_l9 h0_1 h0_2 h0_3 h1_0 h1_1 h1_2 h2_0 h2_1 h2_2 h2_3 h2_4 h2_5 h2_6 h3_0 h3_1 h3_2 h3_3 h3_4 h3_5 h3_6 :=
  (run_eq _ _ _ _).trans (by kernel_rfl)
theorem F43_letheref17_Now_l8_eq (h0_1 : ByteArray) (h0_2 : ByteArray) (h0_3 : Int) (h1_0 : Bool) (h1_1 : Int) (h1_2 : Int) (h2_0 : Int) (h2_1 : Int) (h2_2 : Int) (h2_3 : Int) (h2_4 : Int) (h2_5 : Int) (h2_6 : Int) (h3_0 : Int) (h3_1 : Int) (h3_2 : Int) (h3_3 : Int) (h3_4 : Int) (h3_5 : Int) (h3_6 : Int) : F43_letheref17_Now_l8 h0_1 h0_2 h0_3 h1_0 h1_1 h1_2 h2_0 h2_1 h2_2 h2_3 h2_4 h2_5 h2_6 h3_0 h3_1 h3_2 h3_3 h3_4 h3_5 h3_6 =
    some (h3_0, h3_1, h3_2, h3_3, h3_4, h3_5, h3_6, 1, 0, h0_1, h0_2, h0_3, h1_0, h1_1, h1_2, ()) :=
  (run_eq _ _ _ _).trans (by kernel_rfl)
theorem F43_letheref17_Now_l9_eq (h0_1 : ByteArray) (h0_2 : ByteArray) (h0_3 : Int) (h1_0 : Bool) (h1_1 : Int) (h1_2 : Int) (h2_0 : Int) (h2_1 : Int) (h2_2 : Int) (h2_3 : Int) (h2_4 : Int) (h2_5 : Int) (h2_6 : Int) (h3_0 : Int) (h3_1 : Int) (h3_2 : Int) (h3_3 : Int) (h3_4 : Int) (h3_5 : Int) (h3_6 : Int) : F43_letheref17_Now_l9 h0_1 h0_2 h0_3 h1_0 h1_1 h1_2 h2_0 h2_1 h2_2 h2_3 h2_4 h2_5 h2_6 h3_0 h3_1 h3_2 h3_3 h3_4 h3_5 h3_6 =
    some (h3_0, h3_1, h3_2, h3_3, h3_4, h3_5, h3_6, 0, 0, h0_1, h0_2, h0_3, h1_0, h1_1, h1_2, ()) :=
  (run_eq _ _ _ _).trans (by kernel_rfl)
theorem F44_power_Power_Cut_eq (x1 : Int) (h0_0 : Bool) (h0_1 : Int) (h0_2 : Int) : F44_power_Power_Cut x1 h0_0 h0_1 h0_2 =
    if h0_0 = true then
      some (h0_0, h0_1, h0_2, ())
    else
      some ((decide (x1 = (0 : Int))), (mn (mx x1 0) 1073741824), h0_2, ()) :=
  (F_eq (G := G) rfl fn11 rfl _).trans ((run_eq _ _ _ _).trans (by kernel_rfl))
theorem F45_letheref11_Power_Cut_eq (x1 : Int) (h0_0 : Bool) (h0_1 : Int) (h0_2 : Int) : F45_letheref11_Power_Cut x1 h0_0 h0_1 h0_2 =
    if (!h0_0) = true then
      some (h0_0, h0_1, h0_2, ())
    else
      if x1 = (0 : Int) then
        if (0 : Int) < x1 then
          some (false, (mn x1 1073741824), h0_2, ())
        else
          some (false, 0, h0_2, ())
      else
        if (0 : Int) < x1 then
          some (h0_0, (mn x1 1073741824), h0_2, ())
        else
          some (h0_0, 0, h0_2, ()) :=
  (F_eq (G := G) rfl fn12 rfl _).trans ((run_eq _ _ _ _).trans (by kernel_rfl))
theorem F46_power_Power_Restore_eq (h0_0 : Bool) (h0_1 : Int) (h0_2 : Int) : F46_power_Power_Restore h0_0 h0_1 h0_2 =
    some (false, 0, h0_2, ()) :=
  (F_eq (G := G) rfl fn13 rfl _).trans ((run_eq _ _ _ _).trans (by kernel_rfl))
theorem F47_letheref11_Power_Restore_eq (h0_0 : Bool) (h0_1 : Int) (h0_2 : Int) : F47_letheref11_Power_Restore h0_0 h0_1 h0_2 =
    some (true, 0, h0_2, ()) :=
  (F_eq (G := G) rfl fn14 rfl _).trans ((run_eq _ _ _ _).trans (by kernel_rfl))
theorem F48_cell_Cell_Set_eq (x1 : Int) (x2 : ByteArray) (h0_1 : ByteArray) (h0_2 : ByteArray) (h0_3 : Int) (h1_0 : Bool) (h1_1 : Int) (h1_2 : Int) : F48_cell_Cell_Set x1 x2 h0_1 h0_2 h0_3 h1_0 h1_1 h1_2 =
    (F103_cell_Cell_is x1 h0_1 h0_2 h0_3 h1_0 h1_1 h1_2).bind fun y1 =>
    if (!y1.1) = true then
      some (130, y1.2.1, y1.2.2.1, y1.2.2.2.1, y1.2.2.2.2.1, y1.2.2.2.2.2.1, y1.2.2.2.2.2.2.1, ())
    else
      if x1 = (0 : Int) then
        if ¬ y1.2.1 = ByteArray.empty then
          some (131, y1.2.1, y1.2.2.1, y1.2.2.2.1, y1.2.2.2.2.1, y1.2.2.2.2.2.1, y1.2.2.2.2.2.2.1, ())
        else
          if x2 = ByteArray.empty then
            F48_cell_Cell_Set_l6 y1.2.1 y1.2.2.1 y1.2.2.2.1 y1.2.2.2.2.1 y1.2.2.2.2.2.1 y1.2.2.2.2.2.2.1
          else
            if (200 : Int) < (ByteArray.size x2 : Int) then
              F48_cell_Cell_Set_l6 y1.2.1 y1.2.2.1 y1.2.2.2.1 y1.2.2.2.2.1 y1.2.2.2.2.2.1 y1.2.2.2.2.2.2.1
            else
              (F104_cell_Cell_lay x1 x2 y1.2.1 y1.2.2.1 y1.2.2.2.1 y1.2.2.2.2.1 y1.2.2.2.2.2.1 y1.2.2.2.2.2.2.1).bind fun y3 =>
              some (y3.1, y3.2.1, y3.2.2.1, y3.2.2.2.1, y3.2.2.2.2.1, y3.2.2.2.2.2.1, y3.2.2.2.2.2.2.1, ())
      else
        if x1 = (1 : Int) then
          if ¬ y1.2.2.1 = ByteArray.empty then
            some (131, y1.2.1, y1.2.2.1, y1.2.2.2.1, y1.2.2.2.2.1, y1.2.2.2.2.2.1, y1.2.2.2.2.2.2.1, ())
          else
            if x2 = ByteArray.empty then
              F48_cell_Cell_Set_l6 y1.2.1 y1.2.2.1 y1.2.2.2.1 y1.2.2.2.2.1 y1.2.2.2.2.2.1 y1.2.2.2.2.2.2.1
            else
              if (200 : Int) < (ByteArray.size x2 : Int) then
                F48_cell_Cell_Set_l6 y1.2.1 y1.2.2.1 y1.2.2.2.1 y1.2.2.2.2.1 y1.2.2.2.2.2.1 y1.2.2.2.2.2.2.1
              else
                (F104_cell_Cell_lay x1 x2 y1.2.1 y1.2.2.1 y1.2.2.2.1 y1.2.2.2.2.1 y1.2.2.2.2.2.1 y1.2.2.2.2.2.2.1).bind fun y2 =>
                some (y2.1, y2.2.1, y2.2.2.1, y2.2.2.2.1, y2.2.2.2.2.1, y2.2.2.2.2.2.1, y2.2.2.2.2.2.2.1, ())
        else
          none :=
  (F_eq (G := G) rfl fn15 rfl _).trans ((run_eq _ _ _ _).trans (by kernel_rfl))
theorem F48_cell_Cell_Set_l6_eq (h0_1 : ByteArray) (h0_2 : ByteArray) (h0_3 : Int) (h1_0 : Bool) (h1_1 : Int) (h1_2 : Int) : F48_cell_Cell_Set_l6 h0_1 h0_2 h0_3 h1_0 h1_1 h1_2 =
    some (2, h0_1, h0_2, h0_3, h1_0, h1_1, h1_2, ()) :=
  (run_eq _ _ _ _).trans (by kernel_rfl)
theorem F49_letheref13_Cell_Set_eq (x1 : Int) (x2 : ByteArray) (h0_1 : ByteArray) (h0_2 : ByteArray) (h0_3 : Int) (h1_0 : Bool) (h1_1 : Int) (h1_2 : Int) : F49_letheref13_Cell_Set x1 x2 h0_1 h0_2 h0_3 h1_0 h1_1 h1_2 =
    if ¬ x1 = (0 : Int) then
      if ¬ x1 = (1 : Int) then
        some (130, h0_1, h0_2, h0_3, h1_0, h1_1, h1_2, ())
      else
        if x1 = (0 : Int) then
          if ¬ h0_1 = ByteArray.empty then
            F49_letheref13_Cell_Set_l4 h0_1 h0_2 h0_3 h1_0 h1_1 h1_2
          else
            F49_letheref13_Cell_Set_l5 x1 x2 h0_1 h0_2 h0_3 h1_0 h1_1 h1_2
        else
          if x1 = (1 : Int) then
            if ¬ h0_2 = ByteArray.empty then
              F49_letheref13_Cell_Set_l4 h0_1 h0_2 h0_3 h1_0 h1_1 h1_2
            else
              F49_letheref13_Cell_Set_l5 x1 x2 h0_1 h0_2 h0_3 h1_0 h1_1 h1_2
          else
            none
    else
      if x1 = (0 : Int) then
        if ¬ h0_1 = ByteArray.empty then
          F49_letheref13_Cell_Set_l4 h0_1 h0_2 h0_3 h1_0 h1_1 h1_2
        else
          F49_letheref13_Cell_Set_l5 x1 x2 h0_1 h0_2 h0_3 h1_0 h1_1 h1_2
      else
        if x1 = (1 : Int) then
          if ¬ h0_2 = ByteArray.empty then
            F49_letheref13_Cell_Set_l4 h0_1 h0_2 h0_3 h1_0 h1_1 h1_2
          else
            F49_letheref13_Cell_Set_l5 x1 x2 h0_1 h0_2 h0_3 h1_0 h1_1 h1_2
        else
          none :=
  (F_eq (G := G) rfl fn16 rfl _).trans ((run_eq _ _ _ _).trans (by kernel_rfl))
theorem F49_letheref13_Cell_Set_l4_eq (h0_1 : ByteArray) (h0_2 : ByteArray) (h0_3 : Int) (h1_0 : Bool) (h1_1 : Int) (h1_2 : Int) : F49_letheref13_Cell_Set_l4 h0_1 h0_2 h0_3 h1_0 h1_1 h1_2 =
    some (131, h0_1, h0_2, h0_3, h1_0, h1_1, h1_2, ()) :=
  (run_eq _ _ _ _).trans (by kernel_rfl)
theorem F49_letheref13_Cell_Set_l5_eq (v1 : Int) (v2 : ByteArray) (h0_1 : ByteArray) (h0_2 : ByteArray) (h0_3 : Int) (h1_0 : Bool) (h1_1 : Int) (h1_2 : Int) : F49_letheref13_Cell_Set_l5 v1 v2 h0_1 h0_2 h0_3 h1_0 h1_1 h1_2 =
    if v2 = ByteArray.empty then
      F49_letheref13_Cell_Set_l6 h0_1 h0_2 h0_3 h1_0 h1_1 h1_2
    else
      if (200 : Int) < (ByteArray.size v2 : Int) then
        F49_letheref13_Cell_Set_l6 h0_1 h0_2 h0_3 h1_0 h1_1 h1_2
      else
        (F105_letheref11_Power_Spend h1_0 h1_1 h1_2).bind fun y1 =>
        if ¬ y1.1 = (0 : Int) then
          some (y1.1, h0_1, h0_2, h0_3, y1.2.1, y1.2.2.1, y1.2.2.2.1, ())
        else
          if v1 = (0 : Int) then
            F49_letheref13_Cell_Set_l11 v2 h0_2 h0_3 y1.2.1 y1.2.2.1 y1.2.2.2.1
          else
            if v1 = (1 : Int) then
              F49_letheref13_Cell_Set_l11 h0_1 v2 h0_3 y1.2.1 y1.2.2.1 y1.2.2.2.1
            else
              none :=
  (run_eq _ _ _ _).trans (by kernel_rfl)
theorem F49_letheref13_Cell_Set_l6_eq (h0_1 : ByteArray) (h0_2 : ByteArray) (h0_3 : Int) (h1_0 : Bool) (h1_1 : Int) (h1_2 : Int) : F49_letheref13_Cell_Set_l6 h0_1 h0_2 h0_3 h1_0 h1_1 h1_2 =
    some (2, h0_1, h0_2, h0_3, h1_0, h1_1, h1_2, ()) :=
  (run_eq _ _ _ _).trans (by kernel_rfl)
theorem F49_letheref13_Cell_Set_l11_eq (h0_1 : ByteArray) (h0_2 : ByteArray) (h0_3 : Int) (h1_0 : Bool) (h1_1 : Int) (h1_2 : Int) : F49_letheref13_Cell_Set_l11 h0_1 h0_2 h0_3 h1_0 h1_1 h1_2 =
    some (0, h0_1, h0_2, (IntKind.i64.wrap (h0_3 + (1 : Int))), h1_0, h1_1, h1_2, ()) :=
  (run_eq _ _ _ _).trans (by kernel_rfl)
theorem F50_cell_Cell_Erase_eq (x1 : Int) (h0_1 : ByteArray) (h0_2 : ByteArray) (h0_3 : Int) (h1_0 : Bool) (h1_1 : Int) (h1_2 : Int) : F50_cell_Cell_Erase x1 h0_1 h0_2 h0_3 h1_0 h1_1 h1_2 =
    (F103_cell_Cell_is x1 h0_1 h0_2 h0_3 h1_0 h1_1 h1_2).bind fun y1 =>
    if (!y1.1) = true then
      some (130, y1.2.1, y1.2.2.1, y1.2.2.2.1, y1.2.2.2.2.1, y1.2.2.2.2.2.1, y1.2.2.2.2.2.2.1, ())
    else
      if x1 = (0 : Int) then
        if y1.2.1 = ByteArray.empty then
          some (132, y1.2.1, y1.2.2.1, y1.2.2.2.1, y1.2.2.2.2.1, y1.2.2.2.2.2.1, y1.2.2.2.2.2.2.1, ())
        else
          (F104_cell_Cell_lay x1 ByteArray.empty y1.2.1 y1.2.2.1 y1.2.2.2.1 y1.2.2.2.2.1 y1.2.2.2.2.2.1 y1.2.2.2.2.2.2.1).bind fun y3 =>
          some (y3.1, y3.2.1, y3.2.2.1, y3.2.2.2.1, y3.2.2.2.2.1, y3.2.2.2.2.2.1, y3.2.2.2.2.2.2.1, ())
      else
        if x1 = (1 : Int) then
          if y1.2.2.1 = ByteArray.empty then
            some (132, y1.2.1, y1.2.2.1, y1.2.2.2.1, y1.2.2.2.2.1, y1.2.2.2.2.2.1, y1.2.2.2.2.2.2.1, ())
          else
            (F104_cell_Cell_lay x1 ByteArray.empty y1.2.1 y1.2.2.1 y1.2.2.2.1 y1.2.2.2.2.1 y1.2.2.2.2.2.1 y1.2.2.2.2.2.2.1).bind fun y2 =>
            some (y2.1, y2.2.1, y2.2.2.1, y2.2.2.2.1, y2.2.2.2.2.1, y2.2.2.2.2.2.1, y2.2.2.2.2.2.2.1, ())
        else
          none :=
  (F_eq (G := G) rfl fn17 rfl _).trans ((run_eq _ _ _ _).trans (by kernel_rfl))
theorem F51_letheref13_Cell_Erase_eq (x1 : Int) (h0_1 : ByteArray) (h0_2 : ByteArray) (h0_3 : Int) (h1_0 : Bool) (h1_1 : Int) (h1_2 : Int) : F51_letheref13_Cell_Erase x1 h0_1 h0_2 h0_3 h1_0 h1_1 h1_2 =
    if ¬ x1 = (0 : Int) then
      if ¬ x1 = (1 : Int) then
        some (130, h0_1, h0_2, h0_3, h1_0, h1_1, h1_2, ())
      else
        if x1 = (0 : Int) then
          if h0_1 = ByteArray.empty then
            F51_letheref13_Cell_Erase_l4 h0_1 h0_2 h0_3 h1_0 h1_1 h1_2
          else
            F51_letheref13_Cell_Erase_l5 x1 h0_1 h0_2 h0_3 h1_0 h1_1 h1_2
        else
          if x1 = (1 : Int) then
            if h0_2 = ByteArray.empty then
              F51_letheref13_Cell_Erase_l4 h0_1 h0_2 h0_3 h1_0 h1_1 h1_2
            else
              F51_letheref13_Cell_Erase_l5 x1 h0_1 h0_2 h0_3 h1_0 h1_1 h1_2
          else
            none
    else
      if x1 = (0 : Int) then
        if h0_1 = ByteArray.empty then
          F51_letheref13_Cell_Erase_l4 h0_1 h0_2 h0_3 h1_0 h1_1 h1_2
        else
          F51_letheref13_Cell_Erase_l5 x1 h0_1 h0_2 h0_3 h1_0 h1_1 h1_2
      else
        if x1 = (1 : Int) then
          if h0_2 = ByteArray.empty then
            F51_letheref13_Cell_Erase_l4 h0_1 h0_2 h0_3 h1_0 h1_1 h1_2
          else
            F51_letheref13_Cell_Erase_l5 x1 h0_1 h0_2 h0_3 h1_0 h1_1 h1_2
        else
          none :=
  (F_eq (G := G) rfl fn18 rfl _).trans ((run_eq _ _ _ _).trans (by kernel_rfl))
theorem F51_letheref13_Cell_Erase_l4_eq (h0_1 : ByteArray) (h0_2 : ByteArray) (h0_3 : Int) (h1_0 : Bool) (h1_1 : Int) (h1_2 : Int) : F51_letheref13_Cell_Erase_l4 h0_1 h0_2 h0_3 h1_0 h1_1 h1_2 =
    some (132, h0_1, h0_2, h0_3, h1_0, h1_1, h1_2, ()) :=
  (run_eq _ _ _ _).trans (by kernel_rfl)
theorem F51_letheref13_Cell_Erase_l5_eq (v1 : Int) (h0_1 : ByteArray) (h0_2 : ByteArray) (h0_3 : Int) (h1_0 : Bool) (h1_1 : Int) (h1_2 : Int) : F51_letheref13_Cell_Erase_l5 v1 h0_1 h0_2 h0_3 h1_0 h1_1 h1_2 =
    (F105_letheref11_Power_Spend h1_0 h1_1 h1_2).bind fun y1 =>
    if ¬ y1.1 = (0 : Int) then
      some (y1.1, h0_1, h0_2, h0_3, y1.2.1, y1.2.2.1, y1.2.2.2.1, ())
    else
      if v1 = (0 : Int) then
        F51_letheref13_Cell_Erase_l9 ByteArray.empty h0_2 h0_3 y1.2.1 y1.2.2.1 y1.2.2.2.1
      else
        if v1 = (1 : Int) then
          F51_letheref13_Cell_Erase_l9 h0_1 ByteArray.empty h0_3 y1.2.1 y1.2.2.1 y1.2.2.2.1
        else
          none :=
  (run_eq _ _ _ _).trans (by kernel_rfl)
theorem F51_letheref13_Cell_Erase_l9_eq (h0_1 : ByteArray) (h0_2 : ByteArray) (h0_3 : Int) (h1_0 : Bool) (h1_1 : Int) (h1_2 : Int) : F51_letheref13_Cell_Erase_l9 h0_1 h0_2 h0_3 h1_0 h1_1 h1_2 =
    some (0, h0_1, h0_2, (IntKind.i64.wrap (h0_3 + (1 : Int))), h1_0, h1_1, h1_2, ()) :=
  (run_eq _ _ _ _).trans (by kernel_rfl)
theorem F33_commit_First_eq (x1_0 : Int) (x1_1 : Int) (x1_2 : Int) (x1_3 : Int) (x2 : Int) (x3 : Int) (h0_1 : ByteArray) (h0_2 : ByteArray) (h0_3 : Int) (h1_0 : Bool) (h1_1 : Int) (h1_2 : Int) : F33_commit_First x1_0 x1_1 x1_2 x1_3 x2 x3 h0_1 h0_2 h0_3 h1_0 h1_1 h1_2 =
    (F64_cell_Cell_Slots h0_1 h0_2 h0_3 h1_0 h1_1 h1_2).bind fun y1 =>
    if (0 : Int) < (List.length y1.2.2.2.2.2.2.1 : Int) then
      some (0, 0, 0, 0, 0, 0, 0, 131, y1.1, y1.2.1, y1.2.2.1, y1.2.2.2.1, y1.2.2.2.2.1, y1.2.2.2.2.2.1, ())
    else
      (F101_commit_set 0 0 x1_0 x1_1 x1_2 x1_3 x2 x3 y1.1 y1.2.1 y1.2.2.1 y1.2.2.2.1 y1.2.2.2.2.1 y1.2.2.2.2.2.1).bind fun y2 =>
      some (y2.1, y2.2.1, y2.2.2.1, y2.2.2.2.1, y2.2.2.2.2.1, y2.2.2.2.2.2.1, y2.2.2.2.2.2.2.1, y2.2.2.2.2.2.2.2.1, y2.2.2.2.2.2.2.2.2.1, y2.2.2.2.2.2.2.2.2.2.1, y2.2.2.2.2.2.2.2.2.2.2.1, y2.2.2.2.2.2.2.2.2.2.2.2.1, y2.2.2.2.2.2.2.2.2.2.2.2.2.1, y2.2.2.2.2.2.2.2.2.2.2.2.2.2.1, ()) :=
  (F_eq (G := G) rfl fn19 rfl _).trans ((run_eq _ _ _ _).trans (by kernel_rfl))
theorem F52_letheref17_First_eq (x1_0 : Int) (x1_1 : Int) (x1_2 : Int) (x1_3 : Int) (x2 : Int) (x3 : Int) (h0_1 : ByteArray) (h0_2 : ByteArray) (h0_3 : Int) (h1_0 : Bool) (h1_1 : Int) (h1_2 : Int) : F52_letheref17_First x1_0 x1_1 x1_2 x1_3 x2 x3 h0_1 h0_2 h0_3 h1_0 h1_1 h1_2 =
    if ¬ h0_1 = ByteArray.empty then
      some (0, 0, 0, 0, 0, 0, 0, 131, h0_1, h0_2, h0_3, h1_0, h1_1, h1_2, ())
    else
      if ¬ h0_2 = ByteArray.empty then
        some (0, 0, 0, 0, 0, 0, 0, 131, h0_1, h0_2, h0_3, h1_0, h1_1, h1_2, ())
      else
        (F102_letheref17_set 0 0 x1_0 x1_1 x1_2 x1_3 x2 x3 h0_1 h0_2 h0_3 h1_0 h1_1 h1_2).bind fun y1 =>
        some (y1.1, y1.2.1, y1.2.2.1, y1.2.2.2.1, y1.2.2.2.2.1, y1.2.2.2.2.2.1, y1.2.2.2.2.2.2.1, y1.2.2.2.2.2.2.2.1, y1.2.2.2.2.2.2.2.2.1, y1.2.2.2.2.2.2.2.2.2.1, y1.2.2.2.2.2.2.2.2.2.2.1, y1.2.2.2.2.2.2.2.2.2.2.2.1, y1.2.2.2.2.2.2.2.2.2.2.2.2.1, y1.2.2.2.2.2.2.2.2.2.2.2.2.2.1, ()) :=
  (F_eq (G := G) rfl fn20 rfl _).trans ((run_eq _ _ _ _).trans (by kernel_rfl))
theorem F53_cell_Cell_Get_eq (x1 : Int) (h0_1 : ByteArray) (h0_2 : ByteArray) (h0_3 : Int) (h1_0 : Bool) (h1_1 : Int) (h1_2 : Int) : F53_cell_Cell_Get x1 h0_1 h0_2 h0_3 h1_0 h1_1 h1_2 =
    (F103_cell_Cell_is x1 h0_1 h0_2 h0_3 h1_0 h1_1 h1_2).bind fun y1 =>
    if (!y1.1) = true then
      some (ByteArray.empty, false, y1.2.1, y1.2.2.1, y1.2.2.2.1, y1.2.2.2.2.1, y1.2.2.2.2.2.1, y1.2.2.2.2.2.2.1, ())
    else
      if x1 = (0 : Int) then
        if x1 = (0 : Int) then
          some (y1.2.1, (decide (¬ y1.2.1 = ByteArray.empty)), y1.2.1, y1.2.2.1, y1.2.2.2.1, y1.2.2.2.2.1, y1.2.2.2.2.2.1, y1.2.2.2.2.2.2.1, ())
        else
          if x1 = (1 : Int) then
            some (y1.2.1, (decide (¬ y1.2.2.1 = ByteArray.empty)), y1.2.1, y1.2.2.1, y1.2.2.2.1, y1.2.2.2.2.1, y1.2.2.2.2.2.1, y1.2.2.2.2.2.2.1, ())
          else
            none
      else
        if x1 = (1 : Int) then
          if x1 = (0 : Int) then
            some (y1.2.2.1, (decide (¬ y1.2.1 = ByteArray.empty)), y1.2.1, y1.2.2.1, y1.2.2.2.1, y1.2.2.2.2.1, y1.2.2.2.2.2.1, y1.2.2.2.2.2.2.1, ())
          else
            if x1 = (1 : Int) then
              some (y1.2.2.1, (decide (¬ y1.2.2.1 = ByteArray.empty)), y1.2.1, y1.2.2.1, y1.2.2.2.1, y1.2.2.2.2.1, y1.2.2.2.2.2.1, y1.2.2.2.2.2.2.1, ())
            else
              none
        else
          none :=
  (F_eq (G := G) rfl fn21 rfl _).trans ((run_eq _ _ _ _).trans (by kernel_rfl))
theorem F37_cell_Cell_Count_eq (h0_1 : ByteArray) (h0_2 : ByteArray) (h0_3 : Int) (h1_0 : Bool) (h1_1 : Int) (h1_2 : Int) : F37_cell_Cell_Count h0_1 h0_2 h0_3 h1_0 h1_1 h1_2 =
    some (h0_3, h0_1, h0_2, h0_3, h1_0, h1_1, h1_2, ()) :=
  (F_eq (G := G) rfl fn22 rfl _).trans ((run_eq _ _ _ _).trans (by kernel_rfl))
theorem F54_power_Power_On_eq (h0_0 : Bool) (h0_1 : Int) (h0_2 : Int) : F54_power_Power_On h0_0 h0_1 h0_2 =
    some ((!h0_0), h0_0, h0_1, h0_2, ()) :=
  (F_eq (G := G) rfl fn23 rfl _).trans ((run_eq _ _ _ _).trans (by kernel_rfl))
theorem F103_cell_Cell_is_eq (x1 : Int) (h0_1 : ByteArray) (h0_2 : ByteArray) (h0_3 : Int) (h1_0 : Bool) (h1_1 : Int) (h1_2 : Int) : F103_cell_Cell_is x1 h0_1 h0_2 h0_3 h1_0 h1_1 h1_2 =
    if (0 : Int) ≤ x1 then
      some ((decide (x1 < (2 : Int))), h0_1, h0_2, h0_3, h1_0, h1_1, h1_2, ())
    else
      some (false, h0_1, h0_2, h0_3, h1_0, h1_1, h1_2, ()) :=
  (F_eq (G := G) rfl fn24 rfl _).trans ((run_eq _ _ _ _).trans (by kernel_rfl))
theorem F102_letheref17_set_eq (x1 : Int) (x2_0 : Int) (x2_1 : Int) (x2_2 : Int) (x2_3 : Int) (x2_4 : Int) (x2_5 : Int) (x2_6 : Int) (h0_1 : ByteArray) (h0_2 : ByteArray) (h0_3 : Int) (h1_0 : Bool) (h1_1 : Int) (h1_2 : Int) : F102_letheref17_set x1 x2_0 x2_1 x2_2 x2_3 x2_4 x2_5 x2_6 h0_1 h0_2 h0_3 h1_0 h1_1 h1_2 =
    (F28_letheref17_Bytes x2_0 x2_1 x2_2 x2_3 x2_4 x2_5 x2_6).bind fun y1 =>
    if ¬ y1.2.1 = (0 : Int) then
      some (0, 0, 0, 0, 0, 0, 0, y1.2.1, h0_1, h0_2, h0_3, h1_0, h1_1, h1_2, ())
    else
      (F49_letheref13_Cell_Set x1 y1.1 h0_1 h0_2 h0_3 h1_0 h1_1 h1_2).bind fun y2 =>
      if ¬ y2.1 = (0 : Int) then
        some (0, 0, 0, 0, 0, 0, 0, y2.1, y2.2.1, y2.2.2.1, y2.2.2.2.1, y2.2.2.2.2.1, y2.2.2.2.2.2.1, y2.2.2.2.2.2.2.1, ())
      else
        some (x2_0, x2_1, x2_2, x2_3, x2_4, x2_5, x2_6, 0, y2.2.1, y2.2.2.1, y2.2.2.2.1, y2.2.2.2.2.1, y2.2.2.2.2.2.1, y2.2.2.2.2.2.2.1, ()) :=
  (F_eq (G := G) rfl fn25 rfl _).trans ((run_eq _ _ _ _).trans (by kernel_rfl))
theorem F28_letheref17_Bytes_eq (x0_0 : Int) (x0_1 : Int) (x0_2 : Int) (x0_3 : Int) (x0_4 : Int) (x0_5 : Int) (x0_6 : Int) : F28_letheref17_Bytes x0_0 x0_1 x0_2 x0_3 x0_4 x0_5 x0_6 =
    (F35_letheref17_Right x0_0 x0_1 x0_2 x0_3 x0_4 x0_5 x0_6).bind fun y1 =>
    if (!y1.1) = true then
      some (ByteArray.empty, 170, ())
    else
      (F94_letheref06_Num x0_0).bind fun y2 =>
      (F95_letheref06_Key x0_1).bind fun y3 =>
      (F94_letheref06_Num x0_2).bind fun y4 =>
      (F94_letheref06_Num x0_3).bind fun y5 =>
      (F94_letheref06_Num x0_4).bind fun y6 =>
      (F94_letheref06_Num x0_5).bind fun y7 =>
      (F94_letheref06_Num x0_6).bind fun y8 =>
      let e9 : (List S38) := [(S38.mk y2.1 y2.2.1 y2.2.2.1 y2.2.2.2.1), (S38.mk y3.1 y3.2.1 y3.2.2.1 y3.2.2.2.1), (S38.mk y4.1 y4.2.1 y4.2.2.1 y4.2.2.2.1), (S38.mk y5.1 y5.2.1 y5.2.2.1 y5.2.2.2.1), (S38.mk y6.1 y6.2.1 y6.2.2.1 y6.2.2.2.1), (S38.mk y7.1 y7.2.1 y7.2.2.1 y7.2.2.2.1), (S38.mk y8.1 y8.2.1 y8.2.2.1 y8.2.2.2.1)]
      (F97_letheref06_Row e9).bind fun y10 =>
      (F96_letheref02_Bytes y10.1 y10.2.1 y10.2.2.1 y10.2.2.2.1).bind fun y11 =>
      some (y11.1, 0, ()) :=
  (F_eq (G := G) rfl fn26 rfl _).trans ((run_eq _ _ _ _).trans (by kernel_rfl))
theorem F35_letheref17_Right_eq (x0_0 : Int) (x0_1 : Int) (x0_2 : Int) (x0_3 : Int) (x0_4 : Int) (x0_5 : Int) (x0_6 : Int) : F35_letheref17_Right x0_0 x0_1 x0_2 x0_3 x0_4 x0_5 x0_6 =
    if (0 : Int) ≤ x0_0 then
      if x0_0 ≤ (2147483647 : Int) then
        (F18_letheref06_RefRight x0_1 x0_2 x0_3 x0_4).bind fun y1 =>
        if y1.1 = true then
          if (0 : Int) ≤ x0_5 then
            if x0_5 ≤ (1048576 : Int) then
              if (0 : Int) ≤ x0_6 then
                some ((decide (x0_6 ≤ (134217728 : Int))), ())
              else
                some (false, ())
            else
              some (false, ())
          else
            some (false, ())
        else
          some (false, ())
      else
        some (false, ())
    else
      some (false, ()) :=
  (F_eq (G := G) rfl fn27 rfl _).trans ((run_eq _ _ _ _).trans (by kernel_rfl))
theorem F94_letheref06_Num_eq (x0 : Int) : F94_letheref06_Num x0 =
    some (1, (IntKind.u64.wrap x0), ByteArray.empty, [], ()) :=
  (F_eq (G := G) rfl fn28 rfl _).trans ((run_eq _ _ _ _).trans (by kernel_rfl))
theorem F95_letheref06_Key_eq (x0 : Int) : F95_letheref06_Key x0 =
    some (3, x0, ByteArray.empty, [], ()) :=
  (F_eq (G := G) rfl fn29 rfl _).trans ((run_eq _ _ _ _).trans (by kernel_rfl))
theorem F97_letheref06_Row_eq (x0 : (List S38)) : F97_letheref06_Row x0 =
    some (5, 0, ByteArray.empty, x0, ()) :=
  (F_eq (G := G) rfl fn30 rfl _).trans ((run_eq _ _ _ _).trans (by kernel_rfl))
theorem F96_letheref02_Bytes_eq (x0_0 : Int) (x0_1 : Int) (x0_2 : ByteArray) (x0_3 : (List S38)) : F96_letheref02_Bytes x0_0 x0_1 x0_2 x0_3 =
    if x0_0 = (1 : Int) then
      if x0_0 = (1 : Int) then
        (F139_letheref02_PutNum x0_1).bind fun y1 =>
        if ByteArray.size (strOf [(IntKind.u8.wrap x0_0)]) + ByteArray.size y1.1 ≤ 9223372036854775807 then
          F96_letheref02_Bytes_l11 ((strOf [(IntKind.u8.wrap x0_0)]) ++ y1.1) x0_0 x0_1 x0_2 x0_3
        else
          none
      else
        if x0_0 = (2 : Int) then
          (F139_letheref02_PutNum (IntKind.u64.wrap (ByteArray.size x0_2 : Int))).bind fun y2 =>
          if ByteArray.size (strOf [(IntKind.u8.wrap x0_0)]) + ByteArray.size y2.1 ≤ 9223372036854775807 then
            let e3 : ByteArray := ((strOf [(IntKind.u8.wrap x0_0)]) ++ y2.1) ++ x0_2
            if ByteArray.size ((strOf [(IntKind.u8.wrap x0_0)]) ++ y2.1) + ByteArray.size x0_2 ≤ 9223372036854775807 then
              F96_letheref02_Bytes_l11 e3 x0_0 x0_1 x0_2 x0_3
            else
              none
          else
            none
        else
          if x0_0 = (5 : Int) then
            (F139_letheref02_PutNum (IntKind.u64.wrap (List.length x0_3 : Int))).bind fun y4 =>
            if ByteArray.size (strOf [(IntKind.u8.wrap x0_0)]) + ByteArray.size y4.1 ≤ 9223372036854775807 then
              F96_letheref02_Bytes_l11 ((strOf [(IntKind.u8.wrap x0_0)]) ++ y4.1) x0_0 x0_1 x0_2 x0_3
            else
              none
          else
            F96_letheref02_Bytes_l11 (strOf [(IntKind.u8.wrap x0_0)]) x0_0 x0_1 x0_2 x0_3
    else
      if x0_0 = (3 : Int) then
        if x0_0 = (3 : Int) then
          (F139_letheref02_PutNum x0_1).bind fun y5 =>
          if ByteArray.size (strOf [(IntKind.u8.wrap x0_0)]) + ByteArray.size y5.1 ≤ 9223372036854775807 then
            F96_letheref02_Bytes_l11 ((strOf [(IntKind.u8.wrap x0_0)]) ++ y5.1) x0_0 x0_1 x0_2 x0_3
          else
            none
        else
          if x0_0 = (2 : Int) then
            (F139_letheref02_PutNum (IntKind.u64.wrap (ByteArray.size x0_2 : Int))).bind fun y6 =>
            if ByteArray.size (strOf [(IntKind.u8.wrap x0_0)]) + ByteArray.size y6.1 ≤ 9223372036854775807 then
              let e7 : ByteArray := ((strOf [(IntKind.u8.wrap x0_0)]) ++ y6.1) ++ x0_2
              if ByteArray.size ((strOf [(IntKind.u8.wrap x0_0)]) ++ y6.1) + ByteArray.size x0_2 ≤ 9223372036854775807 then
                F96_letheref02_Bytes_l11 e7 x0_0 x0_1 x0_2 x0_3
              else
                none
            else
              none
          else
            if x0_0 = (5 : Int) then
              (F139_letheref02_PutNum (IntKind.u64.wrap (List.length x0_3 : Int))).bind fun y8 =>
              if ByteArray.size (strOf [(IntKind.u8.wrap x0_0)]) + ByteArray.size y8.1 ≤ 9223372036854775807 then
                F96_letheref02_Bytes_l11 ((strOf [(IntKind.u8.wrap x0_0)]) ++ y8.1) x0_0 x0_1 x0_2 x0_3
              else
                none
            else
              F96_letheref02_Bytes_l11 (strOf [(IntKind.u8.wrap x0_0)]) x0_0 x0_1 x0_2 x0_3
      else
        if x0_0 = (4 : Int) then
          (F139_letheref02_PutNum x0_1).bind fun y9 =>
          if ByteArray.size (strOf [(IntKind.u8.wrap x0_0)]) + ByteArray.size y9.1 ≤ 9223372036854775807 then
            F96_letheref02_Bytes_l11 ((strOf [(IntKind.u8.wrap x0_0)]) ++ y9.1) x0_0 x0_1 x0_2 x0_3
          else
            none
        else
          if x0_0 = (2 : Int) then
            (F139_letheref02_PutNum (IntKind.u64.wrap (ByteArray.size x0_2 : Int))).bind fun y10 =>
            if ByteArray.size (strOf [(IntKind.u8.wrap x0_0)]) + ByteArray.size y10.1 ≤ 9223372036854775807 then
              let e11 : ByteArray := ((strOf [(IntKind.u8.wrap x0_0)]) ++ y10.1) ++ x0_2
              if ByteArray.size ((strOf [(IntKind.u8.wrap x0_0)]) ++ y10.1) + ByteArray.size x0_2 ≤ 9223372036854775807 then
                F96_letheref02_Bytes_l11 e11 x0_0 x0_1 x0_2 x0_3
              else
                none
            else
              none
          else
            if x0_0 = (5 : Int) then
              (F139_letheref02_PutNum (IntKind.u64.wrap (List.length x0_3 : Int))).bind fun y12 =>
              if ByteArray.size (strOf [(IntKind.u8.wrap x0_0)]) + ByteArray.size y12.1 ≤ 9223372036854775807 then
                F96_letheref02_Bytes_l11 ((strOf [(IntKind.u8.wrap x0_0)]) ++ y12.1) x0_0 x0_1 x0_2 x0_3
              else
                none
            else
              F96_letheref02_Bytes_l11 (strOf [(IntKind.u8.wrap x0_0)]) x0_0 x0_1 x0_2 x0_3 :=
  (F_eq (G := G) rfl fn31 rfl _).trans ((run_eq _ _ _ _).trans (by kernel_rfl))
theorem F96_letheref02_Bytes_l11_eq (v3 : ByteArray) (h0_0 : Int) (h0_1 : Int) (h0_2 : ByteArray) (h0_3 : (List S38)) : F96_letheref02_Bytes_l11 v3 h0_0 h0_1 h0_2 h0_3 =
    F96_letheref02_Bytes_l1000012 v3 h0_3 (List.length h0_3 : Int) 0 :=
  (run_eq _ _ _ _).trans (by kernel_rfl)
theorem F96_letheref02_Bytes_l1000012_eq (v3 : ByteArray) (v45 : (List S38)) (v46 : Int) (v47 : Int) : F96_letheref02_Bytes_l1000012 v3 v45 v46 v47 =
    if v47 < v46 then
      if (0 : Int) ≤ v47 ∧ v47 < (List.length v45 : Int) then
        (F96_letheref02_Bytes (S38.f0 (rd S38.z v45 v47)) (S38.f1 (rd S38.z v45 v47)) (S38.f2 (rd S38.z v45 v47)) (S38.f3 (rd S38.z v45 v47))).bind fun y1 =>
        if ByteArray.size v3 + ByteArray.size y1.1 ≤ 9223372036854775807 then
          F96_letheref02_Bytes_l1000012 (v3 ++ y1.1) v45 v46 (IntKind.i64.wrap (v47 + (1 : Int)))
        else
          none
      else
        none
    else
      some (v3, ()) :=
  (run_eq _ _ _ _).trans (by kernel_rfl)
theorem F139_letheref02_PutNum_eq (x0 : Int) : F139_letheref02_PutNum x0 =
    F139_letheref02_PutNum_l1000002 x0 [] :=
  (F_eq (G := G) rfl fn32 rfl _).trans ((run_eq _ _ _ _).trans (by kernel_rfl))
theorem F139_letheref02_PutNum_l1000002_eq (v0 : Int) (g0 : (List Int)) : F139_letheref02_PutNum_l1000002 v0 g0 =
    if (127 : Int) < v0 then
      let e1 : Int := IntKind.u64.wrap ((Int.tmod v0 (128 : Int)) + (128 : Int))
      if (List.length g0 + List.length [(IntKind.u8.wrap e1)]) * 1 ≤ 140737488355328 then
        F139_letheref02_PutNum_l1000002 (IntKind.u64.wrap (Int.tdiv v0 (128 : Int))) (g0 ++ [(IntKind.u8.wrap e1)])
      else
        none
    else
      if (List.length g0 + List.length [(IntKind.u8.wrap v0)]) * 1 ≤ 140737488355328 then
        some ((strOf (g0 ++ [(IntKind.u8.wrap v0)])), ())
      else
        none :=
  (run_eq _ _ _ _).trans (by kernel_rfl)
theorem F18_letheref06_RefRight_eq (x0_0 : Int) (x0_1 : Int) (x0_2 : Int) (x0_3 : Int) : F18_letheref06_RefRight x0_0 x0_1 x0_2 x0_3 =
    if (0 : Int) ≤ x0_1 then
      if x0_1 ≤ (1048576 : Int) then
        if (0 : Int) ≤ x0_2 then
          if x0_2 ≤ (134217728 : Int) then
            if (1 : Int) ≤ x0_3 then
              some ((decide (x0_3 ≤ (1048576 : Int))), ())
            else
              some (false, ())
          else
            some (false, ())
        else
          some (false, ())
      else
        some (false, ())
    else
      some (false, ()) :=
  (F_eq (G := G) rfl fn33 rfl _).trans ((run_eq _ _ _ _).trans (by kernel_rfl))
theorem F64_cell_Cell_Slots_eq (h0_1 : ByteArray) (h0_2 : ByteArray) (h0_3 : Int) (h1_0 : Bool) (h1_1 : Int) (h1_2 : Int) : F64_cell_Cell_Slots h0_1 h0_2 h0_3 h1_0 h1_1 h1_2 =
    F64_cell_Cell_Slots_l1000003 h0_1 h0_2 0 h0_1 h0_2 h0_3 h1_0 h1_1 h1_2 [] :=
  (F_eq (G := G) rfl fn34 rfl _).trans ((run_eq _ _ _ _).trans (by kernel_rfl))
theorem F64_cell_Cell_Slots_l1000003_eq (v9_0 : ByteArray) (v9_1 : ByteArray) (v10 : Int) (h0_1 : ByteArray) (h0_2 : ByteArray) (h0_3 : Int) (h1_0 : Bool) (h1_1 : Int) (h1_2 : Int) (g2 : (List Int)) : F64_cell_Cell_Slots_l1000003 v9_0 v9_1 v10 h0_1 h0_2 h0_3 h1_0 h1_1 h1_2 g2 =
    if v10 < (2 : Int) then
      if v10 = (0 : Int) then
        if ¬ v9_0 = ByteArray.empty then
          if (List.length g2 + List.length [v10]) * 8 ≤ 140737488355328 then
            F64_cell_Cell_Slots_l7 v9_0 v9_1 v10 h0_1 h0_2 h0_3 h1_0 h1_1 h1_2 (g2 ++ [v10])
          else
            none
        else
          F64_cell_Cell_Slots_l7 v9_0 v9_1 v10 h0_1 h0_2 h0_3 h1_0 h1_1 h1_2 g2
      else
        if v10 = (1 : Int) then
          if ¬ v9_1 = ByteArray.empty then
            if (List.length g2 + List.length [v10]) * 8 ≤ 140737488355328 then
              F64_cell_Cell_Slots_l7 v9_0 v9_1 v10 h0_1 h0_2 h0_3 h1_0 h1_1 h1_2 (g2 ++ [v10])
            else
              none
          else
            F64_cell_Cell_Slots_l7 v9_0 v9_1 v10 h0_1 h0_2 h0_3 h1_0 h1_1 h1_2 g2
        else
          none
    else
      some (h0_1, h0_2, h0_3, h1_0, h1_1, h1_2, g2, ()) :=
  (run_eq _ _ _ _).trans (by kernel_rfl)
theorem F64_cell_Cell_Slots_l7_eq (v9_0 : ByteArray) (v9_1 : ByteArray) (v10 : Int) (h0_1 : ByteArray) (h0_2 : ByteArray) (h0_3 : Int) (h1_0 : Bool) (h1_1 : Int) (h1_2 : Int) (g2 : (List Int)) : F64_cell_Cell_Slots_l7 v9_0 v9_1 v10 h0_1 h0_2 h0_3 h1_0 h1_1 h1_2 g2 =
    F64_cell_Cell_Slots_l1000003 v9_0 v9_1 (IntKind.i64.wrap (v10 + (1 : Int))) h0_1 h0_2 h0_3 h1_0 h1_1 h1_2 g2 :=
  (run_eq _ _ _ _).trans (by kernel_rfl)
theorem F101_commit_set_eq (x1 : Int) (x2_0 : Int) (x2_1 : Int) (x2_2 : Int) (x2_3 : Int) (x2_4 : Int) (x2_5 : Int) (x2_6 : Int) (h0_1 : ByteArray) (h0_2 : ByteArray) (h0_3 : Int) (h1_0 : Bool) (h1_1 : Int) (h1_2 : Int) : F101_commit_set x1 x2_0 x2_1 x2_2 x2_3 x2_4 x2_5 x2_6 h0_1 h0_2 h0_3 h1_0 h1_1 h1_2 =
    (F27_commit_Bytes x2_0 x2_1 x2_2 x2_3 x2_4 x2_5 x2_6).bind fun y1 =>
    if y1.2.1 = (0 : Int) then
      (F48_cell_Cell_Set x1 y1.1 h0_1 h0_2 h0_3 h1_0 h1_1 h1_2).bind fun y2 =>
      if ¬ y2.1 = (0 : Int) then
        some (0, 0, 0, 0, 0, 0, 0, y2.1, y2.2.1, y2.2.2.1, y2.2.2.2.1, y2.2.2.2.2.1, y2.2.2.2.2.2.1, y2.2.2.2.2.2.2.1, ())
      else
        some (x2_0, x2_1, x2_2, x2_3, x2_4, x2_5, x2_6, 0, y2.2.1, y2.2.2.1, y2.2.2.2.1, y2.2.2.2.2.1, y2.2.2.2.2.2.1, y2.2.2.2.2.2.2.1, ())
    else
      if ¬ y1.2.1 = (0 : Int) then
        some (0, 0, 0, 0, 0, 0, 0, y1.2.1, h0_1, h0_2, h0_3, h1_0, h1_1, h1_2, ())
      else
        some (x2_0, x2_1, x2_2, x2_3, x2_4, x2_5, x2_6, 0, h0_1, h0_2, h0_3, h1_0, h1_1, h1_2, ()) :=
  (F_eq (G := G) rfl fn35 rfl _).trans ((run_eq _ _ _ _).trans (by kernel_rfl))
theorem F27_commit_Bytes_eq (x0_0 : Int) (x0_1 : Int) (x0_2 : Int) (x0_3 : Int) (x0_4 : Int) (x0_5 : Int) (x0_6 : Int) : F27_commit_Bytes x0_0 x0_1 x0_2 x0_3 x0_4 x0_5 x0_6 =
    if x0_0 < (0 : Int) then
      F27_commit_Bytes_l2 
    else
      if (2147483647 : Int) < x0_0 then
        F27_commit_Bytes_l2 
      else
        (F17_node_RefRight x0_1 x0_2 x0_3 x0_4).bind fun y1 =>
        if (!y1.1) = true then
          F27_commit_Bytes_l2 
        else
          if x0_5 < (0 : Int) then
            F27_commit_Bytes_l2 
          else
            if (1048576 : Int) < x0_5 then
              F27_commit_Bytes_l2 
            else
              if x0_6 < (0 : Int) then
                F27_commit_Bytes_l2 
              else
                if (134217728 : Int) < x0_6 then
                  F27_commit_Bytes_l2 
                else
                  (F92_term_Num (IntKind.u64.wrap x0_0)).bind fun y2 =>
                  (F80_term_Key x0_1).bind fun y3 =>
                  let e4 : (List S38) := [(S38.mk y2.1 y2.2.1 y2.2.2.1 y2.2.2.2.1), (S38.mk y3.1 y3.2.1 y3.2.2.1 y3.2.2.2.1)]
                  F27_commit_Bytes_l1000005 (List.length [x0_2, x0_3, x0_4, x0_5, x0_6] : Int) 0 e4 [x0_2, x0_3, x0_4, x0_5, x0_6] :=
  (F_eq (G := G) rfl fn36 rfl _).trans ((run_eq _ _ _ _).trans (by kernel_rfl))
theorem F27_commit_Bytes_l2_eq  : F27_commit_Bytes_l2  =
    some (ByteArray.empty, 170, ()) :=
  (run_eq _ _ _ _).trans (by kernel_rfl)
theorem F27_commit_Bytes_l1000005_eq (v64 : Int) (v65 : Int) (g0 : (List S38)) (g1 : (List Int)) : F27_commit_Bytes_l1000005 v64 v65 g0 g1 =
    if v65 < v64 then
      if (0 : Int) ≤ v65 ∧ v65 < (List.length g1 : Int) then
        (F92_term_Num (IntKind.u64.wrap (rd (0 : Int) g1 v65))).bind fun y1 =>
        if (List.length g0 + List.length [(S38.mk y1.1 y1.2.1 y1.2.2.1 y1.2.2.2.1)]) * 56 ≤ 140737488355328 then
          F27_commit_Bytes_l1000005 v64 (IntKind.i64.wrap (v65 + (1 : Int))) (g0 ++ [(S38.mk y1.1 y1.2.1 y1.2.2.1 y1.2.2.2.1)]) g1
        else
          none
      else
        none
    else
      (F77_term_Of g0).bind fun y2 =>
      (F93_term_Encode y2.1 y2.2.1 y2.2.2.1 y2.2.2.2.1).bind fun y3 =>
      some (y3.1, y3.2.1, ()) :=
  (run_eq _ _ _ _).trans (by kernel_rfl)
theorem F17_node_RefRight_eq (x0_0 : Int) (x0_1 : Int) (x0_2 : Int) (x0_3 : Int) : F17_node_RefRight x0_0 x0_1 x0_2 x0_3 =
    if (0 : Int) ≤ x0_1 then
      if x0_1 ≤ (1048576 : Int) then
        if (0 : Int) ≤ x0_2 then
          if x0_2 ≤ (134217728 : Int) then
            if (1 : Int) ≤ x0_3 then
              some ((decide (x0_3 ≤ (1048576 : Int))), ())
            else
              some (false, ())
          else
            some (false, ())
        else
          some (false, ())
      else
        some (false, ())
    else
      some (false, ()) :=
  (F_eq (G := G) rfl fn37 rfl _).trans ((run_eq _ _ _ _).trans (by kernel_rfl))
theorem F92_term_Num_eq (x0 : Int) : F92_term_Num x0 =
    some (1, x0, ByteArray.empty, [], ()) :=
  (F_eq (G := G) rfl fn38 rfl _).trans ((run_eq _ _ _ _).trans (by kernel_rfl))
theorem F80_term_Key_eq (x0 : Int) : F80_term_Key x0 =
    some (3, x0, ByteArray.empty, [], ()) :=
  (F_eq (G := G) rfl fn39 rfl _).trans ((run_eq _ _ _ _).trans (by kernel_rfl))
theorem F77_term_Of_eq (x0 : (List S38)) : F77_term_Of x0 =
    (F124_term_clone 5 0 ByteArray.empty x0).bind fun y1 =>
    some (y1.1, y1.2.1, y1.2.2.1, y1.2.2.2.1, ()) :=
  (F_eq (G := G) rfl fn40 rfl _).trans ((run_eq _ _ _ _).trans (by kernel_rfl))
theorem F93_term_Encode_eq (x0_0 : Int) (x0_1 : Int) (x0_2 : ByteArray) (x0_3 : (List S38)) : F93_term_Encode x0_0 x0_1 x0_2 x0_3 =
    (F82_term_Right x0_0 x0_1 x0_2 x0_3).bind fun y1 =>
    if ¬ y1.1 = (0 : Int) then
      some (ByteArray.empty, y1.1, ())
    else
      (F138_term_write x0_0 x0_1 x0_2 x0_3 []).bind fun y2 =>
      some ((strOf y2.1), 0, ()) :=
  (F_eq (G := G) rfl fn41 rfl _).trans ((run_eq _ _ _ _).trans (by kernel_rfl))
theorem F82_term_Right_eq (x0_0 : Int) (x0_1 : Int) (x0_2 : ByteArray) (x0_3 : (List S38)) : F82_term_Right x0_0 x0_1 x0_2 x0_3 =
    (F127_term_parts x0_0 x0_1 x0_2 x0_3 4001).bind fun y1 =>
    if (4000 : Int) < y1.1 then
      some (23, ())
    else
      (F128_term_deep x0_0 x0_1 x0_2 x0_3 13).bind fun y2 =>
      if (12 : Int) < y2.1 then
        some (22, ())
      else
        (F129_term_shaped x0_0 x0_1 x0_2 x0_3).bind fun y3 =>
        if (!y3.1) = true then
          some (25, ())
        else
          some (0, ()) :=
  (F_eq (G := G) rfl fn42 rfl _).trans ((run_eq _ _ _ _).trans (by kernel_rfl))
theorem F138_term_write_eq (x1_0 : Int) (x1_1 : Int) (x1_2 : ByteArray) (x1_3 : (List S38)) (g0 : (List Int)) : F138_term_write x1_0 x1_1 x1_2 x1_3 g0 =
    if (List.length g0 + List.length [(IntKind.u8.wrap x1_0)]) * 1 ≤ 140737488355328 then
      if x1_0 = (1 : Int) then
        if x1_0 = (1 : Int) then
          (F162_term_PutNum x1_1).bind fun y1 =>
          let e2 : (List Int) := (g0 ++ [(IntKind.u8.wrap x1_0)]) ++ (bytesOf y1.1)
          if (List.length (g0 ++ [(IntKind.u8.wrap x1_0)]) + List.length (bytesOf y1.1)) * 1 ≤ 140737488355328 then
            F138_term_write_l11 e2 x1_0 x1_1 x1_2 x1_3
          else
            none
        else
          if x1_0 = (2 : Int) then
            (F162_term_PutNum (IntKind.u64.wrap (ByteArray.size x1_2 : Int))).bind fun y3 =>
            let e4 : (List Int) := (g0 ++ [(IntKind.u8.wrap x1_0)]) ++ (bytesOf y3.1)
            if (List.length (g0 ++ [(IntKind.u8.wrap x1_0)]) + List.length (bytesOf y3.1)) * 1 ≤ 140737488355328 then
              if (List.length e4 + List.length (bytesOf x1_2)) * 1 ≤ 140737488355328 then
                F138_term_write_l11 (e4 ++ (bytesOf x1_2)) x1_0 x1_1 x1_2 x1_3
              else
                none
            else
              none
          else
            if x1_0 = (5 : Int) then
              (F162_term_PutNum (IntKind.u64.wrap (List.length x1_3 : Int))).bind fun y5 =>
              let e6 : (List Int) := (g0 ++ [(IntKind.u8.wrap x1_0)]) ++ (bytesOf y5.1)
              if (List.length (g0 ++ [(IntKind.u8.wrap x1_0)]) + List.length (bytesOf y5.1)) * 1 ≤ 140737488355328 then
                F138_term_write_l11 e6 x1_0 x1_1 x1_2 x1_3
              else
                none
            else
              F138_term_write_l11 (g0 ++ [(IntKind.u8.wrap x1_0)]) x1_0 x1_1 x1_2 x1_3
      else
        if x1_0 = (3 : Int) then
          if x1_0 = (3 : Int) then
            (F162_term_PutNum x1_1).bind fun y7 =>
            let e8 : (List Int) := (g0 ++ [(IntKind.u8.wrap x1_0)]) ++ (bytesOf y7.1)
            if (List.length (g0 ++ [(IntKind.u8.wrap x1_0)]) + List.length (bytesOf y7.1)) * 1 ≤ 140737488355328 then
              F138_term_write_l11 e8 x1_0 x1_1 x1_2 x1_3
            else
              none
          else
            if x1_0 = (2 : Int) then
              (F162_term_PutNum (IntKind.u64.wrap (ByteArray.size x1_2 : Int))).bind fun y9 =>
              let e10 : (List Int) := (g0 ++ [(IntKind.u8.wrap x1_0)]) ++ (bytesOf y9.1)
              if (List.length (g0 ++ [(IntKind.u8.wrap x1_0)]) + List.length (bytesOf y9.1)) * 1 ≤ 140737488355328 then
                if (List.length e10 + List.length (bytesOf x1_2)) * 1 ≤ 140737488355328 then
                  F138_term_write_l11 (e10 ++ (bytesOf x1_2)) x1_0 x1_1 x1_2 x1_3
                else
                  none
              else
                none
            else
              if x1_0 = (5 : Int) then
                (F162_term_PutNum (IntKind.u64.wrap (List.length x1_3 : Int))).bind fun y11 =>
                let e12 : (List Int) := (g0 ++ [(IntKind.u8.wrap x1_0)]) ++ (bytesOf y11.1)
                if (List.length (g0 ++ [(IntKind.u8.wrap x1_0)]) + List.length (bytesOf y11.1)) * 1 ≤ 140737488355328 then
                  F138_term_write_l11 e12 x1_0 x1_1 x1_2 x1_3
                else
                  none
              else
                F138_term_write_l11 (g0 ++ [(IntKind.u8.wrap x1_0)]) x1_0 x1_1 x1_2 x1_3
        else
          if x1_0 = (4 : Int) then
            (F162_term_PutNum x1_1).bind fun y13 =>
            let e14 : (List Int) := (g0 ++ [(IntKind.u8.wrap x1_0)]) ++ (bytesOf y13.1)
            if (List.length (g0 ++ [(IntKind.u8.wrap x1_0)]) + List.length (bytesOf y13.1)) * 1 ≤ 140737488355328 then
              F138_term_write_l11 e14 x1_0 x1_1 x1_2 x1_3
            else
              none
          else
            if x1_0 = (2 : Int) then
              (F162_term_PutNum (IntKind.u64.wrap (ByteArray.size x1_2 : Int))).bind fun y15 =>
              let e16 : (List Int) := (g0 ++ [(IntKind.u8.wrap x1_0)]) ++ (bytesOf y15.1)
              if (List.length (g0 ++ [(IntKind.u8.wrap x1_0)]) + List.length (bytesOf y15.1)) * 1 ≤ 140737488355328 then
                if (List.length e16 + List.length (bytesOf x1_2)) * 1 ≤ 140737488355328 then
                  F138_term_write_l11 (e16 ++ (bytesOf x1_2)) x1_0 x1_1 x1_2 x1_3
                else
                  none
              else
                none
            else
              if x1_0 = (5 : Int) then
                (F162_term_PutNum (IntKind.u64.wrap (List.length x1_3 : Int))).bind fun y17 =>
                let e18 : (List Int) := (g0 ++ [(IntKind.u8.wrap x1_0)]) ++ (bytesOf y17.1)
                if (List.length (g0 ++ [(IntKind.u8.wrap x1_0)]) + List.length (bytesOf y17.1)) * 1 ≤ 140737488355328 then
                  F138_term_write_l11 e18 x1_0 x1_1 x1_2 x1_3
                else
                  none
              else
                F138_term_write_l11 (g0 ++ [(IntKind.u8.wrap x1_0)]) x1_0 x1_1 x1_2 x1_3
    else
      none :=
  (F_eq (G := G) rfl fn43 rfl _).trans ((run_eq _ _ _ _).trans (by kernel_rfl))
theorem F138_term_write_l11_eq (g1 : (List Int)) (h2_0 : Int) (h2_1 : Int) (h2_2 : ByteArray) (h2_3 : (List S38)) : F138_term_write_l11 g1 h2_0 h2_1 h2_2 h2_3 =
    F138_term_write_l1000012 h2_3 (List.length h2_3 : Int) 0 g1 :=
  (run_eq _ _ _ _).trans (by kernel_rfl)
theorem F138_term_write_l1000012_eq (v46 : (List S38)) (v47 : Int) (v48 : Int) (g1 : (List Int)) : F138_term_write_l1000012 v46 v47 v48 g1 =
    if v48 < v47 then
      if (0 : Int) ≤ v48 ∧ v48 < (List.length v46 : Int) then
        (F138_term_write (S38.f0 (rd S38.z v46 v48)) (S38.f1 (rd S38.z v46 v48)) (S38.f2 (rd S38.z v46 v48)) (S38.f3 (rd S38.z v46 v48)) g1).bind fun y1 =>
        F138_term_write_l1000012 v46 v47 (IntKind.i64.wrap (v48 + (1 : Int))) y1.1
      else
        none
    else
      some (g1, ()) :=
  (run_eq _ _ _ _).trans (by kernel_rfl)
theorem F127_term_parts_eq (x0_0 : Int) (x0_1 : Int) (x0_2 : ByteArray) (x0_3 : (List S38)) (x1 : Int) : F127_term_parts x0_0 x0_1 x0_2 x0_3 x1 =
    F127_term_parts_l1000003 x1 1 x0_3 (List.length x0_3 : Int) 0 :=
  (F_eq (G := G) rfl fn44 rfl _).trans ((run_eq _ _ _ _).trans (by kernel_rfl))
theorem F127_term_parts_l1000003_eq (v1 : Int) (v5 : Int) (v9 : (List S38)) (v10 : Int) (v11 : Int) : F127_term_parts_l1000003 v1 v5 v9 v10 v11 =
    if v11 < v10 then
      if (0 : Int) ≤ v11 ∧ v11 < (List.length v9 : Int) then
        if v1 ≤ v5 then
          some (v5, ())
        else
          (F127_term_parts (S38.f0 (rd S38.z v9 v11)) (S38.f1 (rd S38.z v9 v11)) (S38.f2 (rd S38.z v9 v11)) (S38.f3 (rd S38.z v9 v11)) (IntKind.i64.wrap (v1 - v5))).bind fun y1 =>
          F127_term_parts_l1000003 v1 (IntKind.i64.wrap (v5 + y1.1)) v9 v10 (IntKind.i64.wrap (v11 + (1 : Int)))
      else
        none
    else
      some (v5, ()) :=
  (run_eq _ _ _ _).trans (by kernel_rfl)
theorem F128_term_deep_eq (x0_0 : Int) (x0_1 : Int) (x0_2 : ByteArray) (x0_3 : (List S38)) (x1 : Int) : F128_term_deep x0_0 x0_1 x0_2 x0_3 x1 =
    if (1 : Int) < x1 then
      F128_term_deep_l1000004 x1 0 x0_3 (List.length x0_3 : Int) 0
    else
      some ((IntKind.i64.wrap ((0 : Int) + (1 : Int))), ()) :=
  (F_eq (G := G) rfl fn45 rfl _).trans ((run_eq _ _ _ _).trans (by kernel_rfl))
theorem F128_term_deep_l1000004_eq (v1 : Int) (v5 : Int) (v11 : (List S38)) (v12 : Int) (v13 : Int) : F128_term_deep_l1000004 v1 v5 v11 v12 v13 =
    if v13 < v12 then
      if (0 : Int) ≤ v13 ∧ v13 < (List.length v11 : Int) then
        (F128_term_deep (S38.f0 (rd S38.z v11 v13)) (S38.f1 (rd S38.z v11 v13)) (S38.f2 (rd S38.z v11 v13)) (S38.f3 (rd S38.z v11 v13)) (IntKind.i64.wrap (v1 - (1 : Int)))).bind fun y1 =>
        F128_term_deep_l1000004 v1 (mx v5 y1.1) v11 v12 (IntKind.i64.wrap (v13 + (1 : Int)))
      else
        none
    else
      some ((IntKind.i64.wrap (v5 + (1 : Int))), ()) :=
  (run_eq _ _ _ _).trans (by kernel_rfl)
theorem F129_term_shaped_eq (x0_0 : Int) (x0_1 : Int) (x0_2 : ByteArray) (x0_3 : (List S38)) : F129_term_shaped x0_0 x0_1 x0_2 x0_3 =
    if x0_0 = (1 : Int) then
      if x0_0 = (1 : Int) then
        if x0_2 = ByteArray.empty then
          F129_term_shaped_l12 (decide ((List.length x0_3 : Int) = (0 : Int))) x0_0 x0_1 x0_2 x0_3
        else
          F129_term_shaped_l12 false x0_0 x0_1 x0_2 x0_3
      else
        if x0_0 = (2 : Int) then
          if x0_1 = (0 : Int) then
            if (ByteArray.size x0_2 : Int) ≤ (4000 : Int) then
              F129_term_shaped_l12 (decide ((List.length x0_3 : Int) = (0 : Int))) x0_0 x0_1 x0_2 x0_3
            else
              F129_term_shaped_l12 false x0_0 x0_1 x0_2 x0_3
          else
            F129_term_shaped_l12 false x0_0 x0_1 x0_2 x0_3
        else
          if x0_0 = (4 : Int) then
            if x0_2 = ByteArray.empty then
              F129_term_shaped_l12 (decide ((List.length x0_3 : Int) = (1 : Int))) x0_0 x0_1 x0_2 x0_3
            else
              F129_term_shaped_l12 false x0_0 x0_1 x0_2 x0_3
          else
            if x0_0 = (5 : Int) then
              if x0_1 = (0 : Int) then
                F129_term_shaped_l12 (decide (x0_2 = ByteArray.empty)) x0_0 x0_1 x0_2 x0_3
              else
                F129_term_shaped_l12 false x0_0 x0_1 x0_2 x0_3
            else
              F129_term_shaped_l12 false x0_0 x0_1 x0_2 x0_3
    else
      if x0_0 = (3 : Int) then
        if x0_2 = ByteArray.empty then
          F129_term_shaped_l12 (decide ((List.length x0_3 : Int) = (0 : Int))) x0_0 x0_1 x0_2 x0_3
        else
          F129_term_shaped_l12 false x0_0 x0_1 x0_2 x0_3
      else
        if x0_0 = (2 : Int) then
          if x0_1 = (0 : Int) then
            if (ByteArray.size x0_2 : Int) ≤ (4000 : Int) then
              F129_term_shaped_l12 (decide ((List.length x0_3 : Int) = (0 : Int))) x0_0 x0_1 x0_2 x0_3
            else
              F129_term_shaped_l12 false x0_0 x0_1 x0_2 x0_3
          else
            F129_term_shaped_l12 false x0_0 x0_1 x0_2 x0_3
        else
          if x0_0 = (4 : Int) then
            if x0_2 = ByteArray.empty then
              F129_term_shaped_l12 (decide ((List.length x0_3 : Int) = (1 : Int))) x0_0 x0_1 x0_2 x0_3
            else
              F129_term_shaped_l12 false x0_0 x0_1 x0_2 x0_3
          else
            if x0_0 = (5 : Int) then
              if x0_1 = (0 : Int) then
                F129_term_shaped_l12 (decide (x0_2 = ByteArray.empty)) x0_0 x0_1 x0_2 x0_3
              else
                F129_term_shaped_l12 false x0_0 x0_1 x0_2 x0_3
            else
              F129_term_shaped_l12 false x0_0 x0_1 x0_2 x0_3 :=
  (F_eq (G := G) rfl fn46 rfl _).trans ((run_eq _ _ _ _).trans (by kernel_rfl))
theorem F129_term_shaped_l12_eq (v3 : Bool) (h0_0 : Int) (h0_1 : Int) (h0_2 : ByteArray) (h0_3 : (List S38)) : F129_term_shaped_l12 v3 h0_0 h0_1 h0_2 h0_3 =
    if v3 = true then
      (F156_slices_ContainsFunc_157 h0_3).bind fun y1 =>
      some ((!y1.1), ())
    else
      some (false, ()) :=
  (run_eq _ _ _ _).trans (by kernel_rfl)
theorem F156_slices_ContainsFunc_157_eq (x0 : (List S38)) : F156_slices_ContainsFunc_157 x0 =
    (F185_slices_IndexFunc_157 x0).bind fun y1 =>
    some ((decide ((0 : Int) ≤ y1.1)), ()) :=
  (F_eq (G := G) rfl fn47 rfl _).trans ((run_eq _ _ _ _).trans (by kernel_rfl))
theorem F185_slices_IndexFunc_157_eq (x0 : (List S38)) : F185_slices_IndexFunc_157 x0 =
    F185_slices_IndexFunc_157_l1000002 x0 (List.length x0 : Int) 0 :=
  (F_eq (G := G) rfl fn48 rfl _).trans ((run_eq _ _ _ _).trans (by kernel_rfl))
theorem F185_slices_IndexFunc_157_l1000002_eq (v0 : (List S38)) (v7 : Int) (v8 : Int) : F185_slices_IndexFunc_157_l1000002 v0 v7 v8 =
    if v8 < v7 then
      if (0 : Int) ≤ v8 ∧ v8 < (List.length v0 : Int) then
        (F157_term_shaped_1 (S38.f0 (rd S38.z v0 v8)) (S38.f1 (rd S38.z v0 v8)) (S38.f2 (rd S38.z v0 v8)) (S38.f3 (rd S38.z v0 v8))).bind fun y1 =>
        if y1.1 = true then
          some (v8, ())
        else
          F185_slices_IndexFunc_157_l1000002 v0 v7 (IntKind.i64.wrap (v8 + (1 : Int)))
      else
        none
    else
      some ((-1), ()) :=
  (run_eq _ _ _ _).trans (by kernel_rfl)
theorem F157_term_shaped_1_eq (x0_0 : Int) (x0_1 : Int) (x0_2 : ByteArray) (x0_3 : (List S38)) : F157_term_shaped_1 x0_0 x0_1 x0_2 x0_3 =
    (F129_term_shaped x0_0 x0_1 x0_2 x0_3).bind fun y1 =>
    some ((!y1.1), ()) :=
  (F_eq (G := G) rfl fn49 rfl _).trans ((run_eq _ _ _ _).trans (by kernel_rfl))
theorem F162_term_PutNum_eq (x0 : Int) : F162_term_PutNum x0 =
    F162_term_PutNum_l1000002 x0 [] :=
  (F_eq (G := G) rfl fn50 rfl _).trans ((run_eq _ _ _ _).trans (by kernel_rfl))
theorem F162_term_PutNum_l1000002_eq (v0 : Int) (g0 : (List Int)) : F162_term_PutNum_l1000002 v0 g0 =
    if (128 : Int) ≤ v0 then
      let e1 : (List Int) := [(bitsR .or .u8 (IntKind.u8.wrap v0) (128 : Int))]
      if (List.length g0 + List.length e1) * 1 ≤ 140737488355328 then
        F162_term_PutNum_l1000002 (shrR .u64 v0 (7 : Int)) (g0 ++ e1)
      else
        none
    else
      if (List.length g0 + List.length [(IntKind.u8.wrap v0)]) * 1 ≤ 140737488355328 then
        some ((strOf (g0 ++ [(IntKind.u8.wrap v0)])), ())
      else
        none :=
  (run_eq _ _ _ _).trans (by kernel_rfl)
theorem F124_term_clone_eq (x0_0 : Int) (x0_1 : Int) (x0_2 : ByteArray) (x0_3 : (List S38)) : F124_term_clone x0_0 x0_1 x0_2 x0_3 =
    F124_term_clone_l1000003 x0_3 (List.length x0_3 : Int) 0 x0_0 x0_1 x0_2 x0_3 0 0 ByteArray.empty [] [] :=
  (F_eq (G := G) rfl fn51 rfl _).trans ((run_eq _ _ _ _).trans (by kernel_rfl))
theorem F124_term_clone_l1000003_eq (v7 : (List S38)) (v8 : Int) (v9 : Int) (h0_0 : Int) (h0_1 : Int) (h0_2 : ByteArray) (h0_3 : (List S38)) (h1_0 : Int) (h1_1 : Int) (h1_2 : ByteArray) (g2 : (List S38)) (g3 : (List S38)) : F124_term_clone_l1000003 v7 v8 v9 h0_0 h0_1 h0_2 h0_3 h1_0 h1_1 h1_2 g2 g3 =
    if v9 < v8 then
      if (0 : Int) ≤ v9 ∧ v9 < (List.length v7 : Int) then
        (F124_term_clone (S38.f0 (rd S38.z v7 v9)) (S38.f1 (rd S38.z v7 v9)) (S38.f2 (rd S38.z v7 v9)) (S38.f3 (rd S38.z v7 v9))).bind fun y1 =>
        if (List.length g2 + List.length [(S38.mk y1.1 y1.2.1 y1.2.2.1 y1.2.2.2.1)]) * 56 ≤ 140737488355328 then
          F124_term_clone_l1000003 v7 v8 (IntKind.i64.wrap (v9 + (1 : Int))) h0_0 h0_1 h0_2 h0_3 h1_0 h1_1 h1_2 (g2 ++ [(S38.mk y1.1 y1.2.1 y1.2.2.1 y1.2.2.2.1)]) g3
        else
          none
      else
        none
    else
      some (h0_0, h0_1, h0_2, g2, ()) :=
  (run_eq _ _ _ _).trans (by kernel_rfl)
theorem F105_letheref11_Power_Spend_eq (h0_0 : Bool) (h0_1 : Int) (h0_2 : Int) : F105_letheref11_Power_Spend h0_0 h0_1 h0_2 =
    if (!h0_0) = true then
      some (110, h0_0, h0_1, h0_2, ())
    else
      if (0 : Int) < h0_1 then
        if (IntKind.i64.wrap (h0_1 - (1 : Int))) = (0 : Int) then
          some (0, false, (IntKind.i64.wrap (h0_1 - (1 : Int))), (IntKind.i64.wrap (h0_2 + (1 : Int))), ())
        else
          some (0, h0_0, (IntKind.i64.wrap (h0_1 - (1 : Int))), (IntKind.i64.wrap (h0_2 + (1 : Int))), ())
      else
        some (0, h0_0, h0_1, (IntKind.i64.wrap (h0_2 + (1 : Int))), ()) :=
  (F_eq (G := G) rfl fn52 rfl _).trans ((run_eq _ _ _ _).trans (by kernel_rfl))
theorem F104_cell_Cell_lay_eq (x1 : Int) (x2 : ByteArray) (h0_1 : ByteArray) (h0_2 : ByteArray) (h0_3 : Int) (h1_0 : Bool) (h1_1 : Int) (h1_2 : Int) : F104_cell_Cell_lay x1 x2 h0_1 h0_2 h0_3 h1_0 h1_1 h1_2 =
    (F142_power_Power_Spend h1_0 h1_1 h1_2).bind fun y1 =>
    if ¬ y1.1 = (0 : Int) then
      some (y1.1, h0_1, h0_2, h0_3, y1.2.1, y1.2.2.1, y1.2.2.2.1, ())
    else
      if x1 = (0 : Int) then
        some (0, x2, h0_2, (IntKind.i64.wrap (h0_3 + (1 : Int))), y1.2.1, y1.2.2.1, y1.2.2.2.1, ())
      else
        if x1 = (1 : Int) then
          some (0, h0_1, x2, (IntKind.i64.wrap (h0_3 + (1 : Int))), y1.2.1, y1.2.2.1, y1.2.2.2.1, ())
        else
          none :=
  (F_eq (G := G) rfl fn53 rfl _).trans ((run_eq _ _ _ _).trans (by kernel_rfl))
theorem F142_power_Power_Spend_eq (h0_0 : Bool) (h0_1 : Int) (h0_2 : Int) : F142_power_Power_Spend h0_0 h0_1 h0_2 =
    if h0_0 = true then
      some (110, h0_0, h0_1, h0_2, ())
    else
      if (0 : Int) < h0_1 then
        some (0, (decide ((IntKind.i64.wrap (h0_1 - (1 : Int))) = (0 : Int))), (IntKind.i64.wrap (h0_1 - (1 : Int))), (IntKind.i64.wrap (h0_2 + (1 : Int))), ())
      else
        some (0, h0_0, h0_1, (IntKind.i64.wrap (h0_2 + (1 : Int))), ()) :=
  (F_eq (G := G) rfl fn54 rfl _).trans ((run_eq _ _ _ _).trans (by kernel_rfl))
theorem F30_letheref17_Parse_eq (x0 : ByteArray) : F30_letheref17_Parse x0 =
    (F99_letheref02_Decode x0).bind fun y1 =>
    if ¬ y1.2.2.2.2.1 = (0 : Int) then
      F30_letheref17_Parse_l3 0 0 0 0 0 0 0
    else
      if ¬ y1.1 = (5 : Int) then
        F30_letheref17_Parse_l3 0 0 0 0 0 0 0
      else
        if ¬ (List.length y1.2.2.2.1 : Int) = (7 : Int) then
          F30_letheref17_Parse_l3 0 0 0 0 0 0 0
        else
          if (0 : Int) ≤ 1 ∧ 1 < (List.length y1.2.2.2.1 : Int) then
            if ¬ (S38.f0 (rd S38.z y1.2.2.2.1 1)) = (3 : Int) then
              F30_letheref17_Parse_l3 0 0 0 0 0 0 0
            else
              F30_letheref17_Parse_l1000005 y1.2.2.2.1 (List.length y1.2.2.2.1 : Int) 0 0 0 0 0 0 0 0 y1.1 y1.2.1 y1.2.2.1 y1.2.2.2.1
          else
            none :=
  (F_eq (G := G) rfl fn55 rfl _).trans ((run_eq _ _ _ _).trans (by kernel_rfl))
theorem F30_letheref17_Parse_l3_eq (h0_0 : Int) (h0_1 : Int) (h0_2 : Int) (h0_3 : Int) (h0_4 : Int) (h0_5 : Int) (h0_6 : Int) : F30_letheref17_Parse_l3 h0_0 h0_1 h0_2 h0_3 h0_4 h0_5 h0_6 =
    some (0, 0, 0, 0, 0, 0, 0, 170, ()) :=
  (run_eq _ _ _ _).trans (by kernel_rfl)
theorem F30_letheref17_Parse_l1000005_eq (v38 : (List S38)) (v39 : Int) (v40 : Int) (h0_0 : Int) (h0_1 : Int) (h0_2 : Int) (h0_3 : Int) (h0_4 : Int) (h0_5 : Int) (h0_6 : Int) (h1_0 : Int) (h1_1 : Int) (h1_2 : ByteArray) (h1_3 : (List S38)) : F30_letheref17_Parse_l1000005 v38 v39 v40 h0_0 h0_1 h0_2 h0_3 h0_4 h0_5 h0_6 h1_0 h1_1 h1_2 h1_3 =
    if v40 < v39 then
      if (0 : Int) ≤ v40 ∧ v40 < (List.length v38 : Int) then
        if ¬ v40 = (1 : Int) then
          (F100_letheref17_small (S38.f0 (rd S38.z v38 v40)) (S38.f1 (rd S38.z v38 v40)) (S38.f2 (rd S38.z v38 v40)) (S38.f3 (rd S38.z v38 v40))).bind fun y1 =>
          if (!y1.1) = true then
            some (0, 0, 0, 0, 0, 0, 0, 170, ())
          else
            F30_letheref17_Parse_l1000005 v38 v39 (IntKind.i64.wrap (v40 + (1 : Int))) h0_0 h0_1 h0_2 h0_3 h0_4 h0_5 h0_6 h1_0 h1_1 h1_2 h1_3
        else
          F30_letheref17_Parse_l1000005 v38 v39 (IntKind.i64.wrap (v40 + (1 : Int))) h0_0 h0_1 h0_2 h0_3 h0_4 h0_5 h0_6 h1_0 h1_1 h1_2 h1_3
      else
        none
    else
      if (0 : Int) ≤ 1 ∧ 1 < (List.length h1_3 : Int) then
        if (0 : Int) ≤ 2 ∧ 2 < (List.length h1_3 : Int) then
          if (0 : Int) ≤ 3 ∧ 3 < (List.length h1_3 : Int) then
            if (0 : Int) ≤ 4 ∧ 4 < (List.length h1_3 : Int) then
              if (0 : Int) ≤ 0 ∧ 0 < (List.length h1_3 : Int) then
                if (0 : Int) ≤ 5 ∧ 5 < (List.length h1_3 : Int) then
                  if (0 : Int) ≤ 6 ∧ 6 < (List.length h1_3 : Int) then
                    (F35_letheref17_Right (IntKind.i64.wrap (S38.f1 (rd S38.z h1_3 0))) (S38.f1 (rd S38.z h1_3 1)) (IntKind.i64.wrap (S38.f1 (rd S38.z h1_3 2))) (IntKind.i64.wrap (S38.f1 (rd S38.z h1_3 3))) (IntKind.i64.wrap (S38.f1 (rd S38.z h1_3 4))) (IntKind.i64.wrap (S38.f1 (rd S38.z h1_3 5))) (IntKind.i64.wrap (S38.f1 (rd S38.z h1_3 6)))).bind fun y2 =>
                    if (!y2.1) = true then
                      some (0, 0, 0, 0, 0, 0, 0, 170, ())
                    else
                      some ((IntKind.i64.wrap (S38.f1 (rd S38.z h1_3 0))), (S38.f1 (rd S38.z h1_3 1)), (IntKind.i64.wrap (S38.f1 (rd S38.z h1_3 2))), (IntKind.i64.wrap (S38.f1 (rd S38.z h1_3 3))), (IntKind.i64.wrap (S38.f1 (rd S38.z h1_3 4))), (IntKind.i64.wrap (S38.f1 (rd S38.z h1_3 5))), (IntKind.i64.wrap (S38.f1 (rd S38.z h1_3 6))), 0, ())
                  else
                    none
                else
                  none
              else
                none
            else
              none
          else
            none
        else
          none
      else
        none :=
  (run_eq _ _ _ _).trans (by kernel_rfl)
theorem F99_letheref02_Decode_eq (x0 : ByteArray) : F99_letheref02_Decode x0 =
    (F141_letheref02_read x0 0 0 0).bind fun y1 =>
    if ¬ y1.2.2.2.2.2.2.1 = (0 : Int) then
      some (0, 0, ByteArray.empty, [], y1.2.2.2.2.2.2.1, ())
    else
      if y1.2.2.2.2.1 < (ByteArray.size x0 : Int) then
        some (0, 0, ByteArray.empty, [], 24, ())
      else
        some (y1.1, y1.2.1, y1.2.2.1, y1.2.2.2.1, 0, ()) :=
  (F_eq (G := G) rfl fn56 rfl _).trans ((run_eq _ _ _ _).trans (by kernel_rfl))
theorem F100_letheref17_small_eq (x0_0 : Int) (x0_1 : Int) (x0_2 : ByteArray) (x0_3 : (List S38)) : F100_letheref17_small x0_0 x0_1 x0_2 x0_3 =
    if x0_0 = (1 : Int) then
      some ((decide (x0_1 ≤ (2147483647 : Int))), ())
    else
      some (false, ()) :=
  (F_eq (G := G) rfl fn57 rfl _).trans ((run_eq _ _ _ _).trans (by kernel_rfl))
theorem F141_letheref02_read_eq (x0 : ByteArray) (x1 : Int) (x2 : Int) (x3 : Int) : F141_letheref02_read x0 x1 x2 x3 =
    if (4000 : Int) ≤ x2 then
      (F164_letheref02_wrong 23).bind fun y1 =>
      some (y1.1, y1.2.1, y1.2.2.1, y1.2.2.2.1, y1.2.2.2.2.1, y1.2.2.2.2.2.1, y1.2.2.2.2.2.2.1, ())
    else
      if (12 : Int) ≤ x3 then
        (F164_letheref02_wrong 22).bind fun y2 =>
        some (y2.1, y2.2.1, y2.2.2.1, y2.2.2.2.1, y2.2.2.2.2.1, y2.2.2.2.2.2.1, y2.2.2.2.2.2.2.1, ())
      else
        if (ByteArray.size x0 : Int) ≤ x1 then
          (F164_letheref02_wrong 20).bind fun y3 =>
          some (y3.1, y3.2.1, y3.2.2.1, y3.2.2.2.1, y3.2.2.2.2.1, y3.2.2.2.2.2.1, y3.2.2.2.2.2.2.1, ())
        else
          if (0 : Int) ≤ x1 ∧ x1 < (ByteArray.size x0 : Int) then
            if (IntKind.i64.wrap (bt x0 x1)) < (1 : Int) then
              (F164_letheref02_wrong 21).bind fun y4 =>
              some (y4.1, y4.2.1, y4.2.2.1, y4.2.2.2.1, y4.2.2.2.2.1, y4.2.2.2.2.2.1, y4.2.2.2.2.2.2.1, ())
            else
              if (5 : Int) < (IntKind.i64.wrap (bt x0 x1)) then
                (F164_letheref02_wrong 21).bind fun y5 =>
                some (y5.1, y5.2.1, y5.2.2.1, y5.2.2.2.1, y5.2.2.2.2.1, y5.2.2.2.2.2.1, y5.2.2.2.2.2.2.1, ())
              else
                let e6 : ByteArray := subS x0 (IntKind.i64.wrap (x1 + (1 : Int))) (ByteArray.size x0 : Int)
                if (0 : Int) ≤ (IntKind.i64.wrap (x1 + (1 : Int))) ∧ (IntKind.i64.wrap (x1 + (1 : Int))) ≤ (ByteArray.size x0 : Int) ∧ (ByteArray.size x0 : Int) ≤ (ByteArray.size x0 : Int) then
                  (F165_letheref02_GetNum e6).bind fun y7 =>
                  if ¬ y7.2.2.1 = (0 : Int) then
                    (F164_letheref02_wrong y7.2.2.1).bind fun y8 =>
                    some (y8.1, y8.2.1, y8.2.2.1, y8.2.2.2.1, y8.2.2.2.2.1, y8.2.2.2.2.2.1, y8.2.2.2.2.2.2.1, ())
                  else
                    let e9 : Int := IntKind.i64.wrap ((IntKind.i64.wrap (x1 + (1 : Int))) + y7.2.1)
                    if (IntKind.i64.wrap (bt x0 x1)) = (1 : Int) then
                      if (IntKind.i64.wrap (bt x0 x1)) = (1 : Int) then
                        some ((IntKind.i64.wrap (bt x0 x1)), y7.1, ByteArray.empty, [], e9, (IntKind.i64.wrap (x2 + (1 : Int))), 0, ())
                      else
                        if (IntKind.i64.wrap (bt x0 x1)) = (2 : Int) then
                          (F166_letheref02_atom x0 (IntKind.i64.wrap (bt x0 x1)) 0 ByteArray.empty [] e9 (IntKind.i64.wrap (x2 + (1 : Int))) 0 y7.1).bind fun y10 =>
                          some (y10.1, y10.2.1, y10.2.2.1, y10.2.2.2.1, y10.2.2.2.2.1, y10.2.2.2.2.2.1, y10.2.2.2.2.2.2.1, ())
                        else
                          if (IntKind.i64.wrap (bt x0 x1)) = (4 : Int) then
                            (F167_letheref02_more x0 (IntKind.i64.wrap (bt x0 x1)) y7.1 ByteArray.empty e9 (IntKind.i64.wrap (x2 + (1 : Int))) 0 1 x3 []).bind fun y11 =>
                            some (y11.1, y11.2.1, y11.2.2.1, y11.2.2.2.1, y11.2.2.2.2.1, y11.2.2.2.2.2.1, y11.2.2.2.2.2.2.1, ())
                          else
                            (F167_letheref02_more x0 (IntKind.i64.wrap (bt x0 x1)) 0 ByteArray.empty e9 (IntKind.i64.wrap (x2 + (1 : Int))) 0 y7.1 x3 []).bind fun y12 =>
                            some (y12.1, y12.2.1, y12.2.2.1, y12.2.2.2.1, y12.2.2.2.2.1, y12.2.2.2.2.2.1, y12.2.2.2.2.2.2.1, ())
                    else
                      if (IntKind.i64.wrap (bt x0 x1)) = (3 : Int) then
                        some ((IntKind.i64.wrap (bt x0 x1)), y7.1, ByteArray.empty, [], e9, (IntKind.i64.wrap (x2 + (1 : Int))), 0, ())
                      else
                        if (IntKind.i64.wrap (bt x0 x1)) = (2 : Int) then
                          (F166_letheref02_atom x0 (IntKind.i64.wrap (bt x0 x1)) 0 ByteArray.empty [] e9 (IntKind.i64.wrap (x2 + (1 : Int))) 0 y7.1).bind fun y13 =>
                          some (y13.1, y13.2.1, y13.2.2.1, y13.2.2.2.1, y13.2.2.2.2.1, y13.2.2.2.2.2.1, y13.2.2.2.2.2.2.1, ())
                        else
                          if (IntKind.i64.wrap (bt x0 x1)) = (4 : Int) then
                            (F167_letheref02_more x0 (IntKind.i64.wrap (bt x0 x1)) y7.1 ByteArray.empty e9 (IntKind.i64.wrap (x2 + (1 : Int))) 0 1 x3 []).bind fun y14 =>
                            some (y14.1, y14.2.1, y14.2.2.1, y14.2.2.2.1, y14.2.2.2.2.1, y14.2.2.2.2.2.1, y14.2.2.2.2.2.2.1, ())
                          else
                            (F167_letheref02_more x0 (IntKind.i64.wrap (bt x0 x1)) 0 ByteArray.empty e9 (IntKind.i64.wrap (x2 + (1 : Int))) 0 y7.1 x3 []).bind fun y15 =>
                            some (y15.1, y15.2.1, y15.2.2.1, y15.2.2.2.1, y15.2.2.2.2.1, y15.2.2.2.2.2.1, y15.2.2.2.2.2.2.1, ())
                else
                  none
          else
            none :=
  (F_eq (G := G) rfl fn58 rfl _).trans ((run_eq _ _ _ _).trans (by kernel_rfl))
theorem F164_letheref02_wrong_eq (x0 : Int) : F164_letheref02_wrong x0 =
    some (0, 0, ByteArray.empty, [], 0, 0, x0, ()) :=
  (F_eq (G := G) rfl fn59 rfl _).trans ((run_eq _ _ _ _).trans (by kernel_rfl))
theorem F165_letheref02_GetNum_eq (x0 : ByteArray) : F165_letheref02_GetNum x0 =
    F165_letheref02_GetNum_l1000004 x0 0 1 0 :=
  (F_eq (G := G) rfl fn60 rfl _).trans ((run_eq _ _ _ _).trans (by kernel_rfl))
theorem F165_letheref02_GetNum_l1000004_eq (v0 : ByteArray) (v5 : Int) (v6 : Int) (v7 : Int) : F165_letheref02_GetNum_l1000004 v0 v5 v6 v7 =
    if v7 < (ByteArray.size v0 : Int) then
      if v7 < (10 : Int) then
        if v7 = (9 : Int) then
          if (0 : Int) ≤ v7 ∧ v7 < (ByteArray.size v0 : Int) then
            if (1 : Int) < (bt v0 v7) then
              some (0, 0, 21, ())
            else
              if (0 : Int) ≤ v7 ∧ v7 < (ByteArray.size v0 : Int) then
                let e1 : Int := IntKind.u64.wrap (Int.tmod (bt v0 v7) (128 : Int))
                let e2 : Int := IntKind.u64.wrap (v5 + (IntKind.u64.wrap (e1 * v6)))
                if (0 : Int) ≤ v7 ∧ v7 < (ByteArray.size v0 : Int) then
                  if (bt v0 v7) < (128 : Int) then
                    if (0 : Int) ≤ v7 ∧ v7 < (ByteArray.size v0 : Int) then
                      if (bt v0 v7) = (0 : Int) then
                        if (0 : Int) < v7 then
                          some (0, 0, 21, ())
                        else
                          F165_letheref02_GetNum_l13 e2 v7
                      else
                        F165_letheref02_GetNum_l13 e2 v7
                    else
                      none
                  else
                    F165_letheref02_GetNum_l1000004 v0 e2 (IntKind.u64.wrap (v6 * (128 : Int))) (IntKind.i64.wrap (v7 + (1 : Int)))
                else
                  none
              else
                none
          else
            none
        else
          if (0 : Int) ≤ v7 ∧ v7 < (ByteArray.size v0 : Int) then
            let e3 : Int := IntKind.u64.wrap (Int.tmod (bt v0 v7) (128 : Int))
            let e4 : Int := IntKind.u64.wrap (v5 + (IntKind.u64.wrap (e3 * v6)))
            if (0 : Int) ≤ v7 ∧ v7 < (ByteArray.size v0 : Int) then
              if (bt v0 v7) < (128 : Int) then
                if (0 : Int) ≤ v7 ∧ v7 < (ByteArray.size v0 : Int) then
                  if (bt v0 v7) = (0 : Int) then
                    if (0 : Int) < v7 then
                      some (0, 0, 21, ())
                    else
                      F165_letheref02_GetNum_l13 e4 v7
                  else
                    F165_letheref02_GetNum_l13 e4 v7
                else
                  none
              else
                F165_letheref02_GetNum_l1000004 v0 e4 (IntKind.u64.wrap (v6 * (128 : Int))) (IntKind.i64.wrap (v7 + (1 : Int)))
            else
              none
          else
            none
      else
        some (0, 0, 20, ())
    else
      some (0, 0, 20, ()) :=
  (run_eq _ _ _ _).trans (by kernel_rfl)
theorem F165_letheref02_GetNum_l13_eq (v5 : Int) (v7 : Int) : F165_letheref02_GetNum_l13 v5 v7 =
    some (v5, (IntKind.i64.wrap (v7 + (1 : Int))), 0, ()) :=
  (run_eq _ _ _ _).trans (by kernel_rfl)
theorem F166_letheref02_atom_eq (x0 : ByteArray) (x1_0 : Int) (x1_1 : Int) (x1_2 : ByteArray) (x1_3 : (List S38)) (x1_4 : Int) (x1_5 : Int) (x1_6 : Int) (x2 : Int) : F166_letheref02_atom x0 x1_0 x1_1 x1_2 x1_3 x1_4 x1_5 x1_6 x2 =
    if (4000 : Int) < x2 then
      (F164_letheref02_wrong 25).bind fun y1 =>
      some (y1.1, y1.2.1, y1.2.2.1, y1.2.2.2.1, y1.2.2.2.2.1, y1.2.2.2.2.2.1, y1.2.2.2.2.2.2.1, ())
    else
      let e2 : Int := IntKind.i64.wrap ((ByteArray.size x0 : Int) - x1_4)
      if e2 < (IntKind.i64.wrap x2) then
        (F164_letheref02_wrong 20).bind fun y3 =>
        some (y3.1, y3.2.1, y3.2.2.1, y3.2.2.2.1, y3.2.2.2.2.1, y3.2.2.2.2.2.1, y3.2.2.2.2.2.2.1, ())
      else
        let e4 : ByteArray := subS x0 x1_4 (IntKind.i64.wrap (x1_4 + (IntKind.i64.wrap x2)))
        if (0 : Int) ≤ x1_4 ∧ x1_4 ≤ (IntKind.i64.wrap (x1_4 + (IntKind.i64.wrap x2))) ∧ (IntKind.i64.wrap (x1_4 + (IntKind.i64.wrap x2))) ≤ (ByteArray.size x0 : Int) then
          some (x1_0, x1_1, e4, x1_3, (IntKind.i64.wrap (x1_4 + (IntKind.i64.wrap x2))), x1_5, x1_6, ())
        else
          none :=
  (F_eq (G := G) rfl fn61 rfl _).trans ((run_eq _ _ _ _).trans (by kernel_rfl))
theorem F167_letheref02_more_eq (x0 : ByteArray) (x1_0 : Int) (x1_1 : Int) (x1_2 : ByteArray) (x1_4 : Int) (x1_5 : Int) (x1_6 : Int) (x2 : Int) (x3 : Int) (g0 : (List S38)) : F167_letheref02_more x0 x1_0 x1_1 x1_2 x1_4 x1_5 x1_6 x2 x3 g0 =
    F167_letheref02_more_l1000001 x0 x2 x3 g0 x1_0 x1_1 x1_2 x1_4 x1_5 x1_6 0 0 ByteArray.empty 0 0 0 [] :=
  (F_eq (G := G) rfl fn62 rfl _).trans ((run_eq _ _ _ _).trans (by kernel_rfl))
theorem F167_letheref02_more_l1000001_eq (v0 : ByteArray) (v2 : Int) (v3 : Int) (g0 : (List S38)) (h1_0 : Int) (h1_1 : Int) (h1_2 : ByteArray) (h1_4 : Int) (h1_5 : Int) (h1_6 : Int) (h2_0 : Int) (h2_1 : Int) (h2_2 : ByteArray) (h2_4 : Int) (h2_5 : Int) (h2_6 : Int) (g3 : (List S38)) : F167_letheref02_more_l1000001 v0 v2 v3 g0 h1_0 h1_1 h1_2 h1_4 h1_5 h1_6 h2_0 h2_1 h2_2 h2_4 h2_5 h2_6 g3 =
    if (0 : Int) < v2 then
      (F141_letheref02_read v0 h1_4 h1_5 (IntKind.i64.wrap (v3 + (1 : Int)))).bind fun y1 =>
      if ¬ y1.2.2.2.2.2.2.1 = (0 : Int) then
        some (y1.1, y1.2.1, y1.2.2.1, y1.2.2.2.1, y1.2.2.2.2.1, y1.2.2.2.2.2.1, y1.2.2.2.2.2.2.1, ())
      else
        if (List.length g0 + List.length [(S38.mk y1.1 y1.2.1 y1.2.2.1 y1.2.2.2.1)]) * 56 ≤ 140737488355328 then
          F167_letheref02_more_l1000001_1 v0 (IntKind.u64.wrap (v2 - (1 : Int))) v3 h1_0 h1_1 h1_2 y1.2.2.2.2.1 y1.2.2.2.2.2.1 h1_6 h2_0 h2_1 h2_2 h2_4 h2_5 h2_6 (g0 ++ [(S38.mk y1.1 y1.2.1 y1.2.2.1 y1.2.2.2.1)]) g3
        else
          none
    else
      some (h1_0, h1_1, h1_2, g0, h1_4, h1_5, h1_6, ()) :=
  (run_eq _ _ _ _).trans (by kernel_rfl)
theorem F167_letheref02_more_l1000001_1_eq (v0 : ByteArray) (v2 : Int) (v3 : Int) (h1_0 : Int) (h1_1 : Int) (h1_2 : ByteArray) (h1_4 : Int) (h1_5 : Int) (h1_6 : Int) (h2_0 : Int) (h2_1 : Int) (h2_2 : ByteArray) (h2_4 : Int) (h2_5 : Int) (h2_6 : Int) (g3 : (List S38)) (g4 : (List S38)) : F167_letheref02_more_l1000001_1 v0 v2 v3 h1_0 h1_1 h1_2 h1_4 h1_5 h1_6 h2_0 h2_1 h2_2 h2_4 h2_5 h2_6 g3 g4 =
    if (0 : Int) < v2 then
      (F141_letheref02_read v0 h1_4 h1_5 (IntKind.i64.wrap (v3 + (1 : Int)))).bind fun y1 =>
      if ¬ y1.2.2.2.2.2.2.1 = (0 : Int) then
        some (y1.1, y1.2.1, y1.2.2.1, y1.2.2.2.1, y1.2.2.2.2.1, y1.2.2.2.2.2.1, y1.2.2.2.2.2.2.1, ())
      else
        if (List.length g3 + List.length [(S38.mk y1.1 y1.2.1 y1.2.2.1 y1.2.2.2.1)]) * 56 ≤ 140737488355328 then
          F167_letheref02_more_l1000001_1 v0 (IntKind.u64.wrap (v2 - (1 : Int))) v3 h1_0 h1_1 h1_2 y1.2.2.2.2.1 y1.2.2.2.2.2.1 h1_6 h2_0 h2_1 h2_2 h2_4 h2_5 h2_6 (g3 ++ [(S38.mk y1.1 y1.2.1 y1.2.2.1 y1.2.2.2.1)]) g4
        else
          none
    else
      some (h1_0, h1_1, h1_2, g3, h1_4, h1_5, h1_6, ()) :=
  (run_eq _ _ _ _).trans (by kernel_rfl)
theorem F29_commit_Parse_eq (x0 : ByteArray) : F29_commit_Parse x0 =
    (F98_term_Decode x0).bind fun y1 =>
    if ¬ y1.2.2.2.2.1 = (0 : Int) then
      some (0, 0, 0, 0, 0, 0, 0, 170, ())
    else
      if ¬ y1.1 = (5 : Int) then
        some (0, 0, 0, 0, 0, 0, 0, 170, ())
      else
        if ¬ (List.length y1.2.2.2.1 : Int) = (7 : Int) then
          some (0, 0, 0, 0, 0, 0, 0, 170, ())
        else
          F29_commit_Parse_l1000006 x0 y1.2.2.2.1 (List.length y1.2.2.2.1 : Int) 0 0 0 0 0 0 0 0 y1.1 y1.2.1 y1.2.2.1 y1.2.2.2.1 0 0 0 0 0 0 0 :=
  (F_eq (G := G) rfl fn63 rfl _).trans ((run_eq _ _ _ _).trans (by kernel_rfl))
theorem F29_commit_Parse_l1000006_eq (v0 : ByteArray) (v32 : (List S38)) (v33 : Int) (v34 : Int) (h0_0 : Int) (h0_1 : Int) (h0_2 : Int) (h0_3 : Int) (h0_4 : Int) (h0_5 : Int) (h0_6 : Int) (h1_0 : Int) (h1_1 : Int) (h1_2 : ByteArray) (h1_3 : (List S38)) (h2_0 : Int) (h2_1 : Int) (h2_2 : Int) (h2_3 : Int) (h2_4 : Int) (h2_5 : Int) (h2_6 : Int) : F29_commit_Parse_l1000006 v0 v32 v33 v34 h0_0 h0_1 h0_2 h0_3 h0_4 h0_5 h0_6 h1_0 h1_1 h1_2 h1_3 h2_0 h2_1 h2_2 h2_3 h2_4 h2_5 h2_6 =
    if v34 < v33 then
      if (0 : Int) ≤ v34 ∧ v34 < (List.length v32 : Int) then
        let e1 : Int := IntKind.i64.wrap (mn (S38.f1 (rd S38.z v32 v34)) 2147483648)
        if v34 = (0 : Int) then
          F29_commit_Parse_l9 v0 v32 v33 v34 h0_0 h0_1 h0_2 h0_3 h0_4 h0_5 h0_6 h1_0 h1_1 h1_2 h1_3 e1 h2_1 h2_2 h2_3 h2_4 h2_5 h2_6
        else
          if v34 = (1 : Int) then
            F29_commit_Parse_l9 v0 v32 v33 v34 h0_0 h0_1 h0_2 h0_3 h0_4 h0_5 h0_6 h1_0 h1_1 h1_2 h1_3 h2_0 e1 h2_2 h2_3 h2_4 h2_5 h2_6
          else
            if v34 = (2 : Int) then
              F29_commit_Parse_l9 v0 v32 v33 v34 h0_0 h0_1 h0_2 h0_3 h0_4 h0_5 h0_6 h1_0 h1_1 h1_2 h1_3 h2_0 h2_1 e1 h2_3 h2_4 h2_5 h2_6
            else
              if v34 = (3 : Int) then
                F29_commit_Parse_l9 v0 v32 v33 v34 h0_0 h0_1 h0_2 h0_3 h0_4 h0_5 h0_6 h1_0 h1_1 h1_2 h1_3 h2_0 h2_1 h2_2 e1 h2_4 h2_5 h2_6
              else
                if v34 = (4 : Int) then
                  F29_commit_Parse_l9 v0 v32 v33 v34 h0_0 h0_1 h0_2 h0_3 h0_4 h0_5 h0_6 h1_0 h1_1 h1_2 h1_3 h2_0 h2_1 h2_2 h2_3 e1 h2_5 h2_6
                else
                  if v34 = (5 : Int) then
                    F29_commit_Parse_l9 v0 v32 v33 v34 h0_0 h0_1 h0_2 h0_3 h0_4 h0_5 h0_6 h1_0 h1_1 h1_2 h1_3 h2_0 h2_1 h2_2 h2_3 h2_4 e1 h2_6
                  else
                    if v34 = (6 : Int) then
                      F29_commit_Parse_l9 v0 v32 v33 v34 h0_0 h0_1 h0_2 h0_3 h0_4 h0_5 h0_6 h1_0 h1_1 h1_2 h1_3 h2_0 h2_1 h2_2 h2_3 h2_4 h2_5 e1
                    else
                      none
      else
        none
    else
      if (0 : Int) ≤ 1 ∧ 1 < (List.length h1_3 : Int) then
        (F27_commit_Bytes h2_0 (S38.f1 (rd S38.z h1_3 1)) h2_2 h2_3 h2_4 h2_5 h2_6).bind fun y2 =>
        if ¬ y2.2.1 = (0 : Int) then
          some (0, 0, 0, 0, 0, 0, 0, 170, ())
        else
          if ¬ y2.1 = v0 then
            some (0, 0, 0, 0, 0, 0, 0, 170, ())
          else
            some (h2_0, (S38.f1 (rd S38.z h1_3 1)), h2_2, h2_3, h2_4, h2_5, h2_6, 0, ())
      else
        none :=
  (run_eq _ _ _ _).trans (by kernel_rfl)
theorem F29_commit_Parse_l9_eq (v0 : ByteArray) (v32 : (List S38)) (v33 : Int) (v34 : Int) (h0_0 : Int) (h0_1 : Int) (h0_2 : Int) (h0_3 : Int) (h0_4 : Int) (h0_5 : Int) (h0_6 : Int) (h1_0 : Int) (h1_1 : Int) (h1_2 : ByteArray) (h1_3 : (List S38)) (h2_0 : Int) (h2_1 : Int) (h2_2 : Int) (h2_3 : Int) (h2_4 : Int) (h2_5 : Int) (h2_6 : Int) : F29_commit_Parse_l9 v0 v32 v33 v34 h0_0 h0_1 h0_2 h0_3 h0_4 h0_5 h0_6 h1_0 h1_1 h1_2 h1_3 h2_0 h2_1 h2_2 h2_3 h2_4 h2_5 h2_6 =
    F29_commit_Parse_l1000006 v0 v32 v33 (IntKind.i64.wrap (v34 + (1 : Int))) h0_0 h0_1 h0_2 h0_3 h0_4 h0_5 h0_6 h1_0 h1_1 h1_2 h1_3 h2_0 h2_1 h2_2 h2_3 h2_4 h2_5 h2_6 :=
  (run_eq _ _ _ _).trans (by kernel_rfl)
theorem F98_term_Decode_eq (x0 : ByteArray) : F98_term_Decode x0 =
    (F140_term_reader_term 0 x0 0).bind fun y1 =>
    if ¬ y1.2.2.2.2.1 = (0 : Int) then
      some (0, 0, ByteArray.empty, [], y1.2.2.2.2.1, ())
    else
      if ¬ y1.2.2.2.2.2.1 = ByteArray.empty then
        some (0, 0, ByteArray.empty, [], 24, ())
      else
        some (y1.1, y1.2.1, y1.2.2.1, y1.2.2.2.1, 0, ()) :=
  (F_eq (G := G) rfl fn64 rfl _).trans ((run_eq _ _ _ _).trans (by kernel_rfl))
theorem F140_term_reader_term_eq (x1 : Int) (h0_0 : ByteArray) (h0_1 : Int) : F140_term_reader_term x1 h0_0 h0_1 =
    (F163_term_reader_head x1 h0_0 h0_1).bind fun y1 =>
    if ¬ y1.2.2.1 = (0 : Int) then
      some (0, 0, ByteArray.empty, [], y1.2.2.1, y1.2.2.2.1, y1.2.2.2.2.1, ())
    else
      if y1.1 = (1 : Int) then
        if y1.1 = (1 : Int) then
          F140_term_reader_term_l1000022 x1 0 y1.2.2.2.1 y1.2.2.2.2.1 0 0 ByteArray.empty y1.1 y1.2.1 ByteArray.empty [] []
        else
          if y1.1 = (2 : Int) then
            if (4000 : Int) < y1.2.1 then
              some (0, 0, ByteArray.empty, [], 25, y1.2.2.2.1, y1.2.2.2.2.1, ())
            else
              let e2 : Int := IntKind.u64.wrap (ByteArray.size y1.2.2.2.1 : Int)
              if e2 < y1.2.1 then
                some (0, 0, ByteArray.empty, [], 20, y1.2.2.2.1, y1.2.2.2.2.1, ())
              else
                if (0 : Int) ≤ 0 ∧ (0 : Int) ≤ y1.2.1 ∧ y1.2.1 ≤ (ByteArray.size y1.2.2.2.1 : Int) then
                  let e3 : ByteArray := subS y1.2.2.2.1 y1.2.1 (ByteArray.size y1.2.2.2.1 : Int)
                  if (0 : Int) ≤ y1.2.1 ∧ y1.2.1 ≤ (ByteArray.size y1.2.2.2.1 : Int) ∧ (ByteArray.size y1.2.2.2.1 : Int) ≤ (ByteArray.size y1.2.2.2.1 : Int) then
                    F140_term_reader_term_l1000022 x1 0 e3 y1.2.2.2.2.1 0 0 ByteArray.empty y1.1 0 (subS y1.2.2.2.1 0 y1.2.1) [] []
                  else
                    none
                else
                  none
          else
            if y1.1 = (4 : Int) then
              F140_term_reader_term_l1000022 x1 1 y1.2.2.2.1 y1.2.2.2.2.1 0 0 ByteArray.empty y1.1 y1.2.1 ByteArray.empty [] []
            else
              if y1.1 = (5 : Int) then
                F140_term_reader_term_l1000022 x1 y1.2.1 y1.2.2.2.1 y1.2.2.2.2.1 0 0 ByteArray.empty y1.1 0 ByteArray.empty [] []
              else
                F140_term_reader_term_l1000022 x1 0 y1.2.2.2.1 y1.2.2.2.2.1 0 0 ByteArray.empty y1.1 0 ByteArray.empty [] []
      else
        if y1.1 = (3 : Int) then
          F140_term_reader_term_l1000022 x1 0 y1.2.2.2.1 y1.2.2.2.2.1 0 0 ByteArray.empty y1.1 y1.2.1 ByteArray.empty [] []
        else
          if y1.1 = (2 : Int) then
            if (4000 : Int) < y1.2.1 then
              some (0, 0, ByteArray.empty, [], 25, y1.2.2.2.1, y1.2.2.2.2.1, ())
            else
              let e4 : Int := IntKind.u64.wrap (ByteArray.size y1.2.2.2.1 : Int)
              if e4 < y1.2.1 then
                some (0, 0, ByteArray.empty, [], 20, y1.2.2.2.1, y1.2.2.2.2.1, ())
              else
                if (0 : Int) ≤ 0 ∧ (0 : Int) ≤ y1.2.1 ∧ y1.2.1 ≤ (ByteArray.size y1.2.2.2.1 : Int) then
                  let e5 : ByteArray := subS y1.2.2.2.1 y1.2.1 (ByteArray.size y1.2.2.2.1 : Int)
                  if (0 : Int) ≤ y1.2.1 ∧ y1.2.1 ≤ (ByteArray.size y1.2.2.2.1 : Int) ∧ (ByteArray.size y1.2.2.2.1 : Int) ≤ (ByteArray.size y1.2.2.2.1 : Int) then
                    F140_term_reader_term_l1000022 x1 0 e5 y1.2.2.2.2.1 0 0 ByteArray.empty y1.1 0 (subS y1.2.2.2.1 0 y1.2.1) [] []
                  else
                    none
                else
                  none
          else
            if y1.1 = (4 : Int) then
              F140_term_reader_term_l1000022 x1 1 y1.2.2.2.1 y1.2.2.2.2.1 0 0 ByteArray.empty y1.1 y1.2.1 ByteArray.empty [] []
            else
              if y1.1 = (5 : Int) then
                F140_term_reader_term_l1000022 x1 y1.2.1 y1.2.2.2.1 y1.2.2.2.2.1 0 0 ByteArray.empty y1.1 0 ByteArray.empty [] []
              else
                F140_term_reader_term_l1000022 x1 0 y1.2.2.2.1 y1.2.2.2.2.1 0 0 ByteArray.empty y1.1 0 ByteArray.empty [] [] :=
  (F_eq (G := G) rfl fn65 rfl _).trans ((run_eq _ _ _ _).trans (by kernel_rfl))
theorem F140_term_reader_term_l1000022_eq (v1 : Int) (v10 : Int) (h0_0 : ByteArray) (h0_1 : Int) (h1_0 : Int) (h1_1 : Int) (h1_2 : ByteArray) (h2_0 : Int) (h2_1 : Int) (h2_2 : ByteArray) (g3 : (List S38)) (g4 : (List S38)) : F140_term_reader_term_l1000022 v1 v10 h0_0 h0_1 h1_0 h1_1 h1_2 h2_0 h2_1 h2_2 g3 g4 =
    if (0 : Int) < v10 then
      (F140_term_reader_term (IntKind.i64.wrap (v1 + (1 : Int))) h0_0 h0_1).bind fun y1 =>
      if ¬ y1.2.2.2.2.1 = (0 : Int) then
        some (0, 0, ByteArray.empty, [], y1.2.2.2.2.1, y1.2.2.2.2.2.1, y1.2.2.2.2.2.2.1, ())
      else
        if (List.length g4 + List.length [(S38.mk y1.1 y1.2.1 y1.2.2.1 y1.2.2.2.1)]) * 56 ≤ 140737488355328 then
          F140_term_reader_term_l1000022 v1 (IntKind.u64.wrap (v10 - (1 : Int))) y1.2.2.2.2.2.1 y1.2.2.2.2.2.2.1 h1_0 h1_1 h1_2 h2_0 h2_1 h2_2 g3 (g4 ++ [(S38.mk y1.1 y1.2.1 y1.2.2.1 y1.2.2.2.1)])
        else
          none
    else
      some (h2_0, h2_1, h2_2, g4, 0, h0_0, h0_1, ()) :=
  (run_eq _ _ _ _).trans (by kernel_rfl)
theorem F163_term_reader_head_eq (x1 : Int) (h0_0 : ByteArray) (h0_1 : Int) : F163_term_reader_head x1 h0_0 h0_1 =
    if (4000 : Int) ≤ h0_1 then
      some (0, 0, 23, h0_0, h0_1, ())
    else
      if (12 : Int) ≤ x1 then
        some (0, 0, 22, h0_0, h0_1, ())
      else
        if h0_0 = ByteArray.empty then
          some (0, 0, 20, h0_0, h0_1, ())
        else
          if (0 : Int) ≤ 0 ∧ 0 < (ByteArray.size h0_0 : Int) then
            if (IntKind.i64.wrap (bt h0_0 0)) < (1 : Int) then
              some (0, 0, 21, h0_0, (IntKind.i64.wrap (h0_1 + (1 : Int))), ())
            else
              if (5 : Int) < (IntKind.i64.wrap (bt h0_0 0)) then
                some (0, 0, 21, h0_0, (IntKind.i64.wrap (h0_1 + (1 : Int))), ())
              else
                if (0 : Int) ≤ 1 ∧ (1 : Int) ≤ (ByteArray.size h0_0 : Int) ∧ (ByteArray.size h0_0 : Int) ≤ (ByteArray.size h0_0 : Int) then
                  (F186_term_GetNum (subS h0_0 1 (ByteArray.size h0_0 : Int))).bind fun y1 =>
                  if ¬ y1.2.2.1 = (0 : Int) then
                    some (0, 0, y1.2.2.1, h0_0, (IntKind.i64.wrap (h0_1 + (1 : Int))), ())
                  else
                    let e2 : ByteArray := subS h0_0 (IntKind.i64.wrap ((1 : Int) + y1.2.1)) (ByteArray.size h0_0 : Int)
                    if (0 : Int) ≤ (IntKind.i64.wrap ((1 : Int) + y1.2.1)) ∧ (IntKind.i64.wrap ((1 : Int) + y1.2.1)) ≤ (ByteArray.size h0_0 : Int) ∧ (ByteArray.size h0_0 : Int) ≤ (ByteArray.size h0_0 : Int) then
                      some ((IntKind.i64.wrap (bt h0_0 0)), y1.1, 0, e2, (IntKind.i64.wrap (h0_1 + (1 : Int))), ())
                    else
                      none
                else
                  none
          else
            none :=
  (F_eq (G := G) rfl fn66 rfl _).trans ((run_eq _ _ _ _).trans (by kernel_rfl))
theorem F186_term_GetNum_eq (x0 : ByteArray) : F186_term_GetNum x0 =
    F186_term_GetNum_l1000003 x0 0 0 :=
  (F_eq (G := G) rfl fn67 rfl _).trans ((run_eq _ _ _ _).trans (by kernel_rfl))
theorem F186_term_GetNum_l1000003_eq (v0 : ByteArray) (v5 : Int) (v6 : Int) : F186_term_GetNum_l1000003 v0 v5 v6 =
    if v6 < (ByteArray.size v0 : Int) then
      if (0 : Int) ≤ v6 ∧ v6 < (ByteArray.size v0 : Int) then
        if v6 = (9 : Int) then
          if (1 : Int) < (bt v0 v6) then
            some (0, 0, 21, ())
          else
            let e1 : Int := IntKind.u64.wrap (bitsR .and .u8 (bt v0 v6) (127 : Int))
            let e2 : Int := IntKind.u64.wrap (IntKind.i64.wrap ((7 : Int) * v6))
            if 0 ≤ e2 then
              if (shrR .u8 (bt v0 v6) (7 : Int)) = (0 : Int) then
                if (bt v0 v6) = (0 : Int) then
                  if (0 : Int) < v6 then
                    some (0, 0, 21, ())
                  else
                    F186_term_GetNum_l12 (bitsR .or .u64 v5 (shlR .u64 e1 e2)) v6
                else
                  F186_term_GetNum_l12 (bitsR .or .u64 v5 (shlR .u64 e1 e2)) v6
              else
                F186_term_GetNum_l1000003 v0 (bitsR .or .u64 v5 (shlR .u64 e1 e2)) (IntKind.i64.wrap (v6 + (1 : Int)))
            else
              none
        else
          let e3 : Int := IntKind.u64.wrap (bitsR .and .u8 (bt v0 v6) (127 : Int))
          let e4 : Int := IntKind.u64.wrap (IntKind.i64.wrap ((7 : Int) * v6))
          if 0 ≤ e4 then
            if (shrR .u8 (bt v0 v6) (7 : Int)) = (0 : Int) then
              if (bt v0 v6) = (0 : Int) then
                if (0 : Int) < v6 then
                  some (0, 0, 21, ())
                else
                  F186_term_GetNum_l12 (bitsR .or .u64 v5 (shlR .u64 e3 e4)) v6
              else
                F186_term_GetNum_l12 (bitsR .or .u64 v5 (shlR .u64 e3 e4)) v6
            else
              F186_term_GetNum_l1000003 v0 (bitsR .or .u64 v5 (shlR .u64 e3 e4)) (IntKind.i64.wrap (v6 + (1 : Int)))
          else
            none
      else
        none
    else
      some (0, 0, 20, ()) :=
  (run_eq _ _ _ _).trans (by kernel_rfl)
theorem F186_term_GetNum_l12_eq (v5 : Int) (v6 : Int) : F186_term_GetNum_l12 v5 v6 =
    some (v5, (IntKind.i64.wrap (v6 + (1 : Int))), 0, ()) :=
  (run_eq _ _ _ _).trans (by kernel_rfl)
end
end Go.Proofs.Ytgfaplkbajjheaa.CommitPlaysx
