/- The law BookHistory: what each function answers, in plain equations. Under no condition. -/
import Derived.Test.YtieanabokifjpaaTBookHistory
set_option linter.unusedVariables false
set_option maxRecDepth 100000
namespace Go.Proofs.Ytieanabokifjpaa.BookHistoryx
open Go Go.RowKit Go.Proofs.Ytieanabokifjpaa.Rx Go.Proofs.Ytieanabokifjpaa.BookHistoryx
noncomputable section
theorem F3_lethelaw09_BookHistory_eq (x0_0 : Int) (x0_1 : Int) (x0_2 : Int) (x0_3 : Int) (x0_4 : Int) (x0_5 : Int) (x0_6 : Int) (x1 : (List (List S35))) : F3_lethelaw09_BookHistory x0_0 x0_1 x0_2 x0_3 x0_4 x0_5 x0_6 x1 =
    (F13_book_New x0_0 x0_1 x0_2 x0_3 x0_4 x0_5 x0_6).bind fun y1 =>
    if y1.1 = true then
      (F14_letheref04_Right x0_0 x0_1 x0_2 x0_3 x0_4 x0_5 x0_6).bind fun y2 =>
      if (!y2.1) = true then
        some (true, ())
      else
        if ¬ y1.2.1 = (0 : Int) then
          some (false, ())
        else
          some (false, ())
    else
      (F14_letheref04_Right x0_0 x0_1 x0_2 x0_3 x0_4 x0_5 x0_6).bind fun y3 =>
      if (!y3.1) = true then
        some (false, ())
      else
        if ¬ y1.2.2.1 = (0 : Int) then
          some (false, ())
        else
          F3_lethelaw09_BookHistory_l1000008 x1 (List.length x1 : Int) 0 x0_0 x0_1 x0_2 x0_3 x0_4 x0_5 x0_6 y1.2.2.2.1 y1.2.2.2.2.1 y1.2.2.2.2.2.1 y1.2.2.2.2.2.2.1 y1.2.2.2.2.2.2.2.1 y1.2.2.2.2.2.2.2.2.1 y1.2.2.2.2.2.2.2.2.2.1 [] y1.2.2.2.2.2.2.2.2.2.2.1 y1.2.2.2.2.2.2.2.2.2.2.2.1 :=
  (F_eq (G := G) rfl fn0 rfl _).trans ((run_eq _ _ _ _).trans (by kernel_rfl))
theorem F3_lethelaw09_BookHistory_l1000008_eq (v34 : (List (List S35))) (v35 : Int) (v36 : Int) (h0_0 : Int) (h0_1 : Int) (h0_2 : Int) (h0_3 : Int) (h0_4 : Int) (h0_5 : Int) (h0_6 : Int) (h1_0 : Int) (h1_1 : Int) (h1_2 : Int) (h1_3 : Int) (h1_4 : Int) (h1_5 : Int) (h1_6 : Int) (g2 : (List S41)) (g3 : (MapD ByteArray S43)) (g4 : (MapD ByteArray S98)) : F3_lethelaw09_BookHistory_l1000008 v34 v35 v36 h0_0 h0_1 h0_2 h0_3 h0_4 h0_5 h0_6 h1_0 h1_1 h1_2 h1_3 h1_4 h1_5 h1_6 g2 g3 g4 =
    if v36 < v35 then
      if (0 : Int) ≤ v36 ∧ v36 < (List.length v34 : Int) then
        if (40 : Int) ≤ v36 then
          some (true, ())
        else
          (F15_book_Book_Play (rd [] v34 v36) h1_0 h1_1 h1_2 h1_3 h1_4 h1_5 h1_6 g3 g4).bind fun y1 =>
          if y1.1 = true then
            F3_lethelaw09_BookHistory_l1000013 y1.2.1 v34 v35 v36 (rd [] v34 v36) (List.length (rd [] v34 v36) : Int) 0 h0_0 h0_1 h0_2 h0_3 h0_4 h0_5 h0_6 y1.2.2.2.1 y1.2.2.2.2.1 y1.2.2.2.2.2.1 y1.2.2.2.2.2.2.1 y1.2.2.2.2.2.2.2.1 y1.2.2.2.2.2.2.2.2.1 y1.2.2.2.2.2.2.2.2.2.1 g2 y1.2.2.2.2.2.2.2.2.2.2.1 y1.2.2.2.2.2.2.2.2.2.2.2.1
          else
            F3_lethelaw09_BookHistory_l1000013 y1.2.2.2.2.2.2.2.2.2.2.2.2.1 v34 v35 v36 (rd [] v34 v36) (List.length (rd [] v34 v36) : Int) 0 h0_0 h0_1 h0_2 h0_3 h0_4 h0_5 h0_6 y1.2.2.2.2.2.2.2.2.2.2.2.2.2.2.1 y1.2.2.2.2.2.2.2.2.2.2.2.2.2.2.2.1 y1.2.2.2.2.2.2.2.2.2.2.2.2.2.2.2.2.1 y1.2.2.2.2.2.2.2.2.2.2.2.2.2.2.2.2.2.1 y1.2.2.2.2.2.2.2.2.2.2.2.2.2.2.2.2.2.2.1 y1.2.2.2.2.2.2.2.2.2.2.2.2.2.2.2.2.2.2.2.1 y1.2.2.2.2.2.2.2.2.2.2.2.2.2.2.2.2.2.2.2.2.1 g2 y1.2.2.2.2.2.2.2.2.2.2.2.2.2.2.2.2.2.2.2.2.2.2.2.1 y1.2.2.2.2.2.2.2.2.2.2.2.2.2.2.2.2.2.2.2.2.2.2.2.2.1
      else
        none
    else
      some (true, ()) :=
  (run_eq _ _ _ _).trans (by kernel_rfl)
theorem F3_lethelaw09_BookHistory_l1000013_eq (v10 : Int) (v34 : (List (List S35))) (v35 : Int) (v36 : Int) (v49 : (List S35)) (v50 : Int) (v51 : Int) (h0_0 : Int) (h0_1 : Int) (h0_2 : Int) (h0_3 : Int) (h0_4 : Int) (h0_5 : Int) (h0_6 : Int) (h1_0 : Int) (h1_1 : Int) (h1_2 : Int) (h1_3 : Int) (h1_4 : Int) (h1_5 : Int) (h1_6 : Int) (g2 : (List S41)) (g3 : (MapD ByteArray S43)) (g4 : (MapD ByteArray S98)) : F3_lethelaw09_BookHistory_l1000013 v10 v34 v35 v36 v49 v50 v51 h0_0 h0_1 h0_2 h0_3 h0_4 h0_5 h0_6 h1_0 h1_1 h1_2 h1_3 h1_4 h1_5 h1_6 g2 g3 g4 =
    if v51 < v50 then
      if (0 : Int) ≤ v51 ∧ v51 < (List.length v49 : Int) then
        if v10 = (0 : Int) then
          (F16_lethelaw09_after g2 (S35.f0 (rd S35.z v49 v51)) (S35.f1 (rd S35.z v49 v51)) (S35.f2 (rd S35.z v49 v51)) (S35.f3 (rd S35.z v49 v51))).bind fun y1 =>
          F3_lethelaw09_BookHistory_l1000013 v10 v34 v35 v36 v49 v50 (IntKind.i64.wrap (v51 + (1 : Int))) h0_0 h0_1 h0_2 h0_3 h0_4 h0_5 h0_6 h1_0 h1_1 h1_2 h1_3 h1_4 h1_5 h1_6 y1.1 g3 g4
        else
          F3_lethelaw09_BookHistory_l1000013 v10 v34 v35 v36 v49 v50 (IntKind.i64.wrap (v51 + (1 : Int))) h0_0 h0_1 h0_2 h0_3 h0_4 h0_5 h0_6 h1_0 h1_1 h1_2 h1_3 h1_4 h1_5 h1_6 g2 g3 g4
      else
        none
    else
      (F17_book_Book_Names [] h1_0 h1_1 h1_2 h1_3 h1_4 h1_5 h1_6 g3 g4).bind fun y2 =>
      if ¬ (List.length y2.1 : Int) = (List.length g2 : Int) then
        some (false, ())
      else
        F3_lethelaw09_BookHistory_l1000021 v34 v35 v36 (List.length g2 : Int) 0 h0_0 h0_1 h0_2 h0_3 h0_4 h0_5 h0_6 y2.2.1 y2.2.2.1 y2.2.2.2.1 y2.2.2.2.2.1 y2.2.2.2.2.2.1 y2.2.2.2.2.2.2.1 y2.2.2.2.2.2.2.2.1 g2 y2.2.2.2.2.2.2.2.2.1 y2.2.2.2.2.2.2.2.2.2.1 :=
  (run_eq _ _ _ _).trans (by kernel_rfl)
theorem F3_lethelaw09_BookHistory_l1000021_eq (v34 : (List (List S35))) (v35 : Int) (v36 : Int) (v68 : Int) (v69 : Int) (h0_0 : Int) (h0_1 : Int) (h0_2 : Int) (h0_3 : Int) (h0_4 : Int) (h0_5 : Int) (h0_6 : Int) (h1_0 : Int) (h1_1 : Int) (h1_2 : Int) (h1_3 : Int) (h1_4 : Int) (h1_5 : Int) (h1_6 : Int) (g2 : (List S41)) (g3 : (MapD ByteArray S43)) (g4 : (MapD ByteArray S98)) : F3_lethelaw09_BookHistory_l1000021 v34 v35 v36 v68 v69 h0_0 h0_1 h0_2 h0_3 h0_4 h0_5 h0_6 h1_0 h1_1 h1_2 h1_3 h1_4 h1_5 h1_6 g2 g3 g4 =
    if v69 < v68 then
      if (0 : Int) ≤ v69 ∧ v69 < (List.length g2 : Int) then
        (F18_book_Book_Get (S41.f0 (rd S41.z g2 v69)) h1_0 h1_1 h1_2 h1_3 h1_4 h1_5 h1_6 g3 g4).bind fun y1 =>
        if (!y1.2.2.1) = true then
          some (false, ())
        else
          let e2 : Int := IntKind.i64.wrap ((List.length (S41.f1 (rd S41.z g2 v69)) : Int) - h0_4)
          let e3 : (List S54) := subL (S41.f1 (rd S41.z g2 v69)) (mx 0 e2) (List.length (S41.f1 (rd S41.z g2 v69)) : Int)
          if (0 : Int) ≤ (mx 0 e2) ∧ (mx 0 e2) ≤ (List.length (S41.f1 (rd S41.z g2 v69)) : Int) ∧ (List.length (S41.f1 (rd S41.z g2 v69)) : Int) ≤ (List.length (S41.f1 (rd S41.z g2 v69)) : Int) then
            (F19_letheref05_LikeVersions y1.2.1 e3).bind fun y4 =>
            if (!y4.1) = true then
              some (false, ())
            else
              F3_lethelaw09_BookHistory_l1000021 v34 v35 v36 v68 (IntKind.i64.wrap (v69 + (1 : Int))) h0_0 h0_1 h0_2 h0_3 h0_4 h0_5 h0_6 y1.2.2.2.1 y1.2.2.2.2.1 y1.2.2.2.2.2.1 y1.2.2.2.2.2.2.1 y1.2.2.2.2.2.2.2.1 y1.2.2.2.2.2.2.2.2.1 y1.2.2.2.2.2.2.2.2.2.1 g2 y1.2.2.2.2.2.2.2.2.2.2.1 y1.2.2.2.2.2.2.2.2.2.2.2.1
          else
            none
      else
        none
    else
      F3_lethelaw09_BookHistory_l1000008 v34 v35 (IntKind.i64.wrap (v36 + (1 : Int))) h0_0 h0_1 h0_2 h0_3 h0_4 h0_5 h0_6 h1_0 h1_1 h1_2 h1_3 h1_4 h1_5 h1_6 g2 g3 g4 :=
  (run_eq _ _ _ _).trans (by kernel_rfl)
theorem F13_book_New_eq (x0_0 : Int) (x0_1 : Int) (x0_2 : Int) (x0_3 : Int) (x0_4 : Int) (x0_5 : Int) (x0_6 : Int) : F13_book_New x0_0 x0_1 x0_2 x0_3 x0_4 x0_5 x0_6 =
    (F39_quota_Right x0_0 x0_1 x0_2 x0_3 x0_4 x0_5 x0_6).bind fun y1 =>
    if ¬ y1.1 = (0 : Int) then
      some (true, 40, 0, 0, 0, 0, 0, 0, 0, 0, MapD.nil, MapD.nil, ())
    else
      some (false, 0, 0, x0_0, x0_1, x0_2, x0_3, x0_4, x0_5, x0_6, (MapD.nil : MapD ByteArray S43), (MapD.nil : MapD ByteArray S98), ()) :=
  (F_eq (G := G) rfl fn1 rfl _).trans ((run_eq _ _ _ _).trans (by kernel_rfl))
theorem F39_quota_Right_eq (x0_0 : Int) (x0_1 : Int) (x0_2 : Int) (x0_3 : Int) (x0_4 : Int) (x0_5 : Int) (x0_6 : Int) : F39_quota_Right x0_0 x0_1 x0_2 x0_3 x0_4 x0_5 x0_6 =
    (F59_quota_in x0_0 1 64).bind fun y1 =>
    if y1.1 = true then
      (F59_quota_in x0_1 1 16).bind fun y2 =>
      if y2.1 = true then
        (F59_quota_in x0_2 0 32).bind fun y3 =>
        if y3.1 = true then
          (F59_quota_in x0_3 0 16).bind fun y4 =>
          if y4.1 = true then
            (F59_quota_in x0_4 1 4).bind fun y5 =>
            if y5.1 = true then
              (F59_quota_in x0_5 1 8).bind fun y6 =>
              if y6.1 = true then
                (F59_quota_in x0_6 0 32).bind fun y7 =>
                if y7.1 = true then
                  some (0, ())
                else
                  F39_quota_Right_l3 
              else
                F39_quota_Right_l3 
            else
              F39_quota_Right_l3 
          else
            F39_quota_Right_l3 
        else
          F39_quota_Right_l3 
      else
        F39_quota_Right_l3 
    else
      F39_quota_Right_l3  :=
  (F_eq (G := G) rfl fn2 rfl _).trans ((run_eq _ _ _ _).trans (by kernel_rfl))
theorem F39_quota_Right_l3_eq  : F39_quota_Right_l3  =
    some (40, ()) :=
  (run_eq _ _ _ _).trans (by kernel_rfl)
theorem F59_quota_in_eq (x0 : Int) (x1 : Int) (x2 : Int) : F59_quota_in x0 x1 x2 =
    if x1 ≤ x0 then
      some ((decide (x0 ≤ x2)), ())
    else
      some (false, ()) :=
  (F_eq (G := G) rfl fn3 rfl _).trans ((run_eq _ _ _ _).trans (by kernel_rfl))
theorem F14_letheref04_Right_eq (x0_0 : Int) (x0_1 : Int) (x0_2 : Int) (x0_3 : Int) (x0_4 : Int) (x0_5 : Int) (x0_6 : Int) : F14_letheref04_Right x0_0 x0_1 x0_2 x0_3 x0_4 x0_5 x0_6 =
    if x0_0 < (1 : Int) then
      F14_letheref04_Right_l2 
    else
      if (64 : Int) < x0_0 then
        F14_letheref04_Right_l2 
      else
        if x0_1 < (1 : Int) then
          F14_letheref04_Right_l2 
        else
          if (16 : Int) < x0_1 then
            F14_letheref04_Right_l2 
          else
            if x0_2 < (0 : Int) then
              F14_letheref04_Right_l2 
            else
              if (32 : Int) < x0_2 then
                F14_letheref04_Right_l2 
              else
                if x0_3 < (0 : Int) then
                  F14_letheref04_Right_l2 
                else
                  if (16 : Int) < x0_3 then
                    F14_letheref04_Right_l2 
                  else
                    if (1 : Int) ≤ x0_4 then
                      if x0_4 ≤ (4 : Int) then
                        if (1 : Int) ≤ x0_5 then
                          if x0_5 ≤ (8 : Int) then
                            if (0 : Int) ≤ x0_6 then
                              some ((decide (x0_6 ≤ (32 : Int))), ())
                            else
                              some (false, ())
                          else
                            some (false, ())
                        else
                          some (false, ())
                      else
                        some (false, ())
                    else
                      some (false, ()) :=
  (F_eq (G := G) rfl fn4 rfl _).trans ((run_eq _ _ _ _).trans (by kernel_rfl))
theorem F14_letheref04_Right_l2_eq  : F14_letheref04_Right_l2  =
    some (false, ()) :=
  (run_eq _ _ _ _).trans (by kernel_rfl)
theorem F15_book_Book_Play_eq (x1 : (List S35)) (h0_0 : Int) (h0_1 : Int) (h0_2 : Int) (h0_3 : Int) (h0_4 : Int) (h0_5 : Int) (h0_6 : Int) (g1 : (MapD ByteArray S43)) (g2 : (MapD ByteArray S98)) : F15_book_Book_Play x1 h0_0 h0_1 h0_2 h0_3 h0_4 h0_5 h0_6 g1 g2 =
    (F40_book_Book_played x1 h0_0 h0_1 h0_2 h0_3 h0_4 h0_5 h0_6 g1 g2).bind fun y1 =>
    if y1.1 = true then
      if y1.2.1 = (0 : Int) then
        none
      else
        some (true, y1.2.1, y1.2.2.1, y1.2.2.2.1, y1.2.2.2.2.1, y1.2.2.2.2.2.1, y1.2.2.2.2.2.2.1, y1.2.2.2.2.2.2.2.1, y1.2.2.2.2.2.2.2.2.1, y1.2.2.2.2.2.2.2.2.2.1, y1.2.2.2.2.2.2.2.2.2.2.1, y1.2.2.2.2.2.2.2.2.2.2.2.1, 0, 0, 0, 0, 0, 0, 0, 0, 0, MapD.nil, MapD.nil, MapD.nil, MapD.nil, ())
    else
      if y1.2.2.2.2.2.2.2.2.2.2.2.2.1 = (0 : Int) then
        some (false, 0, 0, 0, 0, 0, 0, 0, 0, 0, MapD.nil, MapD.nil, y1.2.2.2.2.2.2.2.2.2.2.2.2.1, y1.2.2.2.2.2.2.2.2.2.2.2.2.2.1, y1.2.2.2.2.2.2.2.2.2.2.2.2.2.2.2.2.2.2.2.2.2.2.2.1, y1.2.2.2.2.2.2.2.2.2.2.2.2.2.2.2.2.2.2.2.2.2.2.2.2.1, y1.2.2.2.2.2.2.2.2.2.2.2.2.2.2.2.2.2.2.2.2.2.2.2.2.2.1, y1.2.2.2.2.2.2.2.2.2.2.2.2.2.2.2.2.2.2.2.2.2.2.2.2.2.2.1, y1.2.2.2.2.2.2.2.2.2.2.2.2.2.2.2.2.2.2.2.2.2.2.2.2.2.2.2.1, y1.2.2.2.2.2.2.2.2.2.2.2.2.2.2.2.2.2.2.2.2.2.2.2.2.2.2.2.2.1, y1.2.2.2.2.2.2.2.2.2.2.2.2.2.2.2.2.2.2.2.2.2.2.2.2.2.2.2.2.2.1, y1.2.2.2.2.2.2.2.2.2.2.2.2.2.2.2.2.2.2.2.2.2.1, y1.2.2.2.2.2.2.2.2.2.2.2.2.2.2.2.2.2.2.2.2.2.2.1, y1.2.2.2.2.2.2.2.2.2.2.2.2.2.2.2.2.2.2.2.2.2.2.2.2.2.2.2.2.2.2.1, y1.2.2.2.2.2.2.2.2.2.2.2.2.2.2.2.2.2.2.2.2.2.2.2.2.2.2.2.2.2.2.2.1, ())
      else
        some (true, y1.2.2.2.2.2.2.2.2.2.2.2.2.1, y1.2.2.2.2.2.2.2.2.2.2.2.2.2.1, y1.2.2.2.2.2.2.2.2.2.2.2.2.2.2.1, y1.2.2.2.2.2.2.2.2.2.2.2.2.2.2.2.1, y1.2.2.2.2.2.2.2.2.2.2.2.2.2.2.2.2.1, y1.2.2.2.2.2.2.2.2.2.2.2.2.2.2.2.2.2.1, y1.2.2.2.2.2.2.2.2.2.2.2.2.2.2.2.2.2.2.1, y1.2.2.2.2.2.2.2.2.2.2.2.2.2.2.2.2.2.2.2.1, y1.2.2.2.2.2.2.2.2.2.2.2.2.2.2.2.2.2.2.2.2.1, y1.2.2.2.2.2.2.2.2.2.2.2.2.2.2.2.2.2.2.2.2.2.1, y1.2.2.2.2.2.2.2.2.2.2.2.2.2.2.2.2.2.2.2.2.2.2.1, 0, 0, 0, 0, 0, 0, 0, 0, 0, MapD.nil, MapD.nil, MapD.nil, MapD.nil, ()) :=
  (F_eq (G := G) rfl fn5 rfl _).trans ((run_eq _ _ _ _).trans (by kernel_rfl))
theorem F16_lethelaw09_after_eq (x0 : (List S41)) (x1_0 : Int) (x1_1 : ByteArray) (x1_2 : ByteArray) (x1_3 : ByteArray) : F16_lethelaw09_after x0 x1_0 x1_1 x1_2 x1_3 =
    F16_lethelaw09_after_l1000004 x0 (List.length x0 : Int) 0 x1_0 x1_1 x1_2 x1_3 [] x1_1 [] 0 :=
  (F_eq (G := G) rfl fn6 rfl _).trans ((run_eq _ _ _ _).trans (by kernel_rfl))
theorem F16_lethelaw09_after_l1000004_eq (v12 : (List S41)) (v13 : Int) (v14 : Int) (h0_0 : Int) (h0_1 : ByteArray) (h0_2 : ByteArray) (h0_3 : ByteArray) (g1 : (List S41)) (h2_0 : ByteArray) (h2_1 : (List S54)) (h2_2 : Int) : F16_lethelaw09_after_l1000004 v12 v13 v14 h0_0 h0_1 h0_2 h0_3 g1 h2_0 h2_1 h2_2 =
    if v14 < v13 then
      if (0 : Int) ≤ v14 ∧ v14 < (List.length v12 : Int) then
        if (S41.f0 (rd S41.z v12 v14)) = h0_1 then
          F16_lethelaw09_after_l1000004 v12 v13 (IntKind.i64.wrap (v14 + (1 : Int))) h0_0 h0_1 h0_2 h0_3 g1 (S41.f0 (rd S41.z v12 v14)) (S41.f1 (rd S41.z v12 v14)) (S41.f2 (rd S41.z v12 v14))
        else
          let e1 : (List S41) := [(S41.mk (S41.f0 (rd S41.z v12 v14)) (S41.f1 (rd S41.z v12 v14)) (S41.f2 (rd S41.z v12 v14)))]
          if (List.length g1 + List.length e1) * 48 ≤ 140737488355328 then
            F16_lethelaw09_after_l1000004 v12 v13 (IntKind.i64.wrap (v14 + (1 : Int))) h0_0 h0_1 h0_2 h0_3 (g1 ++ e1) h2_0 h2_1 h2_2
          else
            none
      else
        none
    else
      if h0_0 = (3 : Int) then
        some (g1, ())
      else
        if h0_0 = (2 : Int) then
          if (0 + 0) * 40 ≤ 140737488355328 then
            let e2 : (List S54) := [(S54.mk (IntKind.i64.wrap (h2_2 + (1 : Int))) h0_2 h0_3)]
            if (0 + List.length e2) * 40 ≤ 140737488355328 then
              let e3 : (List S41) := [(S41.mk h2_0 ([] ++ e2) (IntKind.i64.wrap (h2_2 + (1 : Int))))]
              if (List.length g1 + List.length e3) * 48 ≤ 140737488355328 then
                some ((g1 ++ e3), ())
              else
                none
            else
              none
          else
            none
        else
          if (0 + List.length h2_1) * 40 ≤ 140737488355328 then
            let e4 : (List S54) := [(S54.mk (IntKind.i64.wrap (h2_2 + (1 : Int))) h0_2 h0_3)]
            if (List.length ([] ++ h2_1) + List.length e4) * 40 ≤ 140737488355328 then
              let e5 : (List S41) := [(S41.mk h2_0 (([] ++ h2_1) ++ e4) (IntKind.i64.wrap (h2_2 + (1 : Int))))]
              if (List.length g1 + List.length e5) * 48 ≤ 140737488355328 then
                some ((g1 ++ e5), ())
              else
                none
            else
              none
          else
            none :=
  (run_eq _ _ _ _).trans (by kernel_rfl)
theorem F17_book_Book_Names_eq (x1 : (List ByteArray)) (h0_0 : Int) (h0_1 : Int) (h0_2 : Int) (h0_3 : Int) (h0_4 : Int) (h0_5 : Int) (h0_6 : Int) (g1 : (MapD ByteArray S43)) (g2 : (MapD ByteArray S98)) : F17_book_Book_Names x1 h0_0 h0_1 h0_2 h0_3 h0_4 h0_5 h0_6 g1 g2 =
    F17_book_Book_Names_l1000003 x1 h0_0 h0_1 h0_2 h0_3 h0_4 h0_5 h0_6 g1 g2 [] (mbeg g1) :=
  (F_eq (G := G) rfl fn7 rfl _).trans ((run_eq _ _ _ _).trans (by kernel_rfl))
theorem F17_book_Book_Names_l1000003_eq (v1 : (List ByteArray)) (h0_0 : Int) (h0_1 : Int) (h0_2 : Int) (h0_3 : Int) (h0_4 : Int) (h0_5 : Int) (h0_6 : Int) (g1 : (MapD ByteArray S43)) (g2 : (MapD ByteArray S98)) (g3 : (List ByteArray)) (g4 : ItD) : F17_book_Book_Names_l1000003 v1 h0_0 h0_1 h0_2 h0_3 h0_4 h0_5 h0_6 g1 g2 g3 g4 =
    if mcalm g1 g4 then
      if List.length (mleft g1 g4) = 0 then
        (F44_slices_Sort g3).bind fun y2 =>
        (F45_slices_Clip y2.1).bind fun y3 =>
        some (y3.1, h0_0, h0_1, h0_2, h0_3, h0_4, h0_5, h0_6, g1, g2, ())
      else
        allO (List.length (mleft g1 g4)) fun n1 =>
        let e4 : ByteArray := ckey ByteArray.empty g1 (msee g4 (mleft g1 g4) n1)
        if mat g1 (msee g4 (mleft g1 g4) n1) then
          if (List.length v1 : Int) = (0 : Int) then
            if (List.length g3 + List.length [e4]) * 16 ≤ 140737488355328 then
              F17_book_Book_Names_l1000003 v1 h0_0 h0_1 h0_2 h0_3 h0_4 h0_5 h0_6 g1 g2 (g3 ++ [e4]) (msee g4 (mleft g1 g4) n1)
            else
              none
          else
            (F41_slices_ContainsFunc_42 v1 e4).bind fun y5 =>
            if y5.1 = true then
              if (List.length g3 + List.length [y5.2.1]) * 16 ≤ 140737488355328 then
                F17_book_Book_Names_l1000003 v1 h0_0 h0_1 h0_2 h0_3 h0_4 h0_5 h0_6 g1 g2 (g3 ++ [y5.2.1]) (msee g4 (mleft g1 g4) n1)
              else
                none
            else
              F17_book_Book_Names_l1000003 v1 h0_0 h0_1 h0_2 h0_3 h0_4 h0_5 h0_6 g1 g2 g3 (msee g4 (mleft g1 g4) n1)
        else
          none
    else
      none :=
  (run_eq _ _ _ _).trans (by kernel_rfl)
theorem F18_book_Book_Get_eq (x1 : ByteArray) (h0_0 : Int) (h0_1 : Int) (h0_2 : Int) (h0_3 : Int) (h0_4 : Int) (h0_5 : Int) (h0_6 : Int) (g1 : (MapD ByteArray S43)) (g2 : (MapD ByteArray S98)) : F18_book_Book_Get x1 h0_0 h0_1 h0_2 h0_3 h0_4 h0_5 h0_6 g1 g2 =
    (F46_book_clone (S43.f0 (mget keyS S43.z g1 x1)) (S43.f1 (mget keyS S43.z g1 x1))).bind fun y1 =>
    some (y1.1, y1.2.1, (mhas keyS g1 x1), h0_0, h0_1, h0_2, h0_3, h0_4, h0_5, h0_6, g1, g2, ()) :=
  (F_eq (G := G) rfl fn8 rfl _).trans ((run_eq _ _ _ _).trans (by kernel_rfl))
theorem F19_letheref05_LikeVersions_eq (x0 : (List S54)) (x1 : (List S54)) : F19_letheref05_LikeVersions x0 x1 =
    if ¬ (List.length x0 : Int) = (List.length x1 : Int) then
      some (false, ())
    else
      F19_letheref05_LikeVersions_l1000004 x0 x1 (List.length x0 : Int) 0 :=
  (F_eq (G := G) rfl fn9 rfl _).trans ((run_eq _ _ _ _).trans (by kernel_rfl))
theorem F19_letheref05_LikeVersions_l1000004_eq (v0 : (List S54)) (v1 : (List S54)) (v12 : Int) (v13 : Int) : F19_letheref05_LikeVersions_l1000004 v0 v1 v12 v13 =
    if v13 < v12 then
      if (0 : Int) ≤ v13 ∧ v13 < (List.length v0 : Int) then
        if (0 : Int) ≤ v13 ∧ v13 < (List.length v1 : Int) then
          if ¬ ((S54.f0 (rd S54.z v0 v13)) = (S54.f0 (rd S54.z v1 v13)) ∧ (S54.f1 (rd S54.z v0 v13)) = (S54.f1 (rd S54.z v1 v13)) ∧ (S54.f2 (rd S54.z v0 v13)) = (S54.f2 (rd S54.z v1 v13)) ∧ True) then
            some (false, ())
          else
            F19_letheref05_LikeVersions_l1000004 v0 v1 v12 (IntKind.i64.wrap (v13 + (1 : Int)))
        else
          none
      else
        none
    else
      some (true, ()) :=
  (run_eq _ _ _ _).trans (by kernel_rfl)
theorem F46_book_clone_eq (x0_0 : ByteArray) (x0_1 : (List S54)) : F46_book_clone x0_0 x0_1 =
    (F65_slices_Clone x0_1).bind fun y1 =>
    some (x0_0, y1.1, ()) :=
  (F_eq (G := G) rfl fn10 rfl _).trans ((run_eq _ _ _ _).trans (by kernel_rfl))
theorem F65_slices_Clone_eq (x0 : (List S54)) : F65_slices_Clone x0 =
    if List.length x0 = 0 then
      anyO (
        some ([], ())) (
        if (0 + List.length x0) * 40 ≤ 140737488355328 then
          some (([] ++ x0), ())
        else
          none)
    else
      if (0 + List.length x0) * 40 ≤ 140737488355328 then
        some (([] ++ x0), ())
      else
        none :=
  (F_eq (G := G) rfl fn11 rfl _).trans ((run_eq _ _ _ _).trans (by kernel_rfl))
theorem F44_slices_Sort_eq (g0 : (List ByteArray)) : F44_slices_Sort g0 =
    if List.length g0 < 4611686018427387904 then
      some ((sortS g0), ())
    else
      none :=
  (F_giv (G := G) rfl _).trans (by kernel_rfl)
theorem F45_slices_Clip_eq (x0 : (List ByteArray)) : F45_slices_Clip x0 =
    if (0 : Int) ≤ 0 ∧ (0 : Int) ≤ (List.length x0 : Int) ∧ (List.length x0 : Int) ≤ (List.length x0 : Int) ∧ (List.length x0 : Int) ≤ (List.length x0 : Int) then
      some ((subL x0 0 (List.length x0 : Int)), ())
    else
      none :=
  (F_eq (G := G) rfl fn13 rfl _).trans ((run_eq _ _ _ _).trans (by kernel_rfl))
theorem F41_slices_ContainsFunc_42_eq (x0 : (List ByteArray)) (h0_0 : ByteArray) : F41_slices_ContainsFunc_42 x0 h0_0 =
    (F61_slices_IndexFunc_42 x0 h0_0).bind fun y1 =>
    some ((decide ((0 : Int) ≤ y1.1)), y1.2.1, ()) :=
  (F_eq (G := G) rfl fn14 rfl _).trans ((run_eq _ _ _ _).trans (by kernel_rfl))
theorem F61_slices_IndexFunc_42_eq (x0 : (List ByteArray)) (h0_0 : ByteArray) : F61_slices_IndexFunc_42 x0 h0_0 =
    F61_slices_IndexFunc_42_l1000002 x0 (List.length x0 : Int) 0 h0_0 :=
  (F_eq (G := G) rfl fn15 rfl _).trans ((run_eq _ _ _ _).trans (by kernel_rfl))
theorem F61_slices_IndexFunc_42_l1000002_eq (v0 : (List ByteArray)) (v7 : Int) (v8 : Int) (h0_0 : ByteArray) : F61_slices_IndexFunc_42_l1000002 v0 v7 v8 h0_0 =
    if v8 < v7 then
      if (0 : Int) ≤ v8 ∧ v8 < (List.length v0 : Int) then
        (F42_book_Book_Names_1 (rd ByteArray.empty v0 v8) h0_0).bind fun y1 =>
        if y1.1 = true then
          some (v8, y1.2.1, ())
        else
          F61_slices_IndexFunc_42_l1000002 v0 v7 (IntKind.i64.wrap (v8 + (1 : Int))) y1.2.1
      else
        none
    else
      some ((-1), h0_0, ()) :=
  (run_eq _ _ _ _).trans (by kernel_rfl)
theorem F42_book_Book_Names_1_eq (x0 : ByteArray) (h0_0 : ByteArray) : F42_book_Book_Names_1 x0 h0_0 =
    (F43_strings_HasPrefix h0_0 x0).bind fun y1 =>
    some (y1.1, h0_0, ()) :=
  (F_eq (G := G) rfl fn16 rfl _).trans ((run_eq _ _ _ _).trans (by kernel_rfl))
theorem F43_strings_HasPrefix_eq (x0 : ByteArray) (x1 : ByteArray) : F43_strings_HasPrefix x0 x1 =
    (F62_stringslite_HasPrefix x0 x1).bind fun y1 =>
    some (y1.1, ()) :=
  (F_eq (G := G) rfl fn17 rfl _).trans ((run_eq _ _ _ _).trans (by kernel_rfl))
theorem F62_stringslite_HasPrefix_eq (x0 : ByteArray) (x1 : ByteArray) : F62_stringslite_HasPrefix x0 x1 =
    if (ByteArray.size x1 : Int) ≤ (ByteArray.size x0 : Int) then
      if (0 : Int) ≤ 0 ∧ (0 : Int) ≤ (ByteArray.size x1 : Int) ∧ (ByteArray.size x1 : Int) ≤ (ByteArray.size x0 : Int) then
        some ((decide ((subS x0 0 (ByteArray.size x1 : Int)) = x1)), ())
      else
        none
    else
      some (false, ()) :=
  (F_eq (G := G) rfl fn18 rfl _).trans ((run_eq _ _ _ _).trans (by kernel_rfl))
theorem F40_book_Book_played_eq (x1 : (List S35)) (h0_0 : Int) (h0_1 : Int) (h0_2 : Int) (h0_3 : Int) (h0_4 : Int) (h0_5 : Int) (h0_6 : Int) (g1 : (MapD ByteArray S43)) (g2 : (MapD ByteArray S98)) : F40_book_Book_played x1 h0_0 h0_1 h0_2 h0_3 h0_4 h0_5 h0_6 g1 g2 =
    if (List.length x1 : Int) = (0 : Int) then
      some (true, 7, (-1), h0_0, h0_1, h0_2, h0_3, h0_4, h0_5, h0_6, g1, g2, 0, 0, 0, 0, 0, 0, 0, 0, 0, MapD.nil, MapD.nil, 0, 0, 0, 0, 0, 0, 0, MapD.nil, MapD.nil, ())
    else
      if h0_5 < (List.length x1 : Int) then
        some (true, 7, (-1), h0_0, h0_1, h0_2, h0_3, h0_4, h0_5, h0_6, g1, g2, 0, 0, 0, 0, 0, 0, 0, 0, 0, MapD.nil, MapD.nil, 0, 0, 0, 0, 0, 0, 0, MapD.nil, MapD.nil, ())
      else
        (F24_book_Book_Copy h0_0 h0_1 h0_2 h0_3 h0_4 h0_5 h0_6 g1 g2).bind fun y1 =>
        F40_book_Book_played_l1000005 x1 (List.length x1 : Int) 0 y1.1 y1.2.1 y1.2.2.1 y1.2.2.2.1 y1.2.2.2.2.1 y1.2.2.2.2.2.1 y1.2.2.2.2.2.2.1 y1.2.2.2.2.2.2.2.1 y1.2.2.2.2.2.2.2.2.1 y1.2.2.2.2.2.2.2.2.2.1 y1.2.2.2.2.2.2.2.2.2.2.1 y1.2.2.2.2.2.2.2.2.2.2.2.1 y1.2.2.2.2.2.2.2.2.2.2.2.2.1 y1.2.2.2.2.2.2.2.2.2.2.2.2.2.1 y1.2.2.2.2.2.2.2.2.2.2.2.2.2.2.1 y1.2.2.2.2.2.2.2.2.2.2.2.2.2.2.2.1 y1.2.2.2.2.2.2.2.2.2.2.2.2.2.2.2.2.1 y1.2.2.2.2.2.2.2.2.2.2.2.2.2.2.2.2.2.1 :=
  (F_eq (G := G) rfl fn19 rfl _).trans ((run_eq _ _ _ _).trans (by kernel_rfl))
theorem F40_book_Book_played_l1000005_eq (v26 : (List S35)) (v27 : Int) (v28 : Int) (h0_0 : Int) (h0_1 : Int) (h0_2 : Int) (h0_3 : Int) (h0_4 : Int) (h0_5 : Int) (h0_6 : Int) (g1 : (MapD ByteArray S43)) (g2 : (MapD ByteArray S98)) (h3_0 : Int) (h3_1 : Int) (h3_2 : Int) (h3_3 : Int) (h3_4 : Int) (h3_5 : Int) (h3_6 : Int) (g4 : (MapD ByteArray S43)) (g5 : (MapD ByteArray S98)) : F40_book_Book_played_l1000005 v26 v27 v28 h0_0 h0_1 h0_2 h0_3 h0_4 h0_5 h0_6 g1 g2 h3_0 h3_1 h3_2 h3_3 h3_4 h3_5 h3_6 g4 g5 =
    if v28 < v27 then
      if (0 : Int) ≤ v28 ∧ v28 < (List.length v26 : Int) then
        (F60_book_Book_call (S35.f0 (rd S35.z v26 v28)) (S35.f1 (rd S35.z v26 v28)) (S35.f2 (rd S35.z v26 v28)) (S35.f3 (rd S35.z v26 v28)) h3_0 h3_1 h3_2 h3_3 h3_4 h3_5 h3_6 g4 g5).bind fun y1 =>
        if ¬ y1.1 = (0 : Int) then
          some (true, y1.1, v28, h0_0, h0_1, h0_2, h0_3, h0_4, h0_5, h0_6, g1, g2, 0, 0, 0, 0, 0, 0, 0, 0, 0, MapD.nil, MapD.nil, 0, 0, 0, 0, 0, 0, 0, MapD.nil, MapD.nil, ())
        else
          F40_book_Book_played_l1000005 v26 v27 (IntKind.i64.wrap (v28 + (1 : Int))) h0_0 h0_1 h0_2 h0_3 h0_4 h0_5 h0_6 g1 g2 y1.2.1 y1.2.2.1 y1.2.2.2.1 y1.2.2.2.2.1 y1.2.2.2.2.2.1 y1.2.2.2.2.2.2.1 y1.2.2.2.2.2.2.2.1 y1.2.2.2.2.2.2.2.2.1 y1.2.2.2.2.2.2.2.2.2.1
      else
        none
    else
      some (false, 0, 0, 0, 0, 0, 0, 0, 0, 0, MapD.nil, MapD.nil, 0, 0, h0_0, h0_1, h0_2, h0_3, h0_4, h0_5, h0_6, g1, g2, h3_0, h3_1, h3_2, h3_3, h3_4, h3_5, h3_6, g4, g5, ()) :=
  (run_eq _ _ _ _).trans (by kernel_rfl)
theorem F24_book_Book_Copy_eq (h0_0 : Int) (h0_1 : Int) (h0_2 : Int) (h0_3 : Int) (h0_4 : Int) (h0_5 : Int) (h0_6 : Int) (g1 : (MapD ByteArray S43)) (g2 : (MapD ByteArray S98)) : F24_book_Book_Copy h0_0 h0_1 h0_2 h0_3 h0_4 h0_5 h0_6 g1 g2 =
    (F48_maps_Clone g1).bind fun y1 =>
    (F49_maps_Clone g2).bind fun y2 =>
    some (h0_0, h0_1, h0_2, h0_3, h0_4, h0_5, h0_6, y1.1, y2.1, h0_0, h0_1, h0_2, h0_3, h0_4, h0_5, h0_6, y1.2.1, y2.2.1, ()) :=
  (F_eq (G := G) rfl fn20 rfl _).trans ((run_eq _ _ _ _).trans (by kernel_rfl))
theorem F48_maps_Clone_eq (g0 : (MapD ByteArray S43)) : F48_maps_Clone g0 =
    some (g0, g0, ()) :=
  (F_giv (G := G) rfl _).trans (by kernel_rfl)
theorem F49_maps_Clone_eq (g0 : (MapD ByteArray S98)) : F49_maps_Clone g0 =
    some (g0, g0, ()) :=
  (F_giv (G := G) rfl _).trans (by kernel_rfl)
theorem F60_book_Book_call_eq (x1_0 : Int) (x1_1 : ByteArray) (x1_2 : ByteArray) (x1_3 : ByteArray) (h0_0 : Int) (h0_1 : Int) (h0_2 : Int) (h0_3 : Int) (h0_4 : Int) (h0_5 : Int) (h0_6 : Int) (g1 : (MapD ByteArray S43)) (g2 : (MapD ByteArray S98)) : F60_book_Book_call x1_0 x1_1 x1_2 x1_3 h0_0 h0_1 h0_2 h0_3 h0_4 h0_5 h0_6 g1 g2 =
    if ¬ x1_0 = (1 : Int) then
      if ¬ x1_0 = (2 : Int) then
        if ¬ (x1_0 = (3 : Int)) then
          some (8, h0_0, h0_1, h0_2, h0_3, h0_4, h0_5, h0_6, g1, g2, ())
        else
          if x1_1 = ByteArray.empty then
            some (4, h0_0, h0_1, h0_2, h0_3, h0_4, h0_5, h0_6, g1, g2, ())
          else
            if h0_1 < (ByteArray.size x1_1 : Int) then
              F60_book_Book_call_l8 h0_0 h0_1 h0_2 h0_3 h0_4 h0_5 h0_6 g1 g2
            else
              if ¬ (x1_0 = (3 : Int)) then
                if h0_2 < (ByteArray.size x1_2 : Int) then
                  F60_book_Book_call_l8 h0_0 h0_1 h0_2 h0_3 h0_4 h0_5 h0_6 g1 g2
                else
                  if h0_3 < (ByteArray.size x1_3 : Int) then
                    F60_book_Book_call_l8 h0_0 h0_1 h0_2 h0_3 h0_4 h0_5 h0_6 g1 g2
                  else
                    F60_book_Book_call_l9 (mhas keyS g1 x1_1) (decide (x1_0 = (3 : Int))) h0_0 h0_1 h0_2 h0_3 h0_4 h0_5 h0_6 g1 g2 x1_0 x1_1 x1_2 x1_3 (S43.f0 (mget keyS S43.z g1 x1_1)) (S43.f1 (mget keyS S43.z g1 x1_1))
              else
                F60_book_Book_call_l9 (mhas keyS g1 x1_1) (decide (x1_0 = (3 : Int))) h0_0 h0_1 h0_2 h0_3 h0_4 h0_5 h0_6 g1 g2 x1_0 x1_1 x1_2 x1_3 (S43.f0 (mget keyS S43.z g1 x1_1)) (S43.f1 (mget keyS S43.z g1 x1_1))
      else
        if x1_1 = ByteArray.empty then
          some (4, h0_0, h0_1, h0_2, h0_3, h0_4, h0_5, h0_6, g1, g2, ())
        else
          if h0_1 < (ByteArray.size x1_1 : Int) then
            F60_book_Book_call_l8 h0_0 h0_1 h0_2 h0_3 h0_4 h0_5 h0_6 g1 g2
          else
            if ¬ (x1_0 = (3 : Int)) then
              if h0_2 < (ByteArray.size x1_2 : Int) then
                F60_book_Book_call_l8 h0_0 h0_1 h0_2 h0_3 h0_4 h0_5 h0_6 g1 g2
              else
                if h0_3 < (ByteArray.size x1_3 : Int) then
                  F60_book_Book_call_l8 h0_0 h0_1 h0_2 h0_3 h0_4 h0_5 h0_6 g1 g2
                else
                  F60_book_Book_call_l9 (mhas keyS g1 x1_1) (decide (x1_0 = (3 : Int))) h0_0 h0_1 h0_2 h0_3 h0_4 h0_5 h0_6 g1 g2 x1_0 x1_1 x1_2 x1_3 (S43.f0 (mget keyS S43.z g1 x1_1)) (S43.f1 (mget keyS S43.z g1 x1_1))
            else
              F60_book_Book_call_l9 (mhas keyS g1 x1_1) (decide (x1_0 = (3 : Int))) h0_0 h0_1 h0_2 h0_3 h0_4 h0_5 h0_6 g1 g2 x1_0 x1_1 x1_2 x1_3 (S43.f0 (mget keyS S43.z g1 x1_1)) (S43.f1 (mget keyS S43.z g1 x1_1))
    else
      if x1_1 = ByteArray.empty then
        some (4, h0_0, h0_1, h0_2, h0_3, h0_4, h0_5, h0_6, g1, g2, ())
      else
        if h0_1 < (ByteArray.size x1_1 : Int) then
          F60_book_Book_call_l8 h0_0 h0_1 h0_2 h0_3 h0_4 h0_5 h0_6 g1 g2
        else
          if ¬ (x1_0 = (3 : Int)) then
            if h0_2 < (ByteArray.size x1_2 : Int) then
              F60_book_Book_call_l8 h0_0 h0_1 h0_2 h0_3 h0_4 h0_5 h0_6 g1 g2
            else
              if h0_3 < (ByteArray.size x1_3 : Int) then
                F60_book_Book_call_l8 h0_0 h0_1 h0_2 h0_3 h0_4 h0_5 h0_6 g1 g2
              else
                F60_book_Book_call_l9 (mhas keyS g1 x1_1) (decide (x1_0 = (3 : Int))) h0_0 h0_1 h0_2 h0_3 h0_4 h0_5 h0_6 g1 g2 x1_0 x1_1 x1_2 x1_3 (S43.f0 (mget keyS S43.z g1 x1_1)) (S43.f1 (mget keyS S43.z g1 x1_1))
          else
            F60_book_Book_call_l9 (mhas keyS g1 x1_1) (decide (x1_0 = (3 : Int))) h0_0 h0_1 h0_2 h0_3 h0_4 h0_5 h0_6 g1 g2 x1_0 x1_1 x1_2 x1_3 (S43.f0 (mget keyS S43.z g1 x1_1)) (S43.f1 (mget keyS S43.z g1 x1_1)) :=
  (F_eq (G := G) rfl fn23 rfl _).trans ((run_eq _ _ _ _).trans (by kernel_rfl))
theorem F60_book_Book_call_l8_eq (h0_0 : Int) (h0_1 : Int) (h0_2 : Int) (h0_3 : Int) (h0_4 : Int) (h0_5 : Int) (h0_6 : Int) (g1 : (MapD ByteArray S43)) (g2 : (MapD ByteArray S98)) : F60_book_Book_call_l8 h0_0 h0_1 h0_2 h0_3 h0_4 h0_5 h0_6 g1 g2 =
    some (5, h0_0, h0_1, h0_2, h0_3, h0_4, h0_5, h0_6, g1, g2, ()) :=
  (run_eq _ _ _ _).trans (by kernel_rfl)
theorem F60_book_Book_call_l9_eq (v6 : Bool) (v7 : Bool) (h0_0 : Int) (h0_1 : Int) (h0_2 : Int) (h0_3 : Int) (h0_4 : Int) (h0_5 : Int) (h0_6 : Int) (g1 : (MapD ByteArray S43)) (g2 : (MapD ByteArray S98)) (h3_0 : Int) (h3_1 : ByteArray) (h3_2 : ByteArray) (h3_3 : ByteArray) (h4_0 : ByteArray) (h4_1 : (List S54)) : F60_book_Book_call_l9 v6 v7 h0_0 h0_1 h0_2 h0_3 h0_4 h0_5 h0_6 g1 g2 h3_0 h3_1 h3_2 h3_3 h4_0 h4_1 =
    if v7 = true then
      if (!v6) = true then
        some (3, h0_0, h0_1, h0_2, h0_3, h0_4, h0_5, h0_6, g1, g2, ())
      else
        F60_book_Book_call_l11 v6 v7 h0_0 h0_1 h0_2 h0_3 h0_4 h0_5 h0_6 g1 g2 h3_0 h3_1 h3_2 h3_3 h4_0 h4_1
    else
      F60_book_Book_call_l11 v6 v7 h0_0 h0_1 h0_2 h0_3 h0_4 h0_5 h0_6 g1 g2 h3_0 h3_1 h3_2 h3_3 h4_0 h4_1 :=
  (run_eq _ _ _ _).trans (by kernel_rfl)
theorem F60_book_Book_call_l11_eq (v6 : Bool) (v7 : Bool) (h0_0 : Int) (h0_1 : Int) (h0_2 : Int) (h0_3 : Int) (h0_4 : Int) (h0_5 : Int) (h0_6 : Int) (g1 : (MapD ByteArray S43)) (g2 : (MapD ByteArray S98)) (h3_0 : Int) (h3_1 : ByteArray) (h3_2 : ByteArray) (h3_3 : ByteArray) (h4_0 : ByteArray) (h4_1 : (List S54)) : F60_book_Book_call_l11 v6 v7 h0_0 h0_1 h0_2 h0_3 h0_4 h0_5 h0_6 g1 g2 h3_0 h3_1 h3_2 h3_3 h4_0 h4_1 =
    if v7 = true then
      some (0, h0_0, h0_1, h0_2, h0_3, h0_4, h0_5, h0_6, (mdel keyS g1 h3_1), g2, ())
    else
      if (!v6) = true then
        if h0_0 ≤ (mlen g1 : Int) then
          some (6, h0_0, h0_1, h0_2, h0_3, h0_4, h0_5, h0_6, g1, g2, ())
        else
          F60_book_Book_call_l16 h0_0 h0_1 h0_2 h0_3 h0_4 h0_5 h0_6 g1 g2 h3_0 h3_1 h3_2 h3_3 h4_0 h4_1
      else
        F60_book_Book_call_l16 h0_0 h0_1 h0_2 h0_3 h0_4 h0_5 h0_6 g1 g2 h3_0 h3_1 h3_2 h3_3 h4_0 h4_1 :=
  (run_eq _ _ _ _).trans (by kernel_rfl)
theorem F60_book_Book_call_l16_eq (h0_0 : Int) (h0_1 : Int) (h0_2 : Int) (h0_3 : Int) (h0_4 : Int) (h0_5 : Int) (h0_6 : Int) (g1 : (MapD ByteArray S43)) (g2 : (MapD ByteArray S98)) (h3_0 : Int) (h3_1 : ByteArray) (h3_2 : ByteArray) (h3_3 : ByteArray) (h4_0 : ByteArray) (h4_1 : (List S54)) : F60_book_Book_call_l16 h0_0 h0_1 h0_2 h0_3 h0_4 h0_5 h0_6 g1 g2 h3_0 h3_1 h3_2 h3_3 h4_0 h4_1 =
    if h3_0 = (2 : Int) then
      F60_book_Book_call_l19 h0_0 h0_1 h0_2 h0_3 h0_4 h0_5 h0_6 g1 g2 h3_0 h3_1 h3_2 h3_3 h4_0 h4_1
    else
      F60_book_Book_call_l19_1 h0_0 h0_1 h0_2 h0_3 h0_4 h0_5 h0_6 g1 g2 h3_0 h3_1 h3_2 h3_3 h4_0 h4_1 :=
  (run_eq _ _ _ _).trans (by kernel_rfl)
theorem F60_book_Book_call_l19_eq (h0_0 : Int) (h0_1 : Int) (h0_2 : Int) (h0_3 : Int) (h0_4 : Int) (h0_5 : Int) (h0_6 : Int) (g1 : (MapD ByteArray S43)) (g2 : (MapD ByteArray S98)) (h3_0 : Int) (h3_1 : ByteArray) (h3_2 : ByteArray) (h3_3 : ByteArray) (h4_0 : ByteArray) (h4_1 : (List S54)) : F60_book_Book_call_l19 h0_0 h0_1 h0_2 h0_3 h0_4 h0_5 h0_6 g1 g2 h3_0 h3_1 h3_2 h3_3 h4_0 h4_1 =
    (F80_entry_Over h0_0 h0_1 h0_2 h0_3 h0_4 h0_5 h0_6 h3_1 h4_1 h3_2 h3_3).bind fun y1 =>
    if y1.2.2.1 = (0 : Int) then
      F60_book_Book_call_l24 y1.2.2.1 h0_0 h0_1 h0_2 h0_3 h0_4 h0_5 h0_6 (mset keyS g1 h3_1 (S43.mk y1.1 y1.2.1)) (mset keyS g2 h3_2 (S98.mk ))
    else
      F60_book_Book_call_l24 y1.2.2.1 h0_0 h0_1 h0_2 h0_3 h0_4 h0_5 h0_6 g1 g2 :=
  (run_eq _ _ _ _).trans (by kernel_rfl)
theorem F60_book_Book_call_l19_1_eq (h0_0 : Int) (h0_1 : Int) (h0_2 : Int) (h0_3 : Int) (h0_4 : Int) (h0_5 : Int) (h0_6 : Int) (g1 : (MapD ByteArray S43)) (g2 : (MapD ByteArray S98)) (h3_0 : Int) (h3_1 : ByteArray) (h3_2 : ByteArray) (h3_3 : ByteArray) (h4_0 : ByteArray) (h4_1 : (List S54)) : F60_book_Book_call_l19_1 h0_0 h0_1 h0_2 h0_3 h0_4 h0_5 h0_6 g1 g2 h3_0 h3_1 h3_2 h3_3 h4_0 h4_1 =
    (F79_entry_Put h0_0 h0_1 h0_2 h0_3 h0_4 h0_5 h0_6 h3_1 h4_1 h3_2 h3_3).bind fun y1 =>
    if y1.2.2.1 = (0 : Int) then
      F60_book_Book_call_l24 y1.2.2.1 h0_0 h0_1 h0_2 h0_3 h0_4 h0_5 h0_6 (mset keyS g1 h3_1 (S43.mk y1.1 y1.2.1)) (mset keyS g2 h3_2 (S98.mk ))
    else
      F60_book_Book_call_l24 y1.2.2.1 h0_0 h0_1 h0_2 h0_3 h0_4 h0_5 h0_6 g1 g2 :=
  (run_eq _ _ _ _).trans (by kernel_rfl)
theorem F60_book_Book_call_l24_eq (v10 : Int) (h0_0 : Int) (h0_1 : Int) (h0_2 : Int) (h0_3 : Int) (h0_4 : Int) (h0_5 : Int) (h0_6 : Int) (g1 : (MapD ByteArray S43)) (g2 : (MapD ByteArray S98)) : F60_book_Book_call_l24 v10 h0_0 h0_1 h0_2 h0_3 h0_4 h0_5 h0_6 g1 g2 =
    some (v10, h0_0, h0_1, h0_2, h0_3, h0_4, h0_5, h0_6, g1, g2, ()) :=
  (run_eq _ _ _ _).trans (by kernel_rfl)
theorem F80_entry_Over_eq (x0_0 : Int) (x0_1 : Int) (x0_2 : Int) (x0_3 : Int) (x0_4 : Int) (x0_5 : Int) (x0_6 : Int) (x1_0 : ByteArray) (x1_1 : (List S54)) (x2 : ByteArray) (x3 : ByteArray) : F80_entry_Over x0_0 x0_1 x0_2 x0_3 x0_4 x0_5 x0_6 x1_0 x1_1 x2 x3 =
    (F95_entry_add x0_0 x0_1 x0_2 x0_3 x0_4 x0_5 x0_6 x1_0 x1_1 x2 x3 1).bind fun y1 =>
    some (y1.1, y1.2.1, y1.2.2.1, y1.2.2.2.1, ()) :=
  (F_eq (G := G) rfl fn24 rfl _).trans ((run_eq _ _ _ _).trans (by kernel_rfl))
theorem F79_entry_Put_eq (x0_0 : Int) (x0_1 : Int) (x0_2 : Int) (x0_3 : Int) (x0_4 : Int) (x0_5 : Int) (x0_6 : Int) (x1_0 : ByteArray) (x1_1 : (List S54)) (x2 : ByteArray) (x3 : ByteArray) : F79_entry_Put x0_0 x0_1 x0_2 x0_3 x0_4 x0_5 x0_6 x1_0 x1_1 x2 x3 =
    (F95_entry_add x0_0 x0_1 x0_2 x0_3 x0_4 x0_5 x0_6 x1_0 x1_1 x2 x3 x0_4).bind fun y1 =>
    some (y1.1, y1.2.1, y1.2.2.1, y1.2.2.2.1, ()) :=
  (F_eq (G := G) rfl fn25 rfl _).trans ((run_eq _ _ _ _).trans (by kernel_rfl))
theorem F95_entry_add_eq (x0_0 : Int) (x0_1 : Int) (x0_2 : Int) (x0_3 : Int) (x0_4 : Int) (x0_5 : Int) (x0_6 : Int) (x1_0 : ByteArray) (x1_1 : (List S54)) (x2 : ByteArray) (x3 : ByteArray) (x4 : Int) : F95_entry_add x0_0 x0_1 x0_2 x0_3 x0_4 x0_5 x0_6 x1_0 x1_1 x2 x3 x4 =
    (F50_entry_named x0_0 x0_1 x0_2 x0_3 x0_4 x0_5 x0_6 x1_0 x1_1).bind fun y1 =>
    if y1.1 = (0 : Int) then
      (F67_entry_texts x0_0 x0_1 x0_2 x0_3 x0_4 x0_5 x0_6 x2 x3).bind fun y2 =>
      if ¬ y2.1 = (0 : Int) then
        some (ByteArray.empty, [], y2.1, [], ())
      else
        (F23_entry_Last x1_0 x1_1).bind fun y3 =>
        if y3.1 = (1073741824 : Int) then
          some (ByteArray.empty, [], 2, [], ())
        else
          (F65_slices_Clone x1_1).bind fun y4 =>
          let e5 : (List S54) := [(S54.mk (IntKind.i64.wrap (y3.1 + (1 : Int))) x2 x3)]
          if (List.length y4.1 + List.length e5) * 40 ≤ 140737488355328 then
            let e6 : Int := IntKind.i64.wrap ((List.length (y4.1 ++ e5) : Int) - x4)
            let e7 : (List S54) := subL (y4.1 ++ e5) (mx 0 e6) (List.length (y4.1 ++ e5) : Int)
            if (0 : Int) ≤ (mx 0 e6) ∧ (mx 0 e6) ≤ (List.length (y4.1 ++ e5) : Int) ∧ (List.length (y4.1 ++ e5) : Int) ≤ (List.length (y4.1 ++ e5) : Int) then
              (F65_slices_Clone e7).bind fun y8 =>
              if (0 : Int) ≤ 0 ∧ (0 : Int) ≤ (mx 0 e6) ∧ (mx 0 e6) ≤ (List.length (y4.1 ++ e5) : Int) then
                (F65_slices_Clone (subL (y4.1 ++ e5) 0 (mx 0 e6))).bind fun y9 =>
                some (x1_0, y8.1, 0, y9.1, ())
              else
                none
            else
              none
          else
            none
    else
      if ¬ y1.1 = (0 : Int) then
        some (ByteArray.empty, [], y1.1, [], ())
      else
        (F23_entry_Last x1_0 x1_1).bind fun y10 =>
        if y10.1 = (1073741824 : Int) then
          some (ByteArray.empty, [], 2, [], ())
        else
          (F65_slices_Clone x1_1).bind fun y11 =>
          let e12 : (List S54) := [(S54.mk (IntKind.i64.wrap (y10.1 + (1 : Int))) x2 x3)]
          if (List.length y11.1 + List.length e12) * 40 ≤ 140737488355328 then
            let e13 : Int := IntKind.i64.wrap ((List.length (y11.1 ++ e12) : Int) - x4)
            let e14 : (List S54) := subL (y11.1 ++ e12) (mx 0 e13) (List.length (y11.1 ++ e12) : Int)
            if (0 : Int) ≤ (mx 0 e13) ∧ (mx 0 e13) ≤ (List.length (y11.1 ++ e12) : Int) ∧ (List.length (y11.1 ++ e12) : Int) ≤ (List.length (y11.1 ++ e12) : Int) then
              (F65_slices_Clone e14).bind fun y15 =>
              if (0 : Int) ≤ 0 ∧ (0 : Int) ≤ (mx 0 e13) ∧ (mx 0 e13) ≤ (List.length (y11.1 ++ e12) : Int) then
                (F65_slices_Clone (subL (y11.1 ++ e12) 0 (mx 0 e13))).bind fun y16 =>
                some (x1_0, y15.1, 0, y16.1, ())
              else
                none
            else
              none
          else
            none :=
  (F_eq (G := G) rfl fn26 rfl _).trans ((run_eq _ _ _ _).trans (by kernel_rfl))
theorem F50_entry_named_eq (x0_0 : Int) (x0_1 : Int) (x0_2 : Int) (x0_3 : Int) (x0_4 : Int) (x0_5 : Int) (x0_6 : Int) (x1_0 : ByteArray) (x1_1 : (List S54)) : F50_entry_named x0_0 x0_1 x0_2 x0_3 x0_4 x0_5 x0_6 x1_0 x1_1 =
    (F39_quota_Right x0_0 x0_1 x0_2 x0_3 x0_4 x0_5 x0_6).bind fun y1 =>
    if ¬ y1.1 = (0 : Int) then
      some (40, ())
    else
      if x1_0 = ByteArray.empty then
        some (4, ())
      else
        if x0_1 < (ByteArray.size x1_0 : Int) then
          some (5, ())
        else
          if x0_4 < (List.length x1_1 : Int) then
            some (50, ())
          else
            F50_entry_named_l1000011 0 x1_1 (List.length x1_1 : Int) 0 x0_0 x0_1 x0_2 x0_3 x0_4 x0_5 x0_6 :=
  (F_eq (G := G) rfl fn27 rfl _).trans ((run_eq _ _ _ _).trans (by kernel_rfl))
theorem F50_entry_named_l1000011_eq (v5 : Int) (v32 : (List S54)) (v33 : Int) (v34 : Int) (h0_0 : Int) (h0_1 : Int) (h0_2 : Int) (h0_3 : Int) (h0_4 : Int) (h0_5 : Int) (h0_6 : Int) : F50_entry_named_l1000011 v5 v32 v33 v34 h0_0 h0_1 h0_2 h0_3 h0_4 h0_5 h0_6 =
    if v34 < v33 then
      if (0 : Int) ≤ v34 ∧ v34 < (List.length v32 : Int) then
        if (S54.f0 (rd S54.z v32 v34)) ≤ v5 then
          some (50, ())
        else
          if (1073741824 : Int) < (S54.f0 (rd S54.z v32 v34)) then
            some (50, ())
          else
            (F67_entry_texts h0_0 h0_1 h0_2 h0_3 h0_4 h0_5 h0_6 (S54.f1 (rd S54.z v32 v34)) (S54.f2 (rd S54.z v32 v34))).bind fun y1 =>
            if ¬ y1.1 = (0 : Int) then
              some (y1.1, ())
            else
              F50_entry_named_l1000011 (S54.f0 (rd S54.z v32 v34)) v32 v33 (IntKind.i64.wrap (v34 + (1 : Int))) h0_0 h0_1 h0_2 h0_3 h0_4 h0_5 h0_6
      else
        none
    else
      some (0, ()) :=
  (run_eq _ _ _ _).trans (by kernel_rfl)
theorem F67_entry_texts_eq (x0_0 : Int) (x0_1 : Int) (x0_2 : Int) (x0_3 : Int) (x0_4 : Int) (x0_5 : Int) (x0_6 : Int) (x1 : ByteArray) (x2 : ByteArray) : F67_entry_texts x0_0 x0_1 x0_2 x0_3 x0_4 x0_5 x0_6 x1 x2 =
    if x0_2 < (ByteArray.size x1 : Int) then
      some (5, ())
    else
      if x0_3 < (ByteArray.size x2 : Int) then
        some (5, ())
      else
        some (0, ()) :=
  (F_eq (G := G) rfl fn28 rfl _).trans ((run_eq _ _ _ _).trans (by kernel_rfl))
theorem F23_entry_Last_eq (x0_0 : ByteArray) (x0_1 : (List S54)) : F23_entry_Last x0_0 x0_1 =
    if (List.length x0_1 : Int) = (0 : Int) then
      some (0, ByteArray.empty, ByteArray.empty, false, ())
    else
      let e1 : Int := IntKind.i64.wrap ((List.length x0_1 : Int) - (1 : Int))
      if (0 : Int) ≤ e1 ∧ e1 < (List.length x0_1 : Int) then
        some ((S54.f0 (rd S54.z x0_1 e1)), (S54.f1 (rd S54.z x0_1 e1)), (S54.f2 (rd S54.z x0_1 e1)), true, ())
      else
        none :=
  (F_eq (G := G) rfl fn29 rfl _).trans ((run_eq _ _ _ _).trans (by kernel_rfl))
end
end Go.Proofs.Ytieanabokifjpaa.BookHistoryx
