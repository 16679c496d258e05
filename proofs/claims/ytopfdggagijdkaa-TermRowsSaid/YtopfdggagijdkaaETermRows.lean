/- The law TermRows: what each function answers, in plain equations. Under no condition. -/
import Derived.Test.YtopfdggagijdkaaTTermRows
set_option linter.unusedVariables false
set_option maxRecDepth 100000
namespace Go.Proofs.Ytopfdggagijdkaa.TermRowsx
open Go Go.RowKit Go.Proofs.Ytopfdggagijdkaa.Rx Go.Proofs.Ytopfdggagijdkaa.TermRowsx
noncomputable section
theorem F9_lethelaw02_TermRows_eq (x0 : (List S25)) (x1 : Int) : F9_lethelaw02_TermRows x0 x1 =
    if (100 : Int) < (List.length x0 : Int) then
      if (0 : Int) ≤ 0 ∧ (0 : Int) ≤ 100 ∧ (100 : Int) ≤ (List.length x0 : Int) then
        (F17_term_Of (subL x0 0 100)).bind fun y1 =>
        (F28_term_Encode y1.1 y1.2.1 y1.2.2.1 y1.2.2.2.1).bind fun y2 =>
        (F35_letheref02_Right y1.1 y1.2.1 y1.2.2.1 y1.2.2.2.1).bind fun y3 =>
        if ¬ y2.2.1 = y3.1 then
          some (false, ())
        else
          if ¬ y2.2.1 = (0 : Int) then
            some ((decide (y2.1 = ByteArray.empty)), ())
          else
            let e4 : Int := IntKind.u64.wrap (List.length (subL x0 0 100) : Int)
            (F24_term_PutNum e4).bind fun y5 =>
            if ByteArray.size (ByteArray.mk #[5]) + ByteArray.size y5.1 ≤ 9223372036854775807 then
              F9_lethelaw02_TermRows_l1000011 x1 y2.1 ((ByteArray.mk #[5]) ++ y5.1) (subL x0 0 100) (List.length (subL x0 0 100) : Int) 0 y1.1 y1.2.1 y1.2.2.1 y1.2.2.2.1
            else
              none
      else
        none
    else
      (F17_term_Of x0).bind fun y6 =>
      (F28_term_Encode y6.1 y6.2.1 y6.2.2.1 y6.2.2.2.1).bind fun y7 =>
      (F35_letheref02_Right y6.1 y6.2.1 y6.2.2.1 y6.2.2.2.1).bind fun y8 =>
      if ¬ y7.2.1 = y8.1 then
        some (false, ())
      else
        if ¬ y7.2.1 = (0 : Int) then
          some ((decide (y7.1 = ByteArray.empty)), ())
        else
          (F24_term_PutNum (IntKind.u64.wrap (List.length x0 : Int))).bind fun y9 =>
          if ByteArray.size (ByteArray.mk #[5]) + ByteArray.size y9.1 ≤ 9223372036854775807 then
            F9_lethelaw02_TermRows_l1000011 x1 y7.1 ((ByteArray.mk #[5]) ++ y9.1) x0 (List.length x0 : Int) 0 y6.1 y6.2.1 y6.2.2.1 y6.2.2.2.1
          else
            none :=
  (F_eq (G := G) rfl fn0 rfl _).trans ((run_eq _ _ _ _).trans (by kernel_rfl))
theorem F9_lethelaw02_TermRows_l1000011_eq (v1 : Int) (v6 : ByteArray) (v8 : ByteArray) (v43 : (List S25)) (v44 : Int) (v45 : Int) (h0_0 : Int) (h0_1 : Int) (h0_2 : ByteArray) (h0_3 : (List S25)) : F9_lethelaw02_TermRows_l1000011 v1 v6 v8 v43 v44 v45 h0_0 h0_1 h0_2 h0_3 =
    if v45 < v44 then
      if (0 : Int) ≤ v45 ∧ v45 < (List.length v43 : Int) then
        (F28_term_Encode (S25.f0 (rd S25.z v43 v45)) (S25.f1 (rd S25.z v43 v45)) (S25.f2 (rd S25.z v43 v45)) (S25.f3 (rd S25.z v43 v45))).bind fun y1 =>
        if ¬ y1.2.1 = (0 : Int) then
          some (false, ())
        else
          if ByteArray.size v8 + ByteArray.size y1.1 ≤ 9223372036854775807 then
            F9_lethelaw02_TermRows_l1000011 v1 v6 (v8 ++ y1.1) v43 v44 (IntKind.i64.wrap (v45 + (1 : Int))) h0_0 h0_1 h0_2 h0_3
          else
            none
      else
        none
    else
      (F28_term_Encode 4 v1 ByteArray.empty [(S25.mk h0_0 h0_1 h0_2 h0_3)]).bind fun y2 =>
      (F35_letheref02_Right 4 v1 ByteArray.empty [(S25.mk h0_0 h0_1 h0_2 h0_3)]).bind fun y3 =>
      if ¬ y2.2.1 = y3.1 then
        some (false, ())
      else
        if y2.2.1 = (0 : Int) then
          (F24_term_PutNum v1).bind fun y4 =>
          if ByteArray.size (ByteArray.mk #[4]) + ByteArray.size y4.1 ≤ 9223372036854775807 then
            if ByteArray.size ((ByteArray.mk #[4]) ++ y4.1) + ByteArray.size v6 ≤ 9223372036854775807 then
              if ¬ y2.1 = (((ByteArray.mk #[4]) ++ y4.1) ++ v6) then
                some (false, ())
              else
                (F30_term_Size h0_0 h0_1 h0_2 h0_3).bind fun y5 =>
                if v6 = v8 then
                  if y5.2.1 = (0 : Int) then
                    some ((decide (y5.1 = (ByteArray.size v6 : Int))), ())
                  else
                    some (false, ())
                else
                  some (false, ())
            else
              none
          else
            none
        else
          (F30_term_Size h0_0 h0_1 h0_2 h0_3).bind fun y6 =>
          if v6 = v8 then
            if y6.2.1 = (0 : Int) then
              some ((decide (y6.1 = (ByteArray.size v6 : Int))), ())
            else
              some (false, ())
          else
            some (false, ()) :=
  (run_eq _ _ _ _).trans (by kernel_rfl)
theorem F17_term_Of_eq (x0 : (List S25)) : F17_term_Of x0 =
    (F46_term_clone 5 0 ByteArray.empty x0).bind fun y1 =>
    some (y1.1, y1.2.1, y1.2.2.1, y1.2.2.2.1, ()) :=
  (F_eq (G := G) rfl fn1 rfl _).trans ((run_eq _ _ _ _).trans (by kernel_rfl))
theorem F28_term_Encode_eq (x0_0 : Int) (x0_1 : Int) (x0_2 : ByteArray) (x0_3 : (List S25)) : F28_term_Encode x0_0 x0_1 x0_2 x0_3 =
    (F40_term_Right x0_0 x0_1 x0_2 x0_3).bind fun y1 =>
    if ¬ y1.1 = (0 : Int) then
      some (ByteArray.empty, y1.1, ())
    else
      (F49_term_write x0_0 x0_1 x0_2 x0_3 []).bind fun y2 =>
      some ((strOf y2.1), 0, ()) :=
  (F_eq (G := G) rfl fn2 rfl _).trans ((run_eq _ _ _ _).trans (by kernel_rfl))
theorem F35_letheref02_Right_eq (x0_0 : Int) (x0_1 : Int) (x0_2 : ByteArray) (x0_3 : (List S25)) : F35_letheref02_Right x0_0 x0_1 x0_2 x0_3 =
    (F54_letheref02_Parts x0_0 x0_1 x0_2 x0_3 4001).bind fun y1 =>
    if (4000 : Int) < y1.1 then
      some (23, ())
    else
      (F55_letheref02_Deep x0_0 x0_1 x0_2 x0_3 13).bind fun y2 =>
      if (12 : Int) < y2.1 then
        some (22, ())
      else
        (F56_letheref02_shaped x0_0 x0_1 x0_2 x0_3).bind fun y3 =>
        if (!y3.1) = true then
          some (25, ())
        else
          some (0, ()) :=
  (F_eq (G := G) rfl fn3 rfl _).trans ((run_eq _ _ _ _).trans (by kernel_rfl))
theorem F24_term_PutNum_eq (x0 : Int) : F24_term_PutNum x0 =
    F24_term_PutNum_l1000002 x0 [] :=
  (F_eq (G := G) rfl fn4 rfl _).trans ((run_eq _ _ _ _).trans (by kernel_rfl))
theorem F24_term_PutNum_l1000002_eq (v0 : Int) (g0 : (List Int)) : F24_term_PutNum_l1000002 v0 g0 =
    if (128 : Int) ≤ v0 then
      let e1 : (List Int) := [(bitsR .or .u8 (IntKind.u8.wrap v0) (128 : Int))]
      if (List.length g0 + List.length e1) * 1 ≤ 140737488355328 then
        F24_term_PutNum_l1000002 (shrR .u64 v0 (7 : Int)) (g0 ++ e1)
      else
        none
    else
      if (List.length g0 + List.length [(IntKind.u8.wrap v0)]) * 1 ≤ 140737488355328 then
        some ((strOf (g0 ++ [(IntKind.u8.wrap v0)])), ())
      else
        none :=
  (run_eq _ _ _ _).trans (by kernel_rfl)
theorem F30_term_Size_eq (x0_0 : Int) (x0_1 : Int) (x0_2 : ByteArray) (x0_3 : (List S25)) : F30_term_Size x0_0 x0_1 x0_2 x0_3 =
    (F28_term_Encode x0_0 x0_1 x0_2 x0_3).bind fun y1 =>
    some ((ByteArray.size y1.1 : Int), y1.2.1, ()) :=
  (F_eq (G := G) rfl fn5 rfl _).trans ((run_eq _ _ _ _).trans (by kernel_rfl))
theorem F54_letheref02_Parts_eq (x0_0 : Int) (x0_1 : Int) (x0_2 : ByteArray) (x0_3 : (List S25)) (x1 : Int) : F54_letheref02_Parts x0_0 x0_1 x0_2 x0_3 x1 =
    F54_letheref02_Parts_l1000003 x1 1 x0_3 (List.length x0_3 : Int) 0 :=
  (F_eq (G := G) rfl fn6 rfl _).trans ((run_eq _ _ _ _).trans (by kernel_rfl))
theorem F54_letheref02_Parts_l1000003_eq (v1 : Int) (v5 : Int) (v9 : (List S25)) (v10 : Int) (v11 : Int) : F54_letheref02_Parts_l1000003 v1 v5 v9 v10 v11 =
    if v11 < v10 then
      if (0 : Int) ≤ v11 ∧ v11 < (List.length v9 : Int) then
        if v1 ≤ v5 then
          some (v1, ())
        else
          (F54_letheref02_Parts (S25.f0 (rd S25.z v9 v11)) (S25.f1 (rd S25.z v9 v11)) (S25.f2 (rd S25.z v9 v11)) (S25.f3 (rd S25.z v9 v11)) (IntKind.i64.wrap (v1 - v5))).bind fun y1 =>
          F54_letheref02_Parts_l1000003 v1 (IntKind.i64.wrap (v5 + y1.1)) v9 v10 (IntKind.i64.wrap (v11 + (1 : Int)))
      else
        none
    else
      if v1 < v5 then
        some (v1, ())
      else
        some (v5, ()) :=
  (run_eq _ _ _ _).trans (by kernel_rfl)
theorem F55_letheref02_Deep_eq (x0_0 : Int) (x0_1 : Int) (x0_2 : ByteArray) (x0_3 : (List S25)) (x1 : Int) : F55_letheref02_Deep x0_0 x0_1 x0_2 x0_3 x1 =
    if x1 ≤ (1 : Int) then
      some (x1, ())
    else
      F55_letheref02_Deep_l1000005 x1 0 x0_3 (List.length x0_3 : Int) 0 :=
  (F_eq (G := G) rfl fn7 rfl _).trans ((run_eq _ _ _ _).trans (by kernel_rfl))
theorem F55_letheref02_Deep_l1000005_eq (v1 : Int) (v5 : Int) (v13 : (List S25)) (v14 : Int) (v15 : Int) : F55_letheref02_Deep_l1000005 v1 v5 v13 v14 v15 =
    if v15 < v14 then
      if (0 : Int) ≤ v15 ∧ v15 < (List.length v13 : Int) then
        (F55_letheref02_Deep (S25.f0 (rd S25.z v13 v15)) (S25.f1 (rd S25.z v13 v15)) (S25.f2 (rd S25.z v13 v15)) (S25.f3 (rd S25.z v13 v15)) (IntKind.i64.wrap (v1 - (1 : Int)))).bind fun y1 =>
        if v5 < y1.1 then
          if (IntKind.i64.wrap (v1 - (1 : Int))) ≤ y1.1 then
            some (v1, ())
          else
            F55_letheref02_Deep_l1000005 v1 y1.1 v13 v14 (IntKind.i64.wrap (v15 + (1 : Int)))
        else
          if (IntKind.i64.wrap (v1 - (1 : Int))) ≤ v5 then
            some (v1, ())
          else
            F55_letheref02_Deep_l1000005 v1 v5 v13 v14 (IntKind.i64.wrap (v15 + (1 : Int)))
      else
        none
    else
      some ((IntKind.i64.wrap (v5 + (1 : Int))), ()) :=
  (run_eq _ _ _ _).trans (by kernel_rfl)
theorem F56_letheref02_shaped_eq (x0_0 : Int) (x0_1 : Int) (x0_2 : ByteArray) (x0_3 : (List S25)) : F56_letheref02_shaped x0_0 x0_1 x0_2 x0_3 =
    (F66_letheref02_One x0_0 x0_1 x0_2 x0_3).bind fun y1 =>
    if (!y1.1) = true then
      some (false, ())
    else
      F56_letheref02_shaped_l1000004 x0_3 (List.length x0_3 : Int) 0 :=
  (F_eq (G := G) rfl fn8 rfl _).trans ((run_eq _ _ _ _).trans (by kernel_rfl))
theorem F56_letheref02_shaped_l1000004_eq (v9 : (List S25)) (v10 : Int) (v11 : Int) : F56_letheref02_shaped_l1000004 v9 v10 v11 =
    if v11 < v10 then
      if (0 : Int) ≤ v11 ∧ v11 < (List.length v9 : Int) then
        (F56_letheref02_shaped (S25.f0 (rd S25.z v9 v11)) (S25.f1 (rd S25.z v9 v11)) (S25.f2 (rd S25.z v9 v11)) (S25.f3 (rd S25.z v9 v11))).bind fun y1 =>
        if (!y1.1) = true then
          some (false, ())
        else
          F56_letheref02_shaped_l1000004 v9 v10 (IntKind.i64.wrap (v11 + (1 : Int)))
      else
        none
    else
      some (true, ()) :=
  (run_eq _ _ _ _).trans (by kernel_rfl)
theorem F66_letheref02_One_eq (x0_0 : Int) (x0_1 : Int) (x0_2 : ByteArray) (x0_3 : (List S25)) : F66_letheref02_One x0_0 x0_1 x0_2 x0_3 =
    if x0_0 = (1 : Int) then
      if x0_0 = (1 : Int) then
        if x0_2 = ByteArray.empty then
          some ((decide ((List.length x0_3 : Int) = (0 : Int))), ())
        else
          some (false, ())
      else
        if x0_0 = (2 : Int) then
          if x0_1 = (0 : Int) then
            if (ByteArray.size x0_2 : Int) ≤ (4000 : Int) then
              some ((decide ((List.length x0_3 : Int) = (0 : Int))), ())
            else
              some (false, ())
          else
            some (false, ())
        else
          if x0_0 = (4 : Int) then
            if x0_2 = ByteArray.empty then
              some ((decide ((List.length x0_3 : Int) = (1 : Int))), ())
            else
              some (false, ())
          else
            if x0_0 = (5 : Int) then
              if x0_1 = (0 : Int) then
                some ((decide (x0_2 = ByteArray.empty)), ())
              else
                some (false, ())
            else
              some (false, ())
    else
      if x0_0 = (3 : Int) then
        if x0_2 = ByteArray.empty then
          some ((decide ((List.length x0_3 : Int) = (0 : Int))), ())
        else
          some (false, ())
      else
        if x0_0 = (2 : Int) then
          if x0_1 = (0 : Int) then
            if (ByteArray.size x0_2 : Int) ≤ (4000 : Int) then
              some ((decide ((List.length x0_3 : Int) = (0 : Int))), ())
            else
              some (false, ())
          else
            some (false, ())
        else
          if x0_0 = (4 : Int) then
            if x0_2 = ByteArray.empty then
              some ((decide ((List.length x0_3 : Int) = (1 : Int))), ())
            else
              some (false, ())
          else
            if x0_0 = (5 : Int) then
              if x0_1 = (0 : Int) then
                some ((decide (x0_2 = ByteArray.empty)), ())
              else
                some (false, ())
            else
              some (false, ()) :=
  (F_eq (G := G) rfl fn9 rfl _).trans ((run_eq _ _ _ _).trans (by kernel_rfl))
theorem F40_term_Right_eq (x0_0 : Int) (x0_1 : Int) (x0_2 : ByteArray) (x0_3 : (List S25)) : F40_term_Right x0_0 x0_1 x0_2 x0_3 =
    (F58_term_parts x0_0 x0_1 x0_2 x0_3 4001).bind fun y1 =>
    if (4000 : Int) < y1.1 then
      some (23, ())
    else
      (F59_term_deep x0_0 x0_1 x0_2 x0_3 13).bind fun y2 =>
      if (12 : Int) < y2.1 then
        some (22, ())
      else
        (F60_term_shaped x0_0 x0_1 x0_2 x0_3).bind fun y3 =>
        if (!y3.1) = true then
          some (25, ())
        else
          some (0, ()) :=
  (F_eq (G := G) rfl fn10 rfl _).trans ((run_eq _ _ _ _).trans (by kernel_rfl))
theorem F49_term_write_eq (x1_0 : Int) (x1_1 : Int) (x1_2 : ByteArray) (x1_3 : (List S25)) (g0 : (List Int)) : F49_term_write x1_0 x1_1 x1_2 x1_3 g0 =
    if (List.length g0 + List.length [(IntKind.u8.wrap x1_0)]) * 1 ≤ 140737488355328 then
      if x1_0 = (1 : Int) then
        if x1_0 = (1 : Int) then
          (F24_term_PutNum x1_1).bind fun y1 =>
          let e2 : (List Int) := (g0 ++ [(IntKind.u8.wrap x1_0)]) ++ (bytesOf y1.1)
          if (List.length (g0 ++ [(IntKind.u8.wrap x1_0)]) + List.length (bytesOf y1.1)) * 1 ≤ 140737488355328 then
            F49_term_write_l11 e2 x1_0 x1_1 x1_2 x1_3
          else
            none
        else
          if x1_0 = (2 : Int) then
            (F24_term_PutNum (IntKind.u64.wrap (ByteArray.size x1_2 : Int))).bind fun y3 =>
            let e4 : (List Int) := (g0 ++ [(IntKind.u8.wrap x1_0)]) ++ (bytesOf y3.1)
            if (List.length (g0 ++ [(IntKind.u8.wrap x1_0)]) + List.length (bytesOf y3.1)) * 1 ≤ 140737488355328 then
              if (List.length e4 + List.length (bytesOf x1_2)) * 1 ≤ 140737488355328 then
                F49_term_write_l11 (e4 ++ (bytesOf x1_2)) x1_0 x1_1 x1_2 x1_3
              else
                none
            else
              none
          else
            if x1_0 = (5 : Int) then
              (F24_term_PutNum (IntKind.u64.wrap (List.length x1_3 : Int))).bind fun y5 =>
              let e6 : (List Int) := (g0 ++ [(IntKind.u8.wrap x1_0)]) ++ (bytesOf y5.1)
              if (List.length (g0 ++ [(IntKind.u8.wrap x1_0)]) + List.length (bytesOf y5.1)) * 1 ≤ 140737488355328 then
                F49_term_write_l11 e6 x1_0 x1_1 x1_2 x1_3
              else
                none
            else
              F49_term_write_l11 (g0 ++ [(IntKind.u8.wrap x1_0)]) x1_0 x1_1 x1_2 x1_3
      else
        if x1_0 = (3 : Int) then
          if x1_0 = (3 : Int) then
            (F24_term_PutNum x1_1).bind fun y7 =>
            let e8 : (List Int) := (g0 ++ [(IntKind.u8.wrap x1_0)]) ++ (bytesOf y7.1)
            if (List.length (g0 ++ [(IntKind.u8.wrap x1_0)]) + List.length (bytesOf y7.1)) * 1 ≤ 140737488355328 then
              F49_term_write_l11 e8 x1_0 x1_1 x1_2 x1_3
            else
              none
          else
            if x1_0 = (2 : Int) then
              (F24_term_PutNum (IntKind.u64.wrap (ByteArray.size x1_2 : Int))).bind fun y9 =>
              let e10 : (List Int) := (g0 ++ [(IntKind.u8.wrap x1_0)]) ++ (bytesOf y9.1)
              if (List.length (g0 ++ [(IntKind.u8.wrap x1_0)]) + List.length (bytesOf y9.1)) * 1 ≤ 140737488355328 then
                if (List.length e10 + List.length (bytesOf x1_2)) * 1 ≤ 140737488355328 then
                  F49_term_write_l11 (e10 ++ (bytesOf x1_2)) x1_0 x1_1 x1_2 x1_3
                else
                  none
              else
                none
            else
              if x1_0 = (5 : Int) then
                (F24_term_PutNum (IntKind.u64.wrap (List.length x1_3 : Int))).bind fun y11 =>
                let e12 : (List Int) := (g0 ++ [(IntKind.u8.wrap x1_0)]) ++ (bytesOf y11.1)
                if (List.length (g0 ++ [(IntKind.u8.wrap x1_0)]) + List.length (bytesOf y11.1)) * 1 ≤ 140737488355328 then
                  F49_term_write_l11 e12 x1_0 x1_1 x1_2 x1_3
                else
                  none
              else
                F49_term_write_l11 (g0 ++ [(IntKind.u8.wrap x1_0)]) x1_0 x1_1 x1_2 x1_3
        else
          if x1_0 = (4 : Int) then
            (F24_term_PutNum x1_1).bind fun y13 =>
            let e14 : (List Int) := (g0 ++ [(IntKind.u8.wrap x1_0)]) ++ (bytesOf y13.1)
            if (List.length (g0 ++ [(IntKind.u8.wrap x1_0)]) + List.length (bytesOf y13.1)) * 1 ≤ 140737488355328 then
              F49_term_write_l11 e14 x1_0 x1_1 x1_2 x1_3
            else
              none
          else
            if x1_0 = (2 : Int) then
              (F24_term_PutNum (IntKind.u64.wrap (ByteArray.size x1_2 : Int))).bind fun y15 =>
              let e16 : (List Int) := (g0 ++ [(IntKind.u8.wrap x1_0)]) ++ (bytesOf y15.1)
              if (List.length (g0 ++ [(IntKind.u8.wrap x1_0)]) + List.length (bytesOf y15.1)) * 1 ≤ 140737488355328 then
                if (List.length e16 + List.length (bytesOf x1_2)) * 1 ≤ 140737488355328 then
                  F49_term_write_l11 (e16 ++ (bytesOf x1_2)) x1_0 x1_1 x1_2 x1_3
                else
                  none
              else
                none
            else
              if x1_0 = (5 : Int) then
                (F24_term_PutNum (IntKind.u64.wrap (List.length x1_3 : Int))).bind fun y17 =>
                let e18 : (List Int) := (g0 ++ [(IntKind.u8.wrap x1_0)]) ++ (bytesOf y17.1)
                if (List.length (g0 ++ [(IntKind.u8.wrap x1_0)]) + List.length (bytesOf y17.1)) * 1 ≤ 140737488355328 then
                  F49_term_write_l11 e18 x1_0 x1_1 x1_2 x1_3
                else
                  none
              else
                F49_term_write_l11 (g0 ++ [(IntKind.u8.wrap x1_0)]) x1_0 x1_1 x1_2 x1_3
    else
      none :=
  (F_eq (G := G) rfl fn11 rfl _).trans ((run_eq _ _ _ _).trans (by kernel_rfl))
theorem F49_term_write_l11_eq (g1 : (List Int)) (h2_0 : Int) (h2_1 : Int) (h2_2 : ByteArray) (h2_3 : (List S25)) : F49_term_write_l11 g1 h2_0 h2_1 h2_2 h2_3 =
    F49_term_write_l1000012 h2_3 (List.length h2_3 : Int) 0 g1 :=
  (run_eq _ _ _ _).trans (by kernel_rfl)
theorem F49_term_write_l1000012_eq (v46 : (List S25)) (v47 : Int) (v48 : Int) (g1 : (List Int)) : F49_term_write_l1000012 v46 v47 v48 g1 =
    if v48 < v47 then
      if (0 : Int) ≤ v48 ∧ v48 < (List.length v46 : Int) then
        (F49_term_write (S25.f0 (rd S25.z v46 v48)) (S25.f1 (rd S25.z v46 v48)) (S25.f2 (rd S25.z v46 v48)) (S25.f3 (rd S25.z v46 v48)) g1).bind fun y1 =>
        F49_term_write_l1000012 v46 v47 (IntKind.i64.wrap (v48 + (1 : Int))) y1.1
      else
        none
    else
      some (g1, ()) :=
  (run_eq _ _ _ _).trans (by kernel_rfl)
theorem F58_term_parts_eq (x0_0 : Int) (x0_1 : Int) (x0_2 : ByteArray) (x0_3 : (List S25)) (x1 : Int) : F58_term_parts x0_0 x0_1 x0_2 x0_3 x1 =
    F58_term_parts_l1000003 x1 1 x0_3 (List.length x0_3 : Int) 0 :=
  (F_eq (G := G) rfl fn12 rfl _).trans ((run_eq _ _ _ _).trans (by kernel_rfl))
theorem F58_term_parts_l1000003_eq (v1 : Int) (v5 : Int) (v9 : (List S25)) (v10 : Int) (v11 : Int) : F58_term_parts_l1000003 v1 v5 v9 v10 v11 =
    if v11 < v10 then
      if (0 : Int) ≤ v11 ∧ v11 < (List.length v9 : Int) then
        if v1 ≤ v5 then
          some (v5, ())
        else
          (F58_term_parts (S25.f0 (rd S25.z v9 v11)) (S25.f1 (rd S25.z v9 v11)) (S25.f2 (rd S25.z v9 v11)) (S25.f3 (rd S25.z v9 v11)) (IntKind.i64.wrap (v1 - v5))).bind fun y1 =>
          F58_term_parts_l1000003 v1 (IntKind.i64.wrap (v5 + y1.1)) v9 v10 (IntKind.i64.wrap (v11 + (1 : Int)))
      else
        none
    else
      some (v5, ()) :=
  (run_eq _ _ _ _).trans (by kernel_rfl)
theorem F59_term_deep_eq (x0_0 : Int) (x0_1 : Int) (x0_2 : ByteArray) (x0_3 : (List S25)) (x1 : Int) : F59_term_deep x0_0 x0_1 x0_2 x0_3 x1 =
    if (1 : Int) < x1 then
      F59_term_deep_l1000004 x1 0 x0_3 (List.length x0_3 : Int) 0
    else
      some ((IntKind.i64.wrap ((0 : Int) + (1 : Int))), ()) :=
  (F_eq (G := G) rfl fn13 rfl _).trans ((run_eq _ _ _ _).trans (by kernel_rfl))
theorem F59_term_deep_l1000004_eq (v1 : Int) (v5 : Int) (v11 : (List S25)) (v12 : Int) (v13 : Int) : F59_term_deep_l1000004 v1 v5 v11 v12 v13 =
    if v13 < v12 then
      if (0 : Int) ≤ v13 ∧ v13 < (List.length v11 : Int) then
        (F59_term_deep (S25.f0 (rd S25.z v11 v13)) (S25.f1 (rd S25.z v11 v13)) (S25.f2 (rd S25.z v11 v13)) (S25.f3 (rd S25.z v11 v13)) (IntKind.i64.wrap (v1 - (1 : Int)))).bind fun y1 =>
        F59_term_deep_l1000004 v1 (mx v5 y1.1) v11 v12 (IntKind.i64.wrap (v13 + (1 : Int)))
      else
        none
    else
      some ((IntKind.i64.wrap (v5 + (1 : Int))), ()) :=
  (run_eq _ _ _ _).trans (by kernel_rfl)
theorem F60_term_shaped_eq (x0_0 : Int) (x0_1 : Int) (x0_2 : ByteArray) (x0_3 : (List S25)) : F60_term_shaped x0_0 x0_1 x0_2 x0_3 =
    if x0_0 = (1 : Int) then
      if x0_0 = (1 : Int) then
        if x0_2 = ByteArray.empty then
          F60_term_shaped_l12 (decide ((List.length x0_3 : Int) = (0 : Int))) x0_0 x0_1 x0_2 x0_3
        else
          F60_term_shaped_l12 false x0_0 x0_1 x0_2 x0_3
      else
        if x0_0 = (2 : Int) then
          if x0_1 = (0 : Int) then
            if (ByteArray.size x0_2 : Int) ≤ (4000 : Int) then
              F60_term_shaped_l12 (decide ((List.length x0_3 : Int) = (0 : Int))) x0_0 x0_1 x0_2 x0_3
            else
              F60_term_shaped_l12 false x0_0 x0_1 x0_2 x0_3
          else
            F60_term_shaped_l12 false x0_0 x0_1 x0_2 x0_3
        else
          if x0_0 = (4 : Int) then
            if x0_2 = ByteArray.empty then
              F60_term_shaped_l12 (decide ((List.length x0_3 : Int) = (1 : Int))) x0_0 x0_1 x0_2 x0_3
            else
              F60_term_shaped_l12 false x0_0 x0_1 x0_2 x0_3
          else
            if x0_0 = (5 : Int) then
              if x0_1 = (0 : Int) then
                F60_term_shaped_l12 (decide (x0_2 = ByteArray.empty)) x0_0 x0_1 x0_2 x0_3
              else
                F60_term_shaped_l12 false x0_0 x0_1 x0_2 x0_3
            else
              F60_term_shaped_l12 false x0_0 x0_1 x0_2 x0_3
    else
      if x0_0 = (3 : Int) then
        if x0_2 = ByteArray.empty then
          F60_term_shaped_l12 (decide ((List.length x0_3 : Int) = (0 : Int))) x0_0 x0_1 x0_2 x0_3
        else
          F60_term_shaped_l12 false x0_0 x0_1 x0_2 x0_3
      else
        if x0_0 = (2 : Int) then
          if x0_1 = (0 : Int) then
            if (ByteArray.size x0_2 : Int) ≤ (4000 : Int) then
              F60_term_shaped_l12 (decide ((List.length x0_3 : Int) = (0 : Int))) x0_0 x0_1 x0_2 x0_3
            else
              F60_term_shaped_l12 false x0_0 x0_1 x0_2 x0_3
          else
            F60_term_shaped_l12 false x0_0 x0_1 x0_2 x0_3
        else
          if x0_0 = (4 : Int) then
            if x0_2 = ByteArray.empty then
              F60_term_shaped_l12 (decide ((List.length x0_3 : Int) = (1 : Int))) x0_0 x0_1 x0_2 x0_3
            else
              F60_term_shaped_l12 false x0_0 x0_1 x0_2 x0_3
          else
            if x0_0 = (5 : Int) then
              if x0_1 = (0 : Int) then
                F60_term_shaped_l12 (decide (x0_2 = ByteArray.empty)) x0_0 x0_1 x0_2 x0_3
              else
                F60_term_shaped_l12 false x0_0 x0_1 x0_2 x0_3
            else
              F60_term_shaped_l12 false x0_0 x0_1 x0_2 x0_3 :=
  (F_eq (G := G) rfl fn14 rfl _).trans ((run_eq _ _ _ _).trans (by kernel_rfl))
theorem F60_term_shaped_l12_eq (v3 : Bool) (h0_0 : Int) (h0_1 : Int) (h0_2 : ByteArray) (h0_3 : (List S25)) : F60_term_shaped_l12 v3 h0_0 h0_1 h0_2 h0_3 =
    if v3 = true then
      (F67_slices_ContainsFunc_68 h0_3).bind fun y1 =>
      some ((!y1.1), ())
    else
      some (false, ()) :=
  (run_eq _ _ _ _).trans (by kernel_rfl)
theorem F67_slices_ContainsFunc_68_eq (x0 : (List S25)) : F67_slices_ContainsFunc_68 x0 =
    (F70_slices_IndexFunc_68 x0).bind fun y1 =>
    some ((decide ((0 : Int) ≤ y1.1)), ()) :=
  (F_eq (G := G) rfl fn15 rfl _).trans ((run_eq _ _ _ _).trans (by kernel_rfl))
theorem F70_slices_IndexFunc_68_eq (x0 : (List S25)) : F70_slices_IndexFunc_68 x0 =
    F70_slices_IndexFunc_68_l1000002 x0 (List.length x0 : Int) 0 :=
  (F_eq (G := G) rfl fn16 rfl _).trans ((run_eq _ _ _ _).trans (by kernel_rfl))
theorem F70_slices_IndexFunc_68_l1000002_eq (v0 : (List S25)) (v7 : Int) (v8 : Int) : F70_slices_IndexFunc_68_l1000002 v0 v7 v8 =
    if v8 < v7 then
      if (0 : Int) ≤ v8 ∧ v8 < (List.length v0 : Int) then
        (F68_term_shaped_1 (S25.f0 (rd S25.z v0 v8)) (S25.f1 (rd S25.z v0 v8)) (S25.f2 (rd S25.z v0 v8)) (S25.f3 (rd S25.z v0 v8))).bind fun y1 =>
        if y1.1 = true then
          some (v8, ())
        else
          F70_slices_IndexFunc_68_l1000002 v0 v7 (IntKind.i64.wrap (v8 + (1 : Int)))
      else
        none
    else
      some ((-1), ()) :=
  (run_eq _ _ _ _).trans (by kernel_rfl)
theorem F68_term_shaped_1_eq (x0_0 : Int) (x0_1 : Int) (x0_2 : ByteArray) (x0_3 : (List S25)) : F68_term_shaped_1 x0_0 x0_1 x0_2 x0_3 =
    (F60_term_shaped x0_0 x0_1 x0_2 x0_3).bind fun y1 =>
    some ((!y1.1), ()) :=
  (F_eq (G := G) rfl fn17 rfl _).trans ((run_eq _ _ _ _).trans (by kernel_rfl))
theorem F46_term_clone_eq (x0_0 : Int) (x0_1 : Int) (x0_2 : ByteArray) (x0_3 : (List S25)) : F46_term_clone x0_0 x0_1 x0_2 x0_3 =
    F46_term_clone_l1000003 x0_3 (List.length x0_3 : Int) 0 x0_0 x0_1 x0_2 x0_3 0 0 ByteArray.empty [] [] :=
  (F_eq (G := G) rfl fn18 rfl _).trans ((run_eq _ _ _ _).trans (by kernel_rfl))
theorem F46_term_clone_l1000003_eq (v7 : (List S25)) (v8 : Int) (v9 : Int) (h0_0 : Int) (h0_1 : Int) (h0_2 : ByteArray) (h0_3 : (List S25)) (h1_0 : Int) (h1_1 : Int) (h1_2 : ByteArray) (g2 : (List S25)) (g3 : (List S25)) : F46_term_clone_l1000003 v7 v8 v9 h0_0 h0_1 h0_2 h0_3 h1_0 h1_1 h1_2 g2 g3 =
    if v9 < v8 then
      if (0 : Int) ≤ v9 ∧ v9 < (List.length v7 : Int) then
        (F46_term_clone (S25.f0 (rd S25.z v7 v9)) (S25.f1 (rd S25.z v7 v9)) (S25.f2 (rd S25.z v7 v9)) (S25.f3 (rd S25.z v7 v9))).bind fun y1 =>
        if (List.length g2 + List.length [(S25.mk y1.1 y1.2.1 y1.2.2.1 y1.2.2.2.1)]) * 56 ≤ 140737488355328 then
          F46_term_clone_l1000003 v7 v8 (IntKind.i64.wrap (v9 + (1 : Int))) h0_0 h0_1 h0_2 h0_3 h1_0 h1_1 h1_2 (g2 ++ [(S25.mk y1.1 y1.2.1 y1.2.2.1 y1.2.2.2.1)]) g3
        else
          none
      else
        none
    else
      some (h0_0, h0_1, h0_2, g2, ()) :=
  (run_eq _ _ _ _).trans (by kernel_rfl)
end
end Go.Proofs.Ytopfdggagijdkaa.TermRowsx
