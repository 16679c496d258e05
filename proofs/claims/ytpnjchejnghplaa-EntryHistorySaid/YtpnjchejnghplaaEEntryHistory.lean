/- The law EntryHistory: what each function answers, in plain equations. Under no condition. -/
import Derived.Test.YtpnjchejnghplaaTEntryHistory
set_option linter.unusedVariables false
set_option maxRecDepth 100000
namespace Go.Proofs.Ytpnjchejnghplaa.EntryHistoryx
open Go Go.RowKit Go.Proofs.Ytpnjchejnghplaa.Rx Go.Proofs.Ytpnjchejnghplaa.EntryHistoryx
noncomputable section
theorem F10_lethelaw05_EntryHistory_eq (x0_0 : Int) (x0_1 : Int) (x0_2 : Int) (x0_3 : Int) (x0_4 : Int) (x0_5 : Int) (x0_6 : Int) (x1 : ByteArray) (x2 : (List S61)) : F10_lethelaw05_EntryHistory x0_0 x0_1 x0_2 x0_3 x0_4 x0_5 x0_6 x1 x2 =
    (F32_letheref05_Named x0_0 x0_1 x0_2 x0_3 x0_4 x0_5 x0_6 x1 []).bind fun y1 =>
    if ¬ y1.1 = (0 : Int) then
      some (true, ())
    else
      F10_lethelaw05_EntryHistory_l1000007 x1 0 x2 (List.length x2 : Int) 0 x0_0 x0_1 x0_2 x0_3 x0_4 x0_5 x0_6 x1 [] [] :=
  (F_eq (G := G) rfl fn0 rfl _).trans ((run_eq _ _ _ _).trans (by kernel_rfl))
theorem F10_lethelaw05_EntryHistory_l1000007_eq (v1 : ByteArray) (v9 : Int) (v23 : (List S61)) (v24 : Int) (v25 : Int) (h0_0 : Int) (h0_1 : Int) (h0_2 : Int) (h0_3 : Int) (h0_4 : Int) (h0_5 : Int) (h0_6 : Int) (h1_0 : ByteArray) (h1_1 : (List S26)) (g2 : (List S26)) : F10_lethelaw05_EntryHistory_l1000007 v1 v9 v23 v24 v25 h0_0 h0_1 h0_2 h0_3 h0_4 h0_5 h0_6 h1_0 h1_1 g2 =
    if v25 < v24 then
      if (0 : Int) ≤ v25 ∧ v25 < (List.length v23 : Int) then
        if (60 : Int) ≤ v25 then
          some (true, ())
        else
          if (S61.f0 (rd S61.z v23 v25)) = true then
            (F27_entry_Over h0_0 h0_1 h0_2 h0_3 h0_4 h0_5 h0_6 h1_0 h1_1 (S61.f1 (rd S61.z v23 v25)) (S61.f2 (rd S61.z v23 v25))).bind fun y1 =>
            if h0_2 < (ByteArray.size (S61.f1 (rd S61.z v23 v25)) : Int) then
              F10_lethelaw05_EntryHistory_l15 v1 v9 y1.2.2.1 v23 v24 v25 h0_0 h0_1 h0_2 h0_3 h0_4 h0_5 h0_6 h1_0 h1_1 g2
            else
              if h0_3 < (ByteArray.size (S61.f2 (rd S61.z v23 v25)) : Int) then
                F10_lethelaw05_EntryHistory_l15 v1 v9 y1.2.2.1 v23 v24 v25 h0_0 h0_1 h0_2 h0_3 h0_4 h0_5 h0_6 h1_0 h1_1 g2
              else
                if (S61.f0 (rd S61.z v23 v25)) = true then
                  F10_lethelaw05_EntryHistory_l20 v1 (IntKind.i64.wrap (v9 + (1 : Int))) y1.2.2.1 v23 v24 v25 (S61.f2 (rd S61.z v23 v25)) (ByteArray.size (S61.f2 (rd S61.z v23 v25)) : Int) h0_3 (decide (h0_3 < (ByteArray.size (S61.f2 (rd S61.z v23 v25)) : Int))) h0_0 h0_1 h0_2 h0_3 h0_4 h0_5 h0_6 h1_0 h1_1 [] (S61.f0 (rd S61.z v23 v25)) (S61.f1 (rd S61.z v23 v25)) (S61.f2 (rd S61.z v23 v25)) y1.1 y1.2.1
                else
                  F10_lethelaw05_EntryHistory_l20 v1 (IntKind.i64.wrap (v9 + (1 : Int))) y1.2.2.1 v23 v24 v25 (S61.f2 (rd S61.z v23 v25)) (ByteArray.size (S61.f2 (rd S61.z v23 v25)) : Int) h0_3 (decide (h0_3 < (ByteArray.size (S61.f2 (rd S61.z v23 v25)) : Int))) h0_0 h0_1 h0_2 h0_3 h0_4 h0_5 h0_6 h1_0 h1_1 g2 (S61.f0 (rd S61.z v23 v25)) (S61.f1 (rd S61.z v23 v25)) (S61.f2 (rd S61.z v23 v25)) y1.1 y1.2.1
          else
            (F25_entry_Put h0_0 h0_1 h0_2 h0_3 h0_4 h0_5 h0_6 h1_0 h1_1 (S61.f1 (rd S61.z v23 v25)) (S61.f2 (rd S61.z v23 v25))).bind fun y2 =>
            if h0_2 < (ByteArray.size (S61.f1 (rd S61.z v23 v25)) : Int) then
              F10_lethelaw05_EntryHistory_l15 v1 v9 y2.2.2.1 v23 v24 v25 h0_0 h0_1 h0_2 h0_3 h0_4 h0_5 h0_6 h1_0 h1_1 g2
            else
              if h0_3 < (ByteArray.size (S61.f2 (rd S61.z v23 v25)) : Int) then
                F10_lethelaw05_EntryHistory_l15 v1 v9 y2.2.2.1 v23 v24 v25 h0_0 h0_1 h0_2 h0_3 h0_4 h0_5 h0_6 h1_0 h1_1 g2
              else
                if (S61.f0 (rd S61.z v23 v25)) = true then
                  F10_lethelaw05_EntryHistory_l20 v1 (IntKind.i64.wrap (v9 + (1 : Int))) y2.2.2.1 v23 v24 v25 (S61.f2 (rd S61.z v23 v25)) (ByteArray.size (S61.f2 (rd S61.z v23 v25)) : Int) h0_3 (decide (h0_3 < (ByteArray.size (S61.f2 (rd S61.z v23 v25)) : Int))) h0_0 h0_1 h0_2 h0_3 h0_4 h0_5 h0_6 h1_0 h1_1 [] (S61.f0 (rd S61.z v23 v25)) (S61.f1 (rd S61.z v23 v25)) (S61.f2 (rd S61.z v23 v25)) y2.1 y2.2.1
                else
                  F10_lethelaw05_EntryHistory_l20 v1 (IntKind.i64.wrap (v9 + (1 : Int))) y2.2.2.1 v23 v24 v25 (S61.f2 (rd S61.z v23 v25)) (ByteArray.size (S61.f2 (rd S61.z v23 v25)) : Int) h0_3 (decide (h0_3 < (ByteArray.size (S61.f2 (rd S61.z v23 v25)) : Int))) h0_0 h0_1 h0_2 h0_3 h0_4 h0_5 h0_6 h1_0 h1_1 g2 (S61.f0 (rd S61.z v23 v25)) (S61.f1 (rd S61.z v23 v25)) (S61.f2 (rd S61.z v23 v25)) y2.1 y2.2.1
      else
        none
    else
      some (true, ()) :=
  (run_eq _ _ _ _).trans (by kernel_rfl)
theorem F10_lethelaw05_EntryHistory_l15_eq (v1 : ByteArray) (v9 : Int) (v15 : Int) (v23 : (List S61)) (v24 : Int) (v25 : Int) (h0_0 : Int) (h0_1 : Int) (h0_2 : Int) (h0_3 : Int) (h0_4 : Int) (h0_5 : Int) (h0_6 : Int) (h1_0 : ByteArray) (h1_1 : (List S26)) (g2 : (List S26)) : F10_lethelaw05_EntryHistory_l15 v1 v9 v15 v23 v24 v25 h0_0 h0_1 h0_2 h0_3 h0_4 h0_5 h0_6 h1_0 h1_1 g2 =
    if ¬ v15 = (5 : Int) then
      some (false, ())
    else
      F10_lethelaw05_EntryHistory_l25 v1 v9 v23 v24 v25 h0_0 h0_1 h0_2 h0_3 h0_4 h0_5 h0_6 h1_0 h1_1 g2 :=
  (run_eq _ _ _ _).trans (by kernel_rfl)
theorem F10_lethelaw05_EntryHistory_l20_eq (v1 : ByteArray) (v9 : Int) (v15 : Int) (v23 : (List S61)) (v24 : Int) (v25 : Int) (v54 : ByteArray) (v55 : Int) (v57 : Int) (v58 : Bool) (h0_0 : Int) (h0_1 : Int) (h0_2 : Int) (h0_3 : Int) (h0_4 : Int) (h0_5 : Int) (h0_6 : Int) (h1_0 : ByteArray) (h1_1 : (List S26)) (g2 : (List S26)) (h3_0 : Bool) (h3_1 : ByteArray) (h3_2 : ByteArray) (h4_0 : ByteArray) (h4_1 : (List S26)) : F10_lethelaw05_EntryHistory_l20 v1 v9 v15 v23 v24 v25 v54 v55 v57 v58 h0_0 h0_1 h0_2 h0_3 h0_4 h0_5 h0_6 h1_0 h1_1 g2 h3_0 h3_1 h3_2 h4_0 h4_1 =
    if (List.length g2 + List.length [(S26.mk v9 h3_1 h3_2)]) * 40 ≤ 140737488355328 then
      let e1 : Int := IntKind.i64.wrap ((List.length (g2 ++ [(S26.mk v9 h3_1 h3_2)]) : Int) - h0_4)
      if ¬ v15 = (0 : Int) then
        F10_lethelaw05_EntryHistory_l23 
      else
        if ¬ h4_0 = v1 then
          F10_lethelaw05_EntryHistory_l23 
        else
          let e2 : (List S26) := subL (g2 ++ [(S26.mk v9 h3_1 h3_2)]) (mx 0 e1) (List.length (g2 ++ [(S26.mk v9 h3_1 h3_2)]) : Int)
          if (0 : Int) ≤ (mx 0 e1) ∧ (mx 0 e1) ≤ (List.length (g2 ++ [(S26.mk v9 h3_1 h3_2)]) : Int) ∧ (List.length (g2 ++ [(S26.mk v9 h3_1 h3_2)]) : Int) ≤ (List.length (g2 ++ [(S26.mk v9 h3_1 h3_2)]) : Int) then
            (F30_letheref05_LikeVersions h4_1 e2).bind fun y3 =>
            if (!y3.1) = true then
              F10_lethelaw05_EntryHistory_l23 
            else
              F10_lethelaw05_EntryHistory_l25_1 v1 v9 v23 v24 v25 h0_0 h0_1 h0_2 h0_3 h0_4 h0_5 h0_6 h4_0 h4_1 (g2 ++ [(S26.mk v9 h3_1 h3_2)])
          else
            none
    else
      none :=
  (run_eq _ _ _ _).trans (by kernel_rfl)
theorem F10_lethelaw05_EntryHistory_l25_eq (v1 : ByteArray) (v9 : Int) (v23 : (List S61)) (v24 : Int) (v25 : Int) (h0_0 : Int) (h0_1 : Int) (h0_2 : Int) (h0_3 : Int) (h0_4 : Int) (h0_5 : Int) (h0_6 : Int) (h1_0 : ByteArray) (h1_1 : (List S26)) (g2 : (List S26)) : F10_lethelaw05_EntryHistory_l25 v1 v9 v23 v24 v25 h0_0 h0_1 h0_2 h0_3 h0_4 h0_5 h0_6 h1_0 h1_1 g2 =
    F10_lethelaw05_EntryHistory_l1000007 v1 v9 v23 v24 (IntKind.i64.wrap (v25 + (1 : Int))) h0_0 h0_1 h0_2 h0_3 h0_4 h0_5 h0_6 h1_0 h1_1 g2 :=
  (run_eq _ _ _ _).trans (by kernel_rfl)
theorem F10_lethelaw05_EntryHistory_l23_eq  : F10_lethelaw05_EntryHistory_l23  =
    some (false, ()) :=
  (run_eq _ _ _ _).trans (by kernel_rfl)
theorem F10_lethelaw05_EntryHistory_l25_1_eq (v1 : ByteArray) (v9 : Int) (v23 : (List S61)) (v24 : Int) (v25 : Int) (h0_0 : Int) (h0_1 : Int) (h0_2 : Int) (h0_3 : Int) (h0_4 : Int) (h0_5 : Int) (h0_6 : Int) (h1_0 : ByteArray) (h1_1 : (List S26)) (g2 : (List S26)) : F10_lethelaw05_EntryHistory_l25_1 v1 v9 v23 v24 v25 h0_0 h0_1 h0_2 h0_3 h0_4 h0_5 h0_6 h1_0 h1_1 g2 =
    F10_lethelaw05_EntryHistory_l1000007_1 v1 v9 v23 v24 (IntKind.i64.wrap (v25 + (1 : Int))) h0_0 h0_1 h0_2 h0_3 h0_4 h0_5 h0_6 h1_0 h1_1 g2 :=
  (run_eq _ _ _ _).trans (by kernel_rfl)
theorem F10_lethelaw05_EntryHistory_l1000007_1_eq (v1 : ByteArray) (v9 : Int) (v23 : (List S61)) (v24 : Int) (v25 : Int) (h0_0 : Int) (h0_1 : Int) (h0_2 : Int) (h0_3 : Int) (h0_4 : Int) (h0_5 : Int) (h0_6 : Int) (h1_0 : ByteArray) (h1_1 : (List S26)) (g2 : (List S26)) : F10_lethelaw05_EntryHistory_l1000007_1 v1 v9 v23 v24 v25 h0_0 h0_1 h0_2 h0_3 h0_4 h0_5 h0_6 h1_0 h1_1 g2 =
    if v25 < v24 then
      if (0 : Int) ≤ v25 ∧ v25 < (List.length v23 : Int) then
        if (60 : Int) ≤ v25 then
          some (true, ())
        else
          if (S61.f0 (rd S61.z v23 v25)) = true then
            (F27_entry_Over h0_0 h0_1 h0_2 h0_3 h0_4 h0_5 h0_6 h1_0 h1_1 (S61.f1 (rd S61.z v23 v25)) (S61.f2 (rd S61.z v23 v25))).bind fun y1 =>
            if h0_2 < (ByteArray.size (S61.f1 (rd S61.z v23 v25)) : Int) then
              F10_lethelaw05_EntryHistory_l15_1 v1 v9 y1.2.2.1 v23 v24 v25 h0_0 h0_1 h0_2 h0_3 h0_4 h0_5 h0_6 h1_0 h1_1 g2
            else
              if h0_3 < (ByteArray.size (S61.f2 (rd S61.z v23 v25)) : Int) then
                F10_lethelaw05_EntryHistory_l15_1 v1 v9 y1.2.2.1 v23 v24 v25 h0_0 h0_1 h0_2 h0_3 h0_4 h0_5 h0_6 h1_0 h1_1 g2
              else
                if (S61.f0 (rd S61.z v23 v25)) = true then
                  F10_lethelaw05_EntryHistory_l20 v1 (IntKind.i64.wrap (v9 + (1 : Int))) y1.2.2.1 v23 v24 v25 (S61.f2 (rd S61.z v23 v25)) (ByteArray.size (S61.f2 (rd S61.z v23 v25)) : Int) h0_3 (decide (h0_3 < (ByteArray.size (S61.f2 (rd S61.z v23 v25)) : Int))) h0_0 h0_1 h0_2 h0_3 h0_4 h0_5 h0_6 h1_0 h1_1 [] (S61.f0 (rd S61.z v23 v25)) (S61.f1 (rd S61.z v23 v25)) (S61.f2 (rd S61.z v23 v25)) y1.1 y1.2.1
                else
                  F10_lethelaw05_EntryHistory_l20_1 v1 (IntKind.i64.wrap (v9 + (1 : Int))) y1.2.2.1 v23 v24 v25 (S61.f2 (rd S61.z v23 v25)) (ByteArray.size (S61.f2 (rd S61.z v23 v25)) : Int) h0_3 (decide (h0_3 < (ByteArray.size (S61.f2 (rd S61.z v23 v25)) : Int))) h0_0 h0_1 h0_2 h0_3 h0_4 h0_5 h0_6 h1_0 h1_1 g2 (S61.f0 (rd S61.z v23 v25)) (S61.f1 (rd S61.z v23 v25)) (S61.f2 (rd S61.z v23 v25)) y1.1 y1.2.1
          else
            (F25_entry_Put h0_0 h0_1 h0_2 h0_3 h0_4 h0_5 h0_6 h1_0 h1_1 (S61.f1 (rd S61.z v23 v25)) (S61.f2 (rd S61.z v23 v25))).bind fun y2 =>
            if h0_2 < (ByteArray.size (S61.f1 (rd S61.z v23 v25)) : Int) then
              F10_lethelaw05_EntryHistory_l15_1 v1 v9 y2.2.2.1 v23 v24 v25 h0_0 h0_1 h0_2 h0_3 h0_4 h0_5 h0_6 h1_0 h1_1 g2
            else
              if h0_3 < (ByteArray.size (S61.f2 (rd S61.z v23 v25)) : Int) then
                F10_lethelaw05_EntryHistory_l15_1 v1 v9 y2.2.2.1 v23 v24 v25 h0_0 h0_1 h0_2 h0_3 h0_4 h0_5 h0_6 h1_0 h1_1 g2
              else
                if (S61.f0 (rd S61.z v23 v25)) = true then
                  F10_lethelaw05_EntryHistory_l20 v1 (IntKind.i64.wrap (v9 + (1 : Int))) y2.2.2.1 v23 v24 v25 (S61.f2 (rd S61.z v23 v25)) (ByteArray.size (S61.f2 (rd S61.z v23 v25)) : Int) h0_3 (decide (h0_3 < (ByteArray.size (S61.f2 (rd S61.z v23 v25)) : Int))) h0_0 h0_1 h0_2 h0_3 h0_4 h0_5 h0_6 h1_0 h1_1 [] (S61.f0 (rd S61.z v23 v25)) (S61.f1 (rd S61.z v23 v25)) (S61.f2 (rd S61.z v23 v25)) y2.1 y2.2.1
                else
                  F10_lethelaw05_EntryHistory_l20_1 v1 (IntKind.i64.wrap (v9 + (1 : Int))) y2.2.2.1 v23 v24 v25 (S61.f2 (rd S61.z v23 v25)) (ByteArray.size (S61.f2 (rd S61.z v23 v25)) : Int) h0_3 (decide (h0_3 < (ByteArray.size (S61.f2 (rd S61.z v23 v25)) : Int))) h0_0 h0_1 h0_2 h0_3 h0_4 h0_5 h0_6 h1_0 h1_1 g2 (S61.f0 (rd S61.z v23 v25)) (S61.f1 (rd S61.z v23 v25)) (S61.f2 (rd S61.z v23 v25)) y2.1 y2.2.1
      else
        none
    else
      some (true, ()) :=
  (run_eq _ _ _ _).trans (by kernel_rfl)
theorem F10_lethelaw05_EntryHistory_l15_1_eq (v1 : ByteArray) (v9 : Int) (v15 : Int) (v23 : (List S61)) (v24 : Int) (v25 : Int) (h0_0 : Int) (h0_1 : Int) (h0_2 : Int) (h0_3 : Int) (h0_4 : Int) (h0_5 : Int) (h0_6 : Int) (h1_0 : ByteArray) (h1_1 : (List S26)) (g2 : (List S26)) : F10_lethelaw05_EntryHistory_l15_1 v1 v9 v15 v23 v24 v25 h0_0 h0_1 h0_2 h0_3 h0_4 h0_5 h0_6 h1_0 h1_1 g2 =
    if ¬ v15 = (5 : Int) then
      some (false, ())
    else
      F10_lethelaw05_EntryHistory_l25_1 v1 v9 v23 v24 v25 h0_0 h0_1 h0_2 h0_3 h0_4 h0_5 h0_6 h1_0 h1_1 g2 :=
  (run_eq _ _ _ _).trans (by kernel_rfl)
theorem F10_lethelaw05_EntryHistory_l20_1_eq (v1 : ByteArray) (v9 : Int) (v15 : Int) (v23 : (List S61)) (v24 : Int) (v25 : Int) (v54 : ByteArray) (v55 : Int) (v57 : Int) (v58 : Bool) (h0_0 : Int) (h0_1 : Int) (h0_2 : Int) (h0_3 : Int) (h0_4 : Int) (h0_5 : Int) (h0_6 : Int) (h1_0 : ByteArray) (h1_1 : (List S26)) (g2 : (List S26)) (h3_0 : Bool) (h3_1 : ByteArray) (h3_2 : ByteArray) (h4_0 : ByteArray) (h4_1 : (List S26)) : F10_lethelaw05_EntryHistory_l20_1 v1 v9 v15 v23 v24 v25 v54 v55 v57 v58 h0_0 h0_1 h0_2 h0_3 h0_4 h0_5 h0_6 h1_0 h1_1 g2 h3_0 h3_1 h3_2 h4_0 h4_1 =
    if (List.length g2 + List.length [(S26.mk v9 h3_1 h3_2)]) * 40 ≤ 140737488355328 then
      let e1 : Int := IntKind.i64.wrap ((List.length (g2 ++ [(S26.mk v9 h3_1 h3_2)]) : Int) - h0_4)
      if ¬ v15 = (0 : Int) then
        F10_lethelaw05_EntryHistory_l23 
      else
        if ¬ h4_0 = v1 then
          F10_lethelaw05_EntryHistory_l23 
        else
          let e2 : (List S26) := subL (g2 ++ [(S26.mk v9 h3_1 h3_2)]) (mx 0 e1) (List.length (g2 ++ [(S26.mk v9 h3_1 h3_2)]) : Int)
          if (0 : Int) ≤ (mx 0 e1) ∧ (mx 0 e1) ≤ (List.length (g2 ++ [(S26.mk v9 h3_1 h3_2)]) : Int) ∧ (List.length (g2 ++ [(S26.mk v9 h3_1 h3_2)]) : Int) ≤ (List.length (g2 ++ [(S26.mk v9 h3_1 h3_2)]) : Int) then
            (F30_letheref05_LikeVersions h4_1 e2).bind fun y3 =>
            if (!y3.1) = true then
              F10_lethelaw05_EntryHistory_l23 
            else
              F10_lethelaw05_EntryHistory_l25_1 v1 v9 v23 v24 v25 h0_0 h0_1 h0_2 h0_3 h0_4 h0_5 h0_6 h4_0 h4_1 (g2 ++ [(S26.mk v9 h3_1 h3_2)])
          else
            none
    else
      none :=
  (run_eq _ _ _ _).trans (by kernel_rfl)
theorem F32_letheref05_Named_eq (x0_0 : Int) (x0_1 : Int) (x0_2 : Int) (x0_3 : Int) (x0_4 : Int) (x0_5 : Int) (x0_6 : Int) (x1_0 : ByteArray) (x1_1 : (List S26)) : F32_letheref05_Named x0_0 x0_1 x0_2 x0_3 x0_4 x0_5 x0_6 x1_0 x1_1 =
    (F37_letheref04_Right x0_0 x0_1 x0_2 x0_3 x0_4 x0_5 x0_6).bind fun y1 =>
    if (!y1.1) = true then
      some (40, ())
    else
      if x1_0 = ByteArray.empty then
        some (4, ())
      else
        if x0_1 < (ByteArray.size x1_0 : Int) then
          some (5, ())
        else
          if x0_4 < (List.length x1_1 : Int) then
            some (50, ())
          else
            F32_letheref05_Named_l1000010 x1_1 (List.length x1_1 : Int) 0 x0_0 x0_1 x0_2 x0_3 x0_4 x0_5 x0_6 x1_0 x1_1 :=
  (F_eq (G := G) rfl fn1 rfl _).trans ((run_eq _ _ _ _).trans (by kernel_rfl))
theorem F32_letheref05_Named_l1000010_eq (v26 : (List S26)) (v27 : Int) (v28 : Int) (h0_0 : Int) (h0_1 : Int) (h0_2 : Int) (h0_3 : Int) (h0_4 : Int) (h0_5 : Int) (h0_6 : Int) (h1_0 : ByteArray) (h1_1 : (List S26)) : F32_letheref05_Named_l1000010 v26 v27 v28 h0_0 h0_1 h0_2 h0_3 h0_4 h0_5 h0_6 h1_0 h1_1 =
    if v28 < v27 then
      if (0 : Int) ≤ v28 ∧ v28 < (List.length v26 : Int) then
        if (S26.f0 (rd S26.z v26 v28)) < (1 : Int) then
          some (50, ())
        else
          if (1073741824 : Int) < (S26.f0 (rd S26.z v26 v28)) then
            some (50, ())
          else
            if (0 : Int) < v28 then
              if (0 : Int) ≤ (IntKind.i64.wrap (v28 - (1 : Int))) ∧ (IntKind.i64.wrap (v28 - (1 : Int))) < (List.length h1_1 : Int) then
                if (S26.f0 (rd S26.z v26 v28)) ≤ (S26.f0 (rd S26.z h1_1 (IntKind.i64.wrap (v28 - (1 : Int))))) then
                  some (50, ())
                else
                  if h0_2 < (ByteArray.size (S26.f1 (rd S26.z v26 v28)) : Int) then
                    F32_letheref05_Named_l15 
                  else
                    if h0_3 < (ByteArray.size (S26.f2 (rd S26.z v26 v28)) : Int) then
                      F32_letheref05_Named_l15 
                    else
                      F32_letheref05_Named_l1000010 v26 v27 (IntKind.i64.wrap (v28 + (1 : Int))) h0_0 h0_1 h0_2 h0_3 h0_4 h0_5 h0_6 h1_0 h1_1
              else
                none
            else
              if h0_2 < (ByteArray.size (S26.f1 (rd S26.z v26 v28)) : Int) then
                F32_letheref05_Named_l15 
              else
                if h0_3 < (ByteArray.size (S26.f2 (rd S26.z v26 v28)) : Int) then
                  F32_letheref05_Named_l15 
                else
                  F32_letheref05_Named_l1000010 v26 v27 (IntKind.i64.wrap (v28 + (1 : Int))) h0_0 h0_1 h0_2 h0_3 h0_4 h0_5 h0_6 h1_0 h1_1
      else
        none
    else
      some (0, ()) :=
  (run_eq _ _ _ _).trans (by kernel_rfl)
theorem F32_letheref05_Named_l15_eq  : F32_letheref05_Named_l15  =
    some (5, ()) :=
  (run_eq _ _ _ _).trans (by kernel_rfl)
theorem F27_entry_Over_eq (x0_0 : Int) (x0_1 : Int) (x0_2 : Int) (x0_3 : Int) (x0_4 : Int) (x0_5 : Int) (x0_6 : Int) (x1_0 : ByteArray) (x1_1 : (List S26)) (x2 : ByteArray) (x3 : ByteArray) : F27_entry_Over x0_0 x0_1 x0_2 x0_3 x0_4 x0_5 x0_6 x1_0 x1_1 x2 x3 =
    (F35_entry_add x0_0 x0_1 x0_2 x0_3 x0_4 x0_5 x0_6 x1_0 x1_1 x2 x3 1).bind fun y1 =>
    some (y1.1, y1.2.1, y1.2.2.1, y1.2.2.2.1, ()) :=
  (F_eq (G := G) rfl fn2 rfl _).trans ((run_eq _ _ _ _).trans (by kernel_rfl))
theorem F30_letheref05_LikeVersions_eq (x0 : (List S26)) (x1 : (List S26)) : F30_letheref05_LikeVersions x0 x1 =
    if ¬ (List.length x0 : Int) = (List.length x1 : Int) then
      some (false, ())
    else
      F30_letheref05_LikeVersions_l1000004 x0 x1 (List.length x0 : Int) 0 :=
  (F_eq (G := G) rfl fn3 rfl _).trans ((run_eq _ _ _ _).trans (by kernel_rfl))
theorem F30_letheref05_LikeVersions_l1000004_eq (v0 : (List S26)) (v1 : (List S26)) (v12 : Int) (v13 : Int) : F30_letheref05_LikeVersions_l1000004 v0 v1 v12 v13 =
    if v13 < v12 then
      if (0 : Int) ≤ v13 ∧ v13 < (List.length v0 : Int) then
        if (0 : Int) ≤ v13 ∧ v13 < (List.length v1 : Int) then
          if ¬ ((S26.f0 (rd S26.z v0 v13)) = (S26.f0 (rd S26.z v1 v13)) ∧ (S26.f1 (rd S26.z v0 v13)) = (S26.f1 (rd S26.z v1 v13)) ∧ (S26.f2 (rd S26.z v0 v13)) = (S26.f2 (rd S26.z v1 v13)) ∧ True) then
            some (false, ())
          else
            F30_letheref05_LikeVersions_l1000004 v0 v1 v12 (IntKind.i64.wrap (v13 + (1 : Int)))
        else
          none
      else
        none
    else
      some (true, ()) :=
  (run_eq _ _ _ _).trans (by kernel_rfl)
theorem F25_entry_Put_eq (x0_0 : Int) (x0_1 : Int) (x0_2 : Int) (x0_3 : Int) (x0_4 : Int) (x0_5 : Int) (x0_6 : Int) (x1_0 : ByteArray) (x1_1 : (List S26)) (x2 : ByteArray) (x3 : ByteArray) : F25_entry_Put x0_0 x0_1 x0_2 x0_3 x0_4 x0_5 x0_6 x1_0 x1_1 x2 x3 =
    (F35_entry_add x0_0 x0_1 x0_2 x0_3 x0_4 x0_5 x0_6 x1_0 x1_1 x2 x3 x0_4).bind fun y1 =>
    some (y1.1, y1.2.1, y1.2.2.1, y1.2.2.2.1, ()) :=
  (F_eq (G := G) rfl fn4 rfl _).trans ((run_eq _ _ _ _).trans (by kernel_rfl))
theorem F35_entry_add_eq (x0_0 : Int) (x0_1 : Int) (x0_2 : Int) (x0_3 : Int) (x0_4 : Int) (x0_5 : Int) (x0_6 : Int) (x1_0 : ByteArray) (x1_1 : (List S26)) (x2 : ByteArray) (x3 : ByteArray) (x4 : Int) : F35_entry_add x0_0 x0_1 x0_2 x0_3 x0_4 x0_5 x0_6 x1_0 x1_1 x2 x3 x4 =
    (F34_entry_named x0_0 x0_1 x0_2 x0_3 x0_4 x0_5 x0_6 x1_0 x1_1).bind fun y1 =>
    if y1.1 = (0 : Int) then
      (F39_entry_texts x0_0 x0_1 x0_2 x0_3 x0_4 x0_5 x0_6 x2 x3).bind fun y2 =>
      if ¬ y2.1 = (0 : Int) then
        some (ByteArray.empty, [], y2.1, [], ())
      else
        (F13_entry_Last x1_0 x1_1).bind fun y3 =>
        if y3.1 = (1073741824 : Int) then
          some (ByteArray.empty, [], 2, [], ())
        else
          (F40_slices_Clone x1_1).bind fun y4 =>
          let e5 : (List S26) := [(S26.mk (IntKind.i64.wrap (y3.1 + (1 : Int))) x2 x3)]
          if (List.length y4.1 + List.length e5) * 40 ≤ 140737488355328 then
            let e6 : Int := IntKind.i64.wrap ((List.length (y4.1 ++ e5) : Int) - x4)
            let e7 : (List S26) := subL (y4.1 ++ e5) (mx 0 e6) (List.length (y4.1 ++ e5) : Int)
            if (0 : Int) ≤ (mx 0 e6) ∧ (mx 0 e6) ≤ (List.length (y4.1 ++ e5) : Int) ∧ (List.length (y4.1 ++ e5) : Int) ≤ (List.length (y4.1 ++ e5) : Int) then
              (F40_slices_Clone e7).bind fun y8 =>
              if (0 : Int) ≤ 0 ∧ (0 : Int) ≤ (mx 0 e6) ∧ (mx 0 e6) ≤ (List.length (y4.1 ++ e5) : Int) then
                (F40_slices_Clone (subL (y4.1 ++ e5) 0 (mx 0 e6))).bind fun y9 =>
                some (x1_0, y8.1, 0, y9.1, ())
              else
                none
            else
              none
          else
            none
    else
      if ¬ y1.1 = (0 : Int) then
        some (ByteArray.empty, [], y1.1, [], ())
      else
        (F13_entry_Last x1_0 x1_1).bind fun y10 =>
        if y10.1 = (1073741824 : Int) then
          some (ByteArray.empty, [], 2, [], ())
        else
          (F40_slices_Clone x1_1).bind fun y11 =>
          let e12 : (List S26) := [(S26.mk (IntKind.i64.wrap (y10.1 + (1 : Int))) x2 x3)]
          if (List.length y11.1 + List.length e12) * 40 ≤ 140737488355328 then
            let e13 : Int := IntKind.i64.wrap ((List.length (y11.1 ++ e12) : Int) - x4)
            let e14 : (List S26) := subL (y11.1 ++ e12) (mx 0 e13) (List.length (y11.1 ++ e12) : Int)
            if (0 : Int) ≤ (mx 0 e13) ∧ (mx 0 e13) ≤ (List.length (y11.1 ++ e12) : Int) ∧ (List.length (y11.1 ++ e12) : Int) ≤ (List.length (y11.1 ++ e12) : Int) then
              (F40_slices_Clone e14).bind fun y15 =>
              if (0 : Int) ≤ 0 ∧ (0 : Int) ≤ (mx 0 e13) ∧ (mx 0 e13) ≤ (List.length (y11.1 ++ e12) : Int) then
                (F40_slices_Clone (subL (y11.1 ++ e12) 0 (mx 0 e13))).bind fun y16 =>
                some (x1_0, y15.1, 0, y16.1, ())
              else
                none
            else
              none
          else
            none :=
  (F_eq (G := G) rfl fn5 rfl _).trans ((run_eq _ _ _ _).trans (by kernel_rfl))
theorem F34_entry_named_eq (x0_0 : Int) (x0_1 : Int) (x0_2 : Int) (x0_3 : Int) (x0_4 : Int) (x0_5 : Int) (x0_6 : Int) (x1_0 : ByteArray) (x1_1 : (List S26)) : F34_entry_named x0_0 x0_1 x0_2 x0_3 x0_4 x0_5 x0_6 x1_0 x1_1 =
    (F38_quota_Right x0_0 x0_1 x0_2 x0_3 x0_4 x0_5 x0_6).bind fun y1 =>
    if ¬ y1.1 = (0 : Int) then
      some (40, ())
    else
      if x1_0 = ByteArray.empty then
        some (4, ())
      else
        if x0_1 < (ByteArray.size x1_0 : Int) then
          some (5, ())
        else
          if x0_4 < (List.length x1_1 : Int) then
            some (50, ())
          else
            F34_entry_named_l1000011 0 x1_1 (List.length x1_1 : Int) 0 x0_0 x0_1 x0_2 x0_3 x0_4 x0_5 x0_6 :=
  (F_eq (G := G) rfl fn6 rfl _).trans ((run_eq _ _ _ _).trans (by kernel_rfl))
theorem F34_entry_named_l1000011_eq (v5 : Int) (v32 : (List S26)) (v33 : Int) (v34 : Int) (h0_0 : Int) (h0_1 : Int) (h0_2 : Int) (h0_3 : Int) (h0_4 : Int) (h0_5 : Int) (h0_6 : Int) : F34_entry_named_l1000011 v5 v32 v33 v34 h0_0 h0_1 h0_2 h0_3 h0_4 h0_5 h0_6 =
    if v34 < v33 then
      if (0 : Int) ≤ v34 ∧ v34 < (List.length v32 : Int) then
        if (S26.f0 (rd S26.z v32 v34)) ≤ v5 then
          some (50, ())
        else
          if (1073741824 : Int) < (S26.f0 (rd S26.z v32 v34)) then
            some (50, ())
          else
            (F39_entry_texts h0_0 h0_1 h0_2 h0_3 h0_4 h0_5 h0_6 (S26.f1 (rd S26.z v32 v34)) (S26.f2 (rd S26.z v32 v34))).bind fun y1 =>
            if ¬ y1.1 = (0 : Int) then
              some (y1.1, ())
            else
              F34_entry_named_l1000011 (S26.f0 (rd S26.z v32 v34)) v32 v33 (IntKind.i64.wrap (v34 + (1 : Int))) h0_0 h0_1 h0_2 h0_3 h0_4 h0_5 h0_6
      else
        none
    else
      some (0, ()) :=
  (run_eq _ _ _ _).trans (by kernel_rfl)
theorem F39_entry_texts_eq (x0_0 : Int) (x0_1 : Int) (x0_2 : Int) (x0_3 : Int) (x0_4 : Int) (x0_5 : Int) (x0_6 : Int) (x1 : ByteArray) (x2 : ByteArray) : F39_entry_texts x0_0 x0_1 x0_2 x0_3 x0_4 x0_5 x0_6 x1 x2 =
    if x0_2 < (ByteArray.size x1 : Int) then
      some (5, ())
    else
      if x0_3 < (ByteArray.size x2 : Int) then
        some (5, ())
      else
        some (0, ()) :=
  (F_eq (G := G) rfl fn7 rfl _).trans ((run_eq _ _ _ _).trans (by kernel_rfl))
theorem F13_entry_Last_eq (x0_0 : ByteArray) (x0_1 : (List S26)) : F13_entry_Last x0_0 x0_1 =
    if (List.length x0_1 : Int) = (0 : Int) then
      some (0, ByteArray.empty, ByteArray.empty, false, ())
    else
      let e1 : Int := IntKind.i64.wrap ((List.length x0_1 : Int) - (1 : Int))
      if (0 : Int) ≤ e1 ∧ e1 < (List.length x0_1 : Int) then
        some ((S26.f0 (rd S26.z x0_1 e1)), (S26.f1 (rd S26.z x0_1 e1)), (S26.f2 (rd S26.z x0_1 e1)), true, ())
      else
        none :=
  (F_eq (G := G) rfl fn8 rfl _).trans ((run_eq _ _ _ _).trans (by kernel_rfl))
theorem F40_slices_Clone_eq (x0 : (List S26)) : F40_slices_Clone x0 =
    if List.length x0 = 0 then
      anyO (
        some ([], ())) (
        if (0 + List.length x0) * 40 ≤ 140737488355328 then
          some (([] ++ x0), ())
        else
          none)
    else
      if (0 + List.length x0) * 40 ≤ 140737488355328 then
        some (([] ++ x0), ())
      else
        none :=
  (F_eq (G := G) rfl fn9 rfl _).trans ((run_eq _ _ _ _).trans (by kernel_rfl))
theorem F38_quota_Right_eq (x0_0 : Int) (x0_1 : Int) (x0_2 : Int) (x0_3 : Int) (x0_4 : Int) (x0_5 : Int) (x0_6 : Int) : F38_quota_Right x0_0 x0_1 x0_2 x0_3 x0_4 x0_5 x0_6 =
    (F41_quota_in x0_0 1 64).bind fun y1 =>
    if y1.1 = true then
      (F41_quota_in x0_1 1 16).bind fun y2 =>
      if y2.1 = true then
        (F41_quota_in x0_2 0 32).bind fun y3 =>
        if y3.1 = true then
          (F41_quota_in x0_3 0 16).bind fun y4 =>
          if y4.1 = true then
            (F41_quota_in x0_4 1 4).bind fun y5 =>
            if y5.1 = true then
              (F41_quota_in x0_5 1 8).bind fun y6 =>
              if y6.1 = true then
                (F41_quota_in x0_6 0 32).bind fun y7 =>
                if y7.1 = true then
                  some (0, ())
                else
                  F38_quota_Right_l3 
              else
                F38_quota_Right_l3 
            else
              F38_quota_Right_l3 
          else
            F38_quota_Right_l3 
        else
          F38_quota_Right_l3 
      else
        F38_quota_Right_l3 
    else
      F38_quota_Right_l3  :=
  (F_eq (G := G) rfl fn10 rfl _).trans ((run_eq _ _ _ _).trans (by kernel_rfl))
theorem F38_quota_Right_l3_eq  : F38_quota_Right_l3  =
    some (40, ()) :=
  (run_eq _ _ _ _).trans (by kernel_rfl)
theorem F41_quota_in_eq (x0 : Int) (x1 : Int) (x2 : Int) : F41_quota_in x0 x1 x2 =
    if x1 ≤ x0 then
      some ((decide (x0 ≤ x2)), ())
    else
      some (false, ()) :=
  (F_eq (G := G) rfl fn11 rfl _).trans ((run_eq _ _ _ _).trans (by kernel_rfl))
theorem F37_letheref04_Right_eq (x0_0 : Int) (x0_1 : Int) (x0_2 : Int) (x0_3 : Int) (x0_4 : Int) (x0_5 : Int) (x0_6 : Int) : F37_letheref04_Right x0_0 x0_1 x0_2 x0_3 x0_4 x0_5 x0_6 =
    if x0_0 < (1 : Int) then
      F37_letheref04_Right_l2 
    else
      if (64 : Int) < x0_0 then
        F37_letheref04_Right_l2 
      else
        if x0_1 < (1 : Int) then
          F37_letheref04_Right_l2 
        else
          if (16 : Int) < x0_1 then
            F37_letheref04_Right_l2 
          else
            if x0_2 < (0 : Int) then
              F37_letheref04_Right_l2 
            else
              if (32 : Int) < x0_2 then
                F37_letheref04_Right_l2 
              else
                if x0_3 < (0 : Int) then
                  F37_letheref04_Right_l2 
                else
                  if (16 : Int) < x0_3 then
                    F37_letheref04_Right_l2 
                  else
                    if (1 : Int) ≤ x0_4 then
                      if x0_4 ≤ (4 : Int) then
                        if (1 : Int) ≤ x0_5 then
                          if x0_5 ≤ (8 : Int) then
                            if (0 : Int) ≤ x0_6 then
                              some ((decide (x0_6 ≤ (32 : Int))), ())
                            else
                              some (false, ())
                          else
                            some (false, ())
                        else
                          some (false, ())
                      else
                        some (false, ())
                    else
                      some (false, ()) :=
  (F_eq (G := G) rfl fn12 rfl _).trans ((run_eq _ _ _ _).trans (by kernel_rfl))
theorem F37_letheref04_Right_l2_eq  : F37_letheref04_Right_l2  =
    some (false, ()) :=
  (run_eq _ _ _ _).trans (by kernel_rfl)
end
end Go.Proofs.Ytpnjchejnghplaa.EntryHistoryx
