/- The law DicePlays: what each function answers, in plain equations. Under no condition. -/
import Derived.Test.YtpnjchejnghplaaTDicePlays
set_option linter.unusedVariables false
set_option maxRecDepth 100000
namespace Go.Proofs.Ytpnjchejnghplaa.DicePlaysx
open Go Go.RowKit Go.Proofs.Ytpnjchejnghplaa.Rx Go.Proofs.Ytpnjchejnghplaa.DicePlaysx
noncomputable section
theorem F6_lethelaw01_DicePlays_eq (x0 : (List Int)) (x1 : (List Int)) : F6_lethelaw01_DicePlays x0 x1 =
    (F19_lethelaw01_short x0 2000).bind fun y1 =>
    (F17_dice_New y1.1).bind fun y2 =>
    if y2.1 = true then
      if ¬ y2.2.1 = (0 : Int) then
        some (false, ())
      else
        some (false, ())
    else
      if ¬ y2.2.2.1 = (0 : Int) then
        some (false, ())
      else
        F6_lethelaw01_DicePlays_l1000007 x1 y1.1 0 0 y2.2.2.2.1 y2.2.2.2.2.1 :=
  (F_eq (G := G) rfl fn0 rfl _).trans ((run_eq _ _ _ _).trans (by kernel_rfl))
theorem F6_lethelaw01_DicePlays_l1000007_eq (v1 : (List Int)) (v5 : (List Int)) (v8 : Int) (v9 : Int) (h0_1 : Int) (g1 : (List Int)) : F6_lethelaw01_DicePlays_l1000007 v1 v5 v8 v9 h0_1 g1 =
    if v9 < (List.length v1 : Int) then
      if v9 < (2000 : Int) then
        (F18_dice_Dice_Taken h0_1 g1).bind fun y1 =>
        if ¬ y1.1 = v8 then
          some (false, ())
        else
          if (0 : Int) ≤ v9 ∧ v9 < (List.length v1 : Int) then
            if (rd (0 : Int) v1 v9) = (1 : Int) then
              (F22_dice_Dice_Copy y1.2.1 y1.2.2.1).bind fun y2 =>
              (F18_dice_Dice_Taken y2.2.2.1 y2.2.1).bind fun y3 =>
              if ¬ y3.1 = v8 then
                some (false, ())
              else
                (F20_dice_Dice_Next y2.1 y3.2.2.1).bind fun y4 =>
                (F21_letheref01_Draw v5 v8).bind fun y5 =>
                if ¬ y4.1 = y5.1 then
                  some (false, ())
                else
                  F6_lethelaw01_DicePlays_l1000007 v1 v5 v8 (IntKind.i64.wrap (v9 + (1 : Int))) y3.2.1 y4.2.2.1
            else
              (F20_dice_Dice_Next y1.2.1 y1.2.2.1).bind fun y6 =>
              (F21_letheref01_Draw v5 v8).bind fun y7 =>
              if ¬ y6.1 = y7.1 then
                some (false, ())
              else
                F6_lethelaw01_DicePlays_l1000007 v1 v5 (IntKind.i64.wrap (v8 + (1 : Int))) (IntKind.i64.wrap (v9 + (1 : Int))) y6.2.1 y6.2.2.1
          else
            none
      else
        (F18_dice_Dice_Taken h0_1 g1).bind fun y8 =>
        if y8.1 = v8 then
          (F20_dice_Dice_Next y8.2.1 y8.2.2.1).bind fun y9 =>
          (F21_letheref01_Draw v5 v8).bind fun y10 =>
          some ((decide (y9.1 = y10.1)), ())
        else
          some (false, ())
    else
      (F18_dice_Dice_Taken h0_1 g1).bind fun y11 =>
      if y11.1 = v8 then
        (F20_dice_Dice_Next y11.2.1 y11.2.2.1).bind fun y12 =>
        (F21_letheref01_Draw v5 v8).bind fun y13 =>
        some ((decide (y12.1 = y13.1)), ())
      else
        some (false, ()) :=
  (run_eq _ _ _ _).trans (by kernel_rfl)
theorem F19_lethelaw01_short_eq (x0 : (List Int)) (x1 : Int) : F19_lethelaw01_short x0 x1 =
    if x1 < (List.length x0 : Int) then
      if (0 : Int) ≤ 0 ∧ 0 ≤ x1 ∧ x1 ≤ (List.length x0 : Int) then
        some ((subL x0 0 x1), ())
      else
        none
    else
      some (x0, ()) :=
  (F_eq (G := G) rfl fn1 rfl _).trans ((run_eq _ _ _ _).trans (by kernel_rfl))
theorem F17_dice_New_eq (x0 : (List Int)) : F17_dice_New x0 =
    if (100000 : Int) < (List.length x0 : Int) then
      some (true, 2, 0, 0, [], ())
    else
      (F33_slices_Clone x0).bind fun y1 =>
      some (false, 0, 0, 0, y1.1, ()) :=
  (F_eq (G := G) rfl fn2 rfl _).trans ((run_eq _ _ _ _).trans (by kernel_rfl))
theorem F33_slices_Clone_eq (x0 : (List Int)) : F33_slices_Clone x0 =
    if List.length x0 = 0 then
      anyO (
        some ([], ())) (
        if (0 + List.length x0) * 8 ≤ 140737488355328 then
          some (([] ++ x0), ())
        else
          none)
    else
      if (0 + List.length x0) * 8 ≤ 140737488355328 then
        some (([] ++ x0), ())
      else
        none :=
  (F_eq (G := G) rfl fn3 rfl _).trans ((run_eq _ _ _ _).trans (by kernel_rfl))
theorem F18_dice_Dice_Taken_eq (h0_1 : Int) (g1 : (List Int)) : F18_dice_Dice_Taken h0_1 g1 =
    some (h0_1, h0_1, g1, ()) :=
  (F_eq (G := G) rfl fn4 rfl _).trans ((run_eq _ _ _ _).trans (by kernel_rfl))
theorem F22_dice_Dice_Copy_eq (h0_1 : Int) (g1 : (List Int)) : F22_dice_Dice_Copy h0_1 g1 =
    some (h0_1, g1, h0_1, ()) :=
  (F_eq (G := G) rfl fn5 rfl _).trans ((run_eq _ _ _ _).trans (by kernel_rfl))
theorem F20_dice_Dice_Next_eq (h0_1 : Int) (g1 : (List Int)) : F20_dice_Dice_Next h0_1 g1 =
    if h0_1 < (List.length g1 : Int) then
      if (0 : Int) ≤ h0_1 ∧ h0_1 < (List.length g1 : Int) then
        some ((rd (0 : Int) g1 h0_1), (IntKind.i64.wrap (h0_1 + (1 : Int))), g1, ())
      else
        none
    else
      let e1 : Int := IntKind.u64.wrap ((1099511627776 : Int) + (IntKind.u64.wrap h0_1))
      some (e1, (IntKind.i64.wrap (h0_1 + (1 : Int))), g1, ()) :=
  (F_eq (G := G) rfl fn6 rfl _).trans ((run_eq _ _ _ _).trans (by kernel_rfl))
theorem F21_letheref01_Draw_eq (x0 : (List Int)) (x1 : Int) : F21_letheref01_Draw x0 x1 =
    if (0 : Int) ≤ x1 then
      if x1 < (List.length x0 : Int) then
        if (0 : Int) ≤ x1 ∧ x1 < (List.length x0 : Int) then
          some ((rd (0 : Int) x0 x1), ())
        else
          none
      else
        let e1 : Int := IntKind.u64.wrap ((1099511627776 : Int) + (IntKind.u64.wrap x1))
        some (e1, ())
    else
      let e2 : Int := IntKind.u64.wrap ((1099511627776 : Int) + (IntKind.u64.wrap x1))
      some (e2, ()) :=
  (F_eq (G := G) rfl fn7 rfl _).trans ((run_eq _ _ _ _).trans (by kernel_rfl))
end
end Go.Proofs.Ytpnjchejnghplaa.DicePlaysx
