/- The law DiceLong: what each function answers, in plain equations. Under no condition. -/
import Derived.Test.YtpnjchejnghplaaTDiceLong
set_option linter.unusedVariables false
set_option maxRecDepth 100000
namespace Go.Proofs.Ytpnjchejnghplaa.DiceLongx
open Go Go.RowKit Go.Proofs.Ytpnjchejnghplaa.Rx Go.Proofs.Ytpnjchejnghplaa.DiceLongx
noncomputable section
theorem F4_lethelaw01_DiceLong_eq (x0 : Int) : F4_lethelaw01_DiceLong x0 =
    if x0 < (0 : Int) then
      if (0 : Int) ≤ (100000 : Int) ∧ (100000 : Int) ≤ (100000 : Int) ∧ (100000 : Int) * (8 : Int) ≤ 140737488355328 then
        (F17_dice_New (List.replicate (Int.toNat 100000) 0)).bind fun y1 =>
        if y1.1 = true then
          F4_lethelaw01_DiceLong_l4 100000 y1.2.1
        else
          F4_lethelaw01_DiceLong_l4_1 100000 y1.2.2.1 y1.2.2.2.1 y1.2.2.2.2.1
      else
        none
    else
      if (200000 : Int) < x0 then
        if (0 : Int) ≤ (100000 : Int) ∧ (100000 : Int) ≤ (100000 : Int) ∧ (100000 : Int) * (8 : Int) ≤ 140737488355328 then
          (F17_dice_New (List.replicate (Int.toNat 100000) 0)).bind fun y2 =>
          if y2.1 = true then
            F4_lethelaw01_DiceLong_l4 100000 y2.2.1
          else
            F4_lethelaw01_DiceLong_l4_1 100000 y2.2.2.1 y2.2.2.2.1 y2.2.2.2.2.1
        else
          none
      else
        if (0 : Int) ≤ x0 ∧ x0 ≤ x0 ∧ x0 * (8 : Int) ≤ 140737488355328 then
          (F17_dice_New (List.replicate (Int.toNat x0) 0)).bind fun y3 =>
          if y3.1 = true then
            F4_lethelaw01_DiceLong_l4 x0 y3.2.1
          else
            F4_lethelaw01_DiceLong_l4_1 x0 y3.2.2.1 y3.2.2.2.1 y3.2.2.2.2.1
        else
          none :=
  (F_eq (G := G) rfl fn0 rfl _).trans ((run_eq _ _ _ _).trans (by kernel_rfl))
theorem F4_lethelaw01_DiceLong_l4_eq (v0 : Int) (v4 : Int) : F4_lethelaw01_DiceLong_l4 v0 v4 =
    if (100000 : Int) < v0 then
      some ((decide (v4 = (2 : Int))), ())
    else
      some (false, ()) :=
  (run_eq _ _ _ _).trans (by kernel_rfl)
theorem F4_lethelaw01_DiceLong_l4_1_eq (v0 : Int) (v4 : Int) (h0_1 : Int) (g1 : (List Int)) : F4_lethelaw01_DiceLong_l4_1 v0 v4 h0_1 g1 =
    if (100000 : Int) < v0 then
      some (false, ())
    else
      if v4 = (0 : Int) then
        (F18_dice_Dice_Taken h0_1 g1).bind fun y1 =>
        some ((decide (y1.1 = (0 : Int))), ())
      else
        some (false, ()) :=
  (run_eq _ _ _ _).trans (by kernel_rfl)
theorem F17_dice_New_eq (x0 : (List Int)) : F17_dice_New x0 =
    if (100000 : Int) < (List.length x0 : Int) then
      some (true, 2, 0, 0, [], ())
    else
      (F33_slices_Clone x0).bind fun y1 =>
      some (false, 0, 0, 0, y1.1, ()) :=
  (F_eq (G := G) rfl fn1 rfl _).trans ((run_eq _ _ _ _).trans (by kernel_rfl))
theorem F33_slices_Clone_eq (x0 : (List Int)) : F33_slices_Clone x0 =
    if List.length x0 = 0 then
      anyO (
        some ([], ())) (
        if (0 + List.length x0) * 8 ≤ 140737488355328 then
          some (([] ++ x0), ())
        else
          none)
    else
      if (0 + List.length x0) * 8 ≤ 140737488355328 then
        some (([] ++ x0), ())
      else
        none :=
  (F_eq (G := G) rfl fn2 rfl _).trans ((run_eq _ _ _ _).trans (by kernel_rfl))
theorem F18_dice_Dice_Taken_eq (h0_1 : Int) (g1 : (List Int)) : F18_dice_Dice_Taken h0_1 g1 =
    some (h0_1, h0_1, g1, ()) :=
  (F_eq (G := G) rfl fn3 rfl _).trans ((run_eq _ _ _ _).trans (by kernel_rfl))
end
end Go.Proofs.Ytpnjchejnghplaa.DiceLongx
