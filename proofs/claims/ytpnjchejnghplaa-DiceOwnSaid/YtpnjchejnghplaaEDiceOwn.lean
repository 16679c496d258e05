/- The law DiceOwn: what each function answers, in plain equations. Under no condition. -/
import Derived.Test.YtpnjchejnghplaaTDiceOwn
set_option linter.unusedVariables false
set_option maxRecDepth 100000
namespace Go.Proofs.Ytpnjchejnghplaa.DiceOwnx
open Go Go.RowKit Go.Proofs.Ytpnjchejnghplaa.Rx Go.Proofs.Ytpnjchejnghplaa.DiceOwnx
noncomputable section
theorem F5_lethelaw01_DiceOwn_eq (x0 : (List Int)) : F5_lethelaw01_DiceOwn x0 =
    (F19_lethelaw01_short x0 200).bind fun y1 =>
    if (0 + List.length y1.1) * 8 ≤ 140737488355328 then
      (F17_dice_New ([] ++ y1.1)).bind fun y2 =>
      if y2.1 = true then
        if ¬ y2.2.1 = (0 : Int) then
          some (false, ())
        else
          some (false, ())
      else
        if ¬ y2.2.2.2.1 = (0 : Int) then
          some (false, ())
        else
          if (0 + List.length y2.2.2.2.2.1) * 8 ≤ 140737488355328 then
            F5_lethelaw01_DiceOwn_l1000007 (List.length y2.2.2.2.2.1 : Int) 0 y2.2.2.2.2.1 y2.2.2.2.2.2.1 ([] ++ y2.2.2.2.2.1) y2.2.2.2.2.2.2.1
          else
            none
    else
      none :=
  (F_eq (G := G) rfl fn0 rfl _).trans ((run_eq _ _ _ _).trans (by kernel_rfl))
theorem F5_lethelaw01_DiceOwn_l1000007_eq (v28 : Int) (v29 : Int) (g0 : (List Int)) (h1_1 : Int) (g2 : (List Int)) (g3 : (List Int)) : F5_lethelaw01_DiceOwn_l1000007 v28 v29 g0 h1_1 g2 g3 =
    if v29 < v28 then
      if (0 : Int) ≤ v29 ∧ v29 < (List.length g0 : Int) then
        F5_lethelaw01_DiceOwn_l1000007 v28 (IntKind.i64.wrap (v29 + (1 : Int))) (List.set g0 (Int.toNat v29) 12345) h1_1 g2 g3
      else
        none
    else
      F5_lethelaw01_DiceOwn_l1000012 (List.length g2 : Int) 0 h1_1 g2 g3 :=
  (run_eq _ _ _ _).trans (by kernel_rfl)
theorem F5_lethelaw01_DiceOwn_l1000012_eq (v37 : Int) (v38 : Int) (h0_1 : Int) (g1 : (List Int)) (g2 : (List Int)) : F5_lethelaw01_DiceOwn_l1000012 v37 v38 h0_1 g1 g2 =
    if v38 < v37 then
      (F20_dice_Dice_Next h0_1 g2).bind fun y1 =>
      if (0 : Int) ≤ v38 ∧ v38 < (List.length g1 : Int) then
        if ¬ y1.1 = (rd (0 : Int) g1 v38) then
          some (false, ())
        else
          F5_lethelaw01_DiceOwn_l1000012 v37 (IntKind.i64.wrap (v38 + (1 : Int))) y1.2.1 g1 y1.2.2.1
      else
        none
    else
      (F20_dice_Dice_Next h0_1 g2).bind fun y2 =>
      (F21_letheref01_Draw g1 (List.length g1 : Int)).bind fun y3 =>
      some ((decide (y2.1 = y3.1)), ()) :=
  (run_eq _ _ _ _).trans (by kernel_rfl)
theorem F19_lethelaw01_short_eq (x0 : (List Int)) (x1 : Int) : F19_lethelaw01_short x0 x1 =
    if x1 < (List.length x0 : Int) then
      if (0 : Int) ≤ 0 ∧ (0 : Int) ≤ x1 ∧ x1 ≤ (List.length x0 : Int) then
        some ((subL x0 0 x1), ())
      else
        none
    else
      some (x0, ()) :=
  (F_eq (G := G) rfl fn1 rfl _).trans ((run_eq _ _ _ _).trans (by kernel_rfl))
theorem F17_dice_New_eq (g0 : (List Int)) : F17_dice_New g0 =
    if (100000 : Int) < (List.length g0 : Int) then
      some (true, 2, g0, 0, [], 0, [], ())
    else
      (F33_slices_Clone g0).bind fun y1 =>
      some (false, 0, [], 0, y1.1, 0, y1.2.1, ()) :=
  (F_eq (G := G) rfl fn2 rfl _).trans ((run_eq _ _ _ _).trans (by kernel_rfl))
theorem F33_slices_Clone_eq (g0 : (List Int)) : F33_slices_Clone g0 =
    if List.length g0 = 0 then
      anyO (
        some (g0, [], ())) (
        if (0 + List.length g0) * 8 ≤ 140737488355328 then
          some (g0, ([] ++ g0), ())
        else
          none)
    else
      if (0 + List.length g0) * 8 ≤ 140737488355328 then
        some (g0, ([] ++ g0), ())
      else
        none :=
  (F_eq (G := G) rfl fn3 rfl _).trans ((run_eq _ _ _ _).trans (by kernel_rfl))
theorem F20_dice_Dice_Next_eq (h0_1 : Int) (g1 : (List Int)) : F20_dice_Dice_Next h0_1 g1 =
    if h0_1 < (List.length g1 : Int) then
      if (0 : Int) ≤ h0_1 ∧ h0_1 < (List.length g1 : Int) then
        some ((rd (0 : Int) g1 h0_1), (IntKind.i64.wrap (h0_1 + (1 : Int))), g1, ())
      else
        none
    else
      let e1 : Int := IntKind.u64.wrap ((1099511627776 : Int) + (IntKind.u64.wrap h0_1))
      some (e1, (IntKind.i64.wrap (h0_1 + (1 : Int))), g1, ()) :=
  (F_eq (G := G) rfl fn4 rfl _).trans ((run_eq _ _ _ _).trans (by kernel_rfl))
theorem F21_letheref01_Draw_eq (x0 : (List Int)) (x1 : Int) : F21_letheref01_Draw x0 x1 =
    if (0 : Int) ≤ x1 then
      if x1 < (List.length x0 : Int) then
        if (0 : Int) ≤ x1 ∧ x1 < (List.length x0 : Int) then
          some ((rd (0 : Int) x0 x1), ())
        else
          none
      else
        let e1 : Int := IntKind.u64.wrap ((1099511627776 : Int) + (IntKind.u64.wrap x1))
        some (e1, ())
    else
      let e2 : Int := IntKind.u64.wrap ((1099511627776 : Int) + (IntKind.u64.wrap x1))
      some (e2, ()) :=
  (F_eq (G := G) rfl fn5 rfl _).trans ((run_eq _ _ _ _).trans (by kernel_rfl))
end
end Go.Proofs.Ytpnjchejnghplaa.DiceOwnx
