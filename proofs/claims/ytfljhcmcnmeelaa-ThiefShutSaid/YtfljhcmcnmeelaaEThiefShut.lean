/- The law ThiefShut: what each function answers, in plain equations. Under no condition. -/
import Derived.Test.YtfljhcmcnmeelaaTThiefShut
set_option linter.unusedVariables false
set_option maxRecDepth 100000
namespace Go.Proofs.Ytfljhcmcnmeelaa.ThiefShutx
open Go Go.RowKit Go.Proofs.Ytfljhcmcnmeelaa.Rx Go.Proofs.Ytfljhcmcnmeelaa.ThiefShutx
noncomputable section
theorem F8_lethelaw10_ThiefShut_eq (x0_0 : Int) (x0_1 : Int) (x0_2 : ByteArray) (x0_3 : (List S40)) (x1 : (List Int)) (x2 : Int) : F8_lethelaw10_ThiefShut x0_0 x0_1 x0_2 x0_3 x1 x2 =
    (F29_letheref03_Wrap x0_0 x0_1 x0_2 x0_3 x1).bind fun y1 =>
    (F30_box_Wrap x0_0 x0_1 x0_2 x0_3 x1).bind fun y2 =>
    if ¬ y1.2.2.2.2.1 = y2.2.2.2.2.1 then
      some ((decide (y1.2.2.2.2.1 = y2.2.2.2.2.1)), ())
    else
      if ¬ y1.2.2.2.2.1 = (0 : Int) then
        some ((decide (y1.2.2.2.2.1 = y2.2.2.2.2.1)), ())
      else
        if (List.length x1 : Int) = (0 : Int) then
          some ((decide (y1.2.2.2.2.1 = y2.2.2.2.2.1)), ())
        else
          (F28_term_Encode y2.1 y2.2.1 y2.2.2.1 y2.2.2.2.1).bind fun y3 =>
          if ¬ y3.2.1 = (0 : Int) then
            some (false, ())
          else
            F8_lethelaw10_ThiefShut_l1000010 x1 x2 x1 (List.length x1 : Int) 0 x0_0 x0_1 x0_2 x0_3 [y3.1] :=
  (F_eq (G := G) rfl fn0 rfl _).trans ((run_eq _ _ _ _).trans (by kernel_rfl))
theorem F8_lethelaw10_ThiefShut_l1000010_eq (v1 : (List Int)) (v2 : Int) (v59 : (List Int)) (v60 : Int) (v61 : Int) (h0_0 : Int) (h0_1 : Int) (h0_2 : ByteArray) (h0_3 : (List S40)) (g1 : (List ByteArray)) : F8_lethelaw10_ThiefShut_l1000010 v1 v2 v59 v60 v61 h0_0 h0_1 h0_2 h0_3 g1 =
    if v61 < v60 then
      if (0 : Int) ≤ v61 ∧ v61 < (List.length v59 : Int) then
        (F27_term_Key (rd (0 : Int) v59 v61)).bind fun y1 =>
        (F28_term_Encode y1.1 y1.2.1 y1.2.2.1 y1.2.2.2.1).bind fun y2 =>
        if ¬ y2.2.1 = (0 : Int) then
          some (false, ())
        else
          if (List.length g1 + List.length [y2.1]) * 16 ≤ 140737488355328 then
            F8_lethelaw10_ThiefShut_l1000010 v1 v2 v59 v60 (IntKind.i64.wrap (v61 + (1 : Int))) h0_0 h0_1 h0_2 h0_3 (g1 ++ [y2.1])
          else
            none
      else
        none
    else
      (F28_term_Encode h0_0 h0_1 h0_2 h0_3).bind fun y3 =>
      if ¬ y3.2.1 = (0 : Int) then
        some (false, ())
      else
        (F10_thief_Atoms [y3.1]).bind fun y4 =>
        (F10_thief_Atoms g1).bind fun y5 =>
        (F12_lethelaw10_in y4.1 y5.1).bind fun y6 =>
        if (!y6.1) = true then
          some (false, ())
        else
          if v2 < (0 : Int) then
            some (true, ())
          else
            if (List.length v1 : Int) ≤ v2 then
              some (true, ())
            else
              F8_lethelaw10_ThiefShut_l1000023 v1 v2 v1 (List.length v1 : Int) 0 g1 :=
  (run_eq _ _ _ _).trans (by kernel_rfl)
theorem F8_lethelaw10_ThiefShut_l1000023_eq (v1 : (List Int)) (v2 : Int) (v102 : (List Int)) (v103 : Int) (v104 : Int) (g0 : (List ByteArray)) : F8_lethelaw10_ThiefShut_l1000023 v1 v2 v102 v103 v104 g0 =
    if v104 < v103 then
      if (0 : Int) ≤ v104 ∧ v104 < (List.length v102 : Int) then
        if ¬ v104 = v2 then
          if (0 : Int) ≤ v2 ∧ v2 < (List.length v1 : Int) then
            if (rd (0 : Int) v102 v104) = (rd (0 : Int) v1 v2) then
              some (true, ())
            else
              F8_lethelaw10_ThiefShut_l1000023 v1 v2 v102 v103 (IntKind.i64.wrap (v104 + (1 : Int))) g0
          else
            none
        else
          F8_lethelaw10_ThiefShut_l1000023 v1 v2 v102 v103 (IntKind.i64.wrap (v104 + (1 : Int))) g0
      else
        none
    else
      if (0 : Int) ≤ 0 ∧ (0 : Int) ≤ (IntKind.i64.wrap (v2 + (1 : Int))) ∧ (IntKind.i64.wrap (v2 + (1 : Int))) ≤ (List.length g0 : Int) then
        let e1 : (List ByteArray) := [] ++ (subL g0 0 (IntKind.i64.wrap (v2 + (1 : Int))))
        if (0 + List.length (subL g0 0 (IntKind.i64.wrap (v2 + (1 : Int))))) * 16 ≤ 140737488355328 then
          let e2 : (List ByteArray) := subL g0 (IntKind.i64.wrap (v2 + (2 : Int))) (List.length g0 : Int)
          if (0 : Int) ≤ (IntKind.i64.wrap (v2 + (2 : Int))) ∧ (IntKind.i64.wrap (v2 + (2 : Int))) ≤ (List.length g0 : Int) ∧ (List.length g0 : Int) ≤ (List.length g0 : Int) then
            if (List.length e1 + List.length e2) * 16 ≤ 140737488355328 then
              (F10_thief_Atoms (e1 ++ e2)).bind fun y3 =>
              if (List.length y3.1 : Int) = (0 : Int) then
                (F11_thief_Keys (e1 ++ e2)).bind fun y4 =>
                let e5 : Int := IntKind.i64.wrap ((List.length v1 : Int) - (1 : Int))
                if (List.length y4.1 : Int) ≤ e5 then
                  (F15_thief_Shut (e1 ++ e2)).bind fun y6 =>
                  if y6.1 = (1 : Int) then
                    (F11_thief_Keys (e1 ++ e2)).bind fun y7 =>
                    if (0 : Int) ≤ v2 ∧ v2 < (List.length v1 : Int) then
                      (F16_letheref10_HasKey y7.1 (rd (0 : Int) v1 v2)).bind fun y8 =>
                      some ((!y8.1), ())
                    else
                      none
                  else
                    some (false, ())
                else
                  some (false, ())
              else
                some (false, ())
            else
              none
          else
            none
        else
          none
      else
        none :=
  (run_eq _ _ _ _).trans (by kernel_rfl)
theorem F29_letheref03_Wrap_eq (x0_0 : Int) (x0_1 : Int) (x0_2 : ByteArray) (x0_3 : (List S40)) (x1 : (List Int)) : F29_letheref03_Wrap x0_0 x0_1 x0_2 x0_3 x1 =
    if (8 : Int) < (List.length x1 : Int) then
      some (0, 0, ByteArray.empty, [], 2, ())
    else
      (F41_letheref02_Right x0_0 x0_1 x0_2 x0_3).bind fun y1 =>
      if ¬ y1.1 = (0 : Int) then
        (F41_letheref02_Right x0_0 x0_1 x0_2 x0_3).bind fun y2 =>
        some (0, 0, ByteArray.empty, [], y2.1, ())
      else
        F29_letheref03_Wrap_l1000006 x1 (List.length x1 : Int) 0 x0_0 x0_1 x0_2 x0_3 0 0 ByteArray.empty [] :=
  (F_eq (G := G) rfl fn1 rfl _).trans ((run_eq _ _ _ _).trans (by kernel_rfl))
theorem F29_letheref03_Wrap_l1000006_eq (v20 : (List Int)) (v21 : Int) (v22 : Int) (h0_0 : Int) (h0_1 : Int) (h0_2 : ByteArray) (h0_3 : (List S40)) (h1_0 : Int) (h1_1 : Int) (h1_2 : ByteArray) (g2 : (List S40)) : F29_letheref03_Wrap_l1000006 v20 v21 v22 h0_0 h0_1 h0_2 h0_3 h1_0 h1_1 h1_2 g2 =
    if v22 < v21 then
      if (0 : Int) ≤ v22 ∧ v22 < (List.length v20 : Int) then
        (F51_letheref03_Seal (rd (0 : Int) v20 v22) h0_0 h0_1 h0_2 h0_3).bind fun y1 =>
        if ¬ y1.2.2.2.2.1 = (0 : Int) then
          some (0, 0, ByteArray.empty, [], y1.2.2.2.2.1, ())
        else
          F29_letheref03_Wrap_l1000006 v20 v21 (IntKind.i64.wrap (v22 + (1 : Int))) y1.1 y1.2.1 y1.2.2.1 y1.2.2.2.1 h1_0 h1_1 h1_2 g2
      else
        none
    else
      some (h0_0, h0_1, h0_2, h0_3, 0, ()) :=
  (run_eq _ _ _ _).trans (by kernel_rfl)
theorem F30_box_Wrap_eq (x0_0 : Int) (x0_1 : Int) (x0_2 : ByteArray) (x0_3 : (List S40)) (x1 : (List Int)) : F30_box_Wrap x0_0 x0_1 x0_2 x0_3 x1 =
    (F52_box_each_48 x0_0 x0_1 x0_2 x0_3 x1).bind fun y1 =>
    some (y1.1, y1.2.1, y1.2.2.1, y1.2.2.2.1, y1.2.2.2.2.1, ()) :=
  (F_eq (G := G) rfl fn2 rfl _).trans ((run_eq _ _ _ _).trans (by kernel_rfl))
theorem F28_term_Encode_eq (x0_0 : Int) (x0_1 : Int) (x0_2 : ByteArray) (x0_3 : (List S40)) : F28_term_Encode x0_0 x0_1 x0_2 x0_3 =
    (F43_term_Right x0_0 x0_1 x0_2 x0_3).bind fun y1 =>
    if ¬ y1.1 = (0 : Int) then
      some (ByteArray.empty, y1.1, ())
    else
      (F50_term_write x0_0 x0_1 x0_2 x0_3 []).bind fun y2 =>
      some ((strB y2.1), 0, ()) :=
  (F_eq (G := G) rfl fn3 rfl _).trans ((run_eq _ _ _ _).trans (by kernel_rfl))
theorem F27_term_Key_eq (x0 : Int) : F27_term_Key x0 =
    some (3, x0, ByteArray.empty, [], ()) :=
  (F_eq (G := G) rfl fn4 rfl _).trans ((run_eq _ _ _ _).trans (by kernel_rfl))
theorem F10_thief_Atoms_eq (x0 : (List ByteArray)) : F10_thief_Atoms x0 =
    (F34_thief_taken x0).bind fun y1 =>
    (F33_maps_Keys y1.2.1).bind fun y2 =>
    (F32_slices_Sorted y2.1).bind fun y3 =>
    (F31_slices_Clip y3.2.1).bind fun y4 =>
    some (y4.1, ()) :=
  (F_eq (G := G) rfl fn5 rfl _).trans ((run_eq _ _ _ _).trans (by kernel_rfl))
theorem F12_lethelaw10_in_eq (x0 : (List ByteArray)) (x1 : (List ByteArray)) : F12_lethelaw10_in x0 x1 =
    F12_lethelaw10_in_l1000002 x1 x0 (List.length x0 : Int) 0 :=
  (F_eq (G := G) rfl fn6 rfl _).trans ((run_eq _ _ _ _).trans (by kernel_rfl))
theorem F12_lethelaw10_in_l1000002_eq (v1 : (List ByteArray)) (v7 : (List ByteArray)) (v8 : Int) (v9 : Int) : F12_lethelaw10_in_l1000002 v1 v7 v8 v9 =
    if v9 < v8 then
      if (0 : Int) ≤ v9 ∧ v9 < (List.length v7 : Int) then
        (F17_letheref02_In v1 (rd ByteArray.empty v7 v9)).bind fun y1 =>
        if (!y1.1) = true then
          some (false, ())
        else
          F12_lethelaw10_in_l1000002 v1 v7 v8 (IntKind.i64.wrap (v9 + (1 : Int)))
      else
        none
    else
      some (true, ()) :=
  (run_eq _ _ _ _).trans (by kernel_rfl)
theorem F11_thief_Keys_eq (x0 : (List ByteArray)) : F11_thief_Keys x0 =
    (F34_thief_taken x0).bind fun y1 =>
    (F37_maps_Keys y1.1).bind fun y2 =>
    (F36_slices_Sorted y2.1).bind fun y3 =>
    (F35_slices_Clip y3.2.1).bind fun y4 =>
    some (y4.1, ()) :=
  (F_eq (G := G) rfl fn7 rfl _).trans ((run_eq _ _ _ _).trans (by kernel_rfl))
theorem F15_thief_Shut_eq (x0 : (List ByteArray)) : F15_thief_Shut x0 =
    (F34_thief_taken x0).bind fun y1 =>
    F15_thief_Shut_l1000003 0 (mbeg y1.2.2.1) y1.2.2.1 :=
  (F_eq (G := G) rfl fn8 rfl _).trans ((run_eq _ _ _ _).trans (by kernel_rfl))
theorem F15_thief_Shut_l1000003_eq (v3 : Int) (g0 : ItD) (g1 : (MapD Int (List S40))) : F15_thief_Shut_l1000003 v3 g0 g1 =
    if mcalm g1 g0 then
      if List.length (mleft g1 g0) = 0 then
        some (v3, ())
      else
        allO (List.length (mleft g1 g0)) fun n1 =>
        if mat g1 (msee g0 (mleft g1 g0) n1) then
          let e2 : Int := IntKind.i64.wrap (v3 + (List.length (cval [] g1 (msee g0 (mleft g1 g0) n1)) : Int))
          F15_thief_Shut_l1000003 e2 (msee g0 (mleft g1 g0) n1) g1
        else
          none
    else
      none :=
  (run_eq _ _ _ _).trans (by kernel_rfl)
theorem F16_letheref10_HasKey_eq (x0 : (List Int)) (x1 : Int) : F16_letheref10_HasKey x0 x1 =
    F16_letheref10_HasKey_l1000002 x1 x0 (List.length x0 : Int) 0 :=
  (F_eq (G := G) rfl fn9 rfl _).trans ((run_eq _ _ _ _).trans (by kernel_rfl))
theorem F16_letheref10_HasKey_l1000002_eq (v1 : Int) (v7 : (List Int)) (v8 : Int) (v9 : Int) : F16_letheref10_HasKey_l1000002 v1 v7 v8 v9 =
    if v9 < v8 then
      if (0 : Int) ≤ v9 ∧ v9 < (List.length v7 : Int) then
        if (rd (0 : Int) v7 v9) = v1 then
          some (true, ())
        else
          F16_letheref10_HasKey_l1000002 v1 v7 v8 (IntKind.i64.wrap (v9 + (1 : Int)))
      else
        none
    else
      some (false, ()) :=
  (run_eq _ _ _ _).trans (by kernel_rfl)
theorem F34_thief_taken_eq (x0 : (List ByteArray)) : F34_thief_taken x0 =
    F34_thief_taken_l1000003 x0 (List.length x0 : Int) 0 (MapD.nil : MapD Int S64) (MapD.nil : MapD ByteArray S64) (MapD.nil : MapD Int (List S40)) :=
  (F_eq (G := G) rfl fn10 rfl _).trans ((run_eq _ _ _ _).trans (by kernel_rfl))
theorem F34_thief_taken_l1000003_eq (v13 : (List ByteArray)) (v14 : Int) (v15 : Int) (g1 : (MapD Int S64)) (g2 : (MapD ByteArray S64)) (g3 : (MapD Int (List S40))) : F34_thief_taken_l1000003 v13 v14 v15 g1 g2 g3 =
    if v15 < v14 then
      if (0 : Int) ≤ v15 ∧ v15 < (List.length v13 : Int) then
        (F55_term_Decode (rd ByteArray.empty v13 v15)).bind fun y1 =>
        if ¬ y1.2.2.2.2.1 = (0 : Int) then
          (F26_term_Atom (rd ByteArray.empty v13 v15)).bind fun y2 =>
          (F56_thief_loot_take y2.1 y2.2.1 y2.2.2.1 y2.2.2.2.1 g1 g2 g3).bind fun y3 =>
          F34_thief_taken_l1000003 v13 v14 (IntKind.i64.wrap (v15 + (1 : Int))) y3.1 y3.2.1 y3.2.2.1
        else
          (F56_thief_loot_take y1.1 y1.2.1 y1.2.2.1 y1.2.2.2.1 g1 g2 g3).bind fun y4 =>
          F34_thief_taken_l1000003 v13 v14 (IntKind.i64.wrap (v15 + (1 : Int))) y4.1 y4.2.1 y4.2.2.1
      else
        none
    else
      some (g1, g2, g3, ()) :=
  (run_eq _ _ _ _).trans (by kernel_rfl)
theorem F55_term_Decode_eq (x0 : ByteArray) : F55_term_Decode x0 =
    (F79_term_reader_term 0 x0 0).bind fun y1 =>
    if ¬ y1.2.2.2.2.1 = (0 : Int) then
      some (0, 0, ByteArray.empty, [], y1.2.2.2.2.1, ())
    else
      if ¬ y1.2.2.2.2.2.1 = ByteArray.empty then
        some (0, 0, ByteArray.empty, [], 24, ())
      else
        some (y1.1, y1.2.1, y1.2.2.1, y1.2.2.2.1, 0, ()) :=
  (F_eq (G := G) rfl fn11 rfl _).trans ((run_eq _ _ _ _).trans (by kernel_rfl))
theorem F26_term_Atom_eq (x0 : ByteArray) : F26_term_Atom x0 =
    some (2, 0, x0, [], ()) :=
  (F_eq (G := G) rfl fn12 rfl _).trans ((run_eq _ _ _ _).trans (by kernel_rfl))
theorem F56_thief_loot_take_eq (x1_0 : Int) (x1_1 : Int) (x1_2 : ByteArray) (x1_3 : (List S40)) (g1 : (MapD Int S64)) (g2 : (MapD ByteArray S64)) (g3 : (MapD Int (List S40))) : F56_thief_loot_take x1_0 x1_1 x1_2 x1_3 g1 g2 g3 =
    if x1_0 = (2 : Int) then
      some (g1, (mset keyS g2 x1_2 (S64.mk )), g3, ())
    else
      if x1_0 = (5 : Int) then
        F56_thief_loot_take_l1000006 x1_3 (List.length x1_3 : Int) 0 g1 g2 g3
      else
        if x1_0 = (3 : Int) then
          if keyI x1_1 x1_1 = true then
            F56_thief_loot_take_l1000015 (List.length (mget keyI [] g3 x1_1) : Int) 0 (mset keyI g1 x1_1 (S64.mk )) g2 (mdel keyI g3 x1_1) (mget keyI [] g3 x1_1)
          else
            none
        else
          if x1_0 = (4 : Int) then
            if (mhas keyI g1 x1_1) = true then
              if (0 : Int) ≤ 0 ∧ 0 < (List.length x1_3 : Int) then
                (F56_thief_loot_take (S40.f0 (rd S40.z x1_3 0)) (S40.f1 (rd S40.z x1_3 0)) (S40.f2 (rd S40.z x1_3 0)) (S40.f3 (rd S40.z x1_3 0)) g1 g2 g3).bind fun y1 =>
                some (y1.1, y1.2.1, y1.2.2.1, ())
              else
                none
            else
              if (0 : Int) ≤ 0 ∧ 0 < (List.length x1_3 : Int) then
                let e2 : (List S40) := [(S40.mk (S40.f0 (rd S40.z x1_3 0)) (S40.f1 (rd S40.z x1_3 0)) (S40.f2 (rd S40.z x1_3 0)) (S40.f3 (rd S40.z x1_3 0)))]
                if (List.length (mget keyI [] g3 x1_1) + List.length e2) * 56 ≤ 140737488355328 then
                  if keyI x1_1 x1_1 = true then
                    some (g1, g2, (mset keyI g3 x1_1 ((mget keyI [] g3 x1_1) ++ e2)), ())
                  else
                    none
                else
                  none
              else
                none
          else
            some (g1, g2, g3, ()) :=
  (F_eq (G := G) rfl fn13 rfl _).trans ((run_eq _ _ _ _).trans (by kernel_rfl))
theorem F56_thief_loot_take_l1000006_eq (v25 : (List S40)) (v26 : Int) (v27 : Int) (g1 : (MapD Int S64)) (g2 : (MapD ByteArray S64)) (g3 : (MapD Int (List S40))) : F56_thief_loot_take_l1000006 v25 v26 v27 g1 g2 g3 =
    if v27 < v26 then
      if (0 : Int) ≤ v27 ∧ v27 < (List.length v25 : Int) then
        (F56_thief_loot_take (S40.f0 (rd S40.z v25 v27)) (S40.f1 (rd S40.z v25 v27)) (S40.f2 (rd S40.z v25 v27)) (S40.f3 (rd S40.z v25 v27)) g1 g2 g3).bind fun y1 =>
        F56_thief_loot_take_l1000006 v25 v26 (IntKind.i64.wrap (v27 + (1 : Int))) y1.1 y1.2.1 y1.2.2.1
      else
        none
    else
      some (g1, g2, g3, ()) :=
  (run_eq _ _ _ _).trans (by kernel_rfl)
theorem F56_thief_loot_take_l1000015_eq (v58 : Int) (v59 : Int) (g1 : (MapD Int S64)) (g2 : (MapD ByteArray S64)) (g3 : (MapD Int (List S40))) (g5 : (List S40)) : F56_thief_loot_take_l1000015 v58 v59 g1 g2 g3 g5 =
    if v59 < v58 then
      if (0 : Int) ≤ v59 ∧ v59 < (List.length g5 : Int) then
        (F56_thief_loot_take (S40.f0 (rd S40.z g5 v59)) (S40.f1 (rd S40.z g5 v59)) (S40.f2 (rd S40.z g5 v59)) (S40.f3 (rd S40.z g5 v59)) g1 g2 g3).bind fun y1 =>
        F56_thief_loot_take_l1000015 v58 (IntKind.i64.wrap (v59 + (1 : Int))) y1.1 y1.2.1 y1.2.2.1 g5
      else
        none
    else
      some (g1, g2, g3, ()) :=
  (run_eq _ _ _ _).trans (by kernel_rfl)
theorem F79_term_reader_term_eq (x1 : Int) (h0_0 : ByteArray) (h0_1 : Int) : F79_term_reader_term x1 h0_0 h0_1 =
    (F97_term_reader_head x1 h0_0 h0_1).bind fun y1 =>
    if ¬ y1.2.2.1 = (0 : Int) then
      some (0, 0, ByteArray.empty, [], y1.2.2.1, y1.2.2.2.1, y1.2.2.2.2.1, ())
    else
      if y1.1 = (1 : Int) then
        if y1.1 = (1 : Int) then
          F79_term_reader_term_l1000022 x1 0 y1.2.2.2.1 y1.2.2.2.2.1 0 0 ByteArray.empty y1.1 y1.2.1 ByteArray.empty [] []
        else
          if y1.1 = (2 : Int) then
            if (4000 : Int) < y1.2.1 then
              some (0, 0, ByteArray.empty, [], 25, y1.2.2.2.1, y1.2.2.2.2.1, ())
            else
              let e2 : Int := IntKind.u64.wrap (ByteArray.size y1.2.2.2.1 : Int)
              if e2 < y1.2.1 then
                some (0, 0, ByteArray.empty, [], 20, y1.2.2.2.1, y1.2.2.2.2.1, ())
              else
                if (0 : Int) ≤ 0 ∧ (0 : Int) ≤ y1.2.1 ∧ y1.2.1 ≤ (ByteArray.size y1.2.2.2.1 : Int) then
                  let e3 : ByteArray := subS y1.2.2.2.1 y1.2.1 (ByteArray.size y1.2.2.2.1 : Int)
                  if (0 : Int) ≤ y1.2.1 ∧ y1.2.1 ≤ (ByteArray.size y1.2.2.2.1 : Int) ∧ (ByteArray.size y1.2.2.2.1 : Int) ≤ (ByteArray.size y1.2.2.2.1 : Int) then
                    F79_term_reader_term_l1000022 x1 0 e3 y1.2.2.2.2.1 0 0 ByteArray.empty y1.1 0 (subS y1.2.2.2.1 0 y1.2.1) [] []
                  else
                    none
                else
                  none
          else
            if y1.1 = (4 : Int) then
              F79_term_reader_term_l1000022 x1 1 y1.2.2.2.1 y1.2.2.2.2.1 0 0 ByteArray.empty y1.1 y1.2.1 ByteArray.empty [] []
            else
              if y1.1 = (5 : Int) then
                F79_term_reader_term_l1000022 x1 y1.2.1 y1.2.2.2.1 y1.2.2.2.2.1 0 0 ByteArray.empty y1.1 0 ByteArray.empty [] []
              else
                F79_term_reader_term_l1000022 x1 0 y1.2.2.2.1 y1.2.2.2.2.1 0 0 ByteArray.empty y1.1 0 ByteArray.empty [] []
      else
        if y1.1 = (3 : Int) then
          F79_term_reader_term_l1000022 x1 0 y1.2.2.2.1 y1.2.2.2.2.1 0 0 ByteArray.empty y1.1 y1.2.1 ByteArray.empty [] []
        else
          if y1.1 = (2 : Int) then
            if (4000 : Int) < y1.2.1 then
              some (0, 0, ByteArray.empty, [], 25, y1.2.2.2.1, y1.2.2.2.2.1, ())
            else
              let e4 : Int := IntKind.u64.wrap (ByteArray.size y1.2.2.2.1 : Int)
              if e4 < y1.2.1 then
                some (0, 0, ByteArray.empty, [], 20, y1.2.2.2.1, y1.2.2.2.2.1, ())
              else
                if (0 : Int) ≤ 0 ∧ (0 : Int) ≤ y1.2.1 ∧ y1.2.1 ≤ (ByteArray.size y1.2.2.2.1 : Int) then
                  let e5 : ByteArray := subS y1.2.2.2.1 y1.2.1 (ByteArray.size y1.2.2.2.1 : Int)
                  if (0 : Int) ≤ y1.2.1 ∧ y1.2.1 ≤ (ByteArray.size y1.2.2.2.1 : Int) ∧ (ByteArray.size y1.2.2.2.1 : Int) ≤ (ByteArray.size y1.2.2.2.1 : Int) then
                    F79_term_reader_term_l1000022 x1 0 e5 y1.2.2.2.2.1 0 0 ByteArray.empty y1.1 0 (subS y1.2.2.2.1 0 y1.2.1) [] []
                  else
                    none
                else
                  none
          else
            if y1.1 = (4 : Int) then
              F79_term_reader_term_l1000022 x1 1 y1.2.2.2.1 y1.2.2.2.2.1 0 0 ByteArray.empty y1.1 y1.2.1 ByteArray.empty [] []
            else
              if y1.1 = (5 : Int) then
                F79_term_reader_term_l1000022 x1 y1.2.1 y1.2.2.2.1 y1.2.2.2.2.1 0 0 ByteArray.empty y1.1 0 ByteArray.empty [] []
              else
                F79_term_reader_term_l1000022 x1 0 y1.2.2.2.1 y1.2.2.2.2.1 0 0 ByteArray.empty y1.1 0 ByteArray.empty [] [] :=
  (F_eq (G := G) rfl fn14 rfl _).trans ((run_eq _ _ _ _).trans (by kernel_rfl))
theorem F79_term_reader_term_l1000022_eq (v1 : Int) (v10 : Int) (h0_0 : ByteArray) (h0_1 : Int) (h1_0 : Int) (h1_1 : Int) (h1_2 : ByteArray) (h2_0 : Int) (h2_1 : Int) (h2_2 : ByteArray) (g3 : (List S40)) (g4 : (List S40)) : F79_term_reader_term_l1000022 v1 v10 h0_0 h0_1 h1_0 h1_1 h1_2 h2_0 h2_1 h2_2 g3 g4 =
    if (0 : Int) < v10 then
      (F79_term_reader_term (IntKind.i64.wrap (v1 + (1 : Int))) h0_0 h0_1).bind fun y1 =>
      if ¬ y1.2.2.2.2.1 = (0 : Int) then
        some (0, 0, ByteArray.empty, [], y1.2.2.2.2.1, y1.2.2.2.2.2.1, y1.2.2.2.2.2.2.1, ())
      else
        if (List.length g4 + List.length [(S40.mk y1.1 y1.2.1 y1.2.2.1 y1.2.2.2.1)]) * 56 ≤ 140737488355328 then
          F79_term_reader_term_l1000022 v1 (IntKind.u64.wrap (v10 - (1 : Int))) y1.2.2.2.2.2.1 y1.2.2.2.2.2.2.1 h1_0 h1_1 h1_2 h2_0 h2_1 h2_2 g3 (g4 ++ [(S40.mk y1.1 y1.2.1 y1.2.2.1 y1.2.2.2.1)])
        else
          none
    else
      some (h2_0, h2_1, h2_2, g4, 0, h0_0, h0_1, ()) :=
  (run_eq _ _ _ _).trans (by kernel_rfl)
theorem F97_term_reader_head_eq (x1 : Int) (h0_0 : ByteArray) (h0_1 : Int) : F97_term_reader_head x1 h0_0 h0_1 =
    if (4000 : Int) ≤ h0_1 then
      some (0, 0, 23, h0_0, h0_1, ())
    else
      if (12 : Int) ≤ x1 then
        some (0, 0, 22, h0_0, h0_1, ())
      else
        if h0_0 = ByteArray.empty then
          some (0, 0, 20, h0_0, h0_1, ())
        else
          if (0 : Int) ≤ 0 ∧ 0 < (ByteArray.size h0_0 : Int) then
            if (IntKind.i64.wrap (bt h0_0 0)) < (1 : Int) then
              some (0, 0, 21, h0_0, (IntKind.i64.wrap (h0_1 + (1 : Int))), ())
            else
              if (5 : Int) < (IntKind.i64.wrap (bt h0_0 0)) then
                some (0, 0, 21, h0_0, (IntKind.i64.wrap (h0_1 + (1 : Int))), ())
              else
                if (0 : Int) ≤ 1 ∧ (1 : Int) ≤ (ByteArray.size h0_0 : Int) ∧ (ByteArray.size h0_0 : Int) ≤ (ByteArray.size h0_0 : Int) then
                  (F114_term_GetNum (subS h0_0 1 (ByteArray.size h0_0 : Int))).bind fun y1 =>
                  if ¬ y1.2.2.1 = (0 : Int) then
                    some (0, 0, y1.2.2.1, h0_0, (IntKind.i64.wrap (h0_1 + (1 : Int))), ())
                  else
                    let e2 : ByteArray := subS h0_0 (IntKind.i64.wrap ((1 : Int) + y1.2.1)) (ByteArray.size h0_0 : Int)
                    if (0 : Int) ≤ (IntKind.i64.wrap ((1 : Int) + y1.2.1)) ∧ (IntKind.i64.wrap ((1 : Int) + y1.2.1)) ≤ (ByteArray.size h0_0 : Int) ∧ (ByteArray.size h0_0 : Int) ≤ (ByteArray.size h0_0 : Int) then
                      some ((IntKind.i64.wrap (bt h0_0 0)), y1.1, 0, e2, (IntKind.i64.wrap (h0_1 + (1 : Int))), ())
                    else
                      none
                else
                  none
          else
            none :=
  (F_eq (G := G) rfl fn15 rfl _).trans ((run_eq _ _ _ _).trans (by kernel_rfl))
theorem F114_term_GetNum_eq (x0 : ByteArray) : F114_term_GetNum x0 =
    F114_term_GetNum_l1000003 x0 0 0 :=
  (F_eq (G := G) rfl fn16 rfl _).trans ((run_eq _ _ _ _).trans (by kernel_rfl))
theorem F114_term_GetNum_l1000003_eq (v0 : ByteArray) (v5 : Int) (v6 : Int) : F114_term_GetNum_l1000003 v0 v5 v6 =
    if v6 < (ByteArray.size v0 : Int) then
      if (0 : Int) ≤ v6 ∧ v6 < (ByteArray.size v0 : Int) then
        if v6 = (9 : Int) then
          if (1 : Int) < (bt v0 v6) then
            some (0, 0, 21, ())
          else
            let e1 : Int := IntKind.u64.wrap (bitsR .and .u8 (bt v0 v6) (127 : Int))
            let e2 : Int := IntKind.u64.wrap (IntKind.i64.wrap ((7 : Int) * v6))
            if 0 ≤ e2 then
              if (shrR .u8 (bt v0 v6) (7 : Int)) = (0 : Int) then
                if (bt v0 v6) = (0 : Int) then
                  if (0 : Int) < v6 then
                    some (0, 0, 21, ())
                  else
                    F114_term_GetNum_l12 (bitsR .or .u64 v5 (shlR .u64 e1 e2)) v6
                else
                  F114_term_GetNum_l12 (bitsR .or .u64 v5 (shlR .u64 e1 e2)) v6
              else
                F114_term_GetNum_l1000003 v0 (bitsR .or .u64 v5 (shlR .u64 e1 e2)) (IntKind.i64.wrap (v6 + (1 : Int)))
            else
              none
        else
          let e3 : Int := IntKind.u64.wrap (bitsR .and .u8 (bt v0 v6) (127 : Int))
          let e4 : Int := IntKind.u64.wrap (IntKind.i64.wrap ((7 : Int) * v6))
          if 0 ≤ e4 then
            if (shrR .u8 (bt v0 v6) (7 : Int)) = (0 : Int) then
              if (bt v0 v6) = (0 : Int) then
                if (0 : Int) < v6 then
                  some (0, 0, 21, ())
                else
                  F114_term_GetNum_l12 (bitsR .or .u64 v5 (shlR .u64 e3 e4)) v6
              else
                F114_term_GetNum_l12 (bitsR .or .u64 v5 (shlR .u64 e3 e4)) v6
            else
              F114_term_GetNum_l1000003 v0 (bitsR .or .u64 v5 (shlR .u64 e3 e4)) (IntKind.i64.wrap (v6 + (1 : Int)))
          else
            none
      else
        none
    else
      some (0, 0, 20, ()) :=
  (run_eq _ _ _ _).trans (by kernel_rfl)
theorem F114_term_GetNum_l12_eq (v5 : Int) (v6 : Int) : F114_term_GetNum_l12 v5 v6 =
    some (v5, (IntKind.i64.wrap (v6 + (1 : Int))), 0, ()) :=
  (run_eq _ _ _ _).trans (by kernel_rfl)
theorem F37_maps_Keys_eq (g0 : (MapD Int S64)) : F37_maps_Keys g0 =
    some (g0, ()) :=
  (F_eq (G := G) rfl fn17 rfl _).trans ((run_eq _ _ _ _).trans (by kernel_rfl))
theorem F36_slices_Sorted_eq (g1 : (MapD Int S64)) : F36_slices_Sorted g1 =
    if mwfU g1 = true then
      some (g1, (sortU (mkeysU g1)), ())
    else
      none :=
  (F_giv (G := G) rfl _).trans (by kernel_rfl)
theorem F35_slices_Clip_eq (x0 : (List Int)) : F35_slices_Clip x0 =
    if (0 : Int) ≤ 0 ∧ (0 : Int) ≤ (List.length x0 : Int) ∧ (List.length x0 : Int) ≤ (List.length x0 : Int) ∧ (List.length x0 : Int) ≤ (List.length x0 : Int) then
      some ((subL x0 0 (List.length x0 : Int)), ())
    else
      none :=
  (F_eq (G := G) rfl fn19 rfl _).trans ((run_eq _ _ _ _).trans (by kernel_rfl))
theorem F17_letheref02_In_eq (x0 : (List ByteArray)) (x1 : ByteArray) : F17_letheref02_In x0 x1 =
    F17_letheref02_In_l1000002 x1 x0 (List.length x0 : Int) 0 :=
  (F_eq (G := G) rfl fn20 rfl _).trans ((run_eq _ _ _ _).trans (by kernel_rfl))
theorem F17_letheref02_In_l1000002_eq (v1 : ByteArray) (v7 : (List ByteArray)) (v8 : Int) (v9 : Int) : F17_letheref02_In_l1000002 v1 v7 v8 v9 =
    if v9 < v8 then
      if (0 : Int) ≤ v9 ∧ v9 < (List.length v7 : Int) then
        if (rd ByteArray.empty v7 v9) = v1 then
          some (true, ())
        else
          F17_letheref02_In_l1000002 v1 v7 v8 (IntKind.i64.wrap (v9 + (1 : Int)))
      else
        none
    else
      some (false, ()) :=
  (run_eq _ _ _ _).trans (by kernel_rfl)
theorem F33_maps_Keys_eq (g0 : (MapD ByteArray S64)) : F33_maps_Keys g0 =
    some (g0, ()) :=
  (F_eq (G := G) rfl fn21 rfl _).trans ((run_eq _ _ _ _).trans (by kernel_rfl))
theorem F32_slices_Sorted_eq (g1 : (MapD ByteArray S64)) : F32_slices_Sorted g1 =
    if mwf g1 = true then
      some (g1, (sortS (mkeys g1)), ())
    else
      none :=
  (F_giv (G := G) rfl _).trans (by kernel_rfl)
theorem F31_slices_Clip_eq (x0 : (List ByteArray)) : F31_slices_Clip x0 =
    if (0 : Int) ≤ 0 ∧ (0 : Int) ≤ (List.length x0 : Int) ∧ (List.length x0 : Int) ≤ (List.length x0 : Int) ∧ (List.length x0 : Int) ≤ (List.length x0 : Int) then
      some ((subL x0 0 (List.length x0 : Int)), ())
    else
      none :=
  (F_eq (G := G) rfl fn23 rfl _).trans ((run_eq _ _ _ _).trans (by kernel_rfl))
theorem F43_term_Right_eq (x0_0 : Int) (x0_1 : Int) (x0_2 : ByteArray) (x0_3 : (List S40)) : F43_term_Right x0_0 x0_1 x0_2 x0_3 =
    (F66_term_parts x0_0 x0_1 x0_2 x0_3 4001).bind fun y1 =>
    if (4000 : Int) < y1.1 then
      some (23, ())
    else
      (F67_term_deep x0_0 x0_1 x0_2 x0_3 13).bind fun y2 =>
      if (12 : Int) < y2.1 then
        some (22, ())
      else
        (F68_term_shaped x0_0 x0_1 x0_2 x0_3).bind fun y3 =>
        if (!y3.1) = true then
          some (25, ())
        else
          some (0, ()) :=
  (F_eq (G := G) rfl fn24 rfl _).trans ((run_eq _ _ _ _).trans (by kernel_rfl))
theorem F50_term_write_eq (x1_0 : Int) (x1_1 : Int) (x1_2 : ByteArray) (x1_3 : (List S40)) (g0 : (List Int)) : F50_term_write x1_0 x1_1 x1_2 x1_3 g0 =
    if (List.length g0 + List.length [(IntKind.u8.wrap x1_0)]) * 1 ≤ 140737488355328 then
      if x1_0 = (1 : Int) then
        if x1_0 = (1 : Int) then
          (F76_term_PutNum x1_1).bind fun y1 =>
          let e2 : (List Int) := (g0 ++ [(IntKind.u8.wrap x1_0)]) ++ (bytesOf y1.1)
          if (List.length (g0 ++ [(IntKind.u8.wrap x1_0)]) + List.length (bytesOf y1.1)) * 1 ≤ 140737488355328 then
            F50_term_write_l11 e2 x1_0 x1_1 x1_2 x1_3
          else
            none
        else
          if x1_0 = (2 : Int) then
            (F76_term_PutNum (IntKind.u64.wrap (ByteArray.size x1_2 : Int))).bind fun y3 =>
            let e4 : (List Int) := (g0 ++ [(IntKind.u8.wrap x1_0)]) ++ (bytesOf y3.1)
            if (List.length (g0 ++ [(IntKind.u8.wrap x1_0)]) + List.length (bytesOf y3.1)) * 1 ≤ 140737488355328 then
              if (List.length e4 + List.length (bytesOf x1_2)) * 1 ≤ 140737488355328 then
                F50_term_write_l11 (e4 ++ (bytesOf x1_2)) x1_0 x1_1 x1_2 x1_3
              else
                none
            else
              none
          else
            if x1_0 = (5 : Int) then
              (F76_term_PutNum (IntKind.u64.wrap (List.length x1_3 : Int))).bind fun y5 =>
              let e6 : (List Int) := (g0 ++ [(IntKind.u8.wrap x1_0)]) ++ (bytesOf y5.1)
              if (List.length (g0 ++ [(IntKind.u8.wrap x1_0)]) + List.length (bytesOf y5.1)) * 1 ≤ 140737488355328 then
                F50_term_write_l11 e6 x1_0 x1_1 x1_2 x1_3
              else
                none
            else
              F50_term_write_l11 (g0 ++ [(IntKind.u8.wrap x1_0)]) x1_0 x1_1 x1_2 x1_3
      else
        if x1_0 = (3 : Int) then
          if x1_0 = (3 : Int) then
            (F76_term_PutNum x1_1).bind fun y7 =>
            let e8 : (List Int) := (g0 ++ [(IntKind.u8.wrap x1_0)]) ++ (bytesOf y7.1)
            if (List.length (g0 ++ [(IntKind.u8.wrap x1_0)]) + List.length (bytesOf y7.1)) * 1 ≤ 140737488355328 then
              F50_term_write_l11 e8 x1_0 x1_1 x1_2 x1_3
            else
              none
          else
            if x1_0 = (2 : Int) then
              (F76_term_PutNum (IntKind.u64.wrap (ByteArray.size x1_2 : Int))).bind fun y9 =>
              let e10 : (List Int) := (g0 ++ [(IntKind.u8.wrap x1_0)]) ++ (bytesOf y9.1)
              if (List.length (g0 ++ [(IntKind.u8.wrap x1_0)]) + List.length (bytesOf y9.1)) * 1 ≤ 140737488355328 then
                if (List.length e10 + List.length (bytesOf x1_2)) * 1 ≤ 140737488355328 then
                  F50_term_write_l11 (e10 ++ (bytesOf x1_2)) x1_0 x1_1 x1_2 x1_3
                else
                  none
              else
                none
            else
              if x1_0 = (5 : Int) then
                (F76_term_PutNum (IntKind.u64.wrap (List.length x1_3 : Int))).bind fun y11 =>
                let e12 : (List Int) := (g0 ++ [(IntKind.u8.wrap x1_0)]) ++ (bytesOf y11.1)
                if (List.length (g0 ++ [(IntKind.u8.wrap x1_0)]) + List.length (bytesOf y11.1)) * 1 ≤ 140737488355328 then
                  F50_term_write_l11 e12 x1_0 x1_1 x1_2 x1_3
                else
                  none
              else
                F50_term_write_l11 (g0 ++ [(IntKind.u8.wrap x1_0)]) x1_0 x1_1 x1_2 x1_3
        else
          if x1_0 = (4 : Int) then
            (F76_term_PutNum x1_1).bind fun y13 =>
            let e14 : (List Int) := (g0 ++ [(IntKind.u8.wrap x1_0)]) ++ (bytesOf y13.1)
            if (List.length (g0 ++ [(IntKind.u8.wrap x1_0)]) + List.length (bytesOf y13.1)) * 1 ≤ 140737488355328 then
              F50_term_write_l11 e14 x1_0 x1_1 x1_2 x1_3
            else
              none
          else
            if x1_0 = (2 : Int) then
              (F76_term_PutNum (IntKind.u64.wrap (ByteArray.size x1_2 : Int))).bind fun y15 =>
              let e16 : (List Int) := (g0 ++ [(IntKind.u8.wrap x1_0)]) ++ (bytesOf y15.1)
              if (List.length (g0 ++ [(IntKind.u8.wrap x1_0)]) + List.length (bytesOf y15.1)) * 1 ≤ 140737488355328 then
                if (List.length e16 + List.length (bytesOf x1_2)) * 1 ≤ 140737488355328 then
                  F50_term_write_l11 (e16 ++ (bytesOf x1_2)) x1_0 x1_1 x1_2 x1_3
                else
                  none
              else
                none
            else
              if x1_0 = (5 : Int) then
                (F76_term_PutNum (IntKind.u64.wrap (List.length x1_3 : Int))).bind fun y17 =>
                let e18 : (List Int) := (g0 ++ [(IntKind.u8.wrap x1_0)]) ++ (bytesOf y17.1)
                if (List.length (g0 ++ [(IntKind.u8.wrap x1_0)]) + List.length (bytesOf y17.1)) * 1 ≤ 140737488355328 then
                  F50_term_write_l11 e18 x1_0 x1_1 x1_2 x1_3
                else
                  none
              else
                F50_term_write_l11 (g0 ++ [(IntKind.u8.wrap x1_0)]) x1_0 x1_1 x1_2 x1_3
    else
      none :=
  (F_eq (G := G) rfl fn25 rfl _).trans ((run_eq _ _ _ _).trans (by kernel_rfl))
theorem F50_term_write_l11_eq (g1 : (List Int)) (h2_0 : Int) (h2_1 : Int) (h2_2 : ByteArray) (h2_3 : (List S40)) : F50_term_write_l11 g1 h2_0 h2_1 h2_2 h2_3 =
    F50_term_write_l1000012 h2_3 (List.length h2_3 : Int) 0 g1 :=
  (run_eq _ _ _ _).trans (by kernel_rfl)
theorem F50_term_write_l1000012_eq (v46 : (List S40)) (v47 : Int) (v48 : Int) (g1 : (List Int)) : F50_term_write_l1000012 v46 v47 v48 g1 =
    if v48 < v47 then
      if (0 : Int) ≤ v48 ∧ v48 < (List.length v46 : Int) then
        (F50_term_write (S40.f0 (rd S40.z v46 v48)) (S40.f1 (rd S40.z v46 v48)) (S40.f2 (rd S40.z v46 v48)) (S40.f3 (rd S40.z v46 v48)) g1).bind fun y1 =>
        F50_term_write_l1000012 v46 v47 (IntKind.i64.wrap (v48 + (1 : Int))) y1.1
      else
        none
    else
      some (g1, ()) :=
  (run_eq _ _ _ _).trans (by kernel_rfl)
theorem F66_term_parts_eq (x0_0 : Int) (x0_1 : Int) (x0_2 : ByteArray) (x0_3 : (List S40)) (x1 : Int) : F66_term_parts x0_0 x0_1 x0_2 x0_3 x1 =
    F66_term_parts_l1000003 x1 1 x0_3 (List.length x0_3 : Int) 0 :=
  (F_eq (G := G) rfl fn26 rfl _).trans ((run_eq _ _ _ _).trans (by kernel_rfl))
theorem F66_term_parts_l1000003_eq (v1 : Int) (v5 : Int) (v9 : (List S40)) (v10 : Int) (v11 : Int) : F66_term_parts_l1000003 v1 v5 v9 v10 v11 =
    if v11 < v10 then
      if (0 : Int) ≤ v11 ∧ v11 < (List.length v9 : Int) then
        if v1 ≤ v5 then
          some (v5, ())
        else
          (F66_term_parts (S40.f0 (rd S40.z v9 v11)) (S40.f1 (rd S40.z v9 v11)) (S40.f2 (rd S40.z v9 v11)) (S40.f3 (rd S40.z v9 v11)) (IntKind.i64.wrap (v1 - v5))).bind fun y1 =>
          F66_term_parts_l1000003 v1 (IntKind.i64.wrap (v5 + y1.1)) v9 v10 (IntKind.i64.wrap (v11 + (1 : Int)))
      else
        none
    else
      some (v5, ()) :=
  (run_eq _ _ _ _).trans (by kernel_rfl)
theorem F67_term_deep_eq (x0_0 : Int) (x0_1 : Int) (x0_2 : ByteArray) (x0_3 : (List S40)) (x1 : Int) : F67_term_deep x0_0 x0_1 x0_2 x0_3 x1 =
    if (1 : Int) < x1 then
      F67_term_deep_l1000004 x1 0 x0_3 (List.length x0_3 : Int) 0
    else
      some ((IntKind.i64.wrap ((0 : Int) + (1 : Int))), ()) :=
  (F_eq (G := G) rfl fn27 rfl _).trans ((run_eq _ _ _ _).trans (by kernel_rfl))
theorem F67_term_deep_l1000004_eq (v1 : Int) (v5 : Int) (v11 : (List S40)) (v12 : Int) (v13 : Int) : F67_term_deep_l1000004 v1 v5 v11 v12 v13 =
    if v13 < v12 then
      if (0 : Int) ≤ v13 ∧ v13 < (List.length v11 : Int) then
        (F67_term_deep (S40.f0 (rd S40.z v11 v13)) (S40.f1 (rd S40.z v11 v13)) (S40.f2 (rd S40.z v11 v13)) (S40.f3 (rd S40.z v11 v13)) (IntKind.i64.wrap (v1 - (1 : Int)))).bind fun y1 =>
        F67_term_deep_l1000004 v1 (mx v5 y1.1) v11 v12 (IntKind.i64.wrap (v13 + (1 : Int)))
      else
        none
    else
      some ((IntKind.i64.wrap (v5 + (1 : Int))), ()) :=
  (run_eq _ _ _ _).trans (by kernel_rfl)
theorem F68_term_shaped_eq (x0_0 : Int) (x0_1 : Int) (x0_2 : ByteArray) (x0_3 : (List S40)) : F68_term_shaped x0_0 x0_1 x0_2 x0_3 =
    if x0_0 = (1 : Int) then
      if x0_0 = (1 : Int) then
        if x0_2 = ByteArray.empty then
          F68_term_shaped_l12 (decide ((List.length x0_3 : Int) = (0 : Int))) x0_0 x0_1 x0_2 x0_3
        else
          F68_term_shaped_l12 false x0_0 x0_1 x0_2 x0_3
      else
        if x0_0 = (2 : Int) then
          if x0_1 = (0 : Int) then
            if (ByteArray.size x0_2 : Int) ≤ (4000 : Int) then
              F68_term_shaped_l12 (decide ((List.length x0_3 : Int) = (0 : Int))) x0_0 x0_1 x0_2 x0_3
            else
              F68_term_shaped_l12 false x0_0 x0_1 x0_2 x0_3
          else
            F68_term_shaped_l12 false x0_0 x0_1 x0_2 x0_3
        else
          if x0_0 = (4 : Int) then
            if x0_2 = ByteArray.empty then
              F68_term_shaped_l12 (decide ((List.length x0_3 : Int) = (1 : Int))) x0_0 x0_1 x0_2 x0_3
            else
              F68_term_shaped_l12 false x0_0 x0_1 x0_2 x0_3
          else
            if x0_0 = (5 : Int) then
              if x0_1 = (0 : Int) then
                F68_term_shaped_l12 (decide (x0_2 = ByteArray.empty)) x0_0 x0_1 x0_2 x0_3
              else
                F68_term_shaped_l12 false x0_0 x0_1 x0_2 x0_3
            else
              F68_term_shaped_l12 false x0_0 x0_1 x0_2 x0_3
    else
      if x0_0 = (3 : Int) then
        if x0_2 = ByteArray.empty then
          F68_term_shaped_l12 (decide ((List.length x0_3 : Int) = (0 : Int))) x0_0 x0_1 x0_2 x0_3
        else
          F68_term_shaped_l12 false x0_0 x0_1 x0_2 x0_3
      else
        if x0_0 = (2 : Int) then
          if x0_1 = (0 : Int) then
            if (ByteArray.size x0_2 : Int) ≤ (4000 : Int) then
              F68_term_shaped_l12 (decide ((List.length x0_3 : Int) = (0 : Int))) x0_0 x0_1 x0_2 x0_3
            else
              F68_term_shaped_l12 false x0_0 x0_1 x0_2 x0_3
          else
            F68_term_shaped_l12 false x0_0 x0_1 x0_2 x0_3
        else
          if x0_0 = (4 : Int) then
            if x0_2 = ByteArray.empty then
              F68_term_shaped_l12 (decide ((List.length x0_3 : Int) = (1 : Int))) x0_0 x0_1 x0_2 x0_3
            else
              F68_term_shaped_l12 false x0_0 x0_1 x0_2 x0_3
          else
            if x0_0 = (5 : Int) then
              if x0_1 = (0 : Int) then
                F68_term_shaped_l12 (decide (x0_2 = ByteArray.empty)) x0_0 x0_1 x0_2 x0_3
              else
                F68_term_shaped_l12 false x0_0 x0_1 x0_2 x0_3
            else
              F68_term_shaped_l12 false x0_0 x0_1 x0_2 x0_3 :=
  (F_eq (G := G) rfl fn28 rfl _).trans ((run_eq _ _ _ _).trans (by kernel_rfl))
theorem F68_term_shaped_l12_eq (v3 : Bool) (h0_0 : Int) (h0_1 : Int) (h0_2 : ByteArray) (h0_3 : (List S40)) : F68_term_shaped_l12 v3 h0_0 h0_1 h0_2 h0_3 =
    if v3 = true then
      (F83_slices_ContainsFunc_84 h0_3).bind fun y1 =>
      some ((!y1.1), ())
    else
      some (false, ()) :=
  (run_eq _ _ _ _).trans (by kernel_rfl)
theorem F83_slices_ContainsFunc_84_eq (x0 : (List S40)) : F83_slices_ContainsFunc_84 x0 =
    (F107_slices_IndexFunc_84 x0).bind fun y1 =>
    some ((decide ((0 : Int) ≤ y1.1)), ()) :=
  (F_eq (G := G) rfl fn29 rfl _).trans ((run_eq _ _ _ _).trans (by kernel_rfl))
theorem F107_slices_IndexFunc_84_eq (x0 : (List S40)) : F107_slices_IndexFunc_84 x0 =
    F107_slices_IndexFunc_84_l1000002 x0 (List.length x0 : Int) 0 :=
  (F_eq (G := G) rfl fn30 rfl _).trans ((run_eq _ _ _ _).trans (by kernel_rfl))
theorem F107_slices_IndexFunc_84_l1000002_eq (v0 : (List S40)) (v7 : Int) (v8 : Int) : F107_slices_IndexFunc_84_l1000002 v0 v7 v8 =
    if v8 < v7 then
      if (0 : Int) ≤ v8 ∧ v8 < (List.length v0 : Int) then
        (F84_term_shaped_1 (S40.f0 (rd S40.z v0 v8)) (S40.f1 (rd S40.z v0 v8)) (S40.f2 (rd S40.z v0 v8)) (S40.f3 (rd S40.z v0 v8))).bind fun y1 =>
        if y1.1 = true then
          some (v8, ())
        else
          F107_slices_IndexFunc_84_l1000002 v0 v7 (IntKind.i64.wrap (v8 + (1 : Int)))
      else
        none
    else
      some ((-1), ()) :=
  (run_eq _ _ _ _).trans (by kernel_rfl)
theorem F84_term_shaped_1_eq (x0_0 : Int) (x0_1 : Int) (x0_2 : ByteArray) (x0_3 : (List S40)) : F84_term_shaped_1 x0_0 x0_1 x0_2 x0_3 =
    (F68_term_shaped x0_0 x0_1 x0_2 x0_3).bind fun y1 =>
    some ((!y1.1), ()) :=
  (F_eq (G := G) rfl fn31 rfl _).trans ((run_eq _ _ _ _).trans (by kernel_rfl))
theorem F76_term_PutNum_eq (x0 : Int) : F76_term_PutNum x0 =
    F76_term_PutNum_l1000002 x0 [] :=
  (F_eq (G := G) rfl fn32 rfl _).trans ((run_eq _ _ _ _).trans (by kernel_rfl))
theorem F76_term_PutNum_l1000002_eq (v0 : Int) (g0 : (List Int)) : F76_term_PutNum_l1000002 v0 g0 =
    if (128 : Int) ≤ v0 then
      let e1 : (List Int) := [(bitsR .or .u8 (IntKind.u8.wrap v0) (128 : Int))]
      if (List.length g0 + List.length e1) * 1 ≤ 140737488355328 then
        F76_term_PutNum_l1000002 (shrR .u64 v0 (7 : Int)) (g0 ++ e1)
      else
        none
    else
      if (List.length g0 + List.length [(IntKind.u8.wrap v0)]) * 1 ≤ 140737488355328 then
        some ((strB (g0 ++ [(IntKind.u8.wrap v0)])), ())
      else
        none :=
  (run_eq _ _ _ _).trans (by kernel_rfl)
theorem F52_box_each_48_eq (x0_0 : Int) (x0_1 : Int) (x0_2 : ByteArray) (x0_3 : (List S40)) (x1 : (List Int)) : F52_box_each_48 x0_0 x0_1 x0_2 x0_3 x1 =
    if (8 : Int) < (List.length x1 : Int) then
      some (0, 0, ByteArray.empty, [], 2, ())
    else
      (F75_box_own x0_0 x0_1 x0_2 x0_3).bind fun y1 =>
      F52_box_each_48_l1000005 y1.2.2.2.2.1 x1 (List.length x1 : Int) 0 y1.1 y1.2.1 y1.2.2.1 y1.2.2.2.1 0 0 ByteArray.empty [] :=
  (F_eq (G := G) rfl fn33 rfl _).trans ((run_eq _ _ _ _).trans (by kernel_rfl))
theorem F52_box_each_48_l1000005_eq (v8 : Int) (v20 : (List Int)) (v21 : Int) (v22 : Int) (h0_0 : Int) (h0_1 : Int) (h0_2 : ByteArray) (h0_3 : (List S40)) (h1_0 : Int) (h1_1 : Int) (h1_2 : ByteArray) (g2 : (List S40)) : F52_box_each_48_l1000005 v8 v20 v21 v22 h0_0 h0_1 h0_2 h0_3 h1_0 h1_1 h1_2 g2 =
    if v22 < v21 then
      if (0 : Int) ≤ v22 ∧ v22 < (List.length v20 : Int) then
        if v8 = (0 : Int) then
          (F48_box_Seal (rd (0 : Int) v20 v22) h0_0 h0_1 h0_2 h0_3).bind fun y1 =>
          F52_box_each_48_l1000005 y1.2.2.2.2.1 v20 v21 (IntKind.i64.wrap (v22 + (1 : Int))) y1.1 y1.2.1 y1.2.2.1 y1.2.2.2.1 h1_0 h1_1 h1_2 g2
        else
          F52_box_each_48_l1000005 v8 v20 v21 (IntKind.i64.wrap (v22 + (1 : Int))) h0_0 h0_1 h0_2 h0_3 h1_0 h1_1 h1_2 g2
      else
        none
    else
      some (h0_0, h0_1, h0_2, h0_3, v8, ()) :=
  (run_eq _ _ _ _).trans (by kernel_rfl)
theorem F75_box_own_eq (x0_0 : Int) (x0_1 : Int) (x0_2 : ByteArray) (x0_3 : (List S40)) : F75_box_own x0_0 x0_1 x0_2 x0_3 =
    (F43_term_Right x0_0 x0_1 x0_2 x0_3).bind fun y1 =>
    if ¬ y1.1 = (0 : Int) then
      some (0, 0, ByteArray.empty, [], y1.1, ())
    else
      (F25_term_Of [(S40.mk x0_0 x0_1 x0_2 x0_3)]).bind fun y2 =>
      if (0 : Int) ≤ 0 ∧ 0 < (List.length y2.2.2.2.1 : Int) then
        some ((S40.f0 (rd S40.z y2.2.2.2.1 0)), (S40.f1 (rd S40.z y2.2.2.2.1 0)), (S40.f2 (rd S40.z y2.2.2.2.1 0)), (S40.f3 (rd S40.z y2.2.2.2.1 0)), 0, ())
      else
        none :=
  (F_eq (G := G) rfl fn34 rfl _).trans ((run_eq _ _ _ _).trans (by kernel_rfl))
theorem F48_box_Seal_eq (x0 : Int) (x1_0 : Int) (x1_1 : Int) (x1_2 : ByteArray) (x1_3 : (List S40)) : F48_box_Seal x0 x1_0 x1_1 x1_2 x1_3 =
    (F43_term_Right x1_0 x1_1 x1_2 x1_3).bind fun y1 =>
    if ¬ y1.1 = (0 : Int) then
      some (0, 0, ByteArray.empty, [], y1.1, ())
    else
      (F75_box_own 4 x0 ByteArray.empty [(S40.mk x1_0 x1_1 x1_2 x1_3)]).bind fun y2 =>
      some (y2.1, y2.2.1, y2.2.2.1, y2.2.2.2.1, y2.2.2.2.2.1, ()) :=
  (F_eq (G := G) rfl fn35 rfl _).trans ((run_eq _ _ _ _).trans (by kernel_rfl))
theorem F25_term_Of_eq (x0 : (List S40)) : F25_term_Of x0 =
    (F49_term_clone 5 0 ByteArray.empty x0).bind fun y1 =>
    some (y1.1, y1.2.1, y1.2.2.1, y1.2.2.2.1, ()) :=
  (F_eq (G := G) rfl fn36 rfl _).trans ((run_eq _ _ _ _).trans (by kernel_rfl))
theorem F49_term_clone_eq (x0_0 : Int) (x0_1 : Int) (x0_2 : ByteArray) (x0_3 : (List S40)) : F49_term_clone x0_0 x0_1 x0_2 x0_3 =
    F49_term_clone_l1000003 x0_3 (List.length x0_3 : Int) 0 x0_0 x0_1 x0_2 x0_3 0 0 ByteArray.empty [] [] :=
  (F_eq (G := G) rfl fn37 rfl _).trans ((run_eq _ _ _ _).trans (by kernel_rfl))
theorem F49_term_clone_l1000003_eq (v7 : (List S40)) (v8 : Int) (v9 : Int) (h0_0 : Int) (h0_1 : Int) (h0_2 : ByteArray) (h0_3 : (List S40)) (h1_0 : Int) (h1_1 : Int) (h1_2 : ByteArray) (g2 : (List S40)) (g3 : (List S40)) : F49_term_clone_l1000003 v7 v8 v9 h0_0 h0_1 h0_2 h0_3 h1_0 h1_1 h1_2 g2 g3 =
    if v9 < v8 then
      if (0 : Int) ≤ v9 ∧ v9 < (List.length v7 : Int) then
        (F49_term_clone (S40.f0 (rd S40.z v7 v9)) (S40.f1 (rd S40.z v7 v9)) (S40.f2 (rd S40.z v7 v9)) (S40.f3 (rd S40.z v7 v9))).bind fun y1 =>
        if (List.length g2 + List.length [(S40.mk y1.1 y1.2.1 y1.2.2.1 y1.2.2.2.1)]) * 56 ≤ 140737488355328 then
          F49_term_clone_l1000003 v7 v8 (IntKind.i64.wrap (v9 + (1 : Int))) h0_0 h0_1 h0_2 h0_3 h1_0 h1_1 h1_2 (g2 ++ [(S40.mk y1.1 y1.2.1 y1.2.2.1 y1.2.2.2.1)]) g3
        else
          none
      else
        none
    else
      some (h0_0, h0_1, h0_2, g2, ()) :=
  (run_eq _ _ _ _).trans (by kernel_rfl)
theorem F41_letheref02_Right_eq (x0_0 : Int) (x0_1 : Int) (x0_2 : ByteArray) (x0_3 : (List S40)) : F41_letheref02_Right x0_0 x0_1 x0_2 x0_3 =
    (F62_letheref02_Parts x0_0 x0_1 x0_2 x0_3 4001).bind fun y1 =>
    if (4000 : Int) < y1.1 then
      some (23, ())
    else
      (F63_letheref02_Deep x0_0 x0_1 x0_2 x0_3 13).bind fun y2 =>
      if (12 : Int) < y2.1 then
        some (22, ())
      else
        (F64_letheref02_shaped x0_0 x0_1 x0_2 x0_3).bind fun y3 =>
        if (!y3.1) = true then
          some (25, ())
        else
          some (0, ()) :=
  (F_eq (G := G) rfl fn38 rfl _).trans ((run_eq _ _ _ _).trans (by kernel_rfl))
theorem F51_letheref03_Seal_eq (x0 : Int) (x1_0 : Int) (x1_1 : Int) (x1_2 : ByteArray) (x1_3 : (List S40)) : F51_letheref03_Seal x0 x1_0 x1_1 x1_2 x1_3 =
    (F41_letheref02_Right x1_0 x1_1 x1_2 x1_3).bind fun y1 =>
    if ¬ y1.1 = (0 : Int) then
      (F41_letheref02_Right x1_0 x1_1 x1_2 x1_3).bind fun y2 =>
      some (0, 0, ByteArray.empty, [], y2.1, ())
    else
      (F77_letheref03_Box x0 x1_0 x1_1 x1_2 x1_3).bind fun y3 =>
      (F41_letheref02_Right y3.1 y3.2.1 y3.2.2.1 y3.2.2.2.1).bind fun y4 =>
      if ¬ y4.1 = (0 : Int) then
        (F41_letheref02_Right y3.1 y3.2.1 y3.2.2.1 y3.2.2.2.1).bind fun y5 =>
        some (0, 0, ByteArray.empty, [], y5.1, ())
      else
        some (y3.1, y3.2.1, y3.2.2.1, y3.2.2.2.1, 0, ()) :=
  (F_eq (G := G) rfl fn39 rfl _).trans ((run_eq _ _ _ _).trans (by kernel_rfl))
theorem F77_letheref03_Box_eq (x0 : Int) (x1_0 : Int) (x1_1 : Int) (x1_2 : ByteArray) (x1_3 : (List S40)) : F77_letheref03_Box x0 x1_0 x1_1 x1_2 x1_3 =
    (F96_letheref02_Copy x1_0 x1_1 x1_2 x1_3).bind fun y1 =>
    some (4, x0, ByteArray.empty, [(S40.mk y1.1 y1.2.1 y1.2.2.1 y1.2.2.2.1)], ()) :=
  (F_eq (G := G) rfl fn40 rfl _).trans ((run_eq _ _ _ _).trans (by kernel_rfl))
theorem F96_letheref02_Copy_eq (x0_0 : Int) (x0_1 : Int) (x0_2 : ByteArray) (x0_3 : (List S40)) : F96_letheref02_Copy x0_0 x0_1 x0_2 x0_3 =
    F96_letheref02_Copy_l1000003 x0_3 (List.length x0_3 : Int) 0 0 0 ByteArray.empty x0_0 x0_1 x0_2 [] [] :=
  (F_eq (G := G) rfl fn41 rfl _).trans ((run_eq _ _ _ _).trans (by kernel_rfl))
theorem F96_letheref02_Copy_l1000003_eq (v15 : (List S40)) (v16 : Int) (v17 : Int) (h0_0 : Int) (h0_1 : Int) (h0_2 : ByteArray) (h1_0 : Int) (h1_1 : Int) (h1_2 : ByteArray) (g2 : (List S40)) (g3 : (List S40)) : F96_letheref02_Copy_l1000003 v15 v16 v17 h0_0 h0_1 h0_2 h1_0 h1_1 h1_2 g2 g3 =
    if v17 < v16 then
      if (0 : Int) ≤ v17 ∧ v17 < (List.length v15 : Int) then
        (F96_letheref02_Copy (S40.f0 (rd S40.z v15 v17)) (S40.f1 (rd S40.z v15 v17)) (S40.f2 (rd S40.z v15 v17)) (S40.f3 (rd S40.z v15 v17))).bind fun y1 =>
        if (List.length g3 + List.length [(S40.mk y1.1 y1.2.1 y1.2.2.1 y1.2.2.2.1)]) * 56 ≤ 140737488355328 then
          F96_letheref02_Copy_l1000003 v15 v16 (IntKind.i64.wrap (v17 + (1 : Int))) h0_0 h0_1 h0_2 h1_0 h1_1 h1_2 g2 (g3 ++ [(S40.mk y1.1 y1.2.1 y1.2.2.1 y1.2.2.2.1)])
        else
          none
      else
        none
    else
      some (h1_0, h1_1, h1_2, g3, ()) :=
  (run_eq _ _ _ _).trans (by kernel_rfl)
theorem F62_letheref02_Parts_eq (x0_0 : Int) (x0_1 : Int) (x0_2 : ByteArray) (x0_3 : (List S40)) (x1 : Int) : F62_letheref02_Parts x0_0 x0_1 x0_2 x0_3 x1 =
    F62_letheref02_Parts_l1000003 x1 1 x0_3 (List.length x0_3 : Int) 0 :=
  (F_eq (G := G) rfl fn42 rfl _).trans ((run_eq _ _ _ _).trans (by kernel_rfl))
theorem F62_letheref02_Parts_l1000003_eq (v1 : Int) (v5 : Int) (v9 : (List S40)) (v10 : Int) (v11 : Int) : F62_letheref02_Parts_l1000003 v1 v5 v9 v10 v11 =
    if v11 < v10 then
      if (0 : Int) ≤ v11 ∧ v11 < (List.length v9 : Int) then
        if v1 ≤ v5 then
          some (v1, ())
        else
          (F62_letheref02_Parts (S40.f0 (rd S40.z v9 v11)) (S40.f1 (rd S40.z v9 v11)) (S40.f2 (rd S40.z v9 v11)) (S40.f3 (rd S40.z v9 v11)) (IntKind.i64.wrap (v1 - v5))).bind fun y1 =>
          F62_letheref02_Parts_l1000003 v1 (IntKind.i64.wrap (v5 + y1.1)) v9 v10 (IntKind.i64.wrap (v11 + (1 : Int)))
      else
        none
    else
      if v1 < v5 then
        some (v1, ())
      else
        some (v5, ()) :=
  (run_eq _ _ _ _).trans (by kernel_rfl)
theorem F63_letheref02_Deep_eq (x0_0 : Int) (x0_1 : Int) (x0_2 : ByteArray) (x0_3 : (List S40)) (x1 : Int) : F63_letheref02_Deep x0_0 x0_1 x0_2 x0_3 x1 =
    if x1 ≤ (1 : Int) then
      some (x1, ())
    else
      F63_letheref02_Deep_l1000005 x1 0 x0_3 (List.length x0_3 : Int) 0 :=
  (F_eq (G := G) rfl fn43 rfl _).trans ((run_eq _ _ _ _).trans (by kernel_rfl))
theorem F63_letheref02_Deep_l1000005_eq (v1 : Int) (v5 : Int) (v13 : (List S40)) (v14 : Int) (v15 : Int) : F63_letheref02_Deep_l1000005 v1 v5 v13 v14 v15 =
    if v15 < v14 then
      if (0 : Int) ≤ v15 ∧ v15 < (List.length v13 : Int) then
        (F63_letheref02_Deep (S40.f0 (rd S40.z v13 v15)) (S40.f1 (rd S40.z v13 v15)) (S40.f2 (rd S40.z v13 v15)) (S40.f3 (rd S40.z v13 v15)) (IntKind.i64.wrap (v1 - (1 : Int)))).bind fun y1 =>
        if v5 < y1.1 then
          if (IntKind.i64.wrap (v1 - (1 : Int))) ≤ y1.1 then
            some (v1, ())
          else
            F63_letheref02_Deep_l1000005 v1 y1.1 v13 v14 (IntKind.i64.wrap (v15 + (1 : Int)))
        else
          if (IntKind.i64.wrap (v1 - (1 : Int))) ≤ v5 then
            some (v1, ())
          else
            F63_letheref02_Deep_l1000005 v1 v5 v13 v14 (IntKind.i64.wrap (v15 + (1 : Int)))
      else
        none
    else
      some ((IntKind.i64.wrap (v5 + (1 : Int))), ()) :=
  (run_eq _ _ _ _).trans (by kernel_rfl)
theorem F64_letheref02_shaped_eq (x0_0 : Int) (x0_1 : Int) (x0_2 : ByteArray) (x0_3 : (List S40)) : F64_letheref02_shaped x0_0 x0_1 x0_2 x0_3 =
    (F82_letheref02_One x0_0 x0_1 x0_2 x0_3).bind fun y1 =>
    if (!y1.1) = true then
      some (false, ())
    else
      F64_letheref02_shaped_l1000004 x0_3 (List.length x0_3 : Int) 0 :=
  (F_eq (G := G) rfl fn44 rfl _).trans ((run_eq _ _ _ _).trans (by kernel_rfl))
theorem F64_letheref02_shaped_l1000004_eq (v9 : (List S40)) (v10 : Int) (v11 : Int) : F64_letheref02_shaped_l1000004 v9 v10 v11 =
    if v11 < v10 then
      if (0 : Int) ≤ v11 ∧ v11 < (List.length v9 : Int) then
        (F64_letheref02_shaped (S40.f0 (rd S40.z v9 v11)) (S40.f1 (rd S40.z v9 v11)) (S40.f2 (rd S40.z v9 v11)) (S40.f3 (rd S40.z v9 v11))).bind fun y1 =>
        if (!y1.1) = true then
          some (false, ())
        else
          F64_letheref02_shaped_l1000004 v9 v10 (IntKind.i64.wrap (v11 + (1 : Int)))
      else
        none
    else
      some (true, ()) :=
  (run_eq _ _ _ _).trans (by kernel_rfl)
theorem F82_letheref02_One_eq (x0_0 : Int) (x0_1 : Int) (x0_2 : ByteArray) (x0_3 : (List S40)) : F82_letheref02_One x0_0 x0_1 x0_2 x0_3 =
    if x0_0 = (1 : Int) then
      if x0_0 = (1 : Int) then
        if x0_2 = ByteArray.empty then
          some ((decide ((List.length x0_3 : Int) = (0 : Int))), ())
        else
          some (false, ())
      else
        if x0_0 = (2 : Int) then
          if x0_1 = (0 : Int) then
            if (ByteArray.size x0_2 : Int) ≤ (4000 : Int) then
              some ((decide ((List.length x0_3 : Int) = (0 : Int))), ())
            else
              some (false, ())
          else
            some (false, ())
        else
          if x0_0 = (4 : Int) then
            if x0_2 = ByteArray.empty then
              some ((decide ((List.length x0_3 : Int) = (1 : Int))), ())
            else
              some (false, ())
          else
            if x0_0 = (5 : Int) then
              if x0_1 = (0 : Int) then
                some ((decide (x0_2 = ByteArray.empty)), ())
              else
                some (false, ())
            else
              some (false, ())
    else
      if x0_0 = (3 : Int) then
        if x0_2 = ByteArray.empty then
          some ((decide ((List.length x0_3 : Int) = (0 : Int))), ())
        else
          some (false, ())
      else
        if x0_0 = (2 : Int) then
          if x0_1 = (0 : Int) then
            if (ByteArray.size x0_2 : Int) ≤ (4000 : Int) then
              some ((decide ((List.length x0_3 : Int) = (0 : Int))), ())
            else
              some (false, ())
          else
            some (false, ())
        else
          if x0_0 = (4 : Int) then
            if x0_2 = ByteArray.empty then
              some ((decide ((List.length x0_3 : Int) = (1 : Int))), ())
            else
              some (false, ())
          else
            if x0_0 = (5 : Int) then
              if x0_1 = (0 : Int) then
                some ((decide (x0_2 = ByteArray.empty)), ())
              else
                some (false, ())
            else
              some (false, ()) :=
  (F_eq (G := G) rfl fn45 rfl _).trans ((run_eq _ _ _ _).trans (by kernel_rfl))
end
end Go.Proofs.Ytfljhcmcnmeelaa.ThiefShutx
