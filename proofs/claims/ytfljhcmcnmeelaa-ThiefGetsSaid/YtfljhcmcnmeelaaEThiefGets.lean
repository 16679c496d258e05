/- The law ThiefGets: what each function answers, in plain equations. Under no condition. -/
import Derived.Test.YtfljhcmcnmeelaaTThiefGets
set_option linter.unusedVariables false
set_option maxRecDepth 100000
namespace Go.Proofs.Ytfljhcmcnmeelaa.ThiefGetsx
open Go Go.RowKit Go.Proofs.Ytfljhcmcnmeelaa.Rx Go.Proofs.Ytfljhcmcnmeelaa.ThiefGetsx
noncomputable section
theorem F4_lethelaw10_ThiefGets_eq (x0 : (List ByteArray)) (x1 : ByteArray) : F4_lethelaw10_ThiefGets x0 x1 =
    (F9_lethelaw10_short x0 60).bind fun y1 =>
    (F18_letheref10_From y1.1).bind fun y2 =>
    (F11_thief_Keys y1.1).bind fun y3 =>
    (F14_lethelaw10_sameKeys y3.1 y2.1).bind fun y4 =>
    if y4.1 = true then
      (F10_thief_Atoms y1.1).bind fun y5 =>
      (F13_letheref02_SameTexts y5.1 y2.2.1).bind fun y6 =>
      if y6.1 = true then
        (F15_thief_Shut y1.1).bind fun y7 =>
        if y7.1 = (List.length y2.2.2.1 : Int) then
          (F19_thief_Has x1 y1.1).bind fun y8 =>
          (F17_letheref02_In y2.2.1 x1).bind fun y9 =>
          some ((y8.1 == y9.1), ())
        else
          some (false, ())
      else
        some (false, ())
    else
      some (false, ()) :=
  (F_eq (G := G) rfl fn0 rfl _).trans ((run_eq _ _ _ _).trans (by kernel_rfl))
theorem F9_lethelaw10_short_eq (x0 : (List ByteArray)) (x1 : Int) : F9_lethelaw10_short x0 x1 =
    if x1 < (List.length x0 : Int) then
      if (0 : Int) ≤ 0 ∧ (0 : Int) ≤ x1 ∧ x1 ≤ (List.length x0 : Int) then
        some ((subL x0 0 x1), ())
      else
        none
    else
      some (x0, ()) :=
  (F_eq (G := G) rfl fn1 rfl _).trans ((run_eq _ _ _ _).trans (by kernel_rfl))
theorem F18_letheref10_From_eq (x0 : (List ByteArray)) : F18_letheref10_From x0 =
    F18_letheref10_From_l1000003 x0 (List.length x0 : Int) 0 [] [] [] [] [] [] :=
  (F_eq (G := G) rfl fn2 rfl _).trans ((run_eq _ _ _ _).trans (by kernel_rfl))
theorem F18_letheref10_From_l1000003_eq (v8 : (List ByteArray)) (v9 : Int) (v10 : Int) (h1_0 : (List Int)) (h1_1 : (List ByteArray)) (g2 : (List Int)) (g3 : (List ByteArray)) (g4 : (List S40)) (g5 : (List S40)) : F18_letheref10_From_l1000003 v8 v9 v10 h1_0 h1_1 g2 g3 g4 g5 =
    if v10 < v9 then
      if (0 : Int) ≤ v10 ∧ v10 < (List.length v8 : Int) then
        (F39_letheref10_Piece (rd ByteArray.empty v8 v10)).bind fun y1 =>
        (F38_letheref10_take h1_0 h1_1 y1.1 y1.2.1 y1.2.2.1 y1.2.2.2.1 g5).bind fun y2 =>
        if y2.1 = true then
          F18_letheref10_From_l1000003 v8 v9 (IntKind.i64.wrap (v10 + (1 : Int))) y2.2.1 y2.2.2.1 g2 g3 g4 y2.2.2.2.1
        else
          F18_letheref10_From_l1000003 v8 v9 (IntKind.i64.wrap (v10 + (1 : Int))) y2.2.2.2.2.1 y2.2.2.2.2.2.1 g2 g3 g4 y2.2.2.2.2.2.2.1
      else
        none
    else
      F18_letheref10_From_l1000008 true h1_0 h1_1 g2 g3 g4 g5 :=
  (run_eq _ _ _ _).trans (by kernel_rfl)
theorem F18_letheref10_From_l1000008_eq (v6 : Bool) (h1_0 : (List Int)) (h1_1 : (List ByteArray)) (g2 : (List Int)) (g3 : (List ByteArray)) (g4 : (List S40)) (g5 : (List S40)) : F18_letheref10_From_l1000008 v6 h1_0 h1_1 g2 g3 g4 g5 =
    if v6 = true then
      (F40_letheref10_open h1_0 h1_1 g5).bind fun y1 =>
      F18_letheref10_From_l1000008 y1.2.2.1 y1.1 y1.2.1 g2 g3 g4 y1.2.2.2.2.1
    else
      some (h1_0, h1_1, g5, ()) :=
  (run_eq _ _ _ _).trans (by kernel_rfl)
theorem F11_thief_Keys_eq (x0 : (List ByteArray)) : F11_thief_Keys x0 =
    (F34_thief_taken x0).bind fun y1 =>
    (F37_maps_Keys y1.1).bind fun y2 =>
    (F36_slices_Sorted y2.1).bind fun y3 =>
    (F35_slices_Clip y3.2.1).bind fun y4 =>
    some (y4.1, ()) :=
  (F_eq (G := G) rfl fn3 rfl _).trans ((run_eq _ _ _ _).trans (by kernel_rfl))
theorem F14_lethelaw10_sameKeys_eq (x0 : (List Int)) (x1 : (List Int)) : F14_lethelaw10_sameKeys x0 x1 =
    if ¬ (List.length x0 : Int) = (List.length x1 : Int) then
      some (false, ())
    else
      F14_lethelaw10_sameKeys_l1000004 x0 x1 (List.length x0 : Int) 0 :=
  (F_eq (G := G) rfl fn4 rfl _).trans ((run_eq _ _ _ _).trans (by kernel_rfl))
theorem F14_lethelaw10_sameKeys_l1000004_eq (v0 : (List Int)) (v1 : (List Int)) (v12 : Int) (v13 : Int) : F14_lethelaw10_sameKeys_l1000004 v0 v1 v12 v13 =
    if v13 < v12 then
      if (0 : Int) ≤ v13 ∧ v13 < (List.length v0 : Int) then
        if (0 : Int) ≤ v13 ∧ v13 < (List.length v1 : Int) then
          if ¬ (rd (0 : Int) v0 v13) = (rd (0 : Int) v1 v13) then
            some (false, ())
          else
            F14_lethelaw10_sameKeys_l1000004 v0 v1 v12 (IntKind.i64.wrap (v13 + (1 : Int)))
        else
          none
      else
        none
    else
      some (true, ()) :=
  (run_eq _ _ _ _).trans (by kernel_rfl)
theorem F10_thief_Atoms_eq (x0 : (List ByteArray)) : F10_thief_Atoms x0 =
    (F34_thief_taken x0).bind fun y1 =>
    (F33_maps_Keys y1.2.1).bind fun y2 =>
    (F32_slices_Sorted y2.1).bind fun y3 =>
    (F31_slices_Clip y3.2.1).bind fun y4 =>
    some (y4.1, ()) :=
  (F_eq (G := G) rfl fn5 rfl _).trans ((run_eq _ _ _ _).trans (by kernel_rfl))
theorem F13_letheref02_SameTexts_eq (x0 : (List ByteArray)) (x1 : (List ByteArray)) : F13_letheref02_SameTexts x0 x1 =
    if ¬ (List.length x0 : Int) = (List.length x1 : Int) then
      some (false, ())
    else
      F13_letheref02_SameTexts_l1000004 x0 x1 (List.length x0 : Int) 0 :=
  (F_eq (G := G) rfl fn6 rfl _).trans ((run_eq _ _ _ _).trans (by kernel_rfl))
theorem F13_letheref02_SameTexts_l1000004_eq (v0 : (List ByteArray)) (v1 : (List ByteArray)) (v12 : Int) (v13 : Int) : F13_letheref02_SameTexts_l1000004 v0 v1 v12 v13 =
    if v13 < v12 then
      if (0 : Int) ≤ v13 ∧ v13 < (List.length v0 : Int) then
        if (0 : Int) ≤ v13 ∧ v13 < (List.length v1 : Int) then
          if ¬ (rd ByteArray.empty v0 v13) = (rd ByteArray.empty v1 v13) then
            some (false, ())
          else
            F13_letheref02_SameTexts_l1000004 v0 v1 v12 (IntKind.i64.wrap (v13 + (1 : Int)))
        else
          none
      else
        none
    else
      some (true, ()) :=
  (run_eq _ _ _ _).trans (by kernel_rfl)
theorem F15_thief_Shut_eq (x0 : (List ByteArray)) : F15_thief_Shut x0 =
    (F34_thief_taken x0).bind fun y1 =>
    F15_thief_Shut_l1000003 0 (mbeg y1.2.2.1) y1.2.2.1 :=
  (F_eq (G := G) rfl fn7 rfl _).trans ((run_eq _ _ _ _).trans (by kernel_rfl))
theorem F15_thief_Shut_l1000003_eq (v3 : Int) (g0 : ItD) (g1 : (MapD Int (List S40))) : F15_thief_Shut_l1000003 v3 g0 g1 =
    if mcalm g1 g0 then
      if List.length (mleft g1 g0) = 0 then
        some (v3, ())
      else
        allO (List.length (mleft g1 g0)) fun n1 =>
        if mat g1 (msee g0 (mleft g1 g0) n1) then
          let e2 : Int := IntKind.i64.wrap (v3 + (List.length (cval [] g1 (msee g0 (mleft g1 g0) n1)) : Int))
          F15_thief_Shut_l1000003 e2 (msee g0 (mleft g1 g0) n1) g1
        else
          none
    else
      none :=
  (run_eq _ _ _ _).trans (by kernel_rfl)
theorem F19_thief_Has_eq (x0 : ByteArray) (x1 : (List ByteArray)) : F19_thief_Has x0 x1 =
    (F34_thief_taken x1).bind fun y1 =>
    some ((mhas keyS y1.2.1 x0), ()) :=
  (F_eq (G := G) rfl fn8 rfl _).trans ((run_eq _ _ _ _).trans (by kernel_rfl))
theorem F17_letheref02_In_eq (x0 : (List ByteArray)) (x1 : ByteArray) : F17_letheref02_In x0 x1 =
    F17_letheref02_In_l1000002 x1 x0 (List.length x0 : Int) 0 :=
  (F_eq (G := G) rfl fn9 rfl _).trans ((run_eq _ _ _ _).trans (by kernel_rfl))
theorem F17_letheref02_In_l1000002_eq (v1 : ByteArray) (v7 : (List ByteArray)) (v8 : Int) (v9 : Int) : F17_letheref02_In_l1000002 v1 v7 v8 v9 =
    if v9 < v8 then
      if (0 : Int) ≤ v9 ∧ v9 < (List.length v7 : Int) then
        if (rd ByteArray.empty v7 v9) = v1 then
          some (true, ())
        else
          F17_letheref02_In_l1000002 v1 v7 v8 (IntKind.i64.wrap (v9 + (1 : Int)))
      else
        none
    else
      some (false, ()) :=
  (run_eq _ _ _ _).trans (by kernel_rfl)
theorem F34_thief_taken_eq (x0 : (List ByteArray)) : F34_thief_taken x0 =
    F34_thief_taken_l1000003 x0 (List.length x0 : Int) 0 (MapD.nil : MapD Int S64) (MapD.nil : MapD ByteArray S64) (MapD.nil : MapD Int (List S40)) :=
  (F_eq (G := G) rfl fn10 rfl _).trans ((run_eq _ _ _ _).trans (by kernel_rfl))
theorem F34_thief_taken_l1000003_eq (v13 : (List ByteArray)) (v14 : Int) (v15 : Int) (g1 : (MapD Int S64)) (g2 : (MapD ByteArray S64)) (g3 : (MapD Int (List S40))) : F34_thief_taken_l1000003 v13 v14 v15 g1 g2 g3 =
    if v15 < v14 then
      if (0 : Int) ≤ v15 ∧ v15 < (List.length v13 : Int) then
        (F55_term_Decode (rd ByteArray.empty v13 v15)).bind fun y1 =>
        if ¬ y1.2.2.2.2.1 = (0 : Int) then
          (F26_term_Atom (rd ByteArray.empty v13 v15)).bind fun y2 =>
          (F56_thief_loot_take y2.1 y2.2.1 y2.2.2.1 y2.2.2.2.1 g1 g2 g3).bind fun y3 =>
          F34_thief_taken_l1000003 v13 v14 (IntKind.i64.wrap (v15 + (1 : Int))) y3.1 y3.2.1 y3.2.2.1
        else
          (F56_thief_loot_take y1.1 y1.2.1 y1.2.2.1 y1.2.2.2.1 g1 g2 g3).bind fun y4 =>
          F34_thief_taken_l1000003 v13 v14 (IntKind.i64.wrap (v15 + (1 : Int))) y4.1 y4.2.1 y4.2.2.1
      else
        none
    else
      some (g1, g2, g3, ()) :=
  (run_eq _ _ _ _).trans (by kernel_rfl)
theorem F55_term_Decode_eq (x0 : ByteArray) : F55_term_Decode x0 =
    (F79_term_reader_term 0 x0 0).bind fun y1 =>
    if ¬ y1.2.2.2.2.1 = (0 : Int) then
      some (0, 0, ByteArray.empty, [], y1.2.2.2.2.1, ())
    else
      if ¬ y1.2.2.2.2.2.1 = ByteArray.empty then
        some (0, 0, ByteArray.empty, [], 24, ())
      else
        some (y1.1, y1.2.1, y1.2.2.1, y1.2.2.2.1, 0, ()) :=
  (F_eq (G := G) rfl fn11 rfl _).trans ((run_eq _ _ _ _).trans (by kernel_rfl))
theorem F26_term_Atom_eq (x0 : ByteArray) : F26_term_Atom x0 =
    some (2, 0, x0, [], ()) :=
  (F_eq (G := G) rfl fn12 rfl _).trans ((run_eq _ _ _ _).trans (by kernel_rfl))
theorem F56_thief_loot_take_eq (x1_0 : Int) (x1_1 : Int) (x1_2 : ByteArray) (x1_3 : (List S40)) (g1 : (MapD Int S64)) (g2 : (MapD ByteArray S64)) (g3 : (MapD Int (List S40))) : F56_thief_loot_take x1_0 x1_1 x1_2 x1_3 g1 g2 g3 =
    if x1_0 = (2 : Int) then
      some (g1, (mset keyS g2 x1_2 (S64.mk )), g3, ())
    else
      if x1_0 = (5 : Int) then
        F56_thief_loot_take_l1000006 x1_3 (List.length x1_3 : Int) 0 g1 g2 g3
      else
        if x1_0 = (3 : Int) then
          if keyI x1_1 x1_1 = true then
            F56_thief_loot_take_l1000015 (List.length (mget keyI [] g3 x1_1) : Int) 0 (mset keyI g1 x1_1 (S64.mk )) g2 (mdel keyI g3 x1_1) (mget keyI [] g3 x1_1)
          else
            none
        else
          if x1_0 = (4 : Int) then
            if (mhas keyI g1 x1_1) = true then
              if (0 : Int) ≤ 0 ∧ 0 < (List.length x1_3 : Int) then
                (F56_thief_loot_take (S40.f0 (rd S40.z x1_3 0)) (S40.f1 (rd S40.z x1_3 0)) (S40.f2 (rd S40.z x1_3 0)) (S40.f3 (rd S40.z x1_3 0)) g1 g2 g3).bind fun y1 =>
                some (y1.1, y1.2.1, y1.2.2.1, ())
              else
                none
            else
              if (0 : Int) ≤ 0 ∧ 0 < (List.length x1_3 : Int) then
                let e2 : (List S40) := [(S40.mk (S40.f0 (rd S40.z x1_3 0)) (S40.f1 (rd S40.z x1_3 0)) (S40.f2 (rd S40.z x1_3 0)) (S40.f3 (rd S40.z x1_3 0)))]
                if (List.length (mget keyI [] g3 x1_1) + List.length e2) * 56 ≤ 140737488355328 then
                  if keyI x1_1 x1_1 = true then
                    some (g1, g2, (mset keyI g3 x1_1 ((mget keyI [] g3 x1_1) ++ e2)), ())
                  else
                    none
                else
                  none
              else
                none
          else
            some (g1, g2, g3, ()) :=
  (F_eq (G := G) rfl fn13 rfl _).trans ((run_eq _ _ _ _).trans (by kernel_rfl))
theorem F56_thief_loot_take_l1000006_eq (v25 : (List S40)) (v26 : Int) (v27 : Int) (g1 : (MapD Int S64)) (g2 : (MapD ByteArray S64)) (g3 : (MapD Int (List S40))) : F56_thief_loot_take_l1000006 v25 v26 v27 g1 g2 g3 =
    if v27 < v26 then
      if (0 : Int) ≤ v27 ∧ v27 < (List.length v25 : Int) then
        (F56_thief_loot_take (S40.f0 (rd S40.z v25 v27)) (S40.f1 (rd S40.z v25 v27)) (S40.f2 (rd S40.z v25 v27)) (S40.f3 (rd S40.z v25 v27)) g1 g2 g3).bind fun y1 =>
        F56_thief_loot_take_l1000006 v25 v26 (IntKind.i64.wrap (v27 + (1 : Int))) y1.1 y1.2.1 y1.2.2.1
      else
        none
    else
      some (g1, g2, g3, ()) :=
  (run_eq _ _ _ _).trans (by kernel_rfl)
theorem F56_thief_loot_take_l1000015_eq (v58 : Int) (v59 : Int) (g1 : (MapD Int S64)) (g2 : (MapD ByteArray S64)) (g3 : (MapD Int (List S40))) (g5 : (List S40)) : F56_thief_loot_take_l1000015 v58 v59 g1 g2 g3 g5 =
    if v59 < v58 then
      if (0 : Int) ≤ v59 ∧ v59 < (List.length g5 : Int) then
        (F56_thief_loot_take (S40.f0 (rd S40.z g5 v59)) (S40.f1 (rd S40.z g5 v59)) (S40.f2 (rd S40.z g5 v59)) (S40.f3 (rd S40.z g5 v59)) g1 g2 g3).bind fun y1 =>
        F56_thief_loot_take_l1000015 v58 (IntKind.i64.wrap (v59 + (1 : Int))) y1.1 y1.2.1 y1.2.2.1 g5
      else
        none
    else
      some (g1, g2, g3, ()) :=
  (run_eq _ _ _ _).trans (by kernel_rfl)
theorem F79_term_reader_term_eq (x1 : Int) (h0_0 : ByteArray) (h0_1 : Int) : F79_term_reader_term x1 h0_0 h0_1 =
    (F97_term_reader_head x1 h0_0 h0_1).bind fun y1 =>
    if ¬ y1.2.2.1 = (0 : Int) then
      some (0, 0, ByteArray.empty, [], y1.2.2.1, y1.2.2.2.1, y1.2.2.2.2.1, ())
    else
      if y1.1 = (1 : Int) then
        if y1.1 = (1 : Int) then
          F79_term_reader_term_l1000022 x1 0 y1.2.2.2.1 y1.2.2.2.2.1 0 0 ByteArray.empty y1.1 y1.2.1 ByteArray.empty [] []
        else
          if y1.1 = (2 : Int) then
            if (4000 : Int) < y1.2.1 then
              some (0, 0, ByteArray.empty, [], 25, y1.2.2.2.1, y1.2.2.2.2.1, ())
            else
              let e2 : Int := IntKind.u64.wrap (ByteArray.size y1.2.2.2.1 : Int)
              if e2 < y1.2.1 then
                some (0, 0, ByteArray.empty, [], 20, y1.2.2.2.1, y1.2.2.2.2.1, ())
              else
                if (0 : Int) ≤ 0 ∧ (0 : Int) ≤ y1.2.1 ∧ y1.2.1 ≤ (ByteArray.size y1.2.2.2.1 : Int) then
                  let e3 : ByteArray := subS y1.2.2.2.1 y1.2.1 (ByteArray.size y1.2.2.2.1 : Int)
                  if (0 : Int) ≤ y1.2.1 ∧ y1.2.1 ≤ (ByteArray.size y1.2.2.2.1 : Int) ∧ (ByteArray.size y1.2.2.2.1 : Int) ≤ (ByteArray.size y1.2.2.2.1 : Int) then
                    F79_term_reader_term_l1000022 x1 0 e3 y1.2.2.2.2.1 0 0 ByteArray.empty y1.1 0 (subS y1.2.2.2.1 0 y1.2.1) [] []
                  else
                    none
                else
                  none
          else
            if y1.1 = (4 : Int) then
              F79_term_reader_term_l1000022 x1 1 y1.2.2.2.1 y1.2.2.2.2.1 0 0 ByteArray.empty y1.1 y1.2.1 ByteArray.empty [] []
            else
              if y1.1 = (5 : Int) then
                F79_term_reader_term_l1000022 x1 y1.2.1 y1.2.2.2.1 y1.2.2.2.2.1 0 0 ByteArray.empty y1.1 0 ByteArray.empty [] []
              else
                F79_term_reader_term_l1000022 x1 0 y1.2.2.2.1 y1.2.2.2.2.1 0 0 ByteArray.empty y1.1 0 ByteArray.empty [] []
      else
        if y1.1 = (3 : Int) then
          F79_term_reader_term_l1000022 x1 0 y1.2.2.2.1 y1.2.2.2.2.1 0 0 ByteArray.empty y1.1 y1.2.1 ByteArray.empty [] []
        else
          if y1.1 = (2 : Int) then
            if (4000 : Int) < y1.2.1 then
              some (0, 0, ByteArray.empty, [], 25, y1.2.2.2.1, y1.2.2.2.2.1, ())
            else
              let e4 : Int := IntKind.u64.wrap (ByteArray.size y1.2.2.2.1 : Int)
              if e4 < y1.2.1 then
                some (0, 0, ByteArray.empty, [], 20, y1.2.2.2.1, y1.2.2.2.2.1, ())
              else
                if (0 : Int) ≤ 0 ∧ (0 : Int) ≤ y1.2.1 ∧ y1.2.1 ≤ (ByteArray.size y1.2.2.2.1 : Int) then
                  let e5 : ByteArray := subS y1.2.2.2.1 y1.2.1 (ByteArray.size y1.2.2.2.1 : Int)
                  if (0 : Int) ≤ y1.2.1 ∧ y1.2.1 ≤ (ByteArray.size y1.2.2.2.1 : Int) ∧ (ByteArray.size y1.2.2.2.1 : Int) ≤ (ByteArray.size y1.2.2.2.1 : Int) then
                    F79_term_reader_term_l1000022 x1 0 e5 y1.2.2.2.2.1 0 0 ByteArray.empty y1.1 0 (subS y1.2.2.2.1 0 y1.2.1) [] []
                  else
                    none
                else
                  none
          else
            if y1.1 = (4 : Int) then
              F79_term_reader_term_l1000022 x1 1 y1.2.2.2.1 y1.2.2.2.2.1 0 0 ByteArray.empty y1.1 y1.2.1 ByteArray.empty [] []
            else
              if y1.1 = (5 : Int) then
                F79_term_reader_term_l1000022 x1 y1.2.1 y1.2.2.2.1 y1.2.2.2.2.1 0 0 ByteArray.empty y1.1 0 ByteArray.empty [] []
              else
                F79_term_reader_term_l1000022 x1 0 y1.2.2.2.1 y1.2.2.2.2.1 0 0 ByteArray.empty y1.1 0 ByteArray.empty [] [] :=
  (F_eq (G := G) rfl fn14 rfl _).trans ((run_eq _ _ _ _).trans (by kernel_rfl))
theorem F79_term_reader_term_l1000022_eq (v1 : Int) (v10 : Int) (h0_0 : ByteArray) (h0_1 : Int) (h1_0 : Int) (h1_1 : Int) (h1_2 : ByteArray) (h2_0 : Int) (h2_1 : Int) (h2_2 : ByteArray) (g3 : (List S40)) (g4 : (List S40)) : F79_term_reader_term_l1000022 v1 v10 h0_0 h0_1 h1_0 h1_1 h1_2 h2_0 h2_1 h2_2 g3 g4 =
    if (0 : Int) < v10 then
      (F79_term_reader_term (IntKind.i64.wrap (v1 + (1 : Int))) h0_0 h0_1).bind fun y1 =>
      if ¬ y1.2.2.2.2.1 = (0 : Int) then
        some (0, 0, ByteArray.empty, [], y1.2.2.2.2.1, y1.2.2.2.2.2.1, y1.2.2.2.2.2.2.1, ())
      else
        if (List.length g4 + List.length [(S40.mk y1.1 y1.2.1 y1.2.2.1 y1.2.2.2.1)]) * 56 ≤ 140737488355328 then
          F79_term_reader_term_l1000022 v1 (IntKind.u64.wrap (v10 - (1 : Int))) y1.2.2.2.2.2.1 y1.2.2.2.2.2.2.1 h1_0 h1_1 h1_2 h2_0 h2_1 h2_2 g3 (g4 ++ [(S40.mk y1.1 y1.2.1 y1.2.2.1 y1.2.2.2.1)])
        else
          none
    else
      some (h2_0, h2_1, h2_2, g4, 0, h0_0, h0_1, ()) :=
  (run_eq _ _ _ _).trans (by kernel_rfl)
theorem F97_term_reader_head_eq (x1 : Int) (h0_0 : ByteArray) (h0_1 : Int) : F97_term_reader_head x1 h0_0 h0_1 =
    if (4000 : Int) ≤ h0_1 then
      some (0, 0, 23, h0_0, h0_1, ())
    else
      if (12 : Int) ≤ x1 then
        some (0, 0, 22, h0_0, h0_1, ())
      else
        if h0_0 = ByteArray.empty then
          some (0, 0, 20, h0_0, h0_1, ())
        else
          if (0 : Int) ≤ 0 ∧ 0 < (ByteArray.size h0_0 : Int) then
            if (IntKind.i64.wrap (bt h0_0 0)) < (1 : Int) then
              some (0, 0, 21, h0_0, (IntKind.i64.wrap (h0_1 + (1 : Int))), ())
            else
              if (5 : Int) < (IntKind.i64.wrap (bt h0_0 0)) then
                some (0, 0, 21, h0_0, (IntKind.i64.wrap (h0_1 + (1 : Int))), ())
              else
                if (0 : Int) ≤ 1 ∧ (1 : Int) ≤ (ByteArray.size h0_0 : Int) ∧ (ByteArray.size h0_0 : Int) ≤ (ByteArray.size h0_0 : Int) then
                  (F114_term_GetNum (subS h0_0 1 (ByteArray.size h0_0 : Int))).bind fun y1 =>
                  if ¬ y1.2.2.1 = (0 : Int) then
                    some (0, 0, y1.2.2.1, h0_0, (IntKind.i64.wrap (h0_1 + (1 : Int))), ())
                  else
                    let e2 : ByteArray := subS h0_0 (IntKind.i64.wrap ((1 : Int) + y1.2.1)) (ByteArray.size h0_0 : Int)
                    if (0 : Int) ≤ (IntKind.i64.wrap ((1 : Int) + y1.2.1)) ∧ (IntKind.i64.wrap ((1 : Int) + y1.2.1)) ≤ (ByteArray.size h0_0 : Int) ∧ (ByteArray.size h0_0 : Int) ≤ (ByteArray.size h0_0 : Int) then
                      some ((IntKind.i64.wrap (bt h0_0 0)), y1.1, 0, e2, (IntKind.i64.wrap (h0_1 + (1 : Int))), ())
                    else
                      none
                else
                  none
          else
            none :=
  (F_eq (G := G) rfl fn15 rfl _).trans ((run_eq _ _ _ _).trans (by kernel_rfl))
theorem F114_term_GetNum_eq (x0 : ByteArray) : F114_term_GetNum x0 =
    F114_term_GetNum_l1000003 x0 0 0 :=
  (F_eq (G := G) rfl fn16 rfl _).trans ((run_eq _ _ _ _).trans (by kernel_rfl))
theorem F114_term_GetNum_l1000003_eq (v0 : ByteArray) (v5 : Int) (v6 : Int) : F114_term_GetNum_l1000003 v0 v5 v6 =
    if v6 < (ByteArray.size v0 : Int) then
      if (0 : Int) ≤ v6 ∧ v6 < (ByteArray.size v0 : Int) then
        if v6 = (9 : Int) then
          if (1 : Int) < (bt v0 v6) then
            some (0, 0, 21, ())
          else
            let e1 : Int := IntKind.u64.wrap (bitsR .and .u8 (bt v0 v6) (127 : Int))
            let e2 : Int := IntKind.u64.wrap (IntKind.i64.wrap ((7 : Int) * v6))
            if 0 ≤ e2 then
              if (shrR .u8 (bt v0 v6) (7 : Int)) = (0 : Int) then
                if (bt v0 v6) = (0 : Int) then
                  if (0 : Int) < v6 then
                    some (0, 0, 21, ())
                  else
                    F114_term_GetNum_l12 (bitsR .or .u64 v5 (shlR .u64 e1 e2)) v6
                else
                  F114_term_GetNum_l12 (bitsR .or .u64 v5 (shlR .u64 e1 e2)) v6
              else
                F114_term_GetNum_l1000003 v0 (bitsR .or .u64 v5 (shlR .u64 e1 e2)) (IntKind.i64.wrap (v6 + (1 : Int)))
            else
              none
        else
          let e3 : Int := IntKind.u64.wrap (bitsR .and .u8 (bt v0 v6) (127 : Int))
          let e4 : Int := IntKind.u64.wrap (IntKind.i64.wrap ((7 : Int) * v6))
          if 0 ≤ e4 then
            if (shrR .u8 (bt v0 v6) (7 : Int)) = (0 : Int) then
              if (bt v0 v6) = (0 : Int) then
                if (0 : Int) < v6 then
                  some (0, 0, 21, ())
                else
                  F114_term_GetNum_l12 (bitsR .or .u64 v5 (shlR .u64 e3 e4)) v6
              else
                F114_term_GetNum_l12 (bitsR .or .u64 v5 (shlR .u64 e3 e4)) v6
            else
              F114_term_GetNum_l1000003 v0 (bitsR .or .u64 v5 (shlR .u64 e3 e4)) (IntKind.i64.wrap (v6 + (1 : Int)))
          else
            none
      else
        none
    else
      some (0, 0, 20, ()) :=
  (run_eq _ _ _ _).trans (by kernel_rfl)
theorem F114_term_GetNum_l12_eq (v5 : Int) (v6 : Int) : F114_term_GetNum_l12 v5 v6 =
    some (v5, (IntKind.i64.wrap (v6 + (1 : Int))), 0, ()) :=
  (run_eq _ _ _ _).trans (by kernel_rfl)
theorem F33_maps_Keys_eq (g0 : (MapD ByteArray S64)) : F33_maps_Keys g0 =
    some (g0, ()) :=
  (F_eq (G := G) rfl fn17 rfl _).trans ((run_eq _ _ _ _).trans (by kernel_rfl))
theorem F32_slices_Sorted_eq (g1 : (MapD ByteArray S64)) : F32_slices_Sorted g1 =
    if mwf g1 = true then
      some (g1, (sortS (mkeys g1)), ())
    else
      none :=
  (F_giv (G := G) rfl _).trans (by kernel_rfl)
theorem F31_slices_Clip_eq (x0 : (List ByteArray)) : F31_slices_Clip x0 =
    if (0 : Int) ≤ 0 ∧ (0 : Int) ≤ (List.length x0 : Int) ∧ (List.length x0 : Int) ≤ (List.length x0 : Int) ∧ (List.length x0 : Int) ≤ (List.length x0 : Int) then
      some ((subL x0 0 (List.length x0 : Int)), ())
    else
      none :=
  (F_eq (G := G) rfl fn19 rfl _).trans ((run_eq _ _ _ _).trans (by kernel_rfl))
theorem F37_maps_Keys_eq (g0 : (MapD Int S64)) : F37_maps_Keys g0 =
    some (g0, ()) :=
  (F_eq (G := G) rfl fn20 rfl _).trans ((run_eq _ _ _ _).trans (by kernel_rfl))
theorem F36_slices_Sorted_eq (g1 : (MapD Int S64)) : F36_slices_Sorted g1 =
    if mwfU g1 = true then
      some (g1, (sortU (mkeysU g1)), ())
    else
      none :=
  (F_giv (G := G) rfl _).trans (by kernel_rfl)
theorem F35_slices_Clip_eq (x0 : (List Int)) : F35_slices_Clip x0 =
    if (0 : Int) ≤ 0 ∧ (0 : Int) ≤ (List.length x0 : Int) ∧ (List.length x0 : Int) ≤ (List.length x0 : Int) ∧ (List.length x0 : Int) ≤ (List.length x0 : Int) then
      some ((subL x0 0 (List.length x0 : Int)), ())
    else
      none :=
  (F_eq (G := G) rfl fn22 rfl _).trans ((run_eq _ _ _ _).trans (by kernel_rfl))
theorem F39_letheref10_Piece_eq (x0 : ByteArray) : F39_letheref10_Piece x0 =
    (F23_letheref02_Decode x0).bind fun y1 =>
    if ¬ y1.2.2.2.2.1 = (0 : Int) then
      some (2, 0, x0, [], ())
    else
      some (y1.1, y1.2.1, y1.2.2.1, y1.2.2.2.1, ()) :=
  (F_eq (G := G) rfl fn23 rfl _).trans ((run_eq _ _ _ _).trans (by kernel_rfl))
theorem F38_letheref10_take_eq (x0_0 : (List Int)) (x0_1 : (List ByteArray)) (x1_0 : Int) (x1_1 : Int) (x1_2 : ByteArray) (x1_3 : (List S40)) (g0 : (List S40)) : F38_letheref10_take x0_0 x0_1 x1_0 x1_1 x1_2 x1_3 g0 =
    if x1_0 = (2 : Int) then
      (F60_letheref02_Insert x0_1 x1_2).bind fun y1 =>
      F38_letheref10_take_l14 g0 x0_0 y1.1 y1.1 [] [] []
    else
      if x1_0 = (3 : Int) then
        (F61_letheref10_withKey x0_0 x1_1).bind fun y2 =>
        F38_letheref10_take_l14_1 g0 y2.1 x0_1 y2.1 [] [] []
      else
        if x1_0 = (4 : Int) then
          if (List.length g0 + List.length [(S40.mk x1_0 x1_1 x1_2 x1_3)]) * 56 ≤ 140737488355328 then
            F38_letheref10_take_l14_2 x0_0 x0_1 (g0 ++ [(S40.mk x1_0 x1_1 x1_2 x1_3)]) [] [] []
          else
            none
        else
          if x1_0 = (5 : Int) then
            F38_letheref10_take_l1000010 x1_3 (List.length x1_3 : Int) 0 g0 x0_0 x0_1 [] [] []
          else
            F38_letheref10_take_l14_3 g0 x0_0 x0_1 [] [] [] :=
  (F_eq (G := G) rfl fn24 rfl _).trans ((run_eq _ _ _ _).trans (by kernel_rfl))
theorem F38_letheref10_take_l14_eq (g0 : (List S40)) (h1_0 : (List Int)) (h1_1 : (List ByteArray)) (g3 : (List ByteArray)) (g4 : (List Int)) (g5 : (List ByteArray)) (g6 : (List S40)) : F38_letheref10_take_l14 g0 h1_0 h1_1 g3 g4 g5 g6 =
    some (true, h1_0, h1_1, g0, [], [], [], ()) :=
  (run_eq _ _ _ _).trans (by kernel_rfl)
theorem F38_letheref10_take_l14_1_eq (g0 : (List S40)) (h1_0 : (List Int)) (h1_1 : (List ByteArray)) (g3 : (List Int)) (g4 : (List Int)) (g5 : (List ByteArray)) (g6 : (List S40)) : F38_letheref10_take_l14_1 g0 h1_0 h1_1 g3 g4 g5 g6 =
    some (true, h1_0, h1_1, g0, [], [], [], ()) :=
  (run_eq _ _ _ _).trans (by kernel_rfl)
theorem F38_letheref10_take_l14_2_eq (h1_0 : (List Int)) (h1_1 : (List ByteArray)) (g3 : (List S40)) (g4 : (List Int)) (g5 : (List ByteArray)) (g6 : (List S40)) : F38_letheref10_take_l14_2 h1_0 h1_1 g3 g4 g5 g6 =
    some (false, [], [], [], h1_0, h1_1, g3, ()) :=
  (run_eq _ _ _ _).trans (by kernel_rfl)
theorem F38_letheref10_take_l1000010_eq (v36 : (List S40)) (v37 : Int) (v38 : Int) (g0 : (List S40)) (h1_0 : (List Int)) (h1_1 : (List ByteArray)) (g3 : (List Int)) (g4 : (List ByteArray)) (g5 : (List S40)) : F38_letheref10_take_l1000010 v36 v37 v38 g0 h1_0 h1_1 g3 g4 g5 =
    if v38 < v37 then
      if (0 : Int) ≤ v38 ∧ v38 < (List.length v36 : Int) then
        (F38_letheref10_take h1_0 h1_1 (S40.f0 (rd S40.z v36 v38)) (S40.f1 (rd S40.z v36 v38)) (S40.f2 (rd S40.z v36 v38)) (S40.f3 (rd S40.z v36 v38)) g0).bind fun y1 =>
        if y1.1 = true then
          F38_letheref10_take_l1000010 v36 v37 (IntKind.i64.wrap (v38 + (1 : Int))) y1.2.2.2.1 y1.2.1 y1.2.2.1 g3 g4 g5
        else
          F38_letheref10_take_l1000010_1 v36 v37 (IntKind.i64.wrap (v38 + (1 : Int))) y1.2.2.2.2.1 y1.2.2.2.2.2.1 y1.2.2.2.2.2.2.1 g3 g4 g5
      else
        none
    else
      F38_letheref10_take_l14_3 g0 h1_0 h1_1 g3 g4 g5 :=
  (run_eq _ _ _ _).trans (by kernel_rfl)
theorem F38_letheref10_take_l14_3_eq (g0 : (List S40)) (h1_0 : (List Int)) (h1_1 : (List ByteArray)) (g3 : (List Int)) (g4 : (List ByteArray)) (g5 : (List S40)) : F38_letheref10_take_l14_3 g0 h1_0 h1_1 g3 g4 g5 =
    some (true, h1_0, h1_1, g0, [], [], [], ()) :=
  (run_eq _ _ _ _).trans (by kernel_rfl)
theorem F38_letheref10_take_l1000010_1_eq (v36 : (List S40)) (v37 : Int) (v38 : Int) (h1_0 : (List Int)) (h1_1 : (List ByteArray)) (g3 : (List S40)) (g4 : (List Int)) (g5 : (List ByteArray)) (g6 : (List S40)) : F38_letheref10_take_l1000010_1 v36 v37 v38 h1_0 h1_1 g3 g4 g5 g6 =
    if v38 < v37 then
      if (0 : Int) ≤ v38 ∧ v38 < (List.length v36 : Int) then
        (F38_letheref10_take h1_0 h1_1 (S40.f0 (rd S40.z v36 v38)) (S40.f1 (rd S40.z v36 v38)) (S40.f2 (rd S40.z v36 v38)) (S40.f3 (rd S40.z v36 v38)) g3).bind fun y1 =>
        if y1.1 = true then
          F38_letheref10_take_l1000010_1 v36 v37 (IntKind.i64.wrap (v38 + (1 : Int))) y1.2.1 y1.2.2.1 y1.2.2.2.1 g4 g5 g6
        else
          F38_letheref10_take_l1000010_1 v36 v37 (IntKind.i64.wrap (v38 + (1 : Int))) y1.2.2.2.2.1 y1.2.2.2.2.2.1 y1.2.2.2.2.2.2.1 g4 g5 g6
      else
        none
    else
      F38_letheref10_take_l14_2 h1_0 h1_1 g3 g4 g5 g6 :=
  (run_eq _ _ _ _).trans (by kernel_rfl)
theorem F40_letheref10_open_eq (x0_0 : (List Int)) (x0_1 : (List ByteArray)) (g0 : (List S40)) : F40_letheref10_open x0_0 x0_1 g0 =
    F40_letheref10_open_l1000005 false (List.length g0 : Int) 0 g0 x0_0 x0_1 [] [] [] [] :=
  (F_eq (G := G) rfl fn25 rfl _).trans ((run_eq _ _ _ _).trans (by kernel_rfl))
theorem F40_letheref10_open_l1000005_eq (v5 : Bool) (v12 : Int) (v13 : Int) (g0 : (List S40)) (h1_0 : (List Int)) (h1_1 : (List ByteArray)) (g3 : (List S40)) (g4 : (List Int)) (g5 : (List ByteArray)) (g6 : (List S40)) : F40_letheref10_open_l1000005 v5 v12 v13 g0 h1_0 h1_1 g3 g4 g5 g6 =
    if v13 < v12 then
      if (0 : Int) ≤ v13 ∧ v13 < (List.length g0 : Int) then
        (F16_letheref10_HasKey h1_0 (S40.f1 (rd S40.z g0 v13))).bind fun y1 =>
        if y1.1 = true then
          if (0 : Int) ≤ 0 ∧ 0 < (List.length (S40.f3 (rd S40.z g0 v13)) : Int) then
            (F38_letheref10_take h1_0 h1_1 (S40.f0 (rd S40.z (S40.f3 (rd S40.z g0 v13)) 0)) (S40.f1 (rd S40.z (S40.f3 (rd S40.z g0 v13)) 0)) (S40.f2 (rd S40.z (S40.f3 (rd S40.z g0 v13)) 0)) (S40.f3 (rd S40.z (S40.f3 (rd S40.z g0 v13)) 0)) g3).bind fun y2 =>
            if y2.1 = true then
              F40_letheref10_open_l1000005 true v12 (IntKind.i64.wrap (v13 + (1 : Int))) g0 y2.2.1 y2.2.2.1 y2.2.2.2.1 g4 g5 g6
            else
              F40_letheref10_open_l1000005 true v12 (IntKind.i64.wrap (v13 + (1 : Int))) g0 y2.2.2.2.2.1 y2.2.2.2.2.2.1 y2.2.2.2.2.2.2.1 g4 g5 g6
          else
            none
        else
          let e3 : (List S40) := [(S40.mk (S40.f0 (rd S40.z g0 v13)) (S40.f1 (rd S40.z g0 v13)) (S40.f2 (rd S40.z g0 v13)) (S40.f3 (rd S40.z g0 v13)))]
          if (List.length g3 + List.length e3) * 56 ≤ 140737488355328 then
            F40_letheref10_open_l1000005 v5 v12 (IntKind.i64.wrap (v13 + (1 : Int))) g0 h1_0 h1_1 (g3 ++ e3) g4 g5 g6
          else
            none
      else
        none
    else
      some (h1_0, h1_1, v5, g0, g3, ()) :=
  (run_eq _ _ _ _).trans (by kernel_rfl)
theorem F16_letheref10_HasKey_eq (x0 : (List Int)) (x1 : Int) : F16_letheref10_HasKey x0 x1 =
    F16_letheref10_HasKey_l1000002 x1 x0 (List.length x0 : Int) 0 :=
  (F_eq (G := G) rfl fn26 rfl _).trans ((run_eq _ _ _ _).trans (by kernel_rfl))
theorem F16_letheref10_HasKey_l1000002_eq (v1 : Int) (v7 : (List Int)) (v8 : Int) (v9 : Int) : F16_letheref10_HasKey_l1000002 v1 v7 v8 v9 =
    if v9 < v8 then
      if (0 : Int) ≤ v9 ∧ v9 < (List.length v7 : Int) then
        if (rd (0 : Int) v7 v9) = v1 then
          some (true, ())
        else
          F16_letheref10_HasKey_l1000002 v1 v7 v8 (IntKind.i64.wrap (v9 + (1 : Int)))
      else
        none
    else
      some (false, ()) :=
  (run_eq _ _ _ _).trans (by kernel_rfl)
theorem F60_letheref02_Insert_eq (x0 : (List ByteArray)) (x1 : ByteArray) : F60_letheref02_Insert x0 x1 =
    F60_letheref02_Insert_l1000004 x1 false x0 (List.length x0 : Int) 0 [] :=
  (F_eq (G := G) rfl fn27 rfl _).trans ((run_eq _ _ _ _).trans (by kernel_rfl))
theorem F60_letheref02_Insert_l1000004_eq (v1 : ByteArray) (v6 : Bool) (v10 : (List ByteArray)) (v11 : Int) (v12 : Int) (g0 : (List ByteArray)) : F60_letheref02_Insert_l1000004 v1 v6 v10 v11 v12 g0 =
    if v12 < v11 then
      if (0 : Int) ≤ v12 ∧ v12 < (List.length v10 : Int) then
        if (!v6) = true then
          if sLt (rd ByteArray.empty v10 v12) v1 = false then
            if sLt v1 (rd ByteArray.empty v10 v12) = true then
              if (List.length g0 + List.length [v1]) * 16 ≤ 140737488355328 then
                F60_letheref02_Insert_l10 v1 true (rd ByteArray.empty v10 v12) v10 v11 v12 (g0 ++ [v1])
              else
                none
            else
              F60_letheref02_Insert_l10 v1 true (rd ByteArray.empty v10 v12) v10 v11 v12 g0
          else
            F60_letheref02_Insert_l10 v1 v6 (rd ByteArray.empty v10 v12) v10 v11 v12 g0
        else
          F60_letheref02_Insert_l10 v1 v6 (rd ByteArray.empty v10 v12) v10 v11 v12 g0
      else
        none
    else
      if (!v6) = true then
        if (List.length g0 + List.length [v1]) * 16 ≤ 140737488355328 then
          some ((g0 ++ [v1]), ())
        else
          none
      else
        some (g0, ()) :=
  (run_eq _ _ _ _).trans (by kernel_rfl)
theorem F60_letheref02_Insert_l10_eq (v1 : ByteArray) (v6 : Bool) (v8 : ByteArray) (v10 : (List ByteArray)) (v11 : Int) (v12 : Int) (g0 : (List ByteArray)) : F60_letheref02_Insert_l10 v1 v6 v8 v10 v11 v12 g0 =
    if (List.length g0 + List.length [v8]) * 16 ≤ 140737488355328 then
      F60_letheref02_Insert_l1000004 v1 v6 v10 v11 (IntKind.i64.wrap (v12 + (1 : Int))) (g0 ++ [v8])
    else
      none :=
  (run_eq _ _ _ _).trans (by kernel_rfl)
theorem F61_letheref10_withKey_eq (x0 : (List Int)) (x1 : Int) : F61_letheref10_withKey x0 x1 =
    F61_letheref10_withKey_l1000004 x1 false x0 (List.length x0 : Int) 0 [] :=
  (F_eq (G := G) rfl fn28 rfl _).trans ((run_eq _ _ _ _).trans (by kernel_rfl))
theorem F61_letheref10_withKey_l1000004_eq (v1 : Int) (v6 : Bool) (v10 : (List Int)) (v11 : Int) (v12 : Int) (g0 : (List Int)) : F61_letheref10_withKey_l1000004 v1 v6 v10 v11 v12 g0 =
    if v12 < v11 then
      if (0 : Int) ≤ v12 ∧ v12 < (List.length v10 : Int) then
        if (!v6) = true then
          if v1 ≤ (rd (0 : Int) v10 v12) then
            if v1 < (rd (0 : Int) v10 v12) then
              if (List.length g0 + List.length [v1]) * 8 ≤ 140737488355328 then
                F61_letheref10_withKey_l10 v1 true (rd (0 : Int) v10 v12) v10 v11 v12 (g0 ++ [v1])
              else
                none
            else
              F61_letheref10_withKey_l10 v1 true (rd (0 : Int) v10 v12) v10 v11 v12 g0
          else
            F61_letheref10_withKey_l10 v1 v6 (rd (0 : Int) v10 v12) v10 v11 v12 g0
        else
          F61_letheref10_withKey_l10 v1 v6 (rd (0 : Int) v10 v12) v10 v11 v12 g0
      else
        none
    else
      if (!v6) = true then
        if (List.length g0 + List.length [v1]) * 8 ≤ 140737488355328 then
          some ((g0 ++ [v1]), ())
        else
          none
      else
        some (g0, ()) :=
  (run_eq _ _ _ _).trans (by kernel_rfl)
theorem F61_letheref10_withKey_l10_eq (v1 : Int) (v6 : Bool) (v8 : Int) (v10 : (List Int)) (v11 : Int) (v12 : Int) (g0 : (List Int)) : F61_letheref10_withKey_l10 v1 v6 v8 v10 v11 v12 g0 =
    if (List.length g0 + List.length [v8]) * 8 ≤ 140737488355328 then
      F61_letheref10_withKey_l1000004 v1 v6 v10 v11 (IntKind.i64.wrap (v12 + (1 : Int))) (g0 ++ [v8])
    else
      none :=
  (run_eq _ _ _ _).trans (by kernel_rfl)
theorem F23_letheref02_Decode_eq (x0 : ByteArray) : F23_letheref02_Decode x0 =
    (F47_letheref02_read x0 0 0 0).bind fun y1 =>
    if ¬ y1.2.2.2.2.2.2.1 = (0 : Int) then
      some (0, 0, ByteArray.empty, [], y1.2.2.2.2.2.2.1, ())
    else
      if y1.2.2.2.2.1 < (ByteArray.size x0 : Int) then
        some (0, 0, ByteArray.empty, [], 24, ())
      else
        some (y1.1, y1.2.1, y1.2.2.1, y1.2.2.2.1, 0, ()) :=
  (F_eq (G := G) rfl fn29 rfl _).trans ((run_eq _ _ _ _).trans (by kernel_rfl))
theorem F47_letheref02_read_eq (x0 : ByteArray) (x1 : Int) (x2 : Int) (x3 : Int) : F47_letheref02_read x0 x1 x2 x3 =
    if (4000 : Int) ≤ x2 then
      (F71_letheref02_wrong 23).bind fun y1 =>
      some (y1.1, y1.2.1, y1.2.2.1, y1.2.2.2.1, y1.2.2.2.2.1, y1.2.2.2.2.2.1, y1.2.2.2.2.2.2.1, ())
    else
      if (12 : Int) ≤ x3 then
        (F71_letheref02_wrong 22).bind fun y2 =>
        some (y2.1, y2.2.1, y2.2.2.1, y2.2.2.2.1, y2.2.2.2.2.1, y2.2.2.2.2.2.1, y2.2.2.2.2.2.2.1, ())
      else
        if (ByteArray.size x0 : Int) ≤ x1 then
          (F71_letheref02_wrong 20).bind fun y3 =>
          some (y3.1, y3.2.1, y3.2.2.1, y3.2.2.2.1, y3.2.2.2.2.1, y3.2.2.2.2.2.1, y3.2.2.2.2.2.2.1, ())
        else
          if (0 : Int) ≤ x1 ∧ x1 < (ByteArray.size x0 : Int) then
            if (IntKind.i64.wrap (bt x0 x1)) < (1 : Int) then
              (F71_letheref02_wrong 21).bind fun y4 =>
              some (y4.1, y4.2.1, y4.2.2.1, y4.2.2.2.1, y4.2.2.2.2.1, y4.2.2.2.2.2.1, y4.2.2.2.2.2.2.1, ())
            else
              if (5 : Int) < (IntKind.i64.wrap (bt x0 x1)) then
                (F71_letheref02_wrong 21).bind fun y5 =>
                some (y5.1, y5.2.1, y5.2.2.1, y5.2.2.2.1, y5.2.2.2.2.1, y5.2.2.2.2.2.1, y5.2.2.2.2.2.2.1, ())
              else
                let e6 : ByteArray := subS x0 (IntKind.i64.wrap (x1 + (1 : Int))) (ByteArray.size x0 : Int)
                if (0 : Int) ≤ (IntKind.i64.wrap (x1 + (1 : Int))) ∧ (IntKind.i64.wrap (x1 + (1 : Int))) ≤ (ByteArray.size x0 : Int) ∧ (ByteArray.size x0 : Int) ≤ (ByteArray.size x0 : Int) then
                  (F72_letheref02_GetNum e6).bind fun y7 =>
                  if ¬ y7.2.2.1 = (0 : Int) then
                    (F71_letheref02_wrong y7.2.2.1).bind fun y8 =>
                    some (y8.1, y8.2.1, y8.2.2.1, y8.2.2.2.1, y8.2.2.2.2.1, y8.2.2.2.2.2.1, y8.2.2.2.2.2.2.1, ())
                  else
                    let e9 : Int := IntKind.i64.wrap ((IntKind.i64.wrap (x1 + (1 : Int))) + y7.2.1)
                    if (IntKind.i64.wrap (bt x0 x1)) = (1 : Int) then
                      if (IntKind.i64.wrap (bt x0 x1)) = (1 : Int) then
                        some ((IntKind.i64.wrap (bt x0 x1)), y7.1, ByteArray.empty, [], e9, (IntKind.i64.wrap (x2 + (1 : Int))), 0, ())
                      else
                        if (IntKind.i64.wrap (bt x0 x1)) = (2 : Int) then
                          (F73_letheref02_atom x0 (IntKind.i64.wrap (bt x0 x1)) 0 ByteArray.empty [] e9 (IntKind.i64.wrap (x2 + (1 : Int))) 0 y7.1).bind fun y10 =>
                          some (y10.1, y10.2.1, y10.2.2.1, y10.2.2.2.1, y10.2.2.2.2.1, y10.2.2.2.2.2.1, y10.2.2.2.2.2.2.1, ())
                        else
                          if (IntKind.i64.wrap (bt x0 x1)) = (4 : Int) then
                            (F74_letheref02_more x0 (IntKind.i64.wrap (bt x0 x1)) y7.1 ByteArray.empty e9 (IntKind.i64.wrap (x2 + (1 : Int))) 0 1 x3 []).bind fun y11 =>
                            some (y11.1, y11.2.1, y11.2.2.1, y11.2.2.2.1, y11.2.2.2.2.1, y11.2.2.2.2.2.1, y11.2.2.2.2.2.2.1, ())
                          else
                            (F74_letheref02_more x0 (IntKind.i64.wrap (bt x0 x1)) 0 ByteArray.empty e9 (IntKind.i64.wrap (x2 + (1 : Int))) 0 y7.1 x3 []).bind fun y12 =>
                            some (y12.1, y12.2.1, y12.2.2.1, y12.2.2.2.1, y12.2.2.2.2.1, y12.2.2.2.2.2.1, y12.2.2.2.2.2.2.1, ())
                    else
                      if (IntKind.i64.wrap (bt x0 x1)) = (3 : Int) then
                        some ((IntKind.i64.wrap (bt x0 x1)), y7.1, ByteArray.empty, [], e9, (IntKind.i64.wrap (x2 + (1 : Int))), 0, ())
                      else
                        if (IntKind.i64.wrap (bt x0 x1)) = (2 : Int) then
                          (F73_letheref02_atom x0 (IntKind.i64.wrap (bt x0 x1)) 0 ByteArray.empty [] e9 (IntKind.i64.wrap (x2 + (1 : Int))) 0 y7.1).bind fun y13 =>
                          some (y13.1, y13.2.1, y13.2.2.1, y13.2.2.2.1, y13.2.2.2.2.1, y13.2.2.2.2.2.1, y13.2.2.2.2.2.2.1, ())
                        else
                          if (IntKind.i64.wrap (bt x0 x1)) = (4 : Int) then
                            (F74_letheref02_more x0 (IntKind.i64.wrap (bt x0 x1)) y7.1 ByteArray.empty e9 (IntKind.i64.wrap (x2 + (1 : Int))) 0 1 x3 []).bind fun y14 =>
                            some (y14.1, y14.2.1, y14.2.2.1, y14.2.2.2.1, y14.2.2.2.2.1, y14.2.2.2.2.2.1, y14.2.2.2.2.2.2.1, ())
                          else
                            (F74_letheref02_more x0 (IntKind.i64.wrap (bt x0 x1)) 0 ByteArray.empty e9 (IntKind.i64.wrap (x2 + (1 : Int))) 0 y7.1 x3 []).bind fun y15 =>
                            some (y15.1, y15.2.1, y15.2.2.1, y15.2.2.2.1, y15.2.2.2.2.1, y15.2.2.2.2.2.1, y15.2.2.2.2.2.2.1, ())
                else
                  none
          else
            none :=
  (F_eq (G := G) rfl fn30 rfl _).trans ((run_eq _ _ _ _).trans (by kernel_rfl))
theorem F71_letheref02_wrong_eq (x0 : Int) : F71_letheref02_wrong x0 =
    some (0, 0, ByteArray.empty, [], 0, 0, x0, ()) :=
  (F_eq (G := G) rfl fn31 rfl _).trans ((run_eq _ _ _ _).trans (by kernel_rfl))
theorem F72_letheref02_GetNum_eq (x0 : ByteArray) : F72_letheref02_GetNum x0 =
    F72_letheref02_GetNum_l1000004 x0 0 1 0 :=
  (F_eq (G := G) rfl fn32 rfl _).trans ((run_eq _ _ _ _).trans (by kernel_rfl))
theorem F72_letheref02_GetNum_l1000004_eq (v0 : ByteArray) (v5 : Int) (v6 : Int) (v7 : Int) : F72_letheref02_GetNum_l1000004 v0 v5 v6 v7 =
    if v7 < (ByteArray.size v0 : Int) then
      if v7 < (10 : Int) then
        if v7 = (9 : Int) then
          if (0 : Int) ≤ v7 ∧ v7 < (ByteArray.size v0 : Int) then
            if (1 : Int) < (bt v0 v7) then
              some (0, 0, 21, ())
            else
              if (0 : Int) ≤ v7 ∧ v7 < (ByteArray.size v0 : Int) then
                let e1 : Int := IntKind.u64.wrap (Int.tmod (bt v0 v7) (128 : Int))
                let e2 : Int := IntKind.u64.wrap (v5 + (IntKind.u64.wrap (e1 * v6)))
                if (0 : Int) ≤ v7 ∧ v7 < (ByteArray.size v0 : Int) then
                  if (bt v0 v7) < (128 : Int) then
                    if (0 : Int) ≤ v7 ∧ v7 < (ByteArray.size v0 : Int) then
                      if (bt v0 v7) = (0 : Int) then
                        if (0 : Int) < v7 then
                          some (0, 0, 21, ())
                        else
                          F72_letheref02_GetNum_l13 e2 v7
                      else
                        F72_letheref02_GetNum_l13 e2 v7
                    else
                      none
                  else
                    F72_letheref02_GetNum_l1000004 v0 e2 (IntKind.u64.wrap (v6 * (128 : Int))) (IntKind.i64.wrap (v7 + (1 : Int)))
                else
                  none
              else
                none
          else
            none
        else
          if (0 : Int) ≤ v7 ∧ v7 < (ByteArray.size v0 : Int) then
            let e3 : Int := IntKind.u64.wrap (Int.tmod (bt v0 v7) (128 : Int))
            let e4 : Int := IntKind.u64.wrap (v5 + (IntKind.u64.wrap (e3 * v6)))
            if (0 : Int) ≤ v7 ∧ v7 < (ByteArray.size v0 : Int) then
              if (bt v0 v7) < (128 : Int) then
                if (0 : Int) ≤ v7 ∧ v7 < (ByteArray.size v0 : Int) then
                  if (bt v0 v7) = (0 : Int) then
                    if (0 : Int) < v7 then
                      some (0, 0, 21, ())
                    else
                      F72_letheref02_GetNum_l13 e4 v7
                  else
                    F72_letheref02_GetNum_l13 e4 v7
                else
                  none
              else
                F72_letheref02_GetNum_l1000004 v0 e4 (IntKind.u64.wrap (v6 * (128 : Int))) (IntKind.i64.wrap (v7 + (1 : Int)))
            else
              none
          else
            none
      else
        some (0, 0, 20, ())
    else
      some (0, 0, 20, ()) :=
  (run_eq _ _ _ _).trans (by kernel_rfl)
theorem F72_letheref02_GetNum_l13_eq (v5 : Int) (v7 : Int) : F72_letheref02_GetNum_l13 v5 v7 =
    some (v5, (IntKind.i64.wrap (v7 + (1 : Int))), 0, ()) :=
  (run_eq _ _ _ _).trans (by kernel_rfl)
theorem F73_letheref02_atom_eq (x0 : ByteArray) (x1_0 : Int) (x1_1 : Int) (x1_2 : ByteArray) (x1_3 : (List S40)) (x1_4 : Int) (x1_5 : Int) (x1_6 : Int) (x2 : Int) : F73_letheref02_atom x0 x1_0 x1_1 x1_2 x1_3 x1_4 x1_5 x1_6 x2 =
    if (4000 : Int) < x2 then
      (F71_letheref02_wrong 25).bind fun y1 =>
      some (y1.1, y1.2.1, y1.2.2.1, y1.2.2.2.1, y1.2.2.2.2.1, y1.2.2.2.2.2.1, y1.2.2.2.2.2.2.1, ())
    else
      let e2 : Int := IntKind.i64.wrap ((ByteArray.size x0 : Int) - x1_4)
      if e2 < (IntKind.i64.wrap x2) then
        (F71_letheref02_wrong 20).bind fun y3 =>
        some (y3.1, y3.2.1, y3.2.2.1, y3.2.2.2.1, y3.2.2.2.2.1, y3.2.2.2.2.2.1, y3.2.2.2.2.2.2.1, ())
      else
        let e4 : ByteArray := subS x0 x1_4 (IntKind.i64.wrap (x1_4 + (IntKind.i64.wrap x2)))
        if (0 : Int) ≤ x1_4 ∧ x1_4 ≤ (IntKind.i64.wrap (x1_4 + (IntKind.i64.wrap x2))) ∧ (IntKind.i64.wrap (x1_4 + (IntKind.i64.wrap x2))) ≤ (ByteArray.size x0 : Int) then
          some (x1_0, x1_1, e4, x1_3, (IntKind.i64.wrap (x1_4 + (IntKind.i64.wrap x2))), x1_5, x1_6, ())
        else
          none :=
  (F_eq (G := G) rfl fn33 rfl _).trans ((run_eq _ _ _ _).trans (by kernel_rfl))
theorem F74_letheref02_more_eq (x0 : ByteArray) (x1_0 : Int) (x1_1 : Int) (x1_2 : ByteArray) (x1_4 : Int) (x1_5 : Int) (x1_6 : Int) (x2 : Int) (x3 : Int) (g0 : (List S40)) : F74_letheref02_more x0 x1_0 x1_1 x1_2 x1_4 x1_5 x1_6 x2 x3 g0 =
    F74_letheref02_more_l1000001 x0 x2 x3 g0 x1_0 x1_1 x1_2 x1_4 x1_5 x1_6 0 0 ByteArray.empty 0 0 0 [] :=
  (F_eq (G := G) rfl fn34 rfl _).trans ((run_eq _ _ _ _).trans (by kernel_rfl))
theorem F74_letheref02_more_l1000001_eq (v0 : ByteArray) (v2 : Int) (v3 : Int) (g0 : (List S40)) (h1_0 : Int) (h1_1 : Int) (h1_2 : ByteArray) (h1_4 : Int) (h1_5 : Int) (h1_6 : Int) (h2_0 : Int) (h2_1 : Int) (h2_2 : ByteArray) (h2_4 : Int) (h2_5 : Int) (h2_6 : Int) (g3 : (List S40)) : F74_letheref02_more_l1000001 v0 v2 v3 g0 h1_0 h1_1 h1_2 h1_4 h1_5 h1_6 h2_0 h2_1 h2_2 h2_4 h2_5 h2_6 g3 =
    if (0 : Int) < v2 then
      (F47_letheref02_read v0 h1_4 h1_5 (IntKind.i64.wrap (v3 + (1 : Int)))).bind fun y1 =>
      if ¬ y1.2.2.2.2.2.2.1 = (0 : Int) then
        some (y1.1, y1.2.1, y1.2.2.1, y1.2.2.2.1, y1.2.2.2.2.1, y1.2.2.2.2.2.1, y1.2.2.2.2.2.2.1, ())
      else
        if (List.length g0 + List.length [(S40.mk y1.1 y1.2.1 y1.2.2.1 y1.2.2.2.1)]) * 56 ≤ 140737488355328 then
          F74_letheref02_more_l1000001_1 v0 (IntKind.u64.wrap (v2 - (1 : Int))) v3 h1_0 h1_1 h1_2 y1.2.2.2.2.1 y1.2.2.2.2.2.1 h1_6 h2_0 h2_1 h2_2 h2_4 h2_5 h2_6 (g0 ++ [(S40.mk y1.1 y1.2.1 y1.2.2.1 y1.2.2.2.1)]) g3
        else
          none
    else
      some (h1_0, h1_1, h1_2, g0, h1_4, h1_5, h1_6, ()) :=
  (run_eq _ _ _ _).trans (by kernel_rfl)
theorem F74_letheref02_more_l1000001_1_eq (v0 : ByteArray) (v2 : Int) (v3 : Int) (h1_0 : Int) (h1_1 : Int) (h1_2 : ByteArray) (h1_4 : Int) (h1_5 : Int) (h1_6 : Int) (h2_0 : Int) (h2_1 : Int) (h2_2 : ByteArray) (h2_4 : Int) (h2_5 : Int) (h2_6 : Int) (g3 : (List S40)) (g4 : (List S40)) : F74_letheref02_more_l1000001_1 v0 v2 v3 h1_0 h1_1 h1_2 h1_4 h1_5 h1_6 h2_0 h2_1 h2_2 h2_4 h2_5 h2_6 g3 g4 =
    if (0 : Int) < v2 then
      (F47_letheref02_read v0 h1_4 h1_5 (IntKind.i64.wrap (v3 + (1 : Int)))).bind fun y1 =>
      if ¬ y1.2.2.2.2.2.2.1 = (0 : Int) then
        some (y1.1, y1.2.1, y1.2.2.1, y1.2.2.2.1, y1.2.2.2.2.1, y1.2.2.2.2.2.1, y1.2.2.2.2.2.2.1, ())
      else
        if (List.length g3 + List.length [(S40.mk y1.1 y1.2.1 y1.2.2.1 y1.2.2.2.1)]) * 56 ≤ 140737488355328 then
          F74_letheref02_more_l1000001_1 v0 (IntKind.u64.wrap (v2 - (1 : Int))) v3 h1_0 h1_1 h1_2 y1.2.2.2.2.1 y1.2.2.2.2.2.1 h1_6 h2_0 h2_1 h2_2 h2_4 h2_5 h2_6 (g3 ++ [(S40.mk y1.1 y1.2.1 y1.2.2.1 y1.2.2.2.1)]) g4
        else
          none
    else
      some (h1_0, h1_1, h1_2, g3, h1_4, h1_5, h1_6, ()) :=
  (run_eq _ _ _ _).trans (by kernel_rfl)
end
end Go.Proofs.Ytfljhcmcnmeelaa.ThiefGetsx
