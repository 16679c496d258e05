/- The law TermGathers: what each function answers, in plain equations. Under no condition. -/
import Derived.Test.YteoggpajjljfmaaTTermGathers
set_option linter.unusedVariables false
set_option maxRecDepth 100000
namespace Go.Proofs.Yteoggpajjljfmaa.TermGathersx
open Go Go.RowKit Go.Proofs.Yteoggpajjljfmaa.Rx Go.Proofs.Yteoggpajjljfmaa.TermGathersx
noncomputable section
theorem F7_lethelaw02_TermGathers_eq (x0_0 : Int) (x0_1 : Int) (x0_2 : ByteArray) (x0_3 : (List S43)) (x1_0 : Int) (x1_1 : Int) (x1_2 : ByteArray) (x1_3 : (List S43)) (x2 : Int) : F7_lethelaw02_TermGathers x0_0 x0_1 x0_2 x0_3 x1_0 x1_1 x1_2 x1_3 x2 =
    (F18_letheref02_Right x0_0 x0_1 x0_2 x0_3).bind fun y1 =>
    if ¬ y1.1 = (0 : Int) then
      some (true, ())
    else
      (F18_letheref02_Right x1_0 x1_1 x1_2 x1_3).bind fun y2 =>
      if ¬ y2.1 = (0 : Int) then
        some (true, ())
      else
        (F16_term_Atoms [(S43.mk x0_0 x0_1 x0_2 x0_3)]).bind fun y3 =>
        (F16_term_Atoms [(S43.mk x1_0 x1_1 x1_2 x1_3)]).bind fun y4 =>
        let e5 : (List S43) := [(S43.mk x0_0 x0_1 x0_2 x0_3), (S43.mk x1_0 x1_1 x1_2 x1_3)]
        (F16_term_Atoms e5).bind fun y6 =>
        F7_lethelaw02_TermGathers_l1000007 x2 y3.1 y4.1 y6.1 y6.1 (List.length y6.1 : Int) 0 x0_0 x0_1 x0_2 x0_3 x1_0 x1_1 x1_2 x1_3 :=
  (F_eq (G := G) rfl fn0 rfl _).trans ((run_eq _ _ _ _).trans (by kernel_rfl))
theorem F7_lethelaw02_TermGathers_l1000007_eq (v2 : Int) (v7 : (List ByteArray)) (v8 : (List ByteArray)) (v9 : (List ByteArray)) (v37 : (List ByteArray)) (v38 : Int) (v39 : Int) (h0_0 : Int) (h0_1 : Int) (h0_2 : ByteArray) (h0_3 : (List S43)) (h1_0 : Int) (h1_1 : Int) (h1_2 : ByteArray) (h1_3 : (List S43)) : F7_lethelaw02_TermGathers_l1000007 v2 v7 v8 v9 v37 v38 v39 h0_0 h0_1 h0_2 h0_3 h1_0 h1_1 h1_2 h1_3 =
    if v39 < v38 then
      if (0 : Int) ≤ v39 ∧ v39 < (List.length v37 : Int) then
        if (0 : Int) < v39 then
          if (0 : Int) ≤ (IntKind.i64.wrap (v39 - (1 : Int))) ∧ (IntKind.i64.wrap (v39 - (1 : Int))) < (List.length v9 : Int) then
            if sLt (rd ByteArray.empty v9 (IntKind.i64.wrap (v39 - (1 : Int)))) (rd ByteArray.empty v37 v39) = false then
              some (false, ())
            else
              (F19_letheref02_In v7 (rd ByteArray.empty v37 v39)).bind fun y1 =>
              if (!y1.1) = true then
                (F19_letheref02_In v8 (rd ByteArray.empty v37 v39)).bind fun y2 =>
                if (!y2.1) = true then
                  some (false, ())
                else
                  F7_lethelaw02_TermGathers_l11 v2 v7 v8 v9 v37 v38 v39 v7 (rd ByteArray.empty v37 v39) y1.1 (!y1.1) true (!y2.1) h0_0 h0_1 h0_2 h0_3 h1_0 h1_1 h1_2 h1_3
              else
                F7_lethelaw02_TermGathers_l11 v2 v7 v8 v9 v37 v38 v39 v7 (rd ByteArray.empty v37 v39) y1.1 (!y1.1) false false h0_0 h0_1 h0_2 h0_3 h1_0 h1_1 h1_2 h1_3
          else
            none
        else
          (F19_letheref02_In v7 (rd ByteArray.empty v37 v39)).bind fun y3 =>
          if (!y3.1) = true then
            (F19_letheref02_In v8 (rd ByteArray.empty v37 v39)).bind fun y4 =>
            if (!y4.1) = true then
              some (false, ())
            else
              F7_lethelaw02_TermGathers_l11 v2 v7 v8 v9 v37 v38 v39 v7 (rd ByteArray.empty v37 v39) y3.1 (!y3.1) true (!y4.1) h0_0 h0_1 h0_2 h0_3 h1_0 h1_1 h1_2 h1_3
          else
            F7_lethelaw02_TermGathers_l11 v2 v7 v8 v9 v37 v38 v39 v7 (rd ByteArray.empty v37 v39) y3.1 (!y3.1) false false h0_0 h0_1 h0_2 h0_3 h1_0 h1_1 h1_2 h1_3
      else
        none
    else
      F7_lethelaw02_TermGathers_l1000013 v2 v7 v8 v9 v7 (List.length v7 : Int) 0 h0_0 h0_1 h0_2 h0_3 h1_0 h1_1 h1_2 h1_3 :=
  (run_eq _ _ _ _).trans (by kernel_rfl)
theorem F7_lethelaw02_TermGathers_l11_eq (v2 : Int) (v7 : (List ByteArray)) (v8 : (List ByteArray)) (v9 : (List ByteArray)) (v37 : (List ByteArray)) (v38 : Int) (v39 : Int) (v56 : (List ByteArray)) (v57 : ByteArray) (v58 : Bool) (v59 : Bool) (v60 : Bool) (v65 : Bool) (h0_0 : Int) (h0_1 : Int) (h0_2 : ByteArray) (h0_3 : (List S43)) (h1_0 : Int) (h1_1 : Int) (h1_2 : ByteArray) (h1_3 : (List S43)) : F7_lethelaw02_TermGathers_l11 v2 v7 v8 v9 v37 v38 v39 v56 v57 v58 v59 v60 v65 h0_0 h0_1 h0_2 h0_3 h1_0 h1_1 h1_2 h1_3 =
    F7_lethelaw02_TermGathers_l1000007 v2 v7 v8 v9 v37 v38 (IntKind.i64.wrap (v39 + (1 : Int))) h0_0 h0_1 h0_2 h0_3 h1_0 h1_1 h1_2 h1_3 :=
  (run_eq _ _ _ _).trans (by kernel_rfl)
theorem F7_lethelaw02_TermGathers_l1000013_eq (v2 : Int) (v7 : (List ByteArray)) (v8 : (List ByteArray)) (v9 : (List ByteArray)) (v68 : (List ByteArray)) (v69 : Int) (v70 : Int) (h0_0 : Int) (h0_1 : Int) (h0_2 : ByteArray) (h0_3 : (List S43)) (h1_0 : Int) (h1_1 : Int) (h1_2 : ByteArray) (h1_3 : (List S43)) : F7_lethelaw02_TermGathers_l1000013 v2 v7 v8 v9 v68 v69 v70 h0_0 h0_1 h0_2 h0_3 h1_0 h1_1 h1_2 h1_3 =
    if v70 < v69 then
      if (0 : Int) ≤ v70 ∧ v70 < (List.length v68 : Int) then
        (F19_letheref02_In v9 (rd ByteArray.empty v68 v70)).bind fun y1 =>
        if (!y1.1) = true then
          some (false, ())
        else
          F7_lethelaw02_TermGathers_l1000013 v2 v7 v8 v9 v68 v69 (IntKind.i64.wrap (v70 + (1 : Int))) h0_0 h0_1 h0_2 h0_3 h1_0 h1_1 h1_2 h1_3
      else
        none
    else
      F7_lethelaw02_TermGathers_l1000019 v2 v7 v9 v8 (List.length v8 : Int) 0 h0_0 h0_1 h0_2 h0_3 h1_0 h1_1 h1_2 h1_3 :=
  (run_eq _ _ _ _).trans (by kernel_rfl)
theorem F7_lethelaw02_TermGathers_l1000019_eq (v2 : Int) (v7 : (List ByteArray)) (v9 : (List ByteArray)) (v79 : (List ByteArray)) (v80 : Int) (v81 : Int) (h0_0 : Int) (h0_1 : Int) (h0_2 : ByteArray) (h0_3 : (List S43)) (h1_0 : Int) (h1_1 : Int) (h1_2 : ByteArray) (h1_3 : (List S43)) : F7_lethelaw02_TermGathers_l1000019 v2 v7 v9 v79 v80 v81 h0_0 h0_1 h0_2 h0_3 h1_0 h1_1 h1_2 h1_3 =
    if v81 < v80 then
      if (0 : Int) ≤ v81 ∧ v81 < (List.length v79 : Int) then
        (F19_letheref02_In v9 (rd ByteArray.empty v79 v81)).bind fun y1 =>
        if (!y1.1) = true then
          some (false, ())
        else
          F7_lethelaw02_TermGathers_l1000019 v2 v7 v9 v79 v80 (IntKind.i64.wrap (v81 + (1 : Int))) h0_0 h0_1 h0_2 h0_3 h1_0 h1_1 h1_2 h1_3
      else
        none
    else
      (F20_letheref02_Copy h0_0 h0_1 h0_2 h0_3).bind fun y2 =>
      (F18_letheref02_Right 4 v2 ByteArray.empty [(S43.mk y2.1 y2.2.1 y2.2.2.1 y2.2.2.2.1)]).bind fun y3 =>
      if y3.1 = (0 : Int) then
        let e4 : (List S43) := [(S43.mk 4 v2 ByteArray.empty [(S43.mk y2.1 y2.2.1 y2.2.2.1 y2.2.2.2.1)])]
        (F16_term_Atoms e4).bind fun y5 =>
        (F13_letheref02_SameTexts y5.1 v7).bind fun y6 =>
        if (!y6.1) = true then
          some (false, ())
        else
          let e7 : (List S43) := [(S43.mk h0_0 h0_1 h0_2 h0_3), (S43.mk h1_0 h1_1 h1_2 h1_3)]
          (F21_term_Of e7).bind fun y8 =>
          (F22_term_Atom (ByteArray.mk #[111, 119, 110])).bind fun y9 =>
          (F16_term_Atoms [(S43.mk y9.1 y9.2.1 y9.2.2.1 y9.2.2.2.1)]).bind fun y10 =>
          (F18_letheref02_Right y8.1 y8.2.1 y8.2.2.1 y8.2.2.2.1).bind fun y11 =>
          if ¬ y11.1 = (0 : Int) then
            if (List.length y10.1 : Int) = (1 : Int) then
              if (0 : Int) ≤ 0 ∧ 0 < (List.length y10.1 : Int) then
                some ((decide ((rd ByteArray.empty y10.1 0) = (ByteArray.mk #[111, 119, 110]))), ())
              else
                none
            else
              some (false, ())
          else
            (F16_term_Atoms [(S43.mk y8.1 y8.2.1 y8.2.2.1 y8.2.2.2.1)]).bind fun y12 =>
            (F13_letheref02_SameTexts y12.1 v9).bind fun y13 =>
            if y13.1 = true then
              if (List.length y10.1 : Int) = (1 : Int) then
                if (0 : Int) ≤ 0 ∧ 0 < (List.length y10.1 : Int) then
                  some ((decide ((rd ByteArray.empty y10.1 0) = (ByteArray.mk #[111, 119, 110]))), ())
                else
                  none
              else
                some (false, ())
            else
              some (false, ())
      else
        let e14 : (List S43) := [(S43.mk h0_0 h0_1 h0_2 h0_3), (S43.mk h1_0 h1_1 h1_2 h1_3)]
        (F21_term_Of e14).bind fun y15 =>
        (F22_term_Atom (ByteArray.mk #[111, 119, 110])).bind fun y16 =>
        (F16_term_Atoms [(S43.mk y16.1 y16.2.1 y16.2.2.1 y16.2.2.2.1)]).bind fun y17 =>
        (F18_letheref02_Right y15.1 y15.2.1 y15.2.2.1 y15.2.2.2.1).bind fun y18 =>
        if ¬ y18.1 = (0 : Int) then
          if (List.length y17.1 : Int) = (1 : Int) then
            if (0 : Int) ≤ 0 ∧ 0 < (List.length y17.1 : Int) then
              some ((decide ((rd ByteArray.empty y17.1 0) = (ByteArray.mk #[111, 119, 110]))), ())
            else
              none
          else
            some (false, ())
        else
          (F16_term_Atoms [(S43.mk y15.1 y15.2.1 y15.2.2.1 y15.2.2.2.1)]).bind fun y19 =>
          (F13_letheref02_SameTexts y19.1 v9).bind fun y20 =>
          if y20.1 = true then
            if (List.length y17.1 : Int) = (1 : Int) then
              if (0 : Int) ≤ 0 ∧ 0 < (List.length y17.1 : Int) then
                some ((decide ((rd ByteArray.empty y17.1 0) = (ByteArray.mk #[111, 119, 110]))), ())
              else
                none
            else
              some (false, ())
          else
            some (false, ()) :=
  (run_eq _ _ _ _).trans (by kernel_rfl)
theorem F18_letheref02_Right_eq (x0_0 : Int) (x0_1 : Int) (x0_2 : ByteArray) (x0_3 : (List S43)) : F18_letheref02_Right x0_0 x0_1 x0_2 x0_3 =
    (F32_letheref02_Parts x0_0 x0_1 x0_2 x0_3 4001).bind fun y1 =>
    if (4000 : Int) < y1.1 then
      some (23, ())
    else
      (F33_letheref02_Deep x0_0 x0_1 x0_2 x0_3 13).bind fun y2 =>
      if (12 : Int) < y2.1 then
        some (22, ())
      else
        (F34_letheref02_shaped x0_0 x0_1 x0_2 x0_3).bind fun y3 =>
        if (!y3.1) = true then
          some (25, ())
        else
          some (0, ()) :=
  (F_eq (G := G) rfl fn1 rfl _).trans ((run_eq _ _ _ _).trans (by kernel_rfl))
theorem F16_term_Atoms_eq (x0 : (List S43)) : F16_term_Atoms x0 =
    F16_term_Atoms_l1000003 x0 (List.length x0 : Int) 0 [] :=
  (F_eq (G := G) rfl fn2 rfl _).trans ((run_eq _ _ _ _).trans (by kernel_rfl))
theorem F16_term_Atoms_l1000003_eq (v6 : (List S43)) (v7 : Int) (v8 : Int) (g0 : (List ByteArray)) : F16_term_Atoms_l1000003 v6 v7 v8 g0 =
    if v8 < v7 then
      if (0 : Int) ≤ v8 ∧ v8 < (List.length v6 : Int) then
        (F29_term_Right (S43.f0 (rd S43.z v6 v8)) (S43.f1 (rd S43.z v6 v8)) (S43.f2 (rd S43.z v6 v8)) (S43.f3 (rd S43.z v6 v8))).bind fun y1 =>
        if y1.1 = (0 : Int) then
          (F30_term_gather (S43.f0 (rd S43.z v6 v8)) (S43.f1 (rd S43.z v6 v8)) (S43.f2 (rd S43.z v6 v8)) (S43.f3 (rd S43.z v6 v8)) g0).bind fun y2 =>
          if y2.1 = true then
            F16_term_Atoms_l1000003 v6 v7 (IntKind.i64.wrap (v8 + (1 : Int))) y2.2.1
          else
            F16_term_Atoms_l1000003 v6 v7 (IntKind.i64.wrap (v8 + (1 : Int))) y2.2.2.1
        else
          F16_term_Atoms_l1000003 v6 v7 (IntKind.i64.wrap (v8 + (1 : Int))) g0
      else
        none
    else
      (F25_slices_Sort g0).bind fun y3 =>
      (F27_slices_Compact y3.1).bind fun y4 =>
      (F26_slices_Clip y4.1).bind fun y5 =>
      some (y5.1, ()) :=
  (run_eq _ _ _ _).trans (by kernel_rfl)
theorem F19_letheref02_In_eq (x0 : (List ByteArray)) (x1 : ByteArray) : F19_letheref02_In x0 x1 =
    F19_letheref02_In_l1000002 x1 x0 (List.length x0 : Int) 0 :=
  (F_eq (G := G) rfl fn3 rfl _).trans ((run_eq _ _ _ _).trans (by kernel_rfl))
theorem F19_letheref02_In_l1000002_eq (v1 : ByteArray) (v7 : (List ByteArray)) (v8 : Int) (v9 : Int) : F19_letheref02_In_l1000002 v1 v7 v8 v9 =
    if v9 < v8 then
      if (0 : Int) ≤ v9 ∧ v9 < (List.length v7 : Int) then
        if (rd ByteArray.empty v7 v9) = v1 then
          some (true, ())
        else
          F19_letheref02_In_l1000002 v1 v7 v8 (IntKind.i64.wrap (v9 + (1 : Int)))
      else
        none
    else
      some (false, ()) :=
  (run_eq _ _ _ _).trans (by kernel_rfl)
theorem F20_letheref02_Copy_eq (x0_0 : Int) (x0_1 : Int) (x0_2 : ByteArray) (x0_3 : (List S43)) : F20_letheref02_Copy x0_0 x0_1 x0_2 x0_3 =
    F20_letheref02_Copy_l1000003 x0_3 (List.length x0_3 : Int) 0 0 0 ByteArray.empty x0_0 x0_1 x0_2 [] [] :=
  (F_eq (G := G) rfl fn4 rfl _).trans ((run_eq _ _ _ _).trans (by kernel_rfl))
theorem F20_letheref02_Copy_l1000003_eq (v15 : (List S43)) (v16 : Int) (v17 : Int) (h0_0 : Int) (h0_1 : Int) (h0_2 : ByteArray) (h1_0 : Int) (h1_1 : Int) (h1_2 : ByteArray) (g2 : (List S43)) (g3 : (List S43)) : F20_letheref02_Copy_l1000003 v15 v16 v17 h0_0 h0_1 h0_2 h1_0 h1_1 h1_2 g2 g3 =
    if v17 < v16 then
      if (0 : Int) ≤ v17 ∧ v17 < (List.length v15 : Int) then
        (F20_letheref02_Copy (S43.f0 (rd S43.z v15 v17)) (S43.f1 (rd S43.z v15 v17)) (S43.f2 (rd S43.z v15 v17)) (S43.f3 (rd S43.z v15 v17))).bind fun y1 =>
        if (List.length g3 + List.length [(S43.mk y1.1 y1.2.1 y1.2.2.1 y1.2.2.2.1)]) * 56 ≤ 140737488355328 then
          F20_letheref02_Copy_l1000003 v15 v16 (IntKind.i64.wrap (v17 + (1 : Int))) h0_0 h0_1 h0_2 h1_0 h1_1 h1_2 g2 (g3 ++ [(S43.mk y1.1 y1.2.1 y1.2.2.1 y1.2.2.2.1)])
        else
          none
      else
        none
    else
      some (h1_0, h1_1, h1_2, g3, ()) :=
  (run_eq _ _ _ _).trans (by kernel_rfl)
theorem F13_letheref02_SameTexts_eq (x0 : (List ByteArray)) (x1 : (List ByteArray)) : F13_letheref02_SameTexts x0 x1 =
    if ¬ (List.length x0 : Int) = (List.length x1 : Int) then
      some (false, ())
    else
      F13_letheref02_SameTexts_l1000004 x0 x1 (List.length x0 : Int) 0 :=
  (F_eq (G := G) rfl fn5 rfl _).trans ((run_eq _ _ _ _).trans (by kernel_rfl))
theorem F13_letheref02_SameTexts_l1000004_eq (v0 : (List ByteArray)) (v1 : (List ByteArray)) (v12 : Int) (v13 : Int) : F13_letheref02_SameTexts_l1000004 v0 v1 v12 v13 =
    if v13 < v12 then
      if (0 : Int) ≤ v13 ∧ v13 < (List.length v0 : Int) then
        if (0 : Int) ≤ v13 ∧ v13 < (List.length v1 : Int) then
          if ¬ (rd ByteArray.empty v0 v13) = (rd ByteArray.empty v1 v13) then
            some (false, ())
          else
            F13_letheref02_SameTexts_l1000004 v0 v1 v12 (IntKind.i64.wrap (v13 + (1 : Int)))
        else
          none
      else
        none
    else
      some (true, ()) :=
  (run_eq _ _ _ _).trans (by kernel_rfl)
theorem F21_term_Of_eq (x0 : (List S43)) : F21_term_Of x0 =
    (F35_term_clone 5 0 ByteArray.empty x0).bind fun y1 =>
    some (y1.1, y1.2.1, y1.2.2.1, y1.2.2.2.1, ()) :=
  (F_eq (G := G) rfl fn6 rfl _).trans ((run_eq _ _ _ _).trans (by kernel_rfl))
theorem F22_term_Atom_eq (x0 : ByteArray) : F22_term_Atom x0 =
    some (2, 0, x0, [], ()) :=
  (F_eq (G := G) rfl fn7 rfl _).trans ((run_eq _ _ _ _).trans (by kernel_rfl))
theorem F35_term_clone_eq (x0_0 : Int) (x0_1 : Int) (x0_2 : ByteArray) (x0_3 : (List S43)) : F35_term_clone x0_0 x0_1 x0_2 x0_3 =
    F35_term_clone_l1000003 x0_3 (List.length x0_3 : Int) 0 x0_0 x0_1 x0_2 x0_3 0 0 ByteArray.empty [] [] :=
  (F_eq (G := G) rfl fn8 rfl _).trans ((run_eq _ _ _ _).trans (by kernel_rfl))
theorem F35_term_clone_l1000003_eq (v7 : (List S43)) (v8 : Int) (v9 : Int) (h0_0 : Int) (h0_1 : Int) (h0_2 : ByteArray) (h0_3 : (List S43)) (h1_0 : Int) (h1_1 : Int) (h1_2 : ByteArray) (g2 : (List S43)) (g3 : (List S43)) : F35_term_clone_l1000003 v7 v8 v9 h0_0 h0_1 h0_2 h0_3 h1_0 h1_1 h1_2 g2 g3 =
    if v9 < v8 then
      if (0 : Int) ≤ v9 ∧ v9 < (List.length v7 : Int) then
        (F35_term_clone (S43.f0 (rd S43.z v7 v9)) (S43.f1 (rd S43.z v7 v9)) (S43.f2 (rd S43.z v7 v9)) (S43.f3 (rd S43.z v7 v9))).bind fun y1 =>
        if (List.length g2 + List.length [(S43.mk y1.1 y1.2.1 y1.2.2.1 y1.2.2.2.1)]) * 56 ≤ 140737488355328 then
          F35_term_clone_l1000003 v7 v8 (IntKind.i64.wrap (v9 + (1 : Int))) h0_0 h0_1 h0_2 h0_3 h1_0 h1_1 h1_2 (g2 ++ [(S43.mk y1.1 y1.2.1 y1.2.2.1 y1.2.2.2.1)]) g3
        else
          none
      else
        none
    else
      some (h0_0, h0_1, h0_2, g2, ()) :=
  (run_eq _ _ _ _).trans (by kernel_rfl)
theorem F29_term_Right_eq (x0_0 : Int) (x0_1 : Int) (x0_2 : ByteArray) (x0_3 : (List S43)) : F29_term_Right x0_0 x0_1 x0_2 x0_3 =
    (F39_term_parts x0_0 x0_1 x0_2 x0_3 4001).bind fun y1 =>
    if (4000 : Int) < y1.1 then
      some (23, ())
    else
      (F40_term_deep x0_0 x0_1 x0_2 x0_3 13).bind fun y2 =>
      if (12 : Int) < y2.1 then
        some (22, ())
      else
        (F41_term_shaped x0_0 x0_1 x0_2 x0_3).bind fun y3 =>
        if (!y3.1) = true then
          some (25, ())
        else
          some (0, ()) :=
  (F_eq (G := G) rfl fn9 rfl _).trans ((run_eq _ _ _ _).trans (by kernel_rfl))
theorem F30_term_gather_eq (x1_0 : Int) (x1_1 : Int) (x1_2 : ByteArray) (x1_3 : (List S43)) (g0 : (List ByteArray)) : F30_term_gather x1_0 x1_1 x1_2 x1_3 g0 =
    if x1_0 = (2 : Int) then
      if (List.length g0 + List.length [x1_2]) * 16 ≤ 140737488355328 then
        some (true, (g0 ++ [x1_2]), [], ())
      else
        none
    else
      F30_term_gather_l1000004 x1_3 (List.length x1_3 : Int) 0 g0 :=
  (F_eq (G := G) rfl fn10 rfl _).trans ((run_eq _ _ _ _).trans (by kernel_rfl))
theorem F30_term_gather_l1000004_eq (v16 : (List S43)) (v17 : Int) (v18 : Int) (g0 : (List ByteArray)) : F30_term_gather_l1000004 v16 v17 v18 g0 =
    if v18 < v17 then
      if (0 : Int) ≤ v18 ∧ v18 < (List.length v16 : Int) then
        (F30_term_gather (S43.f0 (rd S43.z v16 v18)) (S43.f1 (rd S43.z v16 v18)) (S43.f2 (rd S43.z v16 v18)) (S43.f3 (rd S43.z v16 v18)) g0).bind fun y1 =>
        if y1.1 = true then
          F30_term_gather_l1000004_1 v16 v17 (IntKind.i64.wrap (v18 + (1 : Int))) y1.2.1
        else
          F30_term_gather_l1000004 v16 v17 (IntKind.i64.wrap (v18 + (1 : Int))) y1.2.2.1
      else
        none
    else
      some (false, [], g0, ()) :=
  (run_eq _ _ _ _).trans (by kernel_rfl)
theorem F30_term_gather_l1000004_1_eq (v16 : (List S43)) (v17 : Int) (v18 : Int) (g1 : (List ByteArray)) : F30_term_gather_l1000004_1 v16 v17 v18 g1 =
    if v18 < v17 then
      if (0 : Int) ≤ v18 ∧ v18 < (List.length v16 : Int) then
        (F30_term_gather (S43.f0 (rd S43.z v16 v18)) (S43.f1 (rd S43.z v16 v18)) (S43.f2 (rd S43.z v16 v18)) (S43.f3 (rd S43.z v16 v18)) g1).bind fun y1 =>
        if y1.1 = true then
          F30_term_gather_l1000004_1 v16 v17 (IntKind.i64.wrap (v18 + (1 : Int))) y1.2.1
        else
          F30_term_gather_l1000004_1 v16 v17 (IntKind.i64.wrap (v18 + (1 : Int))) y1.2.2.1
      else
        none
    else
      some (true, g1, [], ()) :=
  (run_eq _ _ _ _).trans (by kernel_rfl)
theorem F25_slices_Sort_eq (g0 : (List ByteArray)) : F25_slices_Sort g0 =
    if List.length g0 < 4611686018427387904 then
      some ((sortS g0), ())
    else
      none :=
  (F_giv (G := G) rfl _).trans (by kernel_rfl)
theorem F27_slices_Compact_eq (g0 : (List ByteArray)) : F27_slices_Compact g0 =
    some ((compS g0), ()) :=
  (F_giv (G := G) rfl _).trans (by kernel_rfl)
theorem F26_slices_Clip_eq (x0 : (List ByteArray)) : F26_slices_Clip x0 =
    if (0 : Int) ≤ 0 ∧ (0 : Int) ≤ (List.length x0 : Int) ∧ (List.length x0 : Int) ≤ (List.length x0 : Int) ∧ (List.length x0 : Int) ≤ (List.length x0 : Int) then
      some ((subL x0 0 (List.length x0 : Int)), ())
    else
      none :=
  (F_eq (G := G) rfl fn13 rfl _).trans ((run_eq _ _ _ _).trans (by kernel_rfl))
theorem F39_term_parts_eq (x0_0 : Int) (x0_1 : Int) (x0_2 : ByteArray) (x0_3 : (List S43)) (x1 : Int) : F39_term_parts x0_0 x0_1 x0_2 x0_3 x1 =
    F39_term_parts_l1000003 x1 1 x0_3 (List.length x0_3 : Int) 0 :=
  (F_eq (G := G) rfl fn14 rfl _).trans ((run_eq _ _ _ _).trans (by kernel_rfl))
theorem F39_term_parts_l1000003_eq (v1 : Int) (v5 : Int) (v9 : (List S43)) (v10 : Int) (v11 : Int) : F39_term_parts_l1000003 v1 v5 v9 v10 v11 =
    if v11 < v10 then
      if (0 : Int) ≤ v11 ∧ v11 < (List.length v9 : Int) then
        if v1 ≤ v5 then
          some (v5, ())
        else
          (F39_term_parts (S43.f0 (rd S43.z v9 v11)) (S43.f1 (rd S43.z v9 v11)) (S43.f2 (rd S43.z v9 v11)) (S43.f3 (rd S43.z v9 v11)) (IntKind.i64.wrap (v1 - v5))).bind fun y1 =>
          F39_term_parts_l1000003 v1 (IntKind.i64.wrap (v5 + y1.1)) v9 v10 (IntKind.i64.wrap (v11 + (1 : Int)))
      else
        none
    else
      some (v5, ()) :=
  (run_eq _ _ _ _).trans (by kernel_rfl)
theorem F40_term_deep_eq (x0_0 : Int) (x0_1 : Int) (x0_2 : ByteArray) (x0_3 : (List S43)) (x1 : Int) : F40_term_deep x0_0 x0_1 x0_2 x0_3 x1 =
    if (1 : Int) < x1 then
      F40_term_deep_l1000004 x1 0 x0_3 (List.length x0_3 : Int) 0
    else
      some ((IntKind.i64.wrap ((0 : Int) + (1 : Int))), ()) :=
  (F_eq (G := G) rfl fn15 rfl _).trans ((run_eq _ _ _ _).trans (by kernel_rfl))
theorem F40_term_deep_l1000004_eq (v1 : Int) (v5 : Int) (v11 : (List S43)) (v12 : Int) (v13 : Int) : F40_term_deep_l1000004 v1 v5 v11 v12 v13 =
    if v13 < v12 then
      if (0 : Int) ≤ v13 ∧ v13 < (List.length v11 : Int) then
        (F40_term_deep (S43.f0 (rd S43.z v11 v13)) (S43.f1 (rd S43.z v11 v13)) (S43.f2 (rd S43.z v11 v13)) (S43.f3 (rd S43.z v11 v13)) (IntKind.i64.wrap (v1 - (1 : Int)))).bind fun y1 =>
        F40_term_deep_l1000004 v1 (mx v5 y1.1) v11 v12 (IntKind.i64.wrap (v13 + (1 : Int)))
      else
        none
    else
      some ((IntKind.i64.wrap (v5 + (1 : Int))), ()) :=
  (run_eq _ _ _ _).trans (by kernel_rfl)
theorem F41_term_shaped_eq (x0_0 : Int) (x0_1 : Int) (x0_2 : ByteArray) (x0_3 : (List S43)) : F41_term_shaped x0_0 x0_1 x0_2 x0_3 =
    if x0_0 = (1 : Int) then
      if x0_0 = (1 : Int) then
        if x0_2 = ByteArray.empty then
          F41_term_shaped_l12 (decide ((List.length x0_3 : Int) = (0 : Int))) x0_0 x0_1 x0_2 x0_3
        else
          F41_term_shaped_l12 false x0_0 x0_1 x0_2 x0_3
      else
        if x0_0 = (2 : Int) then
          if x0_1 = (0 : Int) then
            if (ByteArray.size x0_2 : Int) ≤ (4000 : Int) then
              F41_term_shaped_l12 (decide ((List.length x0_3 : Int) = (0 : Int))) x0_0 x0_1 x0_2 x0_3
            else
              F41_term_shaped_l12 false x0_0 x0_1 x0_2 x0_3
          else
            F41_term_shaped_l12 false x0_0 x0_1 x0_2 x0_3
        else
          if x0_0 = (4 : Int) then
            if x0_2 = ByteArray.empty then
              F41_term_shaped_l12 (decide ((List.length x0_3 : Int) = (1 : Int))) x0_0 x0_1 x0_2 x0_3
            else
              F41_term_shaped_l12 false x0_0 x0_1 x0_2 x0_3
          else
            if x0_0 = (5 : Int) then
              if x0_1 = (0 : Int) then
                F41_term_shaped_l12 (decide (x0_2 = ByteArray.empty)) x0_0 x0_1 x0_2 x0_3
              else
                F41_term_shaped_l12 false x0_0 x0_1 x0_2 x0_3
            else
              F41_term_shaped_l12 false x0_0 x0_1 x0_2 x0_3
    else
      if x0_0 = (3 : Int) then
        if x0_2 = ByteArray.empty then
          F41_term_shaped_l12 (decide ((List.length x0_3 : Int) = (0 : Int))) x0_0 x0_1 x0_2 x0_3
        else
          F41_term_shaped_l12 false x0_0 x0_1 x0_2 x0_3
      else
        if x0_0 = (2 : Int) then
          if x0_1 = (0 : Int) then
            if (ByteArray.size x0_2 : Int) ≤ (4000 : Int) then
              F41_term_shaped_l12 (decide ((List.length x0_3 : Int) = (0 : Int))) x0_0 x0_1 x0_2 x0_3
            else
              F41_term_shaped_l12 false x0_0 x0_1 x0_2 x0_3
          else
            F41_term_shaped_l12 false x0_0 x0_1 x0_2 x0_3
        else
          if x0_0 = (4 : Int) then
            if x0_2 = ByteArray.empty then
              F41_term_shaped_l12 (decide ((List.length x0_3 : Int) = (1 : Int))) x0_0 x0_1 x0_2 x0_3
            else
              F41_term_shaped_l12 false x0_0 x0_1 x0_2 x0_3
          else
            if x0_0 = (5 : Int) then
              if x0_1 = (0 : Int) then
                F41_term_shaped_l12 (decide (x0_2 = ByteArray.empty)) x0_0 x0_1 x0_2 x0_3
              else
                F41_term_shaped_l12 false x0_0 x0_1 x0_2 x0_3
            else
              F41_term_shaped_l12 false x0_0 x0_1 x0_2 x0_3 :=
  (F_eq (G := G) rfl fn16 rfl _).trans ((run_eq _ _ _ _).trans (by kernel_rfl))
theorem F41_term_shaped_l12_eq (v3 : Bool) (h0_0 : Int) (h0_1 : Int) (h0_2 : ByteArray) (h0_3 : (List S43)) : F41_term_shaped_l12 v3 h0_0 h0_1 h0_2 h0_3 =
    if v3 = true then
      (F63_slices_ContainsFunc_64 h0_3).bind fun y1 =>
      some ((!y1.1), ())
    else
      some (false, ()) :=
  (run_eq _ _ _ _).trans (by kernel_rfl)
theorem F63_slices_ContainsFunc_64_eq (x0 : (List S43)) : F63_slices_ContainsFunc_64 x0 =
    (F75_slices_IndexFunc_64 x0).bind fun y1 =>
    some ((decide ((0 : Int) ≤ y1.1)), ()) :=
  (F_eq (G := G) rfl fn17 rfl _).trans ((run_eq _ _ _ _).trans (by kernel_rfl))
theorem F75_slices_IndexFunc_64_eq (x0 : (List S43)) : F75_slices_IndexFunc_64 x0 =
    F75_slices_IndexFunc_64_l1000002 x0 (List.length x0 : Int) 0 :=
  (F_eq (G := G) rfl fn18 rfl _).trans ((run_eq _ _ _ _).trans (by kernel_rfl))
theorem F75_slices_IndexFunc_64_l1000002_eq (v0 : (List S43)) (v7 : Int) (v8 : Int) : F75_slices_IndexFunc_64_l1000002 v0 v7 v8 =
    if v8 < v7 then
      if (0 : Int) ≤ v8 ∧ v8 < (List.length v0 : Int) then
        (F64_term_shaped_1 (S43.f0 (rd S43.z v0 v8)) (S43.f1 (rd S43.z v0 v8)) (S43.f2 (rd S43.z v0 v8)) (S43.f3 (rd S43.z v0 v8))).bind fun y1 =>
        if y1.1 = true then
          some (v8, ())
        else
          F75_slices_IndexFunc_64_l1000002 v0 v7 (IntKind.i64.wrap (v8 + (1 : Int)))
      else
        none
    else
      some ((-1), ()) :=
  (run_eq _ _ _ _).trans (by kernel_rfl)
theorem F64_term_shaped_1_eq (x0_0 : Int) (x0_1 : Int) (x0_2 : ByteArray) (x0_3 : (List S43)) : F64_term_shaped_1 x0_0 x0_1 x0_2 x0_3 =
    (F41_term_shaped x0_0 x0_1 x0_2 x0_3).bind fun y1 =>
    some ((!y1.1), ()) :=
  (F_eq (G := G) rfl fn19 rfl _).trans ((run_eq _ _ _ _).trans (by kernel_rfl))
theorem F32_letheref02_Parts_eq (x0_0 : Int) (x0_1 : Int) (x0_2 : ByteArray) (x0_3 : (List S43)) (x1 : Int) : F32_letheref02_Parts x0_0 x0_1 x0_2 x0_3 x1 =
    F32_letheref02_Parts_l1000003 x1 1 x0_3 (List.length x0_3 : Int) 0 :=
  (F_eq (G := G) rfl fn20 rfl _).trans ((run_eq _ _ _ _).trans (by kernel_rfl))
theorem F32_letheref02_Parts_l1000003_eq (v1 : Int) (v5 : Int) (v9 : (List S43)) (v10 : Int) (v11 : Int) : F32_letheref02_Parts_l1000003 v1 v5 v9 v10 v11 =
    if v11 < v10 then
      if (0 : Int) ≤ v11 ∧ v11 < (List.length v9 : Int) then
        if v1 ≤ v5 then
          some (v1, ())
        else
          (F32_letheref02_Parts (S43.f0 (rd S43.z v9 v11)) (S43.f1 (rd S43.z v9 v11)) (S43.f2 (rd S43.z v9 v11)) (S43.f3 (rd S43.z v9 v11)) (IntKind.i64.wrap (v1 - v5))).bind fun y1 =>
          F32_letheref02_Parts_l1000003 v1 (IntKind.i64.wrap (v5 + y1.1)) v9 v10 (IntKind.i64.wrap (v11 + (1 : Int)))
      else
        none
    else
      if v1 < v5 then
        some (v1, ())
      else
        some (v5, ()) :=
  (run_eq _ _ _ _).trans (by kernel_rfl)
theorem F33_letheref02_Deep_eq (x0_0 : Int) (x0_1 : Int) (x0_2 : ByteArray) (x0_3 : (List S43)) (x1 : Int) : F33_letheref02_Deep x0_0 x0_1 x0_2 x0_3 x1 =
    if x1 ≤ (1 : Int) then
      some (x1, ())
    else
      F33_letheref02_Deep_l1000005 x1 0 x0_3 (List.length x0_3 : Int) 0 :=
  (F_eq (G := G) rfl fn21 rfl _).trans ((run_eq _ _ _ _).trans (by kernel_rfl))
theorem F33_letheref02_Deep_l1000005_eq (v1 : Int) (v5 : Int) (v13 : (List S43)) (v14 : Int) (v15 : Int) : F33_letheref02_Deep_l1000005 v1 v5 v13 v14 v15 =
    if v15 < v14 then
      if (0 : Int) ≤ v15 ∧ v15 < (List.length v13 : Int) then
        (F33_letheref02_Deep (S43.f0 (rd S43.z v13 v15)) (S43.f1 (rd S43.z v13 v15)) (S43.f2 (rd S43.z v13 v15)) (S43.f3 (rd S43.z v13 v15)) (IntKind.i64.wrap (v1 - (1 : Int)))).bind fun y1 =>
        if v5 < y1.1 then
          if (IntKind.i64.wrap (v1 - (1 : Int))) ≤ y1.1 then
            some (v1, ())
          else
            F33_letheref02_Deep_l1000005 v1 y1.1 v13 v14 (IntKind.i64.wrap (v15 + (1 : Int)))
        else
          if (IntKind.i64.wrap (v1 - (1 : Int))) ≤ v5 then
            some (v1, ())
          else
            F33_letheref02_Deep_l1000005 v1 v5 v13 v14 (IntKind.i64.wrap (v15 + (1 : Int)))
      else
        none
    else
      some ((IntKind.i64.wrap (v5 + (1 : Int))), ()) :=
  (run_eq _ _ _ _).trans (by kernel_rfl)
theorem F34_letheref02_shaped_eq (x0_0 : Int) (x0_1 : Int) (x0_2 : ByteArray) (x0_3 : (List S43)) : F34_letheref02_shaped x0_0 x0_1 x0_2 x0_3 =
    (F42_letheref02_One x0_0 x0_1 x0_2 x0_3).bind fun y1 =>
    if (!y1.1) = true then
      some (false, ())
    else
      F34_letheref02_shaped_l1000004 x0_3 (List.length x0_3 : Int) 0 :=
  (F_eq (G := G) rfl fn22 rfl _).trans ((run_eq _ _ _ _).trans (by kernel_rfl))
theorem F34_letheref02_shaped_l1000004_eq (v9 : (List S43)) (v10 : Int) (v11 : Int) : F34_letheref02_shaped_l1000004 v9 v10 v11 =
    if v11 < v10 then
      if (0 : Int) ≤ v11 ∧ v11 < (List.length v9 : Int) then
        (F34_letheref02_shaped (S43.f0 (rd S43.z v9 v11)) (S43.f1 (rd S43.z v9 v11)) (S43.f2 (rd S43.z v9 v11)) (S43.f3 (rd S43.z v9 v11))).bind fun y1 =>
        if (!y1.1) = true then
          some (false, ())
        else
          F34_letheref02_shaped_l1000004 v9 v10 (IntKind.i64.wrap (v11 + (1 : Int)))
      else
        none
    else
      some (true, ()) :=
  (run_eq _ _ _ _).trans (by kernel_rfl)
theorem F42_letheref02_One_eq (x0_0 : Int) (x0_1 : Int) (x0_2 : ByteArray) (x0_3 : (List S43)) : F42_letheref02_One x0_0 x0_1 x0_2 x0_3 =
    if x0_0 = (1 : Int) then
      if x0_0 = (1 : Int) then
        if x0_2 = ByteArray.empty then
          some ((decide ((List.length x0_3 : Int) = (0 : Int))), ())
        else
          some (false, ())
      else
        if x0_0 = (2 : Int) then
          if x0_1 = (0 : Int) then
            if (ByteArray.size x0_2 : Int) ≤ (4000 : Int) then
              some ((decide ((List.length x0_3 : Int) = (0 : Int))), ())
            else
              some (false, ())
          else
            some (false, ())
        else
          if x0_0 = (4 : Int) then
            if x0_2 = ByteArray.empty then
              some ((decide ((List.length x0_3 : Int) = (1 : Int))), ())
            else
              some (false, ())
          else
            if x0_0 = (5 : Int) then
              if x0_1 = (0 : Int) then
                some ((decide (x0_2 = ByteArray.empty)), ())
              else
                some (false, ())
            else
              some (false, ())
    else
      if x0_0 = (3 : Int) then
        if x0_2 = ByteArray.empty then
          some ((decide ((List.length x0_3 : Int) = (0 : Int))), ())
        else
          some (false, ())
      else
        if x0_0 = (2 : Int) then
          if x0_1 = (0 : Int) then
            if (ByteArray.size x0_2 : Int) ≤ (4000 : Int) then
              some ((decide ((List.length x0_3 : Int) = (0 : Int))), ())
            else
              some (false, ())
          else
            some (false, ())
        else
          if x0_0 = (4 : Int) then
            if x0_2 = ByteArray.empty then
              some ((decide ((List.length x0_3 : Int) = (1 : Int))), ())
            else
              some (false, ())
          else
            if x0_0 = (5 : Int) then
              if x0_1 = (0 : Int) then
                some ((decide (x0_2 = ByteArray.empty)), ())
              else
                some (false, ())
            else
              some (false, ()) :=
  (F_eq (G := G) rfl fn23 rfl _).trans ((run_eq _ _ _ _).trans (by kernel_rfl))
end
end Go.Proofs.Yteoggpajjljfmaa.TermGathersx
