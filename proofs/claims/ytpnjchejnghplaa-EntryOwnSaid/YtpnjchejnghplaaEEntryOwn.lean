/- The law EntryOwn: what each function answers, in plain equations. Under no condition. -/
import Derived.Test.YtpnjchejnghplaaTEntryOwn
set_option linter.unusedVariables false
set_option maxRecDepth 100000
namespace Go.Proofs.Ytpnjchejnghplaa.EntryOwnx
open Go Go.RowKit Go.Proofs.Ytpnjchejnghplaa.Rx Go.Proofs.Ytpnjchejnghplaa.EntryOwnx
noncomputable section
theorem F9_lethelaw05_EntryOwn_eq (x0_0 : Int) (x0_1 : Int) (x0_2 : Int) (x0_3 : Int) (x0_4 : Int) (x0_5 : Int) (x0_6 : Int) (x1_0 : ByteArray) (x1_1 : (List S26)) (x2 : ByteArray) (x3 : ByteArray) : F9_lethelaw05_EntryOwn x0_0 x0_1 x0_2 x0_3 x0_4 x0_5 x0_6 x1_0 x1_1 x2 x3 =
    (F31_letheref05_Copy x1_0 x1_1).bind fun y1 =>
    (F26_letheref05_Put x0_0 x0_1 x0_2 x0_3 x0_4 x0_5 x0_6 x1_0 x1_1 x2 x3).bind fun y2 =>
    (F25_entry_Put x0_0 x0_1 x0_2 x0_3 x0_4 x0_5 x0_6 x1_0 x1_1 x2 x3).bind fun y3 =>
    (F25_entry_Put x0_0 x0_1 x0_2 x0_3 x0_4 x0_5 x0_6 x1_0 x1_1 x2 x3).bind fun y4 =>
    (F27_entry_Over x0_0 x0_1 x0_2 x0_3 x0_4 x0_5 x0_6 x1_0 x1_1 x2 x3).bind fun y5 =>
    let e6 : (List S26) := y3.2.2.1 ++ [(S26.mk 9 ByteArray.empty ByteArray.empty)]
    if (List.length y3.2.2.1 + List.length [(S26.mk 9 ByteArray.empty ByteArray.empty)]) * 40 ≤ 140737488355328 then
      let e7 : (List S26) := y3.2.2.2.1 ++ [(S26.mk 8 ByteArray.empty ByteArray.empty)]
      if (List.length y3.2.2.2.1 + List.length [(S26.mk 8 ByteArray.empty ByteArray.empty)]) * 40 ≤ 140737488355328 then
        F9_lethelaw05_EntryOwn_l1000009 y3.2.1 y4.2.1 (List.length e6 : Int) 0 x1_0 x1_1 y1.1 y1.2.1 y2.1 y2.2.1 y2.2.2.1 y2.2.2.2.1 y3.1 e7 y4.1 y5.1 y5.2.2.2.1 e6 y4.2.2.1 y5.2.2.1
      else
        none
    else
      none :=
  (F_eq (G := G) rfl fn0 rfl _).trans ((run_eq _ _ _ _).trans (by kernel_rfl))
theorem F9_lethelaw05_EntryOwn_l1000009_eq (v13 : Int) (v16 : Int) (v70 : Int) (v71 : Int) (h0_0 : ByteArray) (h0_1 : (List S26)) (h1_0 : ByteArray) (h1_1 : (List S26)) (h2_0 : ByteArray) (h2_1 : (List S26)) (h2_2 : (List S26)) (h2_3 : Int) (h3_0 : ByteArray) (g4 : (List S26)) (h5_0 : ByteArray) (h6_0 : ByteArray) (g7 : (List S26)) (g8 : (List S26)) (g9 : (List S26)) (g10 : (List S26)) : F9_lethelaw05_EntryOwn_l1000009 v13 v16 v70 v71 h0_0 h0_1 h1_0 h1_1 h2_0 h2_1 h2_2 h2_3 h3_0 g4 h5_0 h6_0 g7 g8 g9 g10 =
    if v71 < v70 then
      if (0 : Int) ≤ v71 ∧ v71 < (List.length g8 : Int) then
        let e1 : (List S26) := List.set g8 (Int.toNat v71) (S26.mk (S26.f0 (rd S26.z g8 v71)) (ByteArray.mk #[63]) (S26.f2 (rd S26.z g8 v71)))
        F9_lethelaw05_EntryOwn_l1000009 v13 v16 v70 (IntKind.i64.wrap (v71 + (1 : Int))) h0_0 h0_1 h1_0 h1_1 h2_0 h2_1 h2_2 h2_3 h3_0 g4 h5_0 h6_0 g7 e1 g9 g10
      else
        none
    else
      F9_lethelaw05_EntryOwn_l1000014 v13 v16 (List.length g4 : Int) 0 h0_0 h0_1 h1_0 h1_1 h2_0 h2_1 h2_2 h2_3 g4 h5_0 h6_0 g7 g9 g10 :=
  (run_eq _ _ _ _).trans (by kernel_rfl)
theorem F9_lethelaw05_EntryOwn_l1000014_eq (v13 : Int) (v16 : Int) (v81 : Int) (v82 : Int) (h0_0 : ByteArray) (h0_1 : (List S26)) (h1_0 : ByteArray) (h1_1 : (List S26)) (h2_0 : ByteArray) (h2_1 : (List S26)) (h2_2 : (List S26)) (h2_3 : Int) (g3 : (List S26)) (h4_0 : ByteArray) (h5_0 : ByteArray) (g6 : (List S26)) (g7 : (List S26)) (g8 : (List S26)) : F9_lethelaw05_EntryOwn_l1000014 v13 v16 v81 v82 h0_0 h0_1 h1_0 h1_1 h2_0 h2_1 h2_2 h2_3 g3 h4_0 h5_0 g6 g7 g8 =
    if v82 < v81 then
      if (0 : Int) ≤ v82 ∧ v82 < (List.length g3 : Int) then
        let e1 : (List S26) := List.set g3 (Int.toNat v82) (S26.mk (S26.f0 (rd S26.z g3 v82)) (ByteArray.mk #[33]) (S26.f2 (rd S26.z g3 v82)))
        F9_lethelaw05_EntryOwn_l1000014 v13 v16 v81 (IntKind.i64.wrap (v82 + (1 : Int))) h0_0 h0_1 h1_0 h1_1 h2_0 h2_1 h2_2 h2_3 e1 h4_0 h5_0 g6 g7 g8
      else
        none
    else
      F9_lethelaw05_EntryOwn_l1000019 v13 v16 (List.length g8 : Int) 0 h0_0 h0_1 h1_0 h1_1 h2_0 h2_1 h2_2 h2_3 h4_0 h5_0 g6 g7 g8 :=
  (run_eq _ _ _ _).trans (by kernel_rfl)
theorem F9_lethelaw05_EntryOwn_l1000019_eq (v13 : Int) (v16 : Int) (v92 : Int) (v93 : Int) (h0_0 : ByteArray) (h0_1 : (List S26)) (h1_0 : ByteArray) (h1_1 : (List S26)) (h2_0 : ByteArray) (h2_1 : (List S26)) (h2_2 : (List S26)) (h2_3 : Int) (h3_0 : ByteArray) (h4_0 : ByteArray) (g5 : (List S26)) (g6 : (List S26)) (g7 : (List S26)) : F9_lethelaw05_EntryOwn_l1000019 v13 v16 v92 v93 h0_0 h0_1 h1_0 h1_1 h2_0 h2_1 h2_2 h2_3 h3_0 h4_0 g5 g6 g7 =
    if v93 < v92 then
      if (0 : Int) ≤ v93 ∧ v93 < (List.length g7 : Int) then
        let e1 : (List S26) := List.set g7 (Int.toNat v93) (S26.mk (-1) (S26.f1 (rd S26.z g7 v93)) (S26.f2 (rd S26.z g7 v93)))
        F9_lethelaw05_EntryOwn_l1000019 v13 v16 v92 (IntKind.i64.wrap (v93 + (1 : Int))) h0_0 h0_1 h1_0 h1_1 h2_0 h2_1 h2_2 h2_3 h3_0 h4_0 g5 g6 e1
      else
        none
    else
      F9_lethelaw05_EntryOwn_l1000024 v13 v16 (List.length g5 : Int) 0 h0_0 h0_1 h1_0 h1_1 h2_0 h2_1 h2_2 h2_3 h3_0 g5 g6 :=
  (run_eq _ _ _ _).trans (by kernel_rfl)
theorem F9_lethelaw05_EntryOwn_l1000024_eq (v13 : Int) (v16 : Int) (v103 : Int) (v104 : Int) (h0_0 : ByteArray) (h0_1 : (List S26)) (h1_0 : ByteArray) (h1_1 : (List S26)) (h2_0 : ByteArray) (h2_1 : (List S26)) (h2_2 : (List S26)) (h2_3 : Int) (h3_0 : ByteArray) (g4 : (List S26)) (g5 : (List S26)) : F9_lethelaw05_EntryOwn_l1000024 v13 v16 v103 v104 h0_0 h0_1 h1_0 h1_1 h2_0 h2_1 h2_2 h2_3 h3_0 g4 g5 =
    if v104 < v103 then
      if (0 : Int) ≤ v104 ∧ v104 < (List.length g4 : Int) then
        let e1 : (List S26) := List.set g4 (Int.toNat v104) (S26.mk (-1) (S26.f1 (rd S26.z g4 v104)) (S26.f2 (rd S26.z g4 v104)))
        F9_lethelaw05_EntryOwn_l1000024 v13 v16 v103 (IntKind.i64.wrap (v104 + (1 : Int))) h0_0 h0_1 h1_0 h1_1 h2_0 h2_1 h2_2 h2_3 h3_0 e1 g5
      else
        none
    else
      if v13 = h2_3 then
        if v16 = h2_3 then
          (F29_letheref05_Like h0_0 h0_1 h1_0 h1_1).bind fun y2 =>
          if y2.1 = true then
            (F29_letheref05_Like h3_0 g5 h2_0 h2_1).bind fun y3 =>
            some (y3.1, ())
          else
            some (false, ())
        else
          some (false, ())
      else
        some (false, ()) :=
  (run_eq _ _ _ _).trans (by kernel_rfl)
theorem F31_letheref05_Copy_eq (x0_0 : ByteArray) (x0_1 : (List S26)) : F31_letheref05_Copy x0_0 x0_1 =
    if (0 + List.length x0_1) * 40 ≤ 140737488355328 then
      some (x0_0, ([] ++ x0_1), ())
    else
      none :=
  (F_eq (G := G) rfl fn1 rfl _).trans ((run_eq _ _ _ _).trans (by kernel_rfl))
theorem F26_letheref05_Put_eq (x0_0 : Int) (x0_1 : Int) (x0_2 : Int) (x0_3 : Int) (x0_4 : Int) (x0_5 : Int) (x0_6 : Int) (x1_0 : ByteArray) (x1_1 : (List S26)) (x2 : ByteArray) (x3 : ByteArray) : F26_letheref05_Put x0_0 x0_1 x0_2 x0_3 x0_4 x0_5 x0_6 x1_0 x1_1 x2 x3 =
    (F36_letheref05_add x0_0 x0_1 x0_2 x0_3 x0_4 x0_5 x0_6 x1_0 x1_1 x2 x3 x0_4).bind fun y1 =>
    some (y1.1, y1.2.1, y1.2.2.1, y1.2.2.2.1, ()) :=
  (F_eq (G := G) rfl fn2 rfl _).trans ((run_eq _ _ _ _).trans (by kernel_rfl))
theorem F25_entry_Put_eq (x0_0 : Int) (x0_1 : Int) (x0_2 : Int) (x0_3 : Int) (x0_4 : Int) (x0_5 : Int) (x0_6 : Int) (x1_0 : ByteArray) (x1_1 : (List S26)) (x2 : ByteArray) (x3 : ByteArray) : F25_entry_Put x0_0 x0_1 x0_2 x0_3 x0_4 x0_5 x0_6 x1_0 x1_1 x2 x3 =
    (F35_entry_add x0_0 x0_1 x0_2 x0_3 x0_4 x0_5 x0_6 x1_0 x1_1 x2 x3 x0_4).bind fun y1 =>
    some (y1.1, y1.2.1, y1.2.2.1, y1.2.2.2.1, ()) :=
  (F_eq (G := G) rfl fn3 rfl _).trans ((run_eq _ _ _ _).trans (by kernel_rfl))
theorem F27_entry_Over_eq (x0_0 : Int) (x0_1 : Int) (x0_2 : Int) (x0_3 : Int) (x0_4 : Int) (x0_5 : Int) (x0_6 : Int) (x1_0 : ByteArray) (x1_1 : (List S26)) (x2 : ByteArray) (x3 : ByteArray) : F27_entry_Over x0_0 x0_1 x0_2 x0_3 x0_4 x0_5 x0_6 x1_0 x1_1 x2 x3 =
    (F35_entry_add x0_0 x0_1 x0_2 x0_3 x0_4 x0_5 x0_6 x1_0 x1_1 x2 x3 1).bind fun y1 =>
    some (y1.1, y1.2.1, y1.2.2.1, y1.2.2.2.1, ()) :=
  (F_eq (G := G) rfl fn4 rfl _).trans ((run_eq _ _ _ _).trans (by kernel_rfl))
theorem F29_letheref05_Like_eq (x0_0 : ByteArray) (x0_1 : (List S26)) (x1_0 : ByteArray) (x1_1 : (List S26)) : F29_letheref05_Like x0_0 x0_1 x1_0 x1_1 =
    if x0_0 = x1_0 then
      (F30_letheref05_LikeVersions x0_1 x1_1).bind fun y1 =>
      some (y1.1, ())
    else
      some (false, ()) :=
  (F_eq (G := G) rfl fn5 rfl _).trans ((run_eq _ _ _ _).trans (by kernel_rfl))
theorem F30_letheref05_LikeVersions_eq (x0 : (List S26)) (x1 : (List S26)) : F30_letheref05_LikeVersions x0 x1 =
    if ¬ (List.length x0 : Int) = (List.length x1 : Int) then
      some (false, ())
    else
      F30_letheref05_LikeVersions_l1000004 x0 x1 (List.length x0 : Int) 0 :=
  (F_eq (G := G) rfl fn6 rfl _).trans ((run_eq _ _ _ _).trans (by kernel_rfl))
theorem F30_letheref05_LikeVersions_l1000004_eq (v0 : (List S26)) (v1 : (List S26)) (v12 : Int) (v13 : Int) : F30_letheref05_LikeVersions_l1000004 v0 v1 v12 v13 =
    if v13 < v12 then
      if (0 : Int) ≤ v13 ∧ v13 < (List.length v0 : Int) then
        if (0 : Int) ≤ v13 ∧ v13 < (List.length v1 : Int) then
          if ¬ ((S26.f0 (rd S26.z v0 v13)) = (S26.f0 (rd S26.z v1 v13)) ∧ (S26.f1 (rd S26.z v0 v13)) = (S26.f1 (rd S26.z v1 v13)) ∧ (S26.f2 (rd S26.z v0 v13)) = (S26.f2 (rd S26.z v1 v13)) ∧ True) then
            some (false, ())
          else
            F30_letheref05_LikeVersions_l1000004 v0 v1 v12 (IntKind.i64.wrap (v13 + (1 : Int)))
        else
          none
      else
        none
    else
      some (true, ()) :=
  (run_eq _ _ _ _).trans (by kernel_rfl)
theorem F35_entry_add_eq (x0_0 : Int) (x0_1 : Int) (x0_2 : Int) (x0_3 : Int) (x0_4 : Int) (x0_5 : Int) (x0_6 : Int) (x1_0 : ByteArray) (x1_1 : (List S26)) (x2 : ByteArray) (x3 : ByteArray) (x4 : Int) : F35_entry_add x0_0 x0_1 x0_2 x0_3 x0_4 x0_5 x0_6 x1_0 x1_1 x2 x3 x4 =
    (F34_entry_named x0_0 x0_1 x0_2 x0_3 x0_4 x0_5 x0_6 x1_0 x1_1).bind fun y1 =>
    if y1.1 = (0 : Int) then
      (F39_entry_texts x0_0 x0_1 x0_2 x0_3 x0_4 x0_5 x0_6 x2 x3).bind fun y2 =>
      if ¬ y2.1 = (0 : Int) then
        some (ByteArray.empty, y2.1, [], [], ())
      else
        (F13_entry_Last x1_0 x1_1).bind fun y3 =>
        if y3.1 = (1073741824 : Int) then
          some (ByteArray.empty, 2, [], [], ())
        else
          (F40_slices_Clone x1_1).bind fun y4 =>
          let e5 : (List S26) := [(S26.mk (IntKind.i64.wrap (y3.1 + (1 : Int))) x2 x3)]
          if (List.length y4.1 + List.length e5) * 40 ≤ 140737488355328 then
            let e6 : Int := IntKind.i64.wrap ((List.length (y4.1 ++ e5) : Int) - x4)
            let e7 : (List S26) := subL (y4.1 ++ e5) (mx 0 e6) (List.length (y4.1 ++ e5) : Int)
            if (0 : Int) ≤ (mx 0 e6) ∧ (mx 0 e6) ≤ (List.length (y4.1 ++ e5) : Int) ∧ (List.length (y4.1 ++ e5) : Int) ≤ (List.length (y4.1 ++ e5) : Int) then
              (F40_slices_Clone e7).bind fun y8 =>
              if (0 : Int) ≤ 0 ∧ (0 : Int) ≤ (mx 0 e6) ∧ (mx 0 e6) ≤ (List.length (y4.1 ++ e5) : Int) then
                (F40_slices_Clone (subL (y4.1 ++ e5) 0 (mx 0 e6))).bind fun y9 =>
                some (x1_0, 0, y8.1, y9.1, ())
              else
                none
            else
              none
          else
            none
    else
      if ¬ y1.1 = (0 : Int) then
        some (ByteArray.empty, y1.1, [], [], ())
      else
        (F13_entry_Last x1_0 x1_1).bind fun y10 =>
        if y10.1 = (1073741824 : Int) then
          some (ByteArray.empty, 2, [], [], ())
        else
          (F40_slices_Clone x1_1).bind fun y11 =>
          let e12 : (List S26) := [(S26.mk (IntKind.i64.wrap (y10.1 + (1 : Int))) x2 x3)]
          if (List.length y11.1 + List.length e12) * 40 ≤ 140737488355328 then
            let e13 : Int := IntKind.i64.wrap ((List.length (y11.1 ++ e12) : Int) - x4)
            let e14 : (List S26) := subL (y11.1 ++ e12) (mx 0 e13) (List.length (y11.1 ++ e12) : Int)
            if (0 : Int) ≤ (mx 0 e13) ∧ (mx 0 e13) ≤ (List.length (y11.1 ++ e12) : Int) ∧ (List.length (y11.1 ++ e12) : Int) ≤ (List.length (y11.1 ++ e12) : Int) then
              (F40_slices_Clone e14).bind fun y15 =>
              if (0 : Int) ≤ 0 ∧ (0 : Int) ≤ (mx 0 e13) ∧ (mx 0 e13) ≤ (List.length (y11.1 ++ e12) : Int) then
                (F40_slices_Clone (subL (y11.1 ++ e12) 0 (mx 0 e13))).bind fun y16 =>
                some (x1_0, 0, y15.1, y16.1, ())
              else
                none
            else
              none
          else
            none :=
  (F_eq (G := G) rfl fn7 rfl _).trans ((run_eq _ _ _ _).trans (by kernel_rfl))
theorem F34_entry_named_eq (x0_0 : Int) (x0_1 : Int) (x0_2 : Int) (x0_3 : Int) (x0_4 : Int) (x0_5 : Int) (x0_6 : Int) (x1_0 : ByteArray) (x1_1 : (List S26)) : F34_entry_named x0_0 x0_1 x0_2 x0_3 x0_4 x0_5 x0_6 x1_0 x1_1 =
    (F38_quota_Right x0_0 x0_1 x0_2 x0_3 x0_4 x0_5 x0_6).bind fun y1 =>
    if ¬ y1.1 = (0 : Int) then
      some (40, ())
    else
      if x1_0 = ByteArray.empty then
        some (4, ())
      else
        if x0_1 < (ByteArray.size x1_0 : Int) then
          some (5, ())
        else
          if x0_4 < (List.length x1_1 : Int) then
            some (50, ())
          else
            F34_entry_named_l1000011 0 x1_1 (List.length x1_1 : Int) 0 x0_0 x0_1 x0_2 x0_3 x0_4 x0_5 x0_6 :=
  (F_eq (G := G) rfl fn8 rfl _).trans ((run_eq _ _ _ _).trans (by kernel_rfl))
theorem F34_entry_named_l1000011_eq (v5 : Int) (v32 : (List S26)) (v33 : Int) (v34 : Int) (h0_0 : Int) (h0_1 : Int) (h0_2 : Int) (h0_3 : Int) (h0_4 : Int) (h0_5 : Int) (h0_6 : Int) : F34_entry_named_l1000011 v5 v32 v33 v34 h0_0 h0_1 h0_2 h0_3 h0_4 h0_5 h0_6 =
    if v34 < v33 then
      if (0 : Int) ≤ v34 ∧ v34 < (List.length v32 : Int) then
        if (S26.f0 (rd S26.z v32 v34)) ≤ v5 then
          some (50, ())
        else
          if (1073741824 : Int) < (S26.f0 (rd S26.z v32 v34)) then
            some (50, ())
          else
            (F39_entry_texts h0_0 h0_1 h0_2 h0_3 h0_4 h0_5 h0_6 (S26.f1 (rd S26.z v32 v34)) (S26.f2 (rd S26.z v32 v34))).bind fun y1 =>
            if ¬ y1.1 = (0 : Int) then
              some (y1.1, ())
            else
              F34_entry_named_l1000011 (S26.f0 (rd S26.z v32 v34)) v32 v33 (IntKind.i64.wrap (v34 + (1 : Int))) h0_0 h0_1 h0_2 h0_3 h0_4 h0_5 h0_6
      else
        none
    else
      some (0, ()) :=
  (run_eq _ _ _ _).trans (by kernel_rfl)
theorem F39_entry_texts_eq (x0_0 : Int) (x0_1 : Int) (x0_2 : Int) (x0_3 : Int) (x0_4 : Int) (x0_5 : Int) (x0_6 : Int) (x1 : ByteArray) (x2 : ByteArray) : F39_entry_texts x0_0 x0_1 x0_2 x0_3 x0_4 x0_5 x0_6 x1 x2 =
    if x0_2 < (ByteArray.size x1 : Int) then
      some (5, ())
    else
      if x0_3 < (ByteArray.size x2 : Int) then
        some (5, ())
      else
        some (0, ()) :=
  (F_eq (G := G) rfl fn9 rfl _).trans ((run_eq _ _ _ _).trans (by kernel_rfl))
theorem F13_entry_Last_eq (x0_0 : ByteArray) (x0_1 : (List S26)) : F13_entry_Last x0_0 x0_1 =
    if (List.length x0_1 : Int) = (0 : Int) then
      some (0, ByteArray.empty, ByteArray.empty, false, ())
    else
      let e1 : Int := IntKind.i64.wrap ((List.length x0_1 : Int) - (1 : Int))
      if (0 : Int) ≤ e1 ∧ e1 < (List.length x0_1 : Int) then
        some ((S26.f0 (rd S26.z x0_1 e1)), (S26.f1 (rd S26.z x0_1 e1)), (S26.f2 (rd S26.z x0_1 e1)), true, ())
      else
        none :=
  (F_eq (G := G) rfl fn10 rfl _).trans ((run_eq _ _ _ _).trans (by kernel_rfl))
theorem F40_slices_Clone_eq (x0 : (List S26)) : F40_slices_Clone x0 =
    if List.length x0 = 0 then
      anyO (
        some ([], ())) (
        if (0 + List.length x0) * 40 ≤ 140737488355328 then
          some (([] ++ x0), ())
        else
          none)
    else
      if (0 + List.length x0) * 40 ≤ 140737488355328 then
        some (([] ++ x0), ())
      else
        none :=
  (F_eq (G := G) rfl fn11 rfl _).trans ((run_eq _ _ _ _).trans (by kernel_rfl))
theorem F38_quota_Right_eq (x0_0 : Int) (x0_1 : Int) (x0_2 : Int) (x0_3 : Int) (x0_4 : Int) (x0_5 : Int) (x0_6 : Int) : F38_quota_Right x0_0 x0_1 x0_2 x0_3 x0_4 x0_5 x0_6 =
    (F41_quota_in x0_0 1 64).bind fun y1 =>
    if y1.1 = true then
      (F41_quota_in x0_1 1 16).bind fun y2 =>
      if y2.1 = true then
        (F41_quota_in x0_2 0 32).bind fun y3 =>
        if y3.1 = true then
          (F41_quota_in x0_3 0 16).bind fun y4 =>
          if y4.1 = true then
            (F41_quota_in x0_4 1 4).bind fun y5 =>
            if y5.1 = true then
              (F41_quota_in x0_5 1 8).bind fun y6 =>
              if y6.1 = true then
                (F41_quota_in x0_6 0 32).bind fun y7 =>
                if y7.1 = true then
                  some (0, ())
                else
                  F38_quota_Right_l3 
              else
                F38_quota_Right_l3 
            else
              F38_quota_Right_l3 
          else
            F38_quota_Right_l3 
        else
          F38_quota_Right_l3 
      else
        F38_quota_Right_l3 
    else
      F38_quota_Right_l3  :=
  (F_eq (G := G) rfl fn12 rfl _).trans ((run_eq _ _ _ _).trans (by kernel_rfl))
theorem F38_quota_Right_l3_eq  : F38_quota_Right_l3  =
    some (40, ()) :=
  (run_eq _ _ _ _).trans (by kernel_rfl)
theorem F41_quota_in_eq (x0 : Int) (x1 : Int) (x2 : Int) : F41_quota_in x0 x1 x2 =
    if x1 ≤ x0 then
      some ((decide (x0 ≤ x2)), ())
    else
      some (false, ()) :=
  (F_eq (G := G) rfl fn13 rfl _).trans ((run_eq _ _ _ _).trans (by kernel_rfl))
theorem F36_letheref05_add_eq (x0_0 : Int) (x0_1 : Int) (x0_2 : Int) (x0_3 : Int) (x0_4 : Int) (x0_5 : Int) (x0_6 : Int) (x1_0 : ByteArray) (x1_1 : (List S26)) (x2 : ByteArray) (x3 : ByteArray) (x4 : Int) : F36_letheref05_add x0_0 x0_1 x0_2 x0_3 x0_4 x0_5 x0_6 x1_0 x1_1 x2 x3 x4 =
    (F32_letheref05_Named x0_0 x0_1 x0_2 x0_3 x0_4 x0_5 x0_6 x1_0 x1_1).bind fun y1 =>
    if ¬ y1.1 = (0 : Int) then
      some (ByteArray.empty, [], [], y1.1, ())
    else
      if x0_2 < (ByteArray.size x2 : Int) then
        some (ByteArray.empty, [], [], 5, ())
      else
        if x0_3 < (ByteArray.size x3 : Int) then
          some (ByteArray.empty, [], [], 5, ())
        else
          if (0 : Int) < (List.length x1_1 : Int) then
            let e2 : Int := IntKind.i64.wrap ((List.length x1_1 : Int) - (1 : Int))
            if (0 : Int) ≤ e2 ∧ e2 < (List.length x1_1 : Int) then
              let e3 : Int := IntKind.i64.wrap ((S26.f0 (rd S26.z x1_1 e2)) + (1 : Int))
              if (1073741824 : Int) < e3 then
                some (ByteArray.empty, [], [], 2, ())
              else
                F36_letheref05_add_l1000014 x2 x3 x4 e3 (List.length x1_1 : Int) x1_1 (List.length x1_1 : Int) 0 ByteArray.empty 0 x1_0 0 [] [] [] []
            else
              none
          else
            F36_letheref05_add_l1000014 x2 x3 x4 1 (List.length x1_1 : Int) x1_1 (List.length x1_1 : Int) 0 ByteArray.empty 0 x1_0 0 [] [] [] [] :=
  (F_eq (G := G) rfl fn14 rfl _).trans ((run_eq _ _ _ _).trans (by kernel_rfl))
theorem F36_letheref05_add_l1000014_eq (v2 : ByteArray) (v3 : ByteArray) (v4 : Int) (v12 : Int) (v13 : Int) (v58 : (List S26)) (v59 : Int) (v60 : Int) (h0_0 : ByteArray) (h0_3 : Int) (h1_0 : ByteArray) (h1_3 : Int) (g2 : (List S26)) (g3 : (List S26)) (g4 : (List S26)) (g5 : (List S26)) : F36_letheref05_add_l1000014 v2 v3 v4 v12 v13 v58 v59 v60 h0_0 h0_3 h1_0 h1_3 g2 g3 g4 g5 =
    if v60 < v59 then
      if (0 : Int) ≤ v60 ∧ v60 < (List.length v58 : Int) then
        let e1 : Int := IntKind.i64.wrap ((IntKind.i64.wrap (v13 + (1 : Int))) - v60)
        if v4 < e1 then
          let e2 : (List S26) := [(S26.mk (S26.f0 (rd S26.z v58 v60)) (S26.f1 (rd S26.z v58 v60)) (S26.f2 (rd S26.z v58 v60)))]
          if (List.length g5 + List.length e2) * 40 ≤ 140737488355328 then
            F36_letheref05_add_l1000014 v2 v3 v4 v12 v13 v58 v59 (IntKind.i64.wrap (v60 + (1 : Int))) h0_0 h0_3 h1_0 h1_3 g2 g3 g4 (g5 ++ e2)
          else
            none
        else
          let e3 : (List S26) := [(S26.mk (S26.f0 (rd S26.z v58 v60)) (S26.f1 (rd S26.z v58 v60)) (S26.f2 (rd S26.z v58 v60)))]
          if (List.length g4 + List.length e3) * 40 ≤ 140737488355328 then
            F36_letheref05_add_l1000014 v2 v3 v4 v12 v13 v58 v59 (IntKind.i64.wrap (v60 + (1 : Int))) h0_0 h0_3 h1_0 h1_3 g2 g3 (g4 ++ e3) g5
          else
            none
      else
        none
    else
      if (List.length g4 + List.length [(S26.mk v12 v2 v3)]) * 40 ≤ 140737488355328 then
        some (h1_0, (g4 ++ [(S26.mk v12 v2 v3)]), g5, h1_3, ())
      else
        none :=
  (run_eq _ _ _ _).trans (by kernel_rfl)
theorem F32_letheref05_Named_eq (x0_0 : Int) (x0_1 : Int) (x0_2 : Int) (x0_3 : Int) (x0_4 : Int) (x0_5 : Int) (x0_6 : Int) (x1_0 : ByteArray) (x1_1 : (List S26)) : F32_letheref05_Named x0_0 x0_1 x0_2 x0_3 x0_4 x0_5 x0_6 x1_0 x1_1 =
    (F37_letheref04_Right x0_0 x0_1 x0_2 x0_3 x0_4 x0_5 x0_6).bind fun y1 =>
    if (!y1.1) = true then
      some (40, ())
    else
      if x1_0 = ByteArray.empty then
        some (4, ())
      else
        if x0_1 < (ByteArray.size x1_0 : Int) then
          some (5, ())
        else
          if x0_4 < (List.length x1_1 : Int) then
            some (50, ())
          else
            F32_letheref05_Named_l1000010 x1_1 (List.length x1_1 : Int) 0 x0_0 x0_1 x0_2 x0_3 x0_4 x0_5 x0_6 x1_0 x1_1 :=
  (F_eq (G := G) rfl fn15 rfl _).trans ((run_eq _ _ _ _).trans (by kernel_rfl))
theorem F32_letheref05_Named_l1000010_eq (v26 : (List S26)) (v27 : Int) (v28 : Int) (h0_0 : Int) (h0_1 : Int) (h0_2 : Int) (h0_3 : Int) (h0_4 : Int) (h0_5 : Int) (h0_6 : Int) (h1_0 : ByteArray) (h1_1 : (List S26)) : F32_letheref05_Named_l1000010 v26 v27 v28 h0_0 h0_1 h0_2 h0_3 h0_4 h0_5 h0_6 h1_0 h1_1 =
    if v28 < v27 then
      if (0 : Int) ≤ v28 ∧ v28 < (List.length v26 : Int) then
        if (S26.f0 (rd S26.z v26 v28)) < (1 : Int) then
          some (50, ())
        else
          if (1073741824 : Int) < (S26.f0 (rd S26.z v26 v28)) then
            some (50, ())
          else
            if (0 : Int) < v28 then
              if (0 : Int) ≤ (IntKind.i64.wrap (v28 - (1 : Int))) ∧ (IntKind.i64.wrap (v28 - (1 : Int))) < (List.length h1_1 : Int) then
                if (S26.f0 (rd S26.z v26 v28)) ≤ (S26.f0 (rd S26.z h1_1 (IntKind.i64.wrap (v28 - (1 : Int))))) then
                  some (50, ())
                else
                  if h0_2 < (ByteArray.size (S26.f1 (rd S26.z v26 v28)) : Int) then
                    F32_letheref05_Named_l15 
                  else
                    if h0_3 < (ByteArray.size (S26.f2 (rd S26.z v26 v28)) : Int) then
                      F32_letheref05_Named_l15 
                    else
                      F32_letheref05_Named_l1000010 v26 v27 (IntKind.i64.wrap (v28 + (1 : Int))) h0_0 h0_1 h0_2 h0_3 h0_4 h0_5 h0_6 h1_0 h1_1
              else
                none
            else
              if h0_2 < (ByteArray.size (S26.f1 (rd S26.z v26 v28)) : Int) then
                F32_letheref05_Named_l15 
              else
                if h0_3 < (ByteArray.size (S26.f2 (rd S26.z v26 v28)) : Int) then
                  F32_letheref05_Named_l15 
                else
                  F32_letheref05_Named_l1000010 v26 v27 (IntKind.i64.wrap (v28 + (1 : Int))) h0_0 h0_1 h0_2 h0_3 h0_4 h0_5 h0_6 h1_0 h1_1
      else
        none
    else
      some (0, ()) :=
  (run_eq _ _ _ _).trans (by kernel_rfl)
theorem F32_letheref05_Named_l15_eq  : F32_letheref05_Named_l15  =
    some (5, ()) :=
  (run_eq _ _ _ _).trans (by kernel_rfl)
theorem F37_letheref04_Right_eq (x0_0 : Int) (x0_1 : Int) (x0_2 : Int) (x0_3 : Int) (x0_4 : Int) (x0_5 : Int) (x0_6 : Int) : F37_letheref04_Right x0_0 x0_1 x0_2 x0_3 x0_4 x0_5 x0_6 =
    if x0_0 < (1 : Int) then
      F37_letheref04_Right_l2 
    else
      if (64 : Int) < x0_0 then
        F37_letheref04_Right_l2 
      else
        if x0_1 < (1 : Int) then
          F37_letheref04_Right_l2 
        else
          if (16 : Int) < x0_1 then
            F37_letheref04_Right_l2 
          else
            if x0_2 < (0 : Int) then
              F37_letheref04_Right_l2 
            else
              if (32 : Int) < x0_2 then
                F37_letheref04_Right_l2 
              else
                if x0_3 < (0 : Int) then
                  F37_letheref04_Right_l2 
                else
                  if (16 : Int) < x0_3 then
                    F37_letheref04_Right_l2 
                  else
                    if (1 : Int) ≤ x0_4 then
                      if x0_4 ≤ (4 : Int) then
                        if (1 : Int) ≤ x0_5 then
                          if x0_5 ≤ (8 : Int) then
                            if (0 : Int) ≤ x0_6 then
                              some ((decide (x0_6 ≤ (32 : Int))), ())
                            else
                              some (false, ())
                          else
                            some (false, ())
                        else
                          some (false, ())
                      else
                        some (false, ())
                    else
                      some (false, ()) :=
  (F_eq (G := G) rfl fn16 rfl _).trans ((run_eq _ _ _ _).trans (by kernel_rfl))
theorem F37_letheref04_Right_l2_eq  : F37_letheref04_Right_l2  =
    some (false, ()) :=
  (run_eq _ _ _ _).trans (by kernel_rfl)
end
end Go.Proofs.Ytpnjchejnghplaa.EntryOwnx
