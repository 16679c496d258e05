/- The law BookOwn: what each function answers, in plain equations. Under no condition. -/
import Derived.Test.YtckafnfidjfhjaaTBookOwn
set_option linter.unusedVariables false
set_option maxRecDepth 100000
namespace Go.Proofs.Ytckafnfidjfhjaa.BookOwnx
open Go Go.RowKit Go.Proofs.Ytckafnfidjfhjaa.Rx Go.Proofs.Ytckafnfidjfhjaa.BookOwnx
noncomputable section
theorem F4_lethelaw09_BookOwn_eq (x0_0 : Int) (x0_1 : Int) (x0_2 : Int) (x0_3 : Int) (x0_4 : Int) (x0_5 : Int) (x0_6 : Int) (x1 : (List (List S131))) (x2 : (List S131)) : F4_lethelaw09_BookOwn x0_0 x0_1 x0_2 x0_3 x0_4 x0_5 x0_6 x1 x2 =
    (F18_lethelaw09_made x0_0 x0_1 x0_2 x0_3 x0_4 x0_5 x0_6 x1).bind fun y1 =>
    if y1.1 = true then
      (F19_letheref04_Right x0_0 x0_1 x0_2 x0_3 x0_4 x0_5 x0_6).bind fun y2 =>
      if (!y2.1) = true then
        some (true, ())
      else
        some (false, ())
    else
      (F19_letheref04_Right x0_0 x0_1 x0_2 x0_3 x0_4 x0_5 x0_6).bind fun y3 =>
      if (!y3.1) = true then
        some (false, ())
      else
        (F20_book_Book_Copy y1.2.1 y1.2.2.1 y1.2.2.2.1 y1.2.2.2.2.1 y1.2.2.2.2.2.1 y1.2.2.2.2.2.2.1 y1.2.2.2.2.2.2.2.1 y1.2.2.2.2.2.2.2.2.1 y1.2.2.2.2.2.2.2.2.2.1).bind fun y4 =>
        (F21_book_Book_All y4.1 y4.2.1 y4.2.2.1 y4.2.2.2.1 y4.2.2.2.2.1 y4.2.2.2.2.2.1 y4.2.2.2.2.2.2.1 y4.2.2.2.2.2.2.2.1 y4.2.2.2.2.2.2.2.2.1).bind fun y5 =>
        (F21_book_Book_All y5.1 y5.2.1 y5.2.2.1 y5.2.2.2.1 y5.2.2.2.2.1 y5.2.2.2.2.2.1 y5.2.2.2.2.2.2.1 y5.2.2.2.2.2.2.2.1 y5.2.2.2.2.2.2.2.2.1).bind fun y6 =>
        F4_lethelaw09_BookOwn_l1000012_1 x2 (List.length y6.2.2.2.2.2.2.2.2.2.1 : Int) 0 y6.1 y6.2.1 y6.2.2.1 y6.2.2.2.1 y6.2.2.2.2.1 y6.2.2.2.2.2.1 y6.2.2.2.2.2.2.1 y4.2.2.2.2.2.2.2.2.2.1 y4.2.2.2.2.2.2.2.2.2.2.1 y4.2.2.2.2.2.2.2.2.2.2.2.1 y4.2.2.2.2.2.2.2.2.2.2.2.2.1 y4.2.2.2.2.2.2.2.2.2.2.2.2.2.1 y4.2.2.2.2.2.2.2.2.2.2.2.2.2.2.1 y4.2.2.2.2.2.2.2.2.2.2.2.2.2.2.2.1 y5.2.2.2.2.2.2.2.2.2.1 y6.2.2.2.2.2.2.2.2.2.1 y6.2.2.2.2.2.2.2.1 y6.2.2.2.2.2.2.2.2.1 y4.2.2.2.2.2.2.2.2.2.2.2.2.2.2.2.2.1 y4.2.2.2.2.2.2.2.2.2.2.2.2.2.2.2.2.2.1 :=
  (F_eq (G := G) rfl fn0 rfl _).trans ((run_eq _ _ _ _).trans (by kernel_rfl))
theorem F4_lethelaw09_BookOwn_l1000012_eq (v2 : (List S131)) (v39 : Int) (v40 : Int) (h0_0 : Int) (h0_1 : Int) (h0_2 : Int) (h0_3 : Int) (h0_4 : Int) (h0_5 : Int) (h0_6 : Int) (h1_0 : Int) (h1_1 : Int) (h1_2 : Int) (h1_3 : Int) (h1_4 : Int) (h1_5 : Int) (h1_6 : Int) (g2 : (List S64)) (g3 : (List S64)) (g4 : (MapD ByteArray S64)) (g5 : (MapD ByteArray S89)) (g6 : (MapD ByteArray S64)) (g7 : (MapD ByteArray S89)) : F4_lethelaw09_BookOwn_l1000012 v2 v39 v40 h0_0 h0_1 h0_2 h0_3 h0_4 h0_5 h0_6 h1_0 h1_1 h1_2 h1_3 h1_4 h1_5 h1_6 g2 g3 g4 g5 g6 g7 =
    if v40 < v39 then
      if (0 : Int) ≤ v40 ∧ v40 < (List.length g3 : Int) then
        F4_lethelaw09_BookOwn_l1000015 v2 v40 v39 v40 (List.length (S64.f1 (rd S64.z g3 v40)) : Int) 0 h0_0 h0_1 h0_2 h0_3 h0_4 h0_5 h0_6 h1_0 h1_1 h1_2 h1_3 h1_4 h1_5 h1_6 g2 g3 g4 g5 g6 g7
      else
        none
    else
      (F23_book_Book_Play v2 h1_0 h1_1 h1_2 h1_3 h1_4 h1_5 h1_6 g6 g7).bind fun y1 =>
      if y1.1 = true then
        (F21_book_Book_All h0_0 h0_1 h0_2 h0_3 h0_4 h0_5 h0_6 g4 g5).bind fun y2 =>
        (F24_letheref05_LikeAll y2.2.2.2.2.2.2.2.2.2.1 g2).bind fun y3 =>
        if (!y3.1) = true then
          some (false, ())
        else
          (F23_book_Book_Play v2 y2.1 y2.2.1 y2.2.2.1 y2.2.2.2.1 y2.2.2.2.2.1 y2.2.2.2.2.2.1 y2.2.2.2.2.2.2.1 y2.2.2.2.2.2.2.2.1 y2.2.2.2.2.2.2.2.2.1).bind fun y4 =>
          if y4.1 = true then
            F4_lethelaw09_BookOwn_l30 y1.2.1 y4.2.1 y4.2.2.2.1 y4.2.2.2.2.1 y4.2.2.2.2.2.1 y4.2.2.2.2.2.2.1 y4.2.2.2.2.2.2.2.1 y4.2.2.2.2.2.2.2.2.1 y4.2.2.2.2.2.2.2.2.2.1 y1.2.2.2.1 y1.2.2.2.2.1 y1.2.2.2.2.2.1 y1.2.2.2.2.2.2.1 y1.2.2.2.2.2.2.2.1 y1.2.2.2.2.2.2.2.2.1 y1.2.2.2.2.2.2.2.2.2.1 y4.2.2.2.2.2.2.2.2.2.2.1 y4.2.2.2.2.2.2.2.2.2.2.2.1 y1.2.2.2.2.2.2.2.2.2.2.1 y1.2.2.2.2.2.2.2.2.2.2.2.1
          else
            F4_lethelaw09_BookOwn_l30 y1.2.1 y4.2.2.2.2.2.2.2.2.2.2.2.2.1 y4.2.2.2.2.2.2.2.2.2.2.2.2.2.2.1 y4.2.2.2.2.2.2.2.2.2.2.2.2.2.2.2.1 y4.2.2.2.2.2.2.2.2.2.2.2.2.2.2.2.2.1 y4.2.2.2.2.2.2.2.2.2.2.2.2.2.2.2.2.2.1 y4.2.2.2.2.2.2.2.2.2.2.2.2.2.2.2.2.2.2.1 y4.2.2.2.2.2.2.2.2.2.2.2.2.2.2.2.2.2.2.2.1 y4.2.2.2.2.2.2.2.2.2.2.2.2.2.2.2.2.2.2.2.2.1 y1.2.2.2.1 y1.2.2.2.2.1 y1.2.2.2.2.2.1 y1.2.2.2.2.2.2.1 y1.2.2.2.2.2.2.2.1 y1.2.2.2.2.2.2.2.2.1 y1.2.2.2.2.2.2.2.2.2.1 y4.2.2.2.2.2.2.2.2.2.2.2.2.2.2.2.2.2.2.2.2.2.2.2.1 y4.2.2.2.2.2.2.2.2.2.2.2.2.2.2.2.2.2.2.2.2.2.2.2.2.1 y1.2.2.2.2.2.2.2.2.2.2.1 y1.2.2.2.2.2.2.2.2.2.2.2.1
      else
        (F21_book_Book_All h0_0 h0_1 h0_2 h0_3 h0_4 h0_5 h0_6 g4 g5).bind fun y5 =>
        (F24_letheref05_LikeAll y5.2.2.2.2.2.2.2.2.2.1 g2).bind fun y6 =>
        if (!y6.1) = true then
          some (false, ())
        else
          (F23_book_Book_Play v2 y5.1 y5.2.1 y5.2.2.1 y5.2.2.2.1 y5.2.2.2.2.1 y5.2.2.2.2.2.1 y5.2.2.2.2.2.2.1 y5.2.2.2.2.2.2.2.1 y5.2.2.2.2.2.2.2.2.1).bind fun y7 =>
          if y7.1 = true then
            F4_lethelaw09_BookOwn_l30 y1.2.2.2.2.2.2.2.2.2.2.2.2.1 y7.2.1 y7.2.2.2.1 y7.2.2.2.2.1 y7.2.2.2.2.2.1 y7.2.2.2.2.2.2.1 y7.2.2.2.2.2.2.2.1 y7.2.2.2.2.2.2.2.2.1 y7.2.2.2.2.2.2.2.2.2.1 y1.2.2.2.2.2.2.2.2.2.2.2.2.2.2.1 y1.2.2.2.2.2.2.2.2.2.2.2.2.2.2.2.1 y1.2.2.2.2.2.2.2.2.2.2.2.2.2.2.2.2.1 y1.2.2.2.2.2.2.2.2.2.2.2.2.2.2.2.2.2.1 y1.2.2.2.2.2.2.2.2.2.2.2.2.2.2.2.2.2.2.1 y1.2.2.2.2.2.2.2.2.2.2.2.2.2.2.2.2.2.2.2.1 y1.2.2.2.2.2.2.2.2.2.2.2.2.2.2.2.2.2.2.2.2.1 y7.2.2.2.2.2.2.2.2.2.2.1 y7.2.2.2.2.2.2.2.2.2.2.2.1 y1.2.2.2.2.2.2.2.2.2.2.2.2.2.2.2.2.2.2.2.2.2.2.2.1 y1.2.2.2.2.2.2.2.2.2.2.2.2.2.2.2.2.2.2.2.2.2.2.2.2.1
          else
            F4_lethelaw09_BookOwn_l30 y1.2.2.2.2.2.2.2.2.2.2.2.2.1 y7.2.2.2.2.2.2.2.2.2.2.2.2.1 y7.2.2.2.2.2.2.2.2.2.2.2.2.2.2.1 y7.2.2.2.2.2.2.2.2.2.2.2.2.2.2.2.1 y7.2.2.2.2.2.2.2.2.2.2.2.2.2.2.2.2.1 y7.2.2.2.2.2.2.2.2.2.2.2.2.2.2.2.2.2.1 y7.2.2.2.2.2.2.2.2.2.2.2.2.2.2.2.2.2.2.1 y7.2.2.2.2.2.2.2.2.2.2.2.2.2.2.2.2.2.2.2.1 y7.2.2.2.2.2.2.2.2.2.2.2.2.2.2.2.2.2.2.2.2.1 y1.2.2.2.2.2.2.2.2.2.2.2.2.2.2.1 y1.2.2.2.2.2.2.2.2.2.2.2.2.2.2.2.1 y1.2.2.2.2.2.2.2.2.2.2.2.2.2.2.2.2.1 y1.2.2.2.2.2.2.2.2.2.2.2.2.2.2.2.2.2.1 y1.2.2.2.2.2.2.2.2.2.2.2.2.2.2.2.2.2.2.1 y1.2.2.2.2.2.2.2.2.2.2.2.2.2.2.2.2.2.2.2.1 y1.2.2.2.2.2.2.2.2.2.2.2.2.2.2.2.2.2.2.2.2.1 y7.2.2.2.2.2.2.2.2.2.2.2.2.2.2.2.2.2.2.2.2.2.2.2.1 y7.2.2.2.2.2.2.2.2.2.2.2.2.2.2.2.2.2.2.2.2.2.2.2.2.1 y1.2.2.2.2.2.2.2.2.2.2.2.2.2.2.2.2.2.2.2.2.2.2.2.1 y1.2.2.2.2.2.2.2.2.2.2.2.2.2.2.2.2.2.2.2.2.2.2.2.2.1 :=
  (run_eq _ _ _ _).trans (by kernel_rfl)
theorem F4_lethelaw09_BookOwn_l1000015_eq (v2 : (List S131)) (v11 : Int) (v39 : Int) (v40 : Int) (v48 : Int) (v49 : Int) (h0_0 : Int) (h0_1 : Int) (h0_2 : Int) (h0_3 : Int) (h0_4 : Int) (h0_5 : Int) (h0_6 : Int) (h1_0 : Int) (h1_1 : Int) (h1_2 : Int) (h1_3 : Int) (h1_4 : Int) (h1_5 : Int) (h1_6 : Int) (g2 : (List S64)) (g3 : (List S64)) (g4 : (MapD ByteArray S64)) (g5 : (MapD ByteArray S89)) (g6 : (MapD ByteArray S64)) (g7 : (MapD ByteArray S89)) : F4_lethelaw09_BookOwn_l1000015 v2 v11 v39 v40 v48 v49 h0_0 h0_1 h0_2 h0_3 h0_4 h0_5 h0_6 h1_0 h1_1 h1_2 h1_3 h1_4 h1_5 h1_6 g2 g3 g4 g5 g6 g7 =
    if v49 < v48 then
      if (0 : Int) ≤ v11 ∧ v11 < (List.length g3 : Int) then
        if (0 : Int) ≤ v49 ∧ v49 < (List.length (S64.f1 (rd S64.z g3 v11)) : Int) then
          let e1 : (List S66) := List.set (S64.f1 (rd S64.z g3 v11)) (Int.toNat v49) (S66.mk (S66.f0 (rd S66.z (S64.f1 (rd S64.z g3 v11)) v49)) (ByteArray.mk #[115, 112, 111, 105, 108, 116]) (S66.f2 (rd S66.z (S64.f1 (rd S64.z g3 v11)) v49)))
          let e2 : (List S64) := List.set g3 (Int.toNat v11) (S64.mk (S64.f0 (rd S64.z g3 v11)) e1)
          F4_lethelaw09_BookOwn_l1000015 v2 v11 v39 v40 v48 (IntKind.i64.wrap (v49 + (1 : Int))) h0_0 h0_1 h0_2 h0_3 h0_4 h0_5 h0_6 h1_0 h1_1 h1_2 h1_3 h1_4 h1_5 h1_6 g2 e2 g4 g5 g6 g7
        else
          none
      else
        none
    else
      if (0 : Int) ≤ v11 ∧ v11 < (List.length g3 : Int) then
        (F22_book_Book_Get (S64.f0 (rd S64.z g3 v11)) h0_0 h0_1 h0_2 h0_3 h0_4 h0_5 h0_6 g4 g5).bind fun y3 =>
        F4_lethelaw09_BookOwn_l1000021 v2 v39 v40 (List.length y3.2.2.2.2.2.2.2.2.2.2.2.1 : Int) 0 y3.2.2.1 y3.2.2.2.1 y3.2.2.2.2.1 y3.2.2.2.2.2.1 y3.2.2.2.2.2.2.1 y3.2.2.2.2.2.2.2.1 y3.2.2.2.2.2.2.2.2.1 h1_0 h1_1 h1_2 h1_3 h1_4 h1_5 h1_6 g2 g3 y3.1 y3.2.2.2.2.2.2.2.2.2.1 y3.2.2.2.2.2.2.2.2.2.2.1 g6 g7 y3.2.2.2.2.2.2.2.2.2.2.2.1
      else
        none :=
  (run_eq _ _ _ _).trans (by kernel_rfl)
theorem F4_lethelaw09_BookOwn_l30_eq (v16 : Int) (v18 : Int) (h0_0 : Int) (h0_1 : Int) (h0_2 : Int) (h0_3 : Int) (h0_4 : Int) (h0_5 : Int) (h0_6 : Int) (h1_0 : Int) (h1_1 : Int) (h1_2 : Int) (h1_3 : Int) (h1_4 : Int) (h1_5 : Int) (h1_6 : Int) (g2 : (MapD ByteArray S64)) (g3 : (MapD ByteArray S89)) (g4 : (MapD ByteArray S64)) (g5 : (MapD ByteArray S89)) : F4_lethelaw09_BookOwn_l30 v16 v18 h0_0 h0_1 h0_2 h0_3 h0_4 h0_5 h0_6 h1_0 h1_1 h1_2 h1_3 h1_4 h1_5 h1_6 g2 g3 g4 g5 =
    if v16 = v18 then
      (F21_book_Book_All h0_0 h0_1 h0_2 h0_3 h0_4 h0_5 h0_6 g2 g3).bind fun y1 =>
      (F21_book_Book_All h1_0 h1_1 h1_2 h1_3 h1_4 h1_5 h1_6 g4 g5).bind fun y2 =>
      (F24_letheref05_LikeAll y1.2.2.2.2.2.2.2.2.2.1 y2.2.2.2.2.2.2.2.2.2.1).bind fun y3 =>
      some (y3.1, ())
    else
      some (false, ()) :=
  (run_eq _ _ _ _).trans (by kernel_rfl)
theorem F4_lethelaw09_BookOwn_l1000021_eq (v2 : (List S131)) (v39 : Int) (v40 : Int) (v73 : Int) (v74 : Int) (h0_0 : Int) (h0_1 : Int) (h0_2 : Int) (h0_3 : Int) (h0_4 : Int) (h0_5 : Int) (h0_6 : Int) (h1_0 : Int) (h1_1 : Int) (h1_2 : Int) (h1_3 : Int) (h1_4 : Int) (h1_5 : Int) (h1_6 : Int) (g2 : (List S64)) (g3 : (List S64)) (h4_0 : ByteArray) (g5 : (MapD ByteArray S64)) (g6 : (MapD ByteArray S89)) (g7 : (MapD ByteArray S64)) (g8 : (MapD ByteArray S89)) (g9 : (List S66)) : F4_lethelaw09_BookOwn_l1000021 v2 v39 v40 v73 v74 h0_0 h0_1 h0_2 h0_3 h0_4 h0_5 h0_6 h1_0 h1_1 h1_2 h1_3 h1_4 h1_5 h1_6 g2 g3 h4_0 g5 g6 g7 g8 g9 =
    if v74 < v73 then
      if (0 : Int) ≤ v74 ∧ v74 < (List.length g9 : Int) then
        let e1 : (List S66) := List.set g9 (Int.toNat v74) (S66.mk (-1) (S66.f1 (rd S66.z g9 v74)) (S66.f2 (rd S66.z g9 v74)))
        F4_lethelaw09_BookOwn_l1000021 v2 v39 v40 v73 (IntKind.i64.wrap (v74 + (1 : Int))) h0_0 h0_1 h0_2 h0_3 h0_4 h0_5 h0_6 h1_0 h1_1 h1_2 h1_3 h1_4 h1_5 h1_6 g2 g3 h4_0 g5 g6 g7 g8 e1
      else
        none
    else
      F4_lethelaw09_BookOwn_l1000012 v2 v39 (IntKind.i64.wrap (v40 + (1 : Int))) h0_0 h0_1 h0_2 h0_3 h0_4 h0_5 h0_6 h1_0 h1_1 h1_2 h1_3 h1_4 h1_5 h1_6 g2 g3 g5 g6 g7 g8 :=
  (run_eq _ _ _ _).trans (by kernel_rfl)
theorem F4_lethelaw09_BookOwn_l1000012_1_eq (v2 : (List S131)) (v39 : Int) (v40 : Int) (h0_0 : Int) (h0_1 : Int) (h0_2 : Int) (h0_3 : Int) (h0_4 : Int) (h0_5 : Int) (h0_6 : Int) (h1_0 : Int) (h1_1 : Int) (h1_2 : Int) (h1_3 : Int) (h1_4 : Int) (h1_5 : Int) (h1_6 : Int) (g2 : (List S64)) (g3 : (List S64)) (g4 : (MapD ByteArray S64)) (g5 : (MapD ByteArray S89)) (g6 : (MapD ByteArray S64)) (g7 : (MapD ByteArray S89)) : F4_lethelaw09_BookOwn_l1000012_1 v2 v39 v40 h0_0 h0_1 h0_2 h0_3 h0_4 h0_5 h0_6 h1_0 h1_1 h1_2 h1_3 h1_4 h1_5 h1_6 g2 g3 g4 g5 g6 g7 =
    if v40 < v39 then
      if (0 : Int) ≤ v40 ∧ v40 < (List.length g3 : Int) then
        F4_lethelaw09_BookOwn_l1000015_1 v2 v40 v39 v40 (List.length (S64.f1 (rd S64.z g3 v40)) : Int) 0 h0_0 h0_1 h0_2 h0_3 h0_4 h0_5 h0_6 h1_0 h1_1 h1_2 h1_3 h1_4 h1_5 h1_6 g2 g3 g4 g5 g6 g7
      else
        none
    else
      (F23_book_Book_Play v2 h1_0 h1_1 h1_2 h1_3 h1_4 h1_5 h1_6 g6 g7).bind fun y1 =>
      if y1.1 = true then
        (F21_book_Book_All h0_0 h0_1 h0_2 h0_3 h0_4 h0_5 h0_6 g4 g5).bind fun y2 =>
        (F24_letheref05_LikeAll y2.2.2.2.2.2.2.2.2.2.1 g2).bind fun y3 =>
        if (!y3.1) = true then
          some (false, ())
        else
          (F23_book_Book_Play v2 y2.1 y2.2.1 y2.2.2.1 y2.2.2.2.1 y2.2.2.2.2.1 y2.2.2.2.2.2.1 y2.2.2.2.2.2.2.1 y2.2.2.2.2.2.2.2.1 y2.2.2.2.2.2.2.2.2.1).bind fun y4 =>
          if y4.1 = true then
            F4_lethelaw09_BookOwn_l30 y1.2.1 y4.2.1 y4.2.2.2.1 y4.2.2.2.2.1 y4.2.2.2.2.2.1 y4.2.2.2.2.2.2.1 y4.2.2.2.2.2.2.2.1 y4.2.2.2.2.2.2.2.2.1 y4.2.2.2.2.2.2.2.2.2.1 y1.2.2.2.1 y1.2.2.2.2.1 y1.2.2.2.2.2.1 y1.2.2.2.2.2.2.1 y1.2.2.2.2.2.2.2.1 y1.2.2.2.2.2.2.2.2.1 y1.2.2.2.2.2.2.2.2.2.1 y4.2.2.2.2.2.2.2.2.2.2.1 y4.2.2.2.2.2.2.2.2.2.2.2.1 y1.2.2.2.2.2.2.2.2.2.2.1 y1.2.2.2.2.2.2.2.2.2.2.2.1
          else
            F4_lethelaw09_BookOwn_l30 y1.2.1 y4.2.2.2.2.2.2.2.2.2.2.2.2.1 y4.2.2.2.2.2.2.2.2.2.2.2.2.2.2.1 y4.2.2.2.2.2.2.2.2.2.2.2.2.2.2.2.1 y4.2.2.2.2.2.2.2.2.2.2.2.2.2.2.2.2.1 y4.2.2.2.2.2.2.2.2.2.2.2.2.2.2.2.2.2.1 y4.2.2.2.2.2.2.2.2.2.2.2.2.2.2.2.2.2.2.1 y4.2.2.2.2.2.2.2.2.2.2.2.2.2.2.2.2.2.2.2.1 y4.2.2.2.2.2.2.2.2.2.2.2.2.2.2.2.2.2.2.2.2.1 y1.2.2.2.1 y1.2.2.2.2.1 y1.2.2.2.2.2.1 y1.2.2.2.2.2.2.1 y1.2.2.2.2.2.2.2.1 y1.2.2.2.2.2.2.2.2.1 y1.2.2.2.2.2.2.2.2.2.1 y4.2.2.2.2.2.2.2.2.2.2.2.2.2.2.2.2.2.2.2.2.2.2.2.1 y4.2.2.2.2.2.2.2.2.2.2.2.2.2.2.2.2.2.2.2.2.2.2.2.2.1 y1.2.2.2.2.2.2.2.2.2.2.1 y1.2.2.2.2.2.2.2.2.2.2.2.1
      else
        (F21_book_Book_All h0_0 h0_1 h0_2 h0_3 h0_4 h0_5 h0_6 g4 g5).bind fun y5 =>
        (F24_letheref05_LikeAll y5.2.2.2.2.2.2.2.2.2.1 g2).bind fun y6 =>
        if (!y6.1) = true then
          some (false, ())
        else
          (F23_book_Book_Play v2 y5.1 y5.2.1 y5.2.2.1 y5.2.2.2.1 y5.2.2.2.2.1 y5.2.2.2.2.2.1 y5.2.2.2.2.2.2.1 y5.2.2.2.2.2.2.2.1 y5.2.2.2.2.2.2.2.2.1).bind fun y7 =>
          if y7.1 = true then
            F4_lethelaw09_BookOwn_l30 y1.2.2.2.2.2.2.2.2.2.2.2.2.1 y7.2.1 y7.2.2.2.1 y7.2.2.2.2.1 y7.2.2.2.2.2.1 y7.2.2.2.2.2.2.1 y7.2.2.2.2.2.2.2.1 y7.2.2.2.2.2.2.2.2.1 y7.2.2.2.2.2.2.2.2.2.1 y1.2.2.2.2.2.2.2.2.2.2.2.2.2.2.1 y1.2.2.2.2.2.2.2.2.2.2.2.2.2.2.2.1 y1.2.2.2.2.2.2.2.2.2.2.2.2.2.2.2.2.1 y1.2.2.2.2.2.2.2.2.2.2.2.2.2.2.2.2.2.1 y1.2.2.2.2.2.2.2.2.2.2.2.2.2.2.2.2.2.2.1 y1.2.2.2.2.2.2.2.2.2.2.2.2.2.2.2.2.2.2.2.1 y1.2.2.2.2.2.2.2.2.2.2.2.2.2.2.2.2.2.2.2.2.1 y7.2.2.2.2.2.2.2.2.2.2.1 y7.2.2.2.2.2.2.2.2.2.2.2.1 y1.2.2.2.2.2.2.2.2.2.2.2.2.2.2.2.2.2.2.2.2.2.2.2.1 y1.2.2.2.2.2.2.2.2.2.2.2.2.2.2.2.2.2.2.2.2.2.2.2.2.1
          else
            F4_lethelaw09_BookOwn_l30 y1.2.2.2.2.2.2.2.2.2.2.2.2.1 y7.2.2.2.2.2.2.2.2.2.2.2.2.1 y7.2.2.2.2.2.2.2.2.2.2.2.2.2.2.1 y7.2.2.2.2.2.2.2.2.2.2.2.2.2.2.2.1 y7.2.2.2.2.2.2.2.2.2.2.2.2.2.2.2.2.1 y7.2.2.2.2.2.2.2.2.2.2.2.2.2.2.2.2.2.1 y7.2.2.2.2.2.2.2.2.2.2.2.2.2.2.2.2.2.2.1 y7.2.2.2.2.2.2.2.2.2.2.2.2.2.2.2.2.2.2.2.1 y7.2.2.2.2.2.2.2.2.2.2.2.2.2.2.2.2.2.2.2.2.1 y1.2.2.2.2.2.2.2.2.2.2.2.2.2.2.1 y1.2.2.2.2.2.2.2.2.2.2.2.2.2.2.2.1 y1.2.2.2.2.2.2.2.2.2.2.2.2.2.2.2.2.1 y1.2.2.2.2.2.2.2.2.2.2.2.2.2.2.2.2.2.1 y1.2.2.2.2.2.2.2.2.2.2.2.2.2.2.2.2.2.2.1 y1.2.2.2.2.2.2.2.2.2.2.2.2.2.2.2.2.2.2.2.1 y1.2.2.2.2.2.2.2.2.2.2.2.2.2.2.2.2.2.2.2.2.1 y7.2.2.2.2.2.2.2.2.2.2.2.2.2.2.2.2.2.2.2.2.2.2.2.1 y7.2.2.2.2.2.2.2.2.2.2.2.2.2.2.2.2.2.2.2.2.2.2.2.2.1 y1.2.2.2.2.2.2.2.2.2.2.2.2.2.2.2.2.2.2.2.2.2.2.2.1 y1.2.2.2.2.2.2.2.2.2.2.2.2.2.2.2.2.2.2.2.2.2.2.2.2.1 :=
  (run_eq _ _ _ _).trans (by kernel_rfl)
theorem F4_lethelaw09_BookOwn_l1000015_1_eq (v2 : (List S131)) (v11 : Int) (v39 : Int) (v40 : Int) (v48 : Int) (v49 : Int) (h0_0 : Int) (h0_1 : Int) (h0_2 : Int) (h0_3 : Int) (h0_4 : Int) (h0_5 : Int) (h0_6 : Int) (h1_0 : Int) (h1_1 : Int) (h1_2 : Int) (h1_3 : Int) (h1_4 : Int) (h1_5 : Int) (h1_6 : Int) (g2 : (List S64)) (g3 : (List S64)) (g4 : (MapD ByteArray S64)) (g5 : (MapD ByteArray S89)) (g6 : (MapD ByteArray S64)) (g7 : (MapD ByteArray S89)) : F4_lethelaw09_BookOwn_l1000015_1 v2 v11 v39 v40 v48 v49 h0_0 h0_1 h0_2 h0_3 h0_4 h0_5 h0_6 h1_0 h1_1 h1_2 h1_3 h1_4 h1_5 h1_6 g2 g3 g4 g5 g6 g7 =
    if v49 < v48 then
      if (0 : Int) ≤ v11 ∧ v11 < (List.length g3 : Int) then
        if (0 : Int) ≤ v49 ∧ v49 < (List.length (S64.f1 (rd S64.z g3 v11)) : Int) then
          let e1 : (List S66) := List.set (S64.f1 (rd S64.z g3 v11)) (Int.toNat v49) (S66.mk (S66.f0 (rd S66.z (S64.f1 (rd S64.z g3 v11)) v49)) (ByteArray.mk #[115, 112, 111, 105, 108, 116]) (S66.f2 (rd S66.z (S64.f1 (rd S64.z g3 v11)) v49)))
          let e2 : (List S64) := List.set g3 (Int.toNat v11) (S64.mk (S64.f0 (rd S64.z g3 v11)) e1)
          F4_lethelaw09_BookOwn_l1000015_1 v2 v11 v39 v40 v48 (IntKind.i64.wrap (v49 + (1 : Int))) h0_0 h0_1 h0_2 h0_3 h0_4 h0_5 h0_6 h1_0 h1_1 h1_2 h1_3 h1_4 h1_5 h1_6 g2 e2 g4 g5 g6 g7
        else
          none
      else
        none
    else
      if (0 : Int) ≤ v11 ∧ v11 < (List.length g3 : Int) then
        (F22_book_Book_Get (S64.f0 (rd S64.z g3 v11)) h0_0 h0_1 h0_2 h0_3 h0_4 h0_5 h0_6 g4 g5).bind fun y3 =>
        F4_lethelaw09_BookOwn_l1000021_1 v2 v39 v40 (List.length y3.2.2.2.2.2.2.2.2.2.2.2.1 : Int) 0 y3.2.2.1 y3.2.2.2.1 y3.2.2.2.2.1 y3.2.2.2.2.2.1 y3.2.2.2.2.2.2.1 y3.2.2.2.2.2.2.2.1 y3.2.2.2.2.2.2.2.2.1 h1_0 h1_1 h1_2 h1_3 h1_4 h1_5 h1_6 g2 g3 y3.1 y3.2.2.2.2.2.2.2.2.2.1 y3.2.2.2.2.2.2.2.2.2.2.1 g6 g7 y3.2.2.2.2.2.2.2.2.2.2.2.1
      else
        none :=
  (run_eq _ _ _ _).trans (by kernel_rfl)
theorem F4_lethelaw09_BookOwn_l1000021_1_eq (v2 : (List S131)) (v39 : Int) (v40 : Int) (v73 : Int) (v74 : Int) (h0_0 : Int) (h0_1 : Int) (h0_2 : Int) (h0_3 : Int) (h0_4 : Int) (h0_5 : Int) (h0_6 : Int) (h1_0 : Int) (h1_1 : Int) (h1_2 : Int) (h1_3 : Int) (h1_4 : Int) (h1_5 : Int) (h1_6 : Int) (g2 : (List S64)) (g3 : (List S64)) (h4_0 : ByteArray) (g5 : (MapD ByteArray S64)) (g6 : (MapD ByteArray S89)) (g7 : (MapD ByteArray S64)) (g8 : (MapD ByteArray S89)) (g9 : (List S66)) : F4_lethelaw09_BookOwn_l1000021_1 v2 v39 v40 v73 v74 h0_0 h0_1 h0_2 h0_3 h0_4 h0_5 h0_6 h1_0 h1_1 h1_2 h1_3 h1_4 h1_5 h1_6 g2 g3 h4_0 g5 g6 g7 g8 g9 =
    if v74 < v73 then
      if (0 : Int) ≤ v74 ∧ v74 < (List.length g9 : Int) then
        let e1 : (List S66) := List.set g9 (Int.toNat v74) (S66.mk (-1) (S66.f1 (rd S66.z g9 v74)) (S66.f2 (rd S66.z g9 v74)))
        F4_lethelaw09_BookOwn_l1000021_1 v2 v39 v40 v73 (IntKind.i64.wrap (v74 + (1 : Int))) h0_0 h0_1 h0_2 h0_3 h0_4 h0_5 h0_6 h1_0 h1_1 h1_2 h1_3 h1_4 h1_5 h1_6 g2 g3 h4_0 g5 g6 g7 g8 e1
      else
        none
    else
      F4_lethelaw09_BookOwn_l1000012_1 v2 v39 (IntKind.i64.wrap (v40 + (1 : Int))) h0_0 h0_1 h0_2 h0_3 h0_4 h0_5 h0_6 h1_0 h1_1 h1_2 h1_3 h1_4 h1_5 h1_6 g2 g3 g5 g6 g7 g8 :=
  (run_eq _ _ _ _).trans (by kernel_rfl)
theorem F18_lethelaw09_made_eq (x0_0 : Int) (x0_1 : Int) (x0_2 : Int) (x0_3 : Int) (x0_4 : Int) (x0_5 : Int) (x0_6 : Int) (x1 : (List (List S131))) : F18_lethelaw09_made x0_0 x0_1 x0_2 x0_3 x0_4 x0_5 x0_6 x1 =
    (F34_book_New x0_0 x0_1 x0_2 x0_3 x0_4 x0_5 x0_6).bind fun y1 =>
    if y1.1 = true then
      if ¬ y1.2.1 = (0 : Int) then
        some (true, 0, 0, 0, 0, 0, 0, 0, MapD.nil, MapD.nil, ())
      else
        some (true, 0, 0, 0, 0, 0, 0, 0, MapD.nil, MapD.nil, ())
    else
      if ¬ y1.2.2.1 = (0 : Int) then
        some (true, 0, 0, 0, 0, 0, 0, 0, MapD.nil, MapD.nil, ())
      else
        F18_lethelaw09_made_l1000005 x1 (List.length x1 : Int) 0 y1.2.2.2.1 y1.2.2.2.2.1 y1.2.2.2.2.2.1 y1.2.2.2.2.2.2.1 y1.2.2.2.2.2.2.2.1 y1.2.2.2.2.2.2.2.2.1 y1.2.2.2.2.2.2.2.2.2.1 y1.2.2.2.2.2.2.2.2.2.2.1 y1.2.2.2.2.2.2.2.2.2.2.2.1 :=
  (F_eq (G := G) rfl fn1 rfl _).trans ((run_eq _ _ _ _).trans (by kernel_rfl))
theorem F18_lethelaw09_made_l1000005_eq (v20 : (List (List S131))) (v21 : Int) (v22 : Int) (h0_0 : Int) (h0_1 : Int) (h0_2 : Int) (h0_3 : Int) (h0_4 : Int) (h0_5 : Int) (h0_6 : Int) (g1 : (MapD ByteArray S64)) (g2 : (MapD ByteArray S89)) : F18_lethelaw09_made_l1000005 v20 v21 v22 h0_0 h0_1 h0_2 h0_3 h0_4 h0_5 h0_6 g1 g2 =
    if v22 < v21 then
      if (0 : Int) ≤ v22 ∧ v22 < (List.length v20 : Int) then
        if (40 : Int) ≤ v22 then
          some (false, h0_0, h0_1, h0_2, h0_3, h0_4, h0_5, h0_6, g1, g2, ())
        else
          (F23_book_Book_Play (rd [] v20 v22) h0_0 h0_1 h0_2 h0_3 h0_4 h0_5 h0_6 g1 g2).bind fun y1 =>
          if y1.1 = true then
            F18_lethelaw09_made_l1000005 v20 v21 (IntKind.i64.wrap (v22 + (1 : Int))) y1.2.2.2.1 y1.2.2.2.2.1 y1.2.2.2.2.2.1 y1.2.2.2.2.2.2.1 y1.2.2.2.2.2.2.2.1 y1.2.2.2.2.2.2.2.2.1 y1.2.2.2.2.2.2.2.2.2.1 y1.2.2.2.2.2.2.2.2.2.2.1 y1.2.2.2.2.2.2.2.2.2.2.2.1
          else
            F18_lethelaw09_made_l1000005 v20 v21 (IntKind.i64.wrap (v22 + (1 : Int))) y1.2.2.2.2.2.2.2.2.2.2.2.2.2.2.1 y1.2.2.2.2.2.2.2.2.2.2.2.2.2.2.2.1 y1.2.2.2.2.2.2.2.2.2.2.2.2.2.2.2.2.1 y1.2.2.2.2.2.2.2.2.2.2.2.2.2.2.2.2.2.1 y1.2.2.2.2.2.2.2.2.2.2.2.2.2.2.2.2.2.2.1 y1.2.2.2.2.2.2.2.2.2.2.2.2.2.2.2.2.2.2.2.1 y1.2.2.2.2.2.2.2.2.2.2.2.2.2.2.2.2.2.2.2.2.1 y1.2.2.2.2.2.2.2.2.2.2.2.2.2.2.2.2.2.2.2.2.2.2.2.1 y1.2.2.2.2.2.2.2.2.2.2.2.2.2.2.2.2.2.2.2.2.2.2.2.2.1
      else
        none
    else
      some (false, h0_0, h0_1, h0_2, h0_3, h0_4, h0_5, h0_6, g1, g2, ()) :=
  (run_eq _ _ _ _).trans (by kernel_rfl)
theorem F34_book_New_eq (x0_0 : Int) (x0_1 : Int) (x0_2 : Int) (x0_3 : Int) (x0_4 : Int) (x0_5 : Int) (x0_6 : Int) : F34_book_New x0_0 x0_1 x0_2 x0_3 x0_4 x0_5 x0_6 =
    (F51_quota_Right x0_0 x0_1 x0_2 x0_3 x0_4 x0_5 x0_6).bind fun y1 =>
    if ¬ y1.1 = (0 : Int) then
      some (true, 40, 0, 0, 0, 0, 0, 0, 0, 0, MapD.nil, MapD.nil, ())
    else
      some (false, 0, 0, x0_0, x0_1, x0_2, x0_3, x0_4, x0_5, x0_6, (MapD.nil : MapD ByteArray S64), (MapD.nil : MapD ByteArray S89), ()) :=
  (F_eq (G := G) rfl fn2 rfl _).trans ((run_eq _ _ _ _).trans (by kernel_rfl))
theorem F51_quota_Right_eq (x0_0 : Int) (x0_1 : Int) (x0_2 : Int) (x0_3 : Int) (x0_4 : Int) (x0_5 : Int) (x0_6 : Int) : F51_quota_Right x0_0 x0_1 x0_2 x0_3 x0_4 x0_5 x0_6 =
    (F71_quota_in x0_0 1 64).bind fun y1 =>
    if y1.1 = true then
      (F71_quota_in x0_1 1 16).bind fun y2 =>
      if y2.1 = true then
        (F71_quota_in x0_2 0 32).bind fun y3 =>
        if y3.1 = true then
          (F71_quota_in x0_3 0 16).bind fun y4 =>
          if y4.1 = true then
            (F71_quota_in x0_4 1 4).bind fun y5 =>
            if y5.1 = true then
              (F71_quota_in x0_5 1 8).bind fun y6 =>
              if y6.1 = true then
                (F71_quota_in x0_6 0 32).bind fun y7 =>
                if y7.1 = true then
                  some (0, ())
                else
                  F51_quota_Right_l3 
              else
                F51_quota_Right_l3 
            else
              F51_quota_Right_l3 
          else
            F51_quota_Right_l3 
        else
          F51_quota_Right_l3 
      else
        F51_quota_Right_l3 
    else
      F51_quota_Right_l3  :=
  (F_eq (G := G) rfl fn3 rfl _).trans ((run_eq _ _ _ _).trans (by kernel_rfl))
theorem F51_quota_Right_l3_eq  : F51_quota_Right_l3  =
    some (40, ()) :=
  (run_eq _ _ _ _).trans (by kernel_rfl)
theorem F71_quota_in_eq (x0 : Int) (x1 : Int) (x2 : Int) : F71_quota_in x0 x1 x2 =
    if x1 ≤ x0 then
      some ((decide (x0 ≤ x2)), ())
    else
      some (false, ()) :=
  (F_eq (G := G) rfl fn4 rfl _).trans ((run_eq _ _ _ _).trans (by kernel_rfl))
theorem F23_book_Book_Play_eq (x1 : (List S131)) (h0_0 : Int) (h0_1 : Int) (h0_2 : Int) (h0_3 : Int) (h0_4 : Int) (h0_5 : Int) (h0_6 : Int) (g1 : (MapD ByteArray S64)) (g2 : (MapD ByteArray S89)) : F23_book_Book_Play x1 h0_0 h0_1 h0_2 h0_3 h0_4 h0_5 h0_6 g1 g2 =
    (F40_book_Book_played x1 h0_0 h0_1 h0_2 h0_3 h0_4 h0_5 h0_6 g1 g2).bind fun y1 =>
    if y1.1 = true then
      if y1.2.1 = (0 : Int) then
        none
      else
        some (true, y1.2.1, y1.2.2.1, y1.2.2.2.1, y1.2.2.2.2.1, y1.2.2.2.2.2.1, y1.2.2.2.2.2.2.1, y1.2.2.2.2.2.2.2.1, y1.2.2.2.2.2.2.2.2.1, y1.2.2.2.2.2.2.2.2.2.1, y1.2.2.2.2.2.2.2.2.2.2.1, y1.2.2.2.2.2.2.2.2.2.2.2.1, 0, 0, 0, 0, 0, 0, 0, 0, 0, MapD.nil, MapD.nil, MapD.nil, MapD.nil, ())
    else
      if y1.2.2.2.2.2.2.2.2.2.2.2.2.1 = (0 : Int) then
        some (false, 0, 0, 0, 0, 0, 0, 0, 0, 0, MapD.nil, MapD.nil, y1.2.2.2.2.2.2.2.2.2.2.2.2.1, y1.2.2.2.2.2.2.2.2.2.2.2.2.2.1, y1.2.2.2.2.2.2.2.2.2.2.2.2.2.2.2.2.2.2.2.2.2.2.2.1, y1.2.2.2.2.2.2.2.2.2.2.2.2.2.2.2.2.2.2.2.2.2.2.2.2.1, y1.2.2.2.2.2.2.2.2.2.2.2.2.2.2.2.2.2.2.2.2.2.2.2.2.2.1, y1.2.2.2.2.2.2.2.2.2.2.2.2.2.2.2.2.2.2.2.2.2.2.2.2.2.2.1, y1.2.2.2.2.2.2.2.2.2.2.2.2.2.2.2.2.2.2.2.2.2.2.2.2.2.2.2.1, y1.2.2.2.2.2.2.2.2.2.2.2.2.2.2.2.2.2.2.2.2.2.2.2.2.2.2.2.2.1, y1.2.2.2.2.2.2.2.2.2.2.2.2.2.2.2.2.2.2.2.2.2.2.2.2.2.2.2.2.2.1, y1.2.2.2.2.2.2.2.2.2.2.2.2.2.2.2.2.2.2.2.2.2.1, y1.2.2.2.2.2.2.2.2.2.2.2.2.2.2.2.2.2.2.2.2.2.2.1, y1.2.2.2.2.2.2.2.2.2.2.2.2.2.2.2.2.2.2.2.2.2.2.2.2.2.2.2.2.2.2.1, y1.2.2.2.2.2.2.2.2.2.2.2.2.2.2.2.2.2.2.2.2.2.2.2.2.2.2.2.2.2.2.2.1, ())
      else
        some (true, y1.2.2.2.2.2.2.2.2.2.2.2.2.1, y1.2.2.2.2.2.2.2.2.2.2.2.2.2.1, y1.2.2.2.2.2.2.2.2.2.2.2.2.2.2.1, y1.2.2.2.2.2.2.2.2.2.2.2.2.2.2.2.1, y1.2.2.2.2.2.2.2.2.2.2.2.2.2.2.2.2.1, y1.2.2.2.2.2.2.2.2.2.2.2.2.2.2.2.2.2.1, y1.2.2.2.2.2.2.2.2.2.2.2.2.2.2.2.2.2.2.1, y1.2.2.2.2.2.2.2.2.2.2.2.2.2.2.2.2.2.2.2.1, y1.2.2.2.2.2.2.2.2.2.2.2.2.2.2.2.2.2.2.2.2.1, y1.2.2.2.2.2.2.2.2.2.2.2.2.2.2.2.2.2.2.2.2.2.1, y1.2.2.2.2.2.2.2.2.2.2.2.2.2.2.2.2.2.2.2.2.2.2.1, 0, 0, 0, 0, 0, 0, 0, 0, 0, MapD.nil, MapD.nil, MapD.nil, MapD.nil, ()) :=
  (F_eq (G := G) rfl fn5 rfl _).trans ((run_eq _ _ _ _).trans (by kernel_rfl))
theorem F40_book_Book_played_eq (x1 : (List S131)) (h0_0 : Int) (h0_1 : Int) (h0_2 : Int) (h0_3 : Int) (h0_4 : Int) (h0_5 : Int) (h0_6 : Int) (g1 : (MapD ByteArray S64)) (g2 : (MapD ByteArray S89)) : F40_book_Book_played x1 h0_0 h0_1 h0_2 h0_3 h0_4 h0_5 h0_6 g1 g2 =
    if (List.length x1 : Int) = (0 : Int) then
      some (true, 7, (-1), h0_0, h0_1, h0_2, h0_3, h0_4, h0_5, h0_6, g1, g2, 0, 0, 0, 0, 0, 0, 0, 0, 0, MapD.nil, MapD.nil, 0, 0, 0, 0, 0, 0, 0, MapD.nil, MapD.nil, ())
    else
      if h0_5 < (List.length x1 : Int) then
        some (true, 7, (-1), h0_0, h0_1, h0_2, h0_3, h0_4, h0_5, h0_6, g1, g2, 0, 0, 0, 0, 0, 0, 0, 0, 0, MapD.nil, MapD.nil, 0, 0, 0, 0, 0, 0, 0, MapD.nil, MapD.nil, ())
      else
        (F20_book_Book_Copy h0_0 h0_1 h0_2 h0_3 h0_4 h0_5 h0_6 g1 g2).bind fun y1 =>
        F40_book_Book_played_l1000005 x1 (List.length x1 : Int) 0 y1.1 y1.2.1 y1.2.2.1 y1.2.2.2.1 y1.2.2.2.2.1 y1.2.2.2.2.2.1 y1.2.2.2.2.2.2.1 y1.2.2.2.2.2.2.2.1 y1.2.2.2.2.2.2.2.2.1 y1.2.2.2.2.2.2.2.2.2.1 y1.2.2.2.2.2.2.2.2.2.2.1 y1.2.2.2.2.2.2.2.2.2.2.2.1 y1.2.2.2.2.2.2.2.2.2.2.2.2.1 y1.2.2.2.2.2.2.2.2.2.2.2.2.2.1 y1.2.2.2.2.2.2.2.2.2.2.2.2.2.2.1 y1.2.2.2.2.2.2.2.2.2.2.2.2.2.2.2.1 y1.2.2.2.2.2.2.2.2.2.2.2.2.2.2.2.2.1 y1.2.2.2.2.2.2.2.2.2.2.2.2.2.2.2.2.2.1 :=
  (F_eq (G := G) rfl fn6 rfl _).trans ((run_eq _ _ _ _).trans (by kernel_rfl))
theorem F40_book_Book_played_l1000005_eq (v26 : (List S131)) (v27 : Int) (v28 : Int) (h0_0 : Int) (h0_1 : Int) (h0_2 : Int) (h0_3 : Int) (h0_4 : Int) (h0_5 : Int) (h0_6 : Int) (g1 : (MapD ByteArray S64)) (g2 : (MapD ByteArray S89)) (h3_0 : Int) (h3_1 : Int) (h3_2 : Int) (h3_3 : Int) (h3_4 : Int) (h3_5 : Int) (h3_6 : Int) (g4 : (MapD ByteArray S64)) (g5 : (MapD ByteArray S89)) : F40_book_Book_played_l1000005 v26 v27 v28 h0_0 h0_1 h0_2 h0_3 h0_4 h0_5 h0_6 g1 g2 h3_0 h3_1 h3_2 h3_3 h3_4 h3_5 h3_6 g4 g5 =
    if v28 < v27 then
      if (0 : Int) ≤ v28 ∧ v28 < (List.length v26 : Int) then
        (F59_book_Book_call (S131.f0 (rd S131.z v26 v28)) (S131.f1 (rd S131.z v26 v28)) (S131.f2 (rd S131.z v26 v28)) (S131.f3 (rd S131.z v26 v28)) h3_0 h3_1 h3_2 h3_3 h3_4 h3_5 h3_6 g4 g5).bind fun y1 =>
        if ¬ y1.1 = (0 : Int) then
          some (true, y1.1, v28, h0_0, h0_1, h0_2, h0_3, h0_4, h0_5, h0_6, g1, g2, 0, 0, 0, 0, 0, 0, 0, 0, 0, MapD.nil, MapD.nil, 0, 0, 0, 0, 0, 0, 0, MapD.nil, MapD.nil, ())
        else
          F40_book_Book_played_l1000005 v26 v27 (IntKind.i64.wrap (v28 + (1 : Int))) h0_0 h0_1 h0_2 h0_3 h0_4 h0_5 h0_6 g1 g2 y1.2.1 y1.2.2.1 y1.2.2.2.1 y1.2.2.2.2.1 y1.2.2.2.2.2.1 y1.2.2.2.2.2.2.1 y1.2.2.2.2.2.2.2.1 y1.2.2.2.2.2.2.2.2.1 y1.2.2.2.2.2.2.2.2.2.1
      else
        none
    else
      some (false, 0, 0, 0, 0, 0, 0, 0, 0, 0, MapD.nil, MapD.nil, 0, 0, h0_0, h0_1, h0_2, h0_3, h0_4, h0_5, h0_6, g1, g2, h3_0, h3_1, h3_2, h3_3, h3_4, h3_5, h3_6, g4, g5, ()) :=
  (run_eq _ _ _ _).trans (by kernel_rfl)
theorem F20_book_Book_Copy_eq (h0_0 : Int) (h0_1 : Int) (h0_2 : Int) (h0_3 : Int) (h0_4 : Int) (h0_5 : Int) (h0_6 : Int) (g1 : (MapD ByteArray S64)) (g2 : (MapD ByteArray S89)) : F20_book_Book_Copy h0_0 h0_1 h0_2 h0_3 h0_4 h0_5 h0_6 g1 g2 =
    (F35_maps_Clone g1).bind fun y1 =>
    (F36_maps_Clone g2).bind fun y2 =>
    some (h0_0, h0_1, h0_2, h0_3, h0_4, h0_5, h0_6, y1.1, y2.1, h0_0, h0_1, h0_2, h0_3, h0_4, h0_5, h0_6, y1.2.1, y2.2.1, ()) :=
  (F_eq (G := G) rfl fn7 rfl _).trans ((run_eq _ _ _ _).trans (by kernel_rfl))
theorem F35_maps_Clone_eq (g0 : (MapD ByteArray S64)) : F35_maps_Clone g0 =
    some (g0, g0, ()) :=
  (F_giv (G := G) rfl _).trans (by kernel_rfl)
theorem F36_maps_Clone_eq (g0 : (MapD ByteArray S89)) : F36_maps_Clone g0 =
    some (g0, g0, ()) :=
  (F_giv (G := G) rfl _).trans (by kernel_rfl)
theorem F59_book_Book_call_eq (x1_0 : Int) (x1_1 : ByteArray) (x1_2 : ByteArray) (x1_3 : ByteArray) (h0_0 : Int) (h0_1 : Int) (h0_2 : Int) (h0_3 : Int) (h0_4 : Int) (h0_5 : Int) (h0_6 : Int) (g1 : (MapD ByteArray S64)) (g2 : (MapD ByteArray S89)) : F59_book_Book_call x1_0 x1_1 x1_2 x1_3 h0_0 h0_1 h0_2 h0_3 h0_4 h0_5 h0_6 g1 g2 =
    if ¬ x1_0 = (1 : Int) then
      if ¬ x1_0 = (2 : Int) then
        if ¬ (x1_0 = (3 : Int)) then
          some (8, h0_0, h0_1, h0_2, h0_3, h0_4, h0_5, h0_6, g1, g2, ())
        else
          if x1_1 = ByteArray.empty then
            some (4, h0_0, h0_1, h0_2, h0_3, h0_4, h0_5, h0_6, g1, g2, ())
          else
            if h0_1 < (ByteArray.size x1_1 : Int) then
              F59_book_Book_call_l8 h0_0 h0_1 h0_2 h0_3 h0_4 h0_5 h0_6 g1 g2
            else
              if ¬ (x1_0 = (3 : Int)) then
                if h0_2 < (ByteArray.size x1_2 : Int) then
                  F59_book_Book_call_l8 h0_0 h0_1 h0_2 h0_3 h0_4 h0_5 h0_6 g1 g2
                else
                  if h0_3 < (ByteArray.size x1_3 : Int) then
                    F59_book_Book_call_l8 h0_0 h0_1 h0_2 h0_3 h0_4 h0_5 h0_6 g1 g2
                  else
                    F59_book_Book_call_l9 (mhas keyS g1 x1_1) (decide (x1_0 = (3 : Int))) h0_0 h0_1 h0_2 h0_3 h0_4 h0_5 h0_6 g1 g2 x1_0 x1_1 x1_2 x1_3 (S64.f0 (mget keyS S64.z g1 x1_1)) (S64.f1 (mget keyS S64.z g1 x1_1))
              else
                F59_book_Book_call_l9 (mhas keyS g1 x1_1) (decide (x1_0 = (3 : Int))) h0_0 h0_1 h0_2 h0_3 h0_4 h0_5 h0_6 g1 g2 x1_0 x1_1 x1_2 x1_3 (S64.f0 (mget keyS S64.z g1 x1_1)) (S64.f1 (mget keyS S64.z g1 x1_1))
      else
        if x1_1 = ByteArray.empty then
          some (4, h0_0, h0_1, h0_2, h0_3, h0_4, h0_5, h0_6, g1, g2, ())
        else
          if h0_1 < (ByteArray.size x1_1 : Int) then
            F59_book_Book_call_l8 h0_0 h0_1 h0_2 h0_3 h0_4 h0_5 h0_6 g1 g2
          else
            if ¬ (x1_0 = (3 : Int)) then
              if h0_2 < (ByteArray.size x1_2 : Int) then
                F59_book_Book_call_l8 h0_0 h0_1 h0_2 h0_3 h0_4 h0_5 h0_6 g1 g2
              else
                if h0_3 < (ByteArray.size x1_3 : Int) then
                  F59_book_Book_call_l8 h0_0 h0_1 h0_2 h0_3 h0_4 h0_5 h0_6 g1 g2
                else
                  F59_book_Book_call_l9 (mhas keyS g1 x1_1) (decide (x1_0 = (3 : Int))) h0_0 h0_1 h0_2 h0_3 h0_4 h0_5 h0_6 g1 g2 x1_0 x1_1 x1_2 x1_3 (S64.f0 (mget keyS S64.z g1 x1_1)) (S64.f1 (mget keyS S64.z g1 x1_1))
            else
              F59_book_Book_call_l9 (mhas keyS g1 x1_1) (decide (x1_0 = (3 : Int))) h0_0 h0_1 h0_2 h0_3 h0_4 h0_5 h0_6 g1 g2 x1_0 x1_1 x1_2 x1_3 (S64.f0 (mget keyS S64.z g1 x1_1)) (S64.f1 (mget keyS S64.z g1 x1_1))
    else
      if x1_1 = ByteArray.empty then
        some (4, h0_0, h0_1, h0_2, h0_3, h0_4, h0_5, h0_6, g1, g2, ())
      else
        if h0_1 < (ByteArray.size x1_1 : Int) then
          F59_book_Book_call_l8 h0_0 h0_1 h0_2 h0_3 h0_4 h0_5 h0_6 g1 g2
        else
          if ¬ (x1_0 = (3 : Int)) then
            if h0_2 < (ByteArray.size x1_2 : Int) then
              F59_book_Book_call_l8 h0_0 h0_1 h0_2 h0_3 h0_4 h0_5 h0_6 g1 g2
            else
              if h0_3 < (ByteArray.size x1_3 : Int) then
                F59_book_Book_call_l8 h0_0 h0_1 h0_2 h0_3 h0_4 h0_5 h0_6 g1 g2
              else
                F59_book_Book_call_l9 (mhas keyS g1 x1_1) (decide (x1_0 = (3 : Int))) h0_0 h0_1 h0_2 h0_3 h0_4 h0_5 h0_6 g1 g2 x1_0 x1_1 x1_2 x1_3 (S64.f0 (mget keyS S64.z g1 x1_1)) (S64.f1 (mget keyS S64.z g1 x1_1))
          else
            F59_book_Book_call_l9 (mhas keyS g1 x1_1) (decide (x1_0 = (3 : Int))) h0_0 h0_1 h0_2 h0_3 h0_4 h0_5 h0_6 g1 g2 x1_0 x1_1 x1_2 x1_3 (S64.f0 (mget keyS S64.z g1 x1_1)) (S64.f1 (mget keyS S64.z g1 x1_1)) :=
  (F_eq (G := G) rfl fn10 rfl _).trans ((run_eq _ _ _ _).trans (by kernel_rfl))
theorem F59_book_Book_call_l8_eq (h0_0 : Int) (h0_1 : Int) (h0_2 : Int) (h0_3 : Int) (h0_4 : Int) (h0_5 : Int) (h0_6 : Int) (g1 : (MapD ByteArray S64)) (g2 : (MapD ByteArray S89)) : F59_book_Book_call_l8 h0_0 h0_1 h0_2 h0_3 h0_4 h0_5 h0_6 g1 g2 =
    some (5, h0_0, h0_1, h0_2, h0_3, h0_4, h0_5, h0_6, g1, g2, ()) :=
  (run_eq _ _ _ _).trans (by kernel_rfl)
theorem F59_book_Book_call_l9_eq (v6 : Bool) (v7 : Bool) (h0_0 : Int) (h0_1 : Int) (h0_2 : Int) (h0_3 : Int) (h0_4 : Int) (h0_5 : Int) (h0_6 : Int) (g1 : (MapD ByteArray S64)) (g2 : (MapD ByteArray S89)) (h3_0 : Int) (h3_1 : ByteArray) (h3_2 : ByteArray) (h3_3 : ByteArray) (h4_0 : ByteArray) (h4_1 : (List S66)) : F59_book_Book_call_l9 v6 v7 h0_0 h0_1 h0_2 h0_3 h0_4 h0_5 h0_6 g1 g2 h3_0 h3_1 h3_2 h3_3 h4_0 h4_1 =
    if v7 = true then
      if (!v6) = true then
        some (3, h0_0, h0_1, h0_2, h0_3, h0_4, h0_5, h0_6, g1, g2, ())
      else
        F59_book_Book_call_l11 v6 v7 h0_0 h0_1 h0_2 h0_3 h0_4 h0_5 h0_6 g1 g2 h3_0 h3_1 h3_2 h3_3 h4_0 h4_1
    else
      F59_book_Book_call_l11 v6 v7 h0_0 h0_1 h0_2 h0_3 h0_4 h0_5 h0_6 g1 g2 h3_0 h3_1 h3_2 h3_3 h4_0 h4_1 :=
  (run_eq _ _ _ _).trans (by kernel_rfl)
theorem F59_book_Book_call_l11_eq (v6 : Bool) (v7 : Bool) (h0_0 : Int) (h0_1 : Int) (h0_2 : Int) (h0_3 : Int) (h0_4 : Int) (h0_5 : Int) (h0_6 : Int) (g1 : (MapD ByteArray S64)) (g2 : (MapD ByteArray S89)) (h3_0 : Int) (h3_1 : ByteArray) (h3_2 : ByteArray) (h3_3 : ByteArray) (h4_0 : ByteArray) (h4_1 : (List S66)) : F59_book_Book_call_l11 v6 v7 h0_0 h0_1 h0_2 h0_3 h0_4 h0_5 h0_6 g1 g2 h3_0 h3_1 h3_2 h3_3 h4_0 h4_1 =
    if v7 = true then
      some (0, h0_0, h0_1, h0_2, h0_3, h0_4, h0_5, h0_6, (mdel keyS g1 h3_1), g2, ())
    else
      if (!v6) = true then
        if h0_0 ≤ (mlen g1 : Int) then
          some (6, h0_0, h0_1, h0_2, h0_3, h0_4, h0_5, h0_6, g1, g2, ())
        else
          F59_book_Book_call_l16 h0_0 h0_1 h0_2 h0_3 h0_4 h0_5 h0_6 g1 g2 h3_0 h3_1 h3_2 h3_3 h4_0 h4_1
      else
        F59_book_Book_call_l16 h0_0 h0_1 h0_2 h0_3 h0_4 h0_5 h0_6 g1 g2 h3_0 h3_1 h3_2 h3_3 h4_0 h4_1 :=
  (run_eq _ _ _ _).trans (by kernel_rfl)
theorem F59_book_Book_call_l16_eq (h0_0 : Int) (h0_1 : Int) (h0_2 : Int) (h0_3 : Int) (h0_4 : Int) (h0_5 : Int) (h0_6 : Int) (g1 : (MapD ByteArray S64)) (g2 : (MapD ByteArray S89)) (h3_0 : Int) (h3_1 : ByteArray) (h3_2 : ByteArray) (h3_3 : ByteArray) (h4_0 : ByteArray) (h4_1 : (List S66)) : F59_book_Book_call_l16 h0_0 h0_1 h0_2 h0_3 h0_4 h0_5 h0_6 g1 g2 h3_0 h3_1 h3_2 h3_3 h4_0 h4_1 =
    if h3_0 = (2 : Int) then
      F59_book_Book_call_l19 h0_0 h0_1 h0_2 h0_3 h0_4 h0_5 h0_6 g1 g2 h3_0 h3_1 h3_2 h3_3 h4_0 h4_1
    else
      F59_book_Book_call_l19_1 h0_0 h0_1 h0_2 h0_3 h0_4 h0_5 h0_6 g1 g2 h3_0 h3_1 h3_2 h3_3 h4_0 h4_1 :=
  (run_eq _ _ _ _).trans (by kernel_rfl)
theorem F59_book_Book_call_l19_eq (h0_0 : Int) (h0_1 : Int) (h0_2 : Int) (h0_3 : Int) (h0_4 : Int) (h0_5 : Int) (h0_6 : Int) (g1 : (MapD ByteArray S64)) (g2 : (MapD ByteArray S89)) (h3_0 : Int) (h3_1 : ByteArray) (h3_2 : ByteArray) (h3_3 : ByteArray) (h4_0 : ByteArray) (h4_1 : (List S66)) : F59_book_Book_call_l19 h0_0 h0_1 h0_2 h0_3 h0_4 h0_5 h0_6 g1 g2 h3_0 h3_1 h3_2 h3_3 h4_0 h4_1 =
    (F76_entry_Over h0_0 h0_1 h0_2 h0_3 h0_4 h0_5 h0_6 h3_1 h4_1 h3_2 h3_3).bind fun y1 =>
    if y1.2.2.1 = (0 : Int) then
      F59_book_Book_call_l24 y1.2.2.1 h0_0 h0_1 h0_2 h0_3 h0_4 h0_5 h0_6 (mset keyS g1 h3_1 (S64.mk y1.1 y1.2.1)) (mset keyS g2 h3_2 (S89.mk ))
    else
      F59_book_Book_call_l24 y1.2.2.1 h0_0 h0_1 h0_2 h0_3 h0_4 h0_5 h0_6 g1 g2 :=
  (run_eq _ _ _ _).trans (by kernel_rfl)
theorem F59_book_Book_call_l19_1_eq (h0_0 : Int) (h0_1 : Int) (h0_2 : Int) (h0_3 : Int) (h0_4 : Int) (h0_5 : Int) (h0_6 : Int) (g1 : (MapD ByteArray S64)) (g2 : (MapD ByteArray S89)) (h3_0 : Int) (h3_1 : ByteArray) (h3_2 : ByteArray) (h3_3 : ByteArray) (h4_0 : ByteArray) (h4_1 : (List S66)) : F59_book_Book_call_l19_1 h0_0 h0_1 h0_2 h0_3 h0_4 h0_5 h0_6 g1 g2 h3_0 h3_1 h3_2 h3_3 h4_0 h4_1 =
    (F75_entry_Put h0_0 h0_1 h0_2 h0_3 h0_4 h0_5 h0_6 h3_1 h4_1 h3_2 h3_3).bind fun y1 =>
    if y1.2.2.1 = (0 : Int) then
      F59_book_Book_call_l24 y1.2.2.1 h0_0 h0_1 h0_2 h0_3 h0_4 h0_5 h0_6 (mset keyS g1 h3_1 (S64.mk y1.1 y1.2.1)) (mset keyS g2 h3_2 (S89.mk ))
    else
      F59_book_Book_call_l24 y1.2.2.1 h0_0 h0_1 h0_2 h0_3 h0_4 h0_5 h0_6 g1 g2 :=
  (run_eq _ _ _ _).trans (by kernel_rfl)
theorem F59_book_Book_call_l24_eq (v10 : Int) (h0_0 : Int) (h0_1 : Int) (h0_2 : Int) (h0_3 : Int) (h0_4 : Int) (h0_5 : Int) (h0_6 : Int) (g1 : (MapD ByteArray S64)) (g2 : (MapD ByteArray S89)) : F59_book_Book_call_l24 v10 h0_0 h0_1 h0_2 h0_3 h0_4 h0_5 h0_6 g1 g2 =
    some (v10, h0_0, h0_1, h0_2, h0_3, h0_4, h0_5, h0_6, g1, g2, ()) :=
  (run_eq _ _ _ _).trans (by kernel_rfl)
theorem F76_entry_Over_eq (x0_0 : Int) (x0_1 : Int) (x0_2 : Int) (x0_3 : Int) (x0_4 : Int) (x0_5 : Int) (x0_6 : Int) (x1_0 : ByteArray) (x1_1 : (List S66)) (x2 : ByteArray) (x3 : ByteArray) : F76_entry_Over x0_0 x0_1 x0_2 x0_3 x0_4 x0_5 x0_6 x1_0 x1_1 x2 x3 =
    (F101_entry_add x0_0 x0_1 x0_2 x0_3 x0_4 x0_5 x0_6 x1_0 x1_1 x2 x3 1).bind fun y1 =>
    some (y1.1, y1.2.1, y1.2.2.1, y1.2.2.2.1, ()) :=
  (F_eq (G := G) rfl fn11 rfl _).trans ((run_eq _ _ _ _).trans (by kernel_rfl))
theorem F75_entry_Put_eq (x0_0 : Int) (x0_1 : Int) (x0_2 : Int) (x0_3 : Int) (x0_4 : Int) (x0_5 : Int) (x0_6 : Int) (x1_0 : ByteArray) (x1_1 : (List S66)) (x2 : ByteArray) (x3 : ByteArray) : F75_entry_Put x0_0 x0_1 x0_2 x0_3 x0_4 x0_5 x0_6 x1_0 x1_1 x2 x3 =
    (F101_entry_add x0_0 x0_1 x0_2 x0_3 x0_4 x0_5 x0_6 x1_0 x1_1 x2 x3 x0_4).bind fun y1 =>
    some (y1.1, y1.2.1, y1.2.2.1, y1.2.2.2.1, ()) :=
  (F_eq (G := G) rfl fn12 rfl _).trans ((run_eq _ _ _ _).trans (by kernel_rfl))
theorem F101_entry_add_eq (x0_0 : Int) (x0_1 : Int) (x0_2 : Int) (x0_3 : Int) (x0_4 : Int) (x0_5 : Int) (x0_6 : Int) (x1_0 : ByteArray) (x1_1 : (List S66)) (x2 : ByteArray) (x3 : ByteArray) (x4 : Int) : F101_entry_add x0_0 x0_1 x0_2 x0_3 x0_4 x0_5 x0_6 x1_0 x1_1 x2 x3 x4 =
    (F117_entry_named x0_0 x0_1 x0_2 x0_3 x0_4 x0_5 x0_6 x1_0 x1_1).bind fun y1 =>
    if y1.1 = (0 : Int) then
      (F118_entry_texts x0_0 x0_1 x0_2 x0_3 x0_4 x0_5 x0_6 x2 x3).bind fun y2 =>
      if ¬ y2.1 = (0 : Int) then
        some (ByteArray.empty, [], y2.1, [], ())
      else
        (F119_entry_Last x1_0 x1_1).bind fun y3 =>
        if y3.1 = (1073741824 : Int) then
          some (ByteArray.empty, [], 2, [], ())
        else
          (F58_slices_Clone x1_1).bind fun y4 =>
          let e5 : (List S66) := [(S66.mk (IntKind.i64.wrap (y3.1 + (1 : Int))) x2 x3)]
          if (List.length y4.1 + List.length e5) * 40 ≤ 140737488355328 then
            let e6 : Int := IntKind.i64.wrap ((List.length (y4.1 ++ e5) : Int) - x4)
            let e7 : (List S66) := subL (y4.1 ++ e5) (mx 0 e6) (List.length (y4.1 ++ e5) : Int)
            if (0 : Int) ≤ (mx 0 e6) ∧ (mx 0 e6) ≤ (List.length (y4.1 ++ e5) : Int) ∧ (List.length (y4.1 ++ e5) : Int) ≤ (List.length (y4.1 ++ e5) : Int) then
              (F58_slices_Clone e7).bind fun y8 =>
              if (0 : Int) ≤ 0 ∧ (0 : Int) ≤ (mx 0 e6) ∧ (mx 0 e6) ≤ (List.length (y4.1 ++ e5) : Int) then
                (F58_slices_Clone (subL (y4.1 ++ e5) 0 (mx 0 e6))).bind fun y9 =>
                some (x1_0, y8.1, 0, y9.1, ())
              else
                none
            else
              none
          else
            none
    else
      if ¬ y1.1 = (0 : Int) then
        some (ByteArray.empty, [], y1.1, [], ())
      else
        (F119_entry_Last x1_0 x1_1).bind fun y10 =>
        if y10.1 = (1073741824 : Int) then
          some (ByteArray.empty, [], 2, [], ())
        else
          (F58_slices_Clone x1_1).bind fun y11 =>
          let e12 : (List S66) := [(S66.mk (IntKind.i64.wrap (y10.1 + (1 : Int))) x2 x3)]
          if (List.length y11.1 + List.length e12) * 40 ≤ 140737488355328 then
            let e13 : Int := IntKind.i64.wrap ((List.length (y11.1 ++ e12) : Int) - x4)
            let e14 : (List S66) := subL (y11.1 ++ e12) (mx 0 e13) (List.length (y11.1 ++ e12) : Int)
            if (0 : Int) ≤ (mx 0 e13) ∧ (mx 0 e13) ≤ (List.length (y11.1 ++ e12) : Int) ∧ (List.length (y11.1 ++ e12) : Int) ≤ (List.length (y11.1 ++ e12) : Int) then
              (F58_slices_Clone e14).bind fun y15 =>
              if (0 : Int) ≤ 0 ∧ (0 : Int) ≤ (mx 0 e13) ∧ (mx 0 e13) ≤ (List.length (y11.1 ++ e12) : Int) then
                (F58_slices_Clone (subL (y11.1 ++ e12) 0 (mx 0 e13))).bind fun y16 =>
                some (x1_0, y15.1, 0, y16.1, ())
              else
                none
            else
              none
          else
            none :=
  (F_eq (G := G) rfl fn13 rfl _).trans ((run_eq _ _ _ _).trans (by kernel_rfl))
theorem F117_entry_named_eq (x0_0 : Int) (x0_1 : Int) (x0_2 : Int) (x0_3 : Int) (x0_4 : Int) (x0_5 : Int) (x0_6 : Int) (x1_0 : ByteArray) (x1_1 : (List S66)) : F117_entry_named x0_0 x0_1 x0_2 x0_3 x0_4 x0_5 x0_6 x1_0 x1_1 =
    (F51_quota_Right x0_0 x0_1 x0_2 x0_3 x0_4 x0_5 x0_6).bind fun y1 =>
    if ¬ y1.1 = (0 : Int) then
      some (40, ())
    else
      if x1_0 = ByteArray.empty then
        some (4, ())
      else
        if x0_1 < (ByteArray.size x1_0 : Int) then
          some (5, ())
        else
          if x0_4 < (List.length x1_1 : Int) then
            some (50, ())
          else
            F117_entry_named_l1000011 0 x1_1 (List.length x1_1 : Int) 0 x0_0 x0_1 x0_2 x0_3 x0_4 x0_5 x0_6 :=
  (F_eq (G := G) rfl fn14 rfl _).trans ((run_eq _ _ _ _).trans (by kernel_rfl))
theorem F117_entry_named_l1000011_eq (v5 : Int) (v32 : (List S66)) (v33 : Int) (v34 : Int) (h0_0 : Int) (h0_1 : Int) (h0_2 : Int) (h0_3 : Int) (h0_4 : Int) (h0_5 : Int) (h0_6 : Int) : F117_entry_named_l1000011 v5 v32 v33 v34 h0_0 h0_1 h0_2 h0_3 h0_4 h0_5 h0_6 =
    if v34 < v33 then
      if (0 : Int) ≤ v34 ∧ v34 < (List.length v32 : Int) then
        if (S66.f0 (rd S66.z v32 v34)) ≤ v5 then
          some (50, ())
        else
          if (1073741824 : Int) < (S66.f0 (rd S66.z v32 v34)) then
            some (50, ())
          else
            (F118_entry_texts h0_0 h0_1 h0_2 h0_3 h0_4 h0_5 h0_6 (S66.f1 (rd S66.z v32 v34)) (S66.f2 (rd S66.z v32 v34))).bind fun y1 =>
            if ¬ y1.1 = (0 : Int) then
              some (y1.1, ())
            else
              F117_entry_named_l1000011 (S66.f0 (rd S66.z v32 v34)) v32 v33 (IntKind.i64.wrap (v34 + (1 : Int))) h0_0 h0_1 h0_2 h0_3 h0_4 h0_5 h0_6
      else
        none
    else
      some (0, ()) :=
  (run_eq _ _ _ _).trans (by kernel_rfl)
theorem F118_entry_texts_eq (x0_0 : Int) (x0_1 : Int) (x0_2 : Int) (x0_3 : Int) (x0_4 : Int) (x0_5 : Int) (x0_6 : Int) (x1 : ByteArray) (x2 : ByteArray) : F118_entry_texts x0_0 x0_1 x0_2 x0_3 x0_4 x0_5 x0_6 x1 x2 =
    if x0_2 < (ByteArray.size x1 : Int) then
      some (5, ())
    else
      if x0_3 < (ByteArray.size x2 : Int) then
        some (5, ())
      else
        some (0, ()) :=
  (F_eq (G := G) rfl fn15 rfl _).trans ((run_eq _ _ _ _).trans (by kernel_rfl))
theorem F119_entry_Last_eq (x0_0 : ByteArray) (x0_1 : (List S66)) : F119_entry_Last x0_0 x0_1 =
    if (List.length x0_1 : Int) = (0 : Int) then
      some (0, ByteArray.empty, ByteArray.empty, false, ())
    else
      let e1 : Int := IntKind.i64.wrap ((List.length x0_1 : Int) - (1 : Int))
      if (0 : Int) ≤ e1 ∧ e1 < (List.length x0_1 : Int) then
        some ((S66.f0 (rd S66.z x0_1 e1)), (S66.f1 (rd S66.z x0_1 e1)), (S66.f2 (rd S66.z x0_1 e1)), true, ())
      else
        none :=
  (F_eq (G := G) rfl fn16 rfl _).trans ((run_eq _ _ _ _).trans (by kernel_rfl))
theorem F58_slices_Clone_eq (x0 : (List S66)) : F58_slices_Clone x0 =
    if List.length x0 = 0 then
      anyO (
        some ([], ())) (
        if (0 + List.length x0) * 40 ≤ 140737488355328 then
          some (([] ++ x0), ())
        else
          none)
    else
      if (0 + List.length x0) * 40 ≤ 140737488355328 then
        some (([] ++ x0), ())
      else
        none :=
  (F_eq (G := G) rfl fn17 rfl _).trans ((run_eq _ _ _ _).trans (by kernel_rfl))
theorem F19_letheref04_Right_eq (x0_0 : Int) (x0_1 : Int) (x0_2 : Int) (x0_3 : Int) (x0_4 : Int) (x0_5 : Int) (x0_6 : Int) : F19_letheref04_Right x0_0 x0_1 x0_2 x0_3 x0_4 x0_5 x0_6 =
    if x0_0 < (1 : Int) then
      F19_letheref04_Right_l2 
    else
      if (64 : Int) < x0_0 then
        F19_letheref04_Right_l2 
      else
        if x0_1 < (1 : Int) then
          F19_letheref04_Right_l2 
        else
          if (16 : Int) < x0_1 then
            F19_letheref04_Right_l2 
          else
            if x0_2 < (0 : Int) then
              F19_letheref04_Right_l2 
            else
              if (32 : Int) < x0_2 then
                F19_letheref04_Right_l2 
              else
                if x0_3 < (0 : Int) then
                  F19_letheref04_Right_l2 
                else
                  if (16 : Int) < x0_3 then
                    F19_letheref04_Right_l2 
                  else
                    if (1 : Int) ≤ x0_4 then
                      if x0_4 ≤ (4 : Int) then
                        if (1 : Int) ≤ x0_5 then
                          if x0_5 ≤ (8 : Int) then
                            if (0 : Int) ≤ x0_6 then
                              some ((decide (x0_6 ≤ (32 : Int))), ())
                            else
                              some (false, ())
                          else
                            some (false, ())
                        else
                          some (false, ())
                      else
                        some (false, ())
                    else
                      some (false, ()) :=
  (F_eq (G := G) rfl fn18 rfl _).trans ((run_eq _ _ _ _).trans (by kernel_rfl))
theorem F19_letheref04_Right_l2_eq  : F19_letheref04_Right_l2  =
    some (false, ()) :=
  (run_eq _ _ _ _).trans (by kernel_rfl)
theorem F21_book_Book_All_eq (h0_0 : Int) (h0_1 : Int) (h0_2 : Int) (h0_3 : Int) (h0_4 : Int) (h0_5 : Int) (h0_6 : Int) (g1 : (MapD ByteArray S64)) (g2 : (MapD ByteArray S89)) : F21_book_Book_All h0_0 h0_1 h0_2 h0_3 h0_4 h0_5 h0_6 g1 g2 =
    (F37_book_Book_Names [] h0_0 h0_1 h0_2 h0_3 h0_4 h0_5 h0_6 g1 g2).bind fun y1 =>
    F21_book_Book_All_l1000003 y1.1 (List.length y1.1 : Int) 0 y1.2.1 y1.2.2.1 y1.2.2.2.1 y1.2.2.2.2.1 y1.2.2.2.2.2.1 y1.2.2.2.2.2.2.1 y1.2.2.2.2.2.2.2.1 y1.2.2.2.2.2.2.2.2.1 y1.2.2.2.2.2.2.2.2.2.1 [] :=
  (F_eq (G := G) rfl fn19 rfl _).trans ((run_eq _ _ _ _).trans (by kernel_rfl))
theorem F21_book_Book_All_l1000003_eq (v7 : (List ByteArray)) (v8 : Int) (v9 : Int) (h0_0 : Int) (h0_1 : Int) (h0_2 : Int) (h0_3 : Int) (h0_4 : Int) (h0_5 : Int) (h0_6 : Int) (g1 : (MapD ByteArray S64)) (g2 : (MapD ByteArray S89)) (g3 : (List S64)) : F21_book_Book_All_l1000003 v7 v8 v9 h0_0 h0_1 h0_2 h0_3 h0_4 h0_5 h0_6 g1 g2 g3 =
    if v9 < v8 then
      if (0 : Int) ≤ v9 ∧ v9 < (List.length v7 : Int) then
        (F38_book_clone (S64.f0 (mget keyS S64.z g1 (rd ByteArray.empty v7 v9))) (S64.f1 (mget keyS S64.z g1 (rd ByteArray.empty v7 v9)))).bind fun y1 =>
        if (List.length g3 + List.length [(S64.mk y1.1 y1.2.1)]) * 40 ≤ 140737488355328 then
          F21_book_Book_All_l1000003 v7 v8 (IntKind.i64.wrap (v9 + (1 : Int))) h0_0 h0_1 h0_2 h0_3 h0_4 h0_5 h0_6 g1 g2 (g3 ++ [(S64.mk y1.1 y1.2.1)])
        else
          none
      else
        none
    else
      (F39_slices_Clip g3).bind fun y2 =>
      some (h0_0, h0_1, h0_2, h0_3, h0_4, h0_5, h0_6, g1, g2, y2.1, ()) :=
  (run_eq _ _ _ _).trans (by kernel_rfl)
theorem F24_letheref05_LikeAll_eq (x0 : (List S64)) (x1 : (List S64)) : F24_letheref05_LikeAll x0 x1 =
    if ¬ (List.length x0 : Int) = (List.length x1 : Int) then
      some (false, ())
    else
      F24_letheref05_LikeAll_l1000004 x0 x1 (List.length x0 : Int) 0 :=
  (F_eq (G := G) rfl fn20 rfl _).trans ((run_eq _ _ _ _).trans (by kernel_rfl))
theorem F24_letheref05_LikeAll_l1000004_eq (v0 : (List S64)) (v1 : (List S64)) (v12 : Int) (v13 : Int) : F24_letheref05_LikeAll_l1000004 v0 v1 v12 v13 =
    if v13 < v12 then
      if (0 : Int) ≤ v13 ∧ v13 < (List.length v0 : Int) then
        if (0 : Int) ≤ v13 ∧ v13 < (List.length v1 : Int) then
          (F41_letheref05_Like (S64.f0 (rd S64.z v0 v13)) (S64.f1 (rd S64.z v0 v13)) (S64.f0 (rd S64.z v1 v13)) (S64.f1 (rd S64.z v1 v13))).bind fun y1 =>
          if (!y1.1) = true then
            some (false, ())
          else
            F24_letheref05_LikeAll_l1000004 v0 v1 v12 (IntKind.i64.wrap (v13 + (1 : Int)))
        else
          none
      else
        none
    else
      some (true, ()) :=
  (run_eq _ _ _ _).trans (by kernel_rfl)
theorem F22_book_Book_Get_eq (x1 : ByteArray) (h0_0 : Int) (h0_1 : Int) (h0_2 : Int) (h0_3 : Int) (h0_4 : Int) (h0_5 : Int) (h0_6 : Int) (g1 : (MapD ByteArray S64)) (g2 : (MapD ByteArray S89)) : F22_book_Book_Get x1 h0_0 h0_1 h0_2 h0_3 h0_4 h0_5 h0_6 g1 g2 =
    (F38_book_clone (S64.f0 (mget keyS S64.z g1 x1)) (S64.f1 (mget keyS S64.z g1 x1))).bind fun y1 =>
    some (y1.1, (mhas keyS g1 x1), h0_0, h0_1, h0_2, h0_3, h0_4, h0_5, h0_6, g1, g2, y1.2.1, ()) :=
  (F_eq (G := G) rfl fn21 rfl _).trans ((run_eq _ _ _ _).trans (by kernel_rfl))
theorem F38_book_clone_eq (x0_0 : ByteArray) (x0_1 : (List S66)) : F38_book_clone x0_0 x0_1 =
    (F58_slices_Clone x0_1).bind fun y1 =>
    some (x0_0, y1.1, ()) :=
  (F_eq (G := G) rfl fn22 rfl _).trans ((run_eq _ _ _ _).trans (by kernel_rfl))
theorem F41_letheref05_Like_eq (x0_0 : ByteArray) (x0_1 : (List S66)) (x1_0 : ByteArray) (x1_1 : (List S66)) : F41_letheref05_Like x0_0 x0_1 x1_0 x1_1 =
    if x0_0 = x1_0 then
      (F60_letheref05_LikeVersions x0_1 x1_1).bind fun y1 =>
      some (y1.1, ())
    else
      some (false, ()) :=
  (F_eq (G := G) rfl fn23 rfl _).trans ((run_eq _ _ _ _).trans (by kernel_rfl))
theorem F60_letheref05_LikeVersions_eq (x0 : (List S66)) (x1 : (List S66)) : F60_letheref05_LikeVersions x0 x1 =
    if ¬ (List.length x0 : Int) = (List.length x1 : Int) then
      some (false, ())
    else
      F60_letheref05_LikeVersions_l1000004 x0 x1 (List.length x0 : Int) 0 :=
  (F_eq (G := G) rfl fn24 rfl _).trans ((run_eq _ _ _ _).trans (by kernel_rfl))
theorem F60_letheref05_LikeVersions_l1000004_eq (v0 : (List S66)) (v1 : (List S66)) (v12 : Int) (v13 : Int) : F60_letheref05_LikeVersions_l1000004 v0 v1 v12 v13 =
    if v13 < v12 then
      if (0 : Int) ≤ v13 ∧ v13 < (List.length v0 : Int) then
        if (0 : Int) ≤ v13 ∧ v13 < (List.length v1 : Int) then
          if ¬ ((S66.f0 (rd S66.z v0 v13)) = (S66.f0 (rd S66.z v1 v13)) ∧ (S66.f1 (rd S66.z v0 v13)) = (S66.f1 (rd S66.z v1 v13)) ∧ (S66.f2 (rd S66.z v0 v13)) = (S66.f2 (rd S66.z v1 v13)) ∧ True) then
            some (false, ())
          else
            F60_letheref05_LikeVersions_l1000004 v0 v1 v12 (IntKind.i64.wrap (v13 + (1 : Int)))
        else
          none
      else
        none
    else
      some (true, ()) :=
  (run_eq _ _ _ _).trans (by kernel_rfl)
theorem F37_book_Book_Names_eq (x1 : (List ByteArray)) (h0_0 : Int) (h0_1 : Int) (h0_2 : Int) (h0_3 : Int) (h0_4 : Int) (h0_5 : Int) (h0_6 : Int) (g1 : (MapD ByteArray S64)) (g2 : (MapD ByteArray S89)) : F37_book_Book_Names x1 h0_0 h0_1 h0_2 h0_3 h0_4 h0_5 h0_6 g1 g2 =
    F37_book_Book_Names_l1000003 x1 h0_0 h0_1 h0_2 h0_3 h0_4 h0_5 h0_6 g1 g2 [] (mbeg g1) :=
  (F_eq (G := G) rfl fn25 rfl _).trans ((run_eq _ _ _ _).trans (by kernel_rfl))
theorem F37_book_Book_Names_l1000003_eq (v1 : (List ByteArray)) (h0_0 : Int) (h0_1 : Int) (h0_2 : Int) (h0_3 : Int) (h0_4 : Int) (h0_5 : Int) (h0_6 : Int) (g1 : (MapD ByteArray S64)) (g2 : (MapD ByteArray S89)) (g3 : (List ByteArray)) (g4 : ItD) : F37_book_Book_Names_l1000003 v1 h0_0 h0_1 h0_2 h0_3 h0_4 h0_5 h0_6 g1 g2 g3 g4 =
    if mcalm g1 g4 then
      if List.length (mleft g1 g4) = 0 then
        (F56_slices_Sort g3).bind fun y2 =>
        (F57_slices_Clip y2.1).bind fun y3 =>
        some (y3.1, h0_0, h0_1, h0_2, h0_3, h0_4, h0_5, h0_6, g1, g2, ())
      else
        allO (List.length (mleft g1 g4)) fun n1 =>
        let e4 : ByteArray := ckey ByteArray.empty g1 (msee g4 (mleft g1 g4) n1)
        if mat g1 (msee g4 (mleft g1 g4) n1) then
          if (List.length v1 : Int) = (0 : Int) then
            if (List.length g3 + List.length [e4]) * 16 ≤ 140737488355328 then
              F37_book_Book_Names_l1000003 v1 h0_0 h0_1 h0_2 h0_3 h0_4 h0_5 h0_6 g1 g2 (g3 ++ [e4]) (msee g4 (mleft g1 g4) n1)
            else
              none
          else
            (F53_slices_ContainsFunc_54 v1 e4).bind fun y5 =>
            if y5.1 = true then
              if (List.length g3 + List.length [y5.2.1]) * 16 ≤ 140737488355328 then
                F37_book_Book_Names_l1000003 v1 h0_0 h0_1 h0_2 h0_3 h0_4 h0_5 h0_6 g1 g2 (g3 ++ [y5.2.1]) (msee g4 (mleft g1 g4) n1)
              else
                none
            else
              F37_book_Book_Names_l1000003 v1 h0_0 h0_1 h0_2 h0_3 h0_4 h0_5 h0_6 g1 g2 g3 (msee g4 (mleft g1 g4) n1)
        else
          none
    else
      none :=
  (run_eq _ _ _ _).trans (by kernel_rfl)
theorem F39_slices_Clip_eq (g0 : (List S64)) : F39_slices_Clip g0 =
    if (List.length g0 : Int) = (List.length g0 : Int) ∧ (List.length g0 : Int) = (List.length g0 : Int) then
      some (g0, ())
    else
      none :=
  (F_eq (G := G) rfl fn26 rfl _).trans ((run_eq _ _ _ _).trans (by kernel_rfl))
theorem F56_slices_Sort_eq (g0 : (List ByteArray)) : F56_slices_Sort g0 =
    if List.length g0 < 4611686018427387904 then
      some ((sortS g0), ())
    else
      none :=
  (F_giv (G := G) rfl _).trans (by kernel_rfl)
theorem F57_slices_Clip_eq (x0 : (List ByteArray)) : F57_slices_Clip x0 =
    if (0 : Int) ≤ 0 ∧ (0 : Int) ≤ (List.length x0 : Int) ∧ (List.length x0 : Int) ≤ (List.length x0 : Int) ∧ (List.length x0 : Int) ≤ (List.length x0 : Int) then
      some ((subL x0 0 (List.length x0 : Int)), ())
    else
      none :=
  (F_eq (G := G) rfl fn28 rfl _).trans ((run_eq _ _ _ _).trans (by kernel_rfl))
theorem F53_slices_ContainsFunc_54_eq (x0 : (List ByteArray)) (h0_0 : ByteArray) : F53_slices_ContainsFunc_54 x0 h0_0 =
    (F72_slices_IndexFunc_54 x0 h0_0).bind fun y1 =>
    some ((decide ((0 : Int) ≤ y1.1)), y1.2.1, ()) :=
  (F_eq (G := G) rfl fn29 rfl _).trans ((run_eq _ _ _ _).trans (by kernel_rfl))
theorem F72_slices_IndexFunc_54_eq (x0 : (List ByteArray)) (h0_0 : ByteArray) : F72_slices_IndexFunc_54 x0 h0_0 =
    F72_slices_IndexFunc_54_l1000002 x0 (List.length x0 : Int) 0 h0_0 :=
  (F_eq (G := G) rfl fn30 rfl _).trans ((run_eq _ _ _ _).trans (by kernel_rfl))
theorem F72_slices_IndexFunc_54_l1000002_eq (v0 : (List ByteArray)) (v7 : Int) (v8 : Int) (h0_0 : ByteArray) : F72_slices_IndexFunc_54_l1000002 v0 v7 v8 h0_0 =
    if v8 < v7 then
      if (0 : Int) ≤ v8 ∧ v8 < (List.length v0 : Int) then
        (F54_book_Book_Names_1 (rd ByteArray.empty v0 v8) h0_0).bind fun y1 =>
        if y1.1 = true then
          some (v8, y1.2.1, ())
        else
          F72_slices_IndexFunc_54_l1000002 v0 v7 (IntKind.i64.wrap (v8 + (1 : Int))) y1.2.1
      else
        none
    else
      some ((-1), h0_0, ()) :=
  (run_eq _ _ _ _).trans (by kernel_rfl)
theorem F54_book_Book_Names_1_eq (x0 : ByteArray) (h0_0 : ByteArray) : F54_book_Book_Names_1 x0 h0_0 =
    (F55_strings_HasPrefix h0_0 x0).bind fun y1 =>
    some (y1.1, h0_0, ()) :=
  (F_eq (G := G) rfl fn31 rfl _).trans ((run_eq _ _ _ _).trans (by kernel_rfl))
theorem F55_strings_HasPrefix_eq (x0 : ByteArray) (x1 : ByteArray) : F55_strings_HasPrefix x0 x1 =
    (F73_stringslite_HasPrefix x0 x1).bind fun y1 =>
    some (y1.1, ()) :=
  (F_eq (G := G) rfl fn32 rfl _).trans ((run_eq _ _ _ _).trans (by kernel_rfl))
theorem F73_stringslite_HasPrefix_eq (x0 : ByteArray) (x1 : ByteArray) : F73_stringslite_HasPrefix x0 x1 =
    if (ByteArray.size x1 : Int) ≤ (ByteArray.size x0 : Int) then
      if (0 : Int) ≤ 0 ∧ (0 : Int) ≤ (ByteArray.size x1 : Int) ∧ (ByteArray.size x1 : Int) ≤ (ByteArray.size x0 : Int) then
        some ((decide ((subS x0 0 (ByteArray.size x1 : Int)) = x1)), ())
      else
        none
    else
      some (false, ()) :=
  (F_eq (G := G) rfl fn33 rfl _).trans ((run_eq _ _ _ _).trans (by kernel_rfl))
end
end Go.Proofs.Ytckafnfidjfhjaa.BookOwnx
