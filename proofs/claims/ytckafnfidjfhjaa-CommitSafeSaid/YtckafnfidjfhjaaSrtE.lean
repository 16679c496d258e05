/- The sort of numbers: what each function answers, in plain equations. Under no condition. -/
import Derived.Test.YtckafnfidjfhjaaSrtT
set_option linter.unusedVariables false
set_option maxRecDepth 100000
namespace Go.Proofs.Ytckafnfidjfhjaa.Srtx
open Go Go.RowKit Go.Proofs.Ytckafnfidjfhjaa.Rx Go.Proofs.Ytckafnfidjfhjaa.Srtx
noncomputable section
theorem F47_slices_Sort_eq (g0 : (List Int)) : F47_slices_Sort g0 =
    (F70_bits_Len (IntKind.u64.wrap (List.length g0 : Int))).bind fun y1 =>
    (F69_slices_pdqsortOrdered 0 (List.length g0 : Int) y1.1 g0).bind fun y2 =>
    some (y2.1, ()) :=
  (F_eq (G := G) rfl fn0 rfl _).trans ((run_eq _ _ _ _).trans (by kernel_rfl))
theorem F70_bits_Len_eq (x0 : Int) : F70_bits_Len x0 =
    (F91_bits_Len64 x0).bind fun y1 =>
    some (y1.1, ()) :=
  (F_eq (G := G) rfl fn1 rfl _).trans ((run_eq _ _ _ _).trans (by kernel_rfl))
theorem F69_slices_pdqsortOrdered_eq (x1 : Int) (x2 : Int) (x3 : Int) (g0 : (List Int)) : F69_slices_pdqsortOrdered x1 x2 x3 g0 =
    F69_slices_pdqsortOrdered_l1000002 x1 x2 x3 true true g0 :=
  (F_eq (G := G) rfl fn2 rfl _).trans ((run_eq _ _ _ _).trans (by kernel_rfl))
theorem F69_slices_pdqsortOrdered_l1000002_eq (v1 : Int) (v2 : Int) (v3 : Int) (v8 : Bool) (v9 : Bool) (g0 : (List Int)) : F69_slices_pdqsortOrdered_l1000002 v1 v2 v3 v8 v9 g0 =
    if (IntKind.i64.wrap (v2 - v1)) ≤ (12 : Int) then
      (F81_slices_insertionSortOrdered v1 v2 g0).bind fun y1 =>
      some (y1.1, ())
    else
      if v3 = (0 : Int) then
        (F82_slices_heapSortOrdered v1 v2 g0).bind fun y2 =>
        some (y2.1, ())
      else
        if (!v8) = true then
          (F83_slices_breakPatternsOrdered v1 v2 g0).bind fun y3 =>
          (F84_slices_choosePivotOrdered v1 v2 y3.1).bind fun y4 =>
          if y4.2.1 = (2 : Int) then
            (F85_slices_reverseRangeOrdered v1 v2 y4.2.2.1).bind fun y5 =>
            let e6 : Int := IntKind.i64.wrap ((IntKind.i64.wrap (v2 - (1 : Int))) - (IntKind.i64.wrap (y4.1 - v1)))
            F69_slices_pdqsortOrdered_l15 v1 v2 (IntKind.i64.wrap (v3 - (1 : Int))) v8 v9 (IntKind.i64.wrap (v2 - v1)) e6 1 y5.1
          else
            F69_slices_pdqsortOrdered_l15 v1 v2 (IntKind.i64.wrap (v3 - (1 : Int))) v8 v9 (IntKind.i64.wrap (v2 - v1)) y4.1 y4.2.1 y4.2.2.1
        else
          (F84_slices_choosePivotOrdered v1 v2 g0).bind fun y7 =>
          if y7.2.1 = (2 : Int) then
            (F85_slices_reverseRangeOrdered v1 v2 y7.2.2.1).bind fun y8 =>
            let e9 : Int := IntKind.i64.wrap ((IntKind.i64.wrap (v2 - (1 : Int))) - (IntKind.i64.wrap (y7.1 - v1)))
            F69_slices_pdqsortOrdered_l15 v1 v2 v3 v8 v9 (IntKind.i64.wrap (v2 - v1)) e9 1 y8.1
          else
            F69_slices_pdqsortOrdered_l15 v1 v2 v3 v8 v9 (IntKind.i64.wrap (v2 - v1)) y7.1 y7.2.1 y7.2.2.1 :=
  (run_eq _ _ _ _).trans (by kernel_rfl)
theorem F69_slices_pdqsortOrdered_l15_eq (v1 : Int) (v2 : Int) (v3 : Int) (v8 : Bool) (v9 : Bool) (v10 : Int) (v11 : Int) (v12 : Int) (g0 : (List Int)) : F69_slices_pdqsortOrdered_l15 v1 v2 v3 v8 v9 v10 v11 v12 g0 =
    if v8 = true then
      if v9 = true then
        if v12 = (1 : Int) then
          (F86_slices_partialInsertionSortOrdered v1 v2 g0).bind fun y1 =>
          if y1.1 = true then
            some (y1.2.1, ())
          else
            F69_slices_pdqsortOrdered_l17 v1 v2 v3 v8 v9 v10 v11 y1.2.1
        else
          F69_slices_pdqsortOrdered_l17 v1 v2 v3 v8 v9 v10 v11 g0
      else
        F69_slices_pdqsortOrdered_l17 v1 v2 v3 v8 v9 v10 v11 g0
    else
      F69_slices_pdqsortOrdered_l17 v1 v2 v3 v8 v9 v10 v11 g0 :=
  (run_eq _ _ _ _).trans (by kernel_rfl)
theorem F69_slices_pdqsortOrdered_l17_eq (v1 : Int) (v2 : Int) (v3 : Int) (v8 : Bool) (v9 : Bool) (v10 : Int) (v11 : Int) (g0 : (List Int)) : F69_slices_pdqsortOrdered_l17 v1 v2 v3 v8 v9 v10 v11 g0 =
    if (0 : Int) < v1 then
      if (0 : Int) ≤ (IntKind.i64.wrap (v1 - (1 : Int))) ∧ (IntKind.i64.wrap (v1 - (1 : Int))) < (List.length g0 : Int) then
        if (0 : Int) ≤ v11 ∧ v11 < (List.length g0 : Int) then
          (F87_cmp_Less (rd (0 : Int) g0 (IntKind.i64.wrap (v1 - (1 : Int)))) (rd (0 : Int) g0 v11)).bind fun y1 =>
          if (!y1.1) = true then
            (F88_slices_partitionEqualOrdered v1 v2 v11 g0).bind fun y2 =>
            F69_slices_pdqsortOrdered_l1000002 y2.1 v2 v3 v8 v9 y2.2.1
          else
            F69_slices_pdqsortOrdered_l20 v1 v2 v3 v10 v11 g0
        else
          none
      else
        none
    else
      F69_slices_pdqsortOrdered_l20 v1 v2 v3 v10 v11 g0 :=
  (run_eq _ _ _ _).trans (by kernel_rfl)
theorem F69_slices_pdqsortOrdered_l20_eq (v1 : Int) (v2 : Int) (v3 : Int) (v10 : Int) (v11 : Int) (g0 : (List Int)) : F69_slices_pdqsortOrdered_l20 v1 v2 v3 v10 v11 g0 =
    (F89_slices_partitionOrdered v1 v2 v11 g0).bind fun y1 =>
    if (IntKind.i64.wrap (y1.1 - v1)) < (IntKind.i64.wrap (v2 - y1.1)) then
      (F69_slices_pdqsortOrdered v1 y1.1 v3 y1.2.2.1).bind fun y2 =>
      F69_slices_pdqsortOrdered_l1000002 (IntKind.i64.wrap (y1.1 + (1 : Int))) v2 v3 (decide ((IntKind.i64.wrap (Int.tdiv v10 (8 : Int))) ≤ (IntKind.i64.wrap (y1.1 - v1)))) y1.2.1 y2.1
    else
      (F69_slices_pdqsortOrdered (IntKind.i64.wrap (y1.1 + (1 : Int))) v2 v3 y1.2.2.1).bind fun y3 =>
      F69_slices_pdqsortOrdered_l1000002 v1 y1.1 v3 (decide ((IntKind.i64.wrap (Int.tdiv v10 (8 : Int))) ≤ (IntKind.i64.wrap (v2 - y1.1)))) y1.2.1 y3.1 :=
  (run_eq _ _ _ _).trans (by kernel_rfl)
theorem F81_slices_insertionSortOrdered_eq (x1 : Int) (x2 : Int) (g0 : (List Int)) : F81_slices_insertionSortOrdered x1 x2 g0 =
    F81_slices_insertionSortOrdered_l1000001 x1 x2 (IntKind.i64.wrap (x1 + (1 : Int))) g0 :=
  (F_eq (G := G) rfl fn3 rfl _).trans ((run_eq _ _ _ _).trans (by kernel_rfl))
theorem F81_slices_insertionSortOrdered_l1000001_eq (v1 : Int) (v2 : Int) (v6 : Int) (g0 : (List Int)) : F81_slices_insertionSortOrdered_l1000001 v1 v2 v6 g0 =
    if v6 < v2 then
      F81_slices_insertionSortOrdered_l1000004 v1 v2 v6 v6 g0
    else
      some (g0, ()) :=
  (run_eq _ _ _ _).trans (by kernel_rfl)
theorem F81_slices_insertionSortOrdered_l1000004_eq (v1 : Int) (v2 : Int) (v6 : Int) (v7 : Int) (g0 : (List Int)) : F81_slices_insertionSortOrdered_l1000004 v1 v2 v6 v7 g0 =
    if v1 < v7 then
      if (0 : Int) ≤ v7 ∧ v7 < (List.length g0 : Int) then
        if (0 : Int) ≤ (IntKind.i64.wrap (v7 - (1 : Int))) ∧ (IntKind.i64.wrap (v7 - (1 : Int))) < (List.length g0 : Int) then
          (F87_cmp_Less (rd (0 : Int) g0 v7) (rd (0 : Int) g0 (IntKind.i64.wrap (v7 - (1 : Int))))).bind fun y1 =>
          if y1.1 = true then
            if (0 : Int) ≤ (IntKind.i64.wrap (v7 - (1 : Int))) ∧ (IntKind.i64.wrap (v7 - (1 : Int))) < (List.length g0 : Int) then
              if (0 : Int) ≤ v7 ∧ v7 < (List.length g0 : Int) then
                if (0 : Int) ≤ v7 ∧ v7 < (List.length g0 : Int) then
                  let e2 : (List Int) := List.set g0 (Int.toNat v7) (rd (0 : Int) g0 (IntKind.i64.wrap (v7 - (1 : Int))))
                  if (0 : Int) ≤ (IntKind.i64.wrap (v7 - (1 : Int))) ∧ (IntKind.i64.wrap (v7 - (1 : Int))) < (List.length e2 : Int) then
                    let e3 : (List Int) := List.set e2 (Int.toNat (IntKind.i64.wrap (v7 - (1 : Int)))) (rd (0 : Int) g0 v7)
                    F81_slices_insertionSortOrdered_l1000004 v1 v2 v6 (IntKind.i64.wrap (v7 - (1 : Int))) e3
                  else
                    none
                else
                  none
              else
                none
            else
              none
          else
            F81_slices_insertionSortOrdered_l1000001 v1 v2 (IntKind.i64.wrap (v6 + (1 : Int))) g0
        else
          none
      else
        none
    else
      F81_slices_insertionSortOrdered_l1000001 v1 v2 (IntKind.i64.wrap (v6 + (1 : Int))) g0 :=
  (run_eq _ _ _ _).trans (by kernel_rfl)
theorem F82_slices_heapSortOrdered_eq (x1 : Int) (x2 : Int) (g0 : (List Int)) : F82_slices_heapSortOrdered x1 x2 g0 =
    let e1 : Int := IntKind.i64.wrap ((IntKind.i64.wrap (x2 - x1)) - (1 : Int))
    F82_slices_heapSortOrdered_l1000004 x1 0 (IntKind.i64.wrap (x2 - x1)) (IntKind.i64.wrap (Int.tdiv e1 (2 : Int))) g0 :=
  (F_eq (G := G) rfl fn4 rfl _).trans ((run_eq _ _ _ _).trans (by kernel_rfl))
theorem F82_slices_heapSortOrdered_l1000004_eq (v6 : Int) (v7 : Int) (v8 : Int) (v9 : Int) (g0 : (List Int)) : F82_slices_heapSortOrdered_l1000004 v6 v7 v8 v9 g0 =
    if (0 : Int) ≤ v9 then
      (F107_slices_siftDownOrdered v9 v8 v6 g0).bind fun y1 =>
      F82_slices_heapSortOrdered_l1000004 v6 v7 v8 (IntKind.i64.wrap (v9 - (1 : Int))) y1.1
    else
      F82_slices_heapSortOrdered_l1000008 v6 v7 (IntKind.i64.wrap (v8 - (1 : Int))) g0 :=
  (run_eq _ _ _ _).trans (by kernel_rfl)
theorem F82_slices_heapSortOrdered_l1000008_eq (v6 : Int) (v7 : Int) (v10 : Int) (g0 : (List Int)) : F82_slices_heapSortOrdered_l1000008 v6 v7 v10 g0 =
    if (0 : Int) ≤ v10 then
      if (0 : Int) ≤ (IntKind.i64.wrap (v6 + v10)) ∧ (IntKind.i64.wrap (v6 + v10)) < (List.length g0 : Int) then
        if (0 : Int) ≤ v6 ∧ v6 < (List.length g0 : Int) then
          if (0 : Int) ≤ v6 ∧ v6 < (List.length g0 : Int) then
            let e1 : (List Int) := List.set g0 (Int.toNat v6) (rd (0 : Int) g0 (IntKind.i64.wrap (v6 + v10)))
            if (0 : Int) ≤ (IntKind.i64.wrap (v6 + v10)) ∧ (IntKind.i64.wrap (v6 + v10)) < (List.length e1 : Int) then
              let e2 : (List Int) := List.set e1 (Int.toNat (IntKind.i64.wrap (v6 + v10))) (rd (0 : Int) g0 v6)
              (F107_slices_siftDownOrdered v7 v10 v6 e2).bind fun y3 =>
              F82_slices_heapSortOrdered_l1000008 v6 v7 (IntKind.i64.wrap (v10 - (1 : Int))) y3.1
            else
              none
          else
            none
        else
          none
      else
        none
    else
      some (g0, ()) :=
  (run_eq _ _ _ _).trans (by kernel_rfl)
theorem F83_slices_breakPatternsOrdered_eq (x1 : Int) (x2 : Int) (g0 : (List Int)) : F83_slices_breakPatternsOrdered x1 x2 g0 =
    if (8 : Int) ≤ (IntKind.i64.wrap (x2 - x1)) then
      (F108_slices_nextPowerOfTwo (IntKind.i64.wrap (x2 - x1))).bind fun y1 =>
      let e2 : Int := IntKind.i64.wrap (Int.tdiv (IntKind.i64.wrap (x2 - x1)) (4 : Int))
      let e3 : Int := IntKind.i64.wrap (x1 + (IntKind.i64.wrap (e2 * (2 : Int))))
      F83_slices_breakPatternsOrdered_l1000005 x1 (IntKind.i64.wrap (x2 - x1)) y1.1 (IntKind.i64.wrap (e3 - (1 : Int))) g0 (IntKind.u64.wrap (IntKind.i64.wrap (x2 - x1)))
    else
      some (g0, ()) :=
  (F_eq (G := G) rfl fn5 rfl _).trans ((run_eq _ _ _ _).trans (by kernel_rfl))
theorem F83_slices_breakPatternsOrdered_l1000005_eq (v1 : Int) (v6 : Int) (v8 : Int) (v9 : Int) (g0 : (List Int)) (h1_0 : Int) : F83_slices_breakPatternsOrdered_l1000005 v1 v6 v8 v9 g0 h1_0 =
    let e1 : Int := IntKind.i64.wrap ((IntKind.i64.wrap (Int.tdiv v6 (4 : Int))) * (2 : Int))
    let e2 : Int := IntKind.i64.wrap ((IntKind.i64.wrap (v1 + e1)) + (1 : Int))
    if v9 ≤ e2 then
      (F109_slices_xorshift_Next h1_0).bind fun y3 =>
      let e4 : Int := bitsR .and .u64 y3.1 (IntKind.u64.wrap (v8 - (1 : Int)))
      if v6 ≤ (IntKind.i64.wrap e4) then
        let e5 : Int := IntKind.i64.wrap (v1 + (IntKind.i64.wrap ((IntKind.i64.wrap e4) - v6)))
        let e6 : Int := IntKind.i64.wrap (v1 + (IntKind.i64.wrap ((IntKind.i64.wrap e4) - v6)))
        if (0 : Int) ≤ e6 ∧ e6 < (List.length g0 : Int) then
          if (0 : Int) ≤ v9 ∧ v9 < (List.length g0 : Int) then
            if (0 : Int) ≤ v9 ∧ v9 < (List.length g0 : Int) then
              if (0 : Int) ≤ e5 ∧ e5 < (List.length (List.set g0 (Int.toNat v9) (rd (0 : Int) g0 e6)) : Int) then
                let e7 : (List Int) := List.set (List.set g0 (Int.toNat v9) (rd (0 : Int) g0 e6)) (Int.toNat e5) (rd (0 : Int) g0 v9)
                F83_slices_breakPatternsOrdered_l1000005 v1 v6 v8 (IntKind.i64.wrap (v9 + (1 : Int))) e7 y3.2.1
              else
                none
            else
              none
          else
            none
        else
          none
      else
        if (0 : Int) ≤ (IntKind.i64.wrap (v1 + (IntKind.i64.wrap e4))) ∧ (IntKind.i64.wrap (v1 + (IntKind.i64.wrap e4))) < (List.length g0 : Int) then
          if (0 : Int) ≤ v9 ∧ v9 < (List.length g0 : Int) then
            if (0 : Int) ≤ v9 ∧ v9 < (List.length g0 : Int) then
              let e8 : (List Int) := List.set g0 (Int.toNat v9) (rd (0 : Int) g0 (IntKind.i64.wrap (v1 + (IntKind.i64.wrap e4))))
              if (0 : Int) ≤ (IntKind.i64.wrap (v1 + (IntKind.i64.wrap e4))) ∧ (IntKind.i64.wrap (v1 + (IntKind.i64.wrap e4))) < (List.length e8 : Int) then
                let e9 : (List Int) := List.set e8 (Int.toNat (IntKind.i64.wrap (v1 + (IntKind.i64.wrap e4)))) (rd (0 : Int) g0 v9)
                F83_slices_breakPatternsOrdered_l1000005 v1 v6 v8 (IntKind.i64.wrap (v9 + (1 : Int))) e9 y3.2.1
              else
                none
            else
              none
          else
            none
        else
          none
    else
      some (g0, ()) :=
  (run_eq _ _ _ _).trans (by kernel_rfl)
theorem F84_slices_choosePivotOrdered_eq (x1 : Int) (x2 : Int) (g0 : (List Int)) : F84_slices_choosePivotOrdered x1 x2 g0 =
    let e1 : Int := IntKind.i64.wrap (Int.tdiv (IntKind.i64.wrap (x2 - x1)) (4 : Int))
    let e2 : Int := IntKind.i64.wrap (x1 + (IntKind.i64.wrap (e1 * (1 : Int))))
    let e3 : Int := IntKind.i64.wrap (Int.tdiv (IntKind.i64.wrap (x2 - x1)) (4 : Int))
    let e4 : Int := IntKind.i64.wrap (x1 + (IntKind.i64.wrap (e3 * (2 : Int))))
    let e5 : Int := IntKind.i64.wrap (Int.tdiv (IntKind.i64.wrap (x2 - x1)) (4 : Int))
    let e6 : Int := IntKind.i64.wrap (x1 + (IntKind.i64.wrap (e5 * (3 : Int))))
    if (8 : Int) ≤ (IntKind.i64.wrap (x2 - x1)) then
      if (50 : Int) ≤ (IntKind.i64.wrap (x2 - x1)) then
        (F110_slices_medianAdjacentOrdered e2 g0 0).bind fun y7 =>
        (F110_slices_medianAdjacentOrdered e4 y7.2.1 y7.2.2.1).bind fun y8 =>
        (F110_slices_medianAdjacentOrdered e6 y8.2.1 y8.2.2.1).bind fun y9 =>
        (F111_slices_medianOrdered y7.1 y8.1 y9.1 y9.2.1 y9.2.2.1).bind fun y10 =>
        if y10.2.2.1 = (0 : Int) then
          some (y10.1, 1, y10.2.1, ())
        else
          if y10.2.2.1 = (12 : Int) then
            some (y10.1, 2, y10.2.1, ())
          else
            some (y10.1, 0, y10.2.1, ())
      else
        (F111_slices_medianOrdered e2 e4 e6 g0 0).bind fun y11 =>
        if y11.2.2.1 = (0 : Int) then
          some (y11.1, 1, y11.2.1, ())
        else
          if y11.2.2.1 = (12 : Int) then
            some (y11.1, 2, y11.2.1, ())
          else
            some (y11.1, 0, y11.2.1, ())
    else
      some (e4, 1, g0, ()) :=
  (F_eq (G := G) rfl fn6 rfl _).trans ((run_eq _ _ _ _).trans (by kernel_rfl))
theorem F85_slices_reverseRangeOrdered_eq (x1 : Int) (x2 : Int) (g0 : (List Int)) : F85_slices_reverseRangeOrdered x1 x2 g0 =
    F85_slices_reverseRangeOrdered_l1000002 x1 (IntKind.i64.wrap (x2 - (1 : Int))) g0 :=
  (F_eq (G := G) rfl fn7 rfl _).trans ((run_eq _ _ _ _).trans (by kernel_rfl))
theorem F85_slices_reverseRangeOrdered_l1000002_eq (v6 : Int) (v7 : Int) (g0 : (List Int)) : F85_slices_reverseRangeOrdered_l1000002 v6 v7 g0 =
    if v6 < v7 then
      if (0 : Int) ≤ v7 ∧ v7 < (List.length g0 : Int) then
        if (0 : Int) ≤ v6 ∧ v6 < (List.length g0 : Int) then
          if (0 : Int) ≤ v6 ∧ v6 < (List.length g0 : Int) then
            if (0 : Int) ≤ v7 ∧ v7 < (List.length (List.set g0 (Int.toNat v6) (rd (0 : Int) g0 v7)) : Int) then
              let e1 : (List Int) := List.set (List.set g0 (Int.toNat v6) (rd (0 : Int) g0 v7)) (Int.toNat v7) (rd (0 : Int) g0 v6)
              F85_slices_reverseRangeOrdered_l1000002 (IntKind.i64.wrap (v6 + (1 : Int))) (IntKind.i64.wrap (v7 - (1 : Int))) e1
            else
              none
          else
            none
        else
          none
      else
        none
    else
      some (g0, ()) :=
  (run_eq _ _ _ _).trans (by kernel_rfl)
theorem F86_slices_partialInsertionSortOrdered_eq (x1 : Int) (x2 : Int) (g0 : (List Int)) : F86_slices_partialInsertionSortOrdered x1 x2 g0 =
    F86_slices_partialInsertionSortOrdered_l1000003 x1 x2 (IntKind.i64.wrap (x1 + (1 : Int))) 0 g0 :=
  (F_eq (G := G) rfl fn8 rfl _).trans ((run_eq _ _ _ _).trans (by kernel_rfl))
theorem F86_slices_partialInsertionSortOrdered_l1000003_eq (v1 : Int) (v2 : Int) (v7 : Int) (v8 : Int) (g0 : (List Int)) : F86_slices_partialInsertionSortOrdered_l1000003 v1 v2 v7 v8 g0 =
    if v8 < (5 : Int) then
      F86_slices_partialInsertionSortOrdered_l1000005 v1 v2 v7 v8 g0
    else
      some (false, g0, ()) :=
  (run_eq _ _ _ _).trans (by kernel_rfl)
theorem F86_slices_partialInsertionSortOrdered_l1000005_eq (v1 : Int) (v2 : Int) (v7 : Int) (v8 : Int) (g0 : (List Int)) : F86_slices_partialInsertionSortOrdered_l1000005 v1 v2 v7 v8 g0 =
    if v7 < v2 then
      if (0 : Int) ≤ v7 ∧ v7 < (List.length g0 : Int) then
        if (0 : Int) ≤ (IntKind.i64.wrap (v7 - (1 : Int))) ∧ (IntKind.i64.wrap (v7 - (1 : Int))) < (List.length g0 : Int) then
          (F87_cmp_Less (rd (0 : Int) g0 v7) (rd (0 : Int) g0 (IntKind.i64.wrap (v7 - (1 : Int))))).bind fun y1 =>
          if (!y1.1) = true then
            F86_slices_partialInsertionSortOrdered_l1000005 v1 v2 (IntKind.i64.wrap (v7 + (1 : Int))) v8 g0
          else
            if v7 = v2 then
              some (true, g0, ())
            else
              if (IntKind.i64.wrap (v2 - v1)) < (50 : Int) then
                some (false, g0, ())
              else
                if (0 : Int) ≤ (IntKind.i64.wrap (v7 - (1 : Int))) ∧ (IntKind.i64.wrap (v7 - (1 : Int))) < (List.length g0 : Int) then
                  if (0 : Int) ≤ v7 ∧ v7 < (List.length g0 : Int) then
                    if (0 : Int) ≤ v7 ∧ v7 < (List.length g0 : Int) then
                      let e2 : (List Int) := List.set g0 (Int.toNat v7) (rd (0 : Int) g0 (IntKind.i64.wrap (v7 - (1 : Int))))
                      if (0 : Int) ≤ (IntKind.i64.wrap (v7 - (1 : Int))) ∧ (IntKind.i64.wrap (v7 - (1 : Int))) < (List.length e2 : Int) then
                        let e3 : (List Int) := List.set e2 (Int.toNat (IntKind.i64.wrap (v7 - (1 : Int)))) (rd (0 : Int) g0 v7)
                        if (2 : Int) ≤ (IntKind.i64.wrap (v7 - v1)) then
                          F86_slices_partialInsertionSortOrdered_l1000014 v1 v2 v7 v8 (IntKind.i64.wrap (v7 - (1 : Int))) e3
                        else
                          if (2 : Int) ≤ (IntKind.i64.wrap (v2 - v7)) then
                            F86_slices_partialInsertionSortOrdered_l1000020 v1 v2 v7 v8 (IntKind.i64.wrap (v7 + (1 : Int))) e3
                          else
                            F86_slices_partialInsertionSortOrdered_l1000003 v1 v2 v7 (IntKind.i64.wrap (v8 + (1 : Int))) e3
                      else
                        none
                    else
                      none
                  else
                    none
                else
                  none
        else
          none
      else
        none
    else
      if v7 = v2 then
        some (true, g0, ())
      else
        if (IntKind.i64.wrap (v2 - v1)) < (50 : Int) then
          some (false, g0, ())
        else
          if (0 : Int) ≤ (IntKind.i64.wrap (v7 - (1 : Int))) ∧ (IntKind.i64.wrap (v7 - (1 : Int))) < (List.length g0 : Int) then
            if (0 : Int) ≤ v7 ∧ v7 < (List.length g0 : Int) then
              if (0 : Int) ≤ v7 ∧ v7 < (List.length g0 : Int) then
                let e4 : (List Int) := List.set g0 (Int.toNat v7) (rd (0 : Int) g0 (IntKind.i64.wrap (v7 - (1 : Int))))
                if (0 : Int) ≤ (IntKind.i64.wrap (v7 - (1 : Int))) ∧ (IntKind.i64.wrap (v7 - (1 : Int))) < (List.length e4 : Int) then
                  let e5 : (List Int) := List.set e4 (Int.toNat (IntKind.i64.wrap (v7 - (1 : Int)))) (rd (0 : Int) g0 v7)
                  if (2 : Int) ≤ (IntKind.i64.wrap (v7 - v1)) then
                    F86_slices_partialInsertionSortOrdered_l1000014 v1 v2 v7 v8 (IntKind.i64.wrap (v7 - (1 : Int))) e5
                  else
                    if (2 : Int) ≤ (IntKind.i64.wrap (v2 - v7)) then
                      F86_slices_partialInsertionSortOrdered_l1000020 v1 v2 v7 v8 (IntKind.i64.wrap (v7 + (1 : Int))) e5
                    else
                      F86_slices_partialInsertionSortOrdered_l1000003 v1 v2 v7 (IntKind.i64.wrap (v8 + (1 : Int))) e5
                else
                  none
              else
                none
            else
              none
          else
            none :=
  (run_eq _ _ _ _).trans (by kernel_rfl)
theorem F86_slices_partialInsertionSortOrdered_l1000014_eq (v1 : Int) (v2 : Int) (v7 : Int) (v8 : Int) (v9 : Int) (g0 : (List Int)) : F86_slices_partialInsertionSortOrdered_l1000014 v1 v2 v7 v8 v9 g0 =
    if (1 : Int) ≤ v9 then
      if (0 : Int) ≤ v9 ∧ v9 < (List.length g0 : Int) then
        if (0 : Int) ≤ (IntKind.i64.wrap (v9 - (1 : Int))) ∧ (IntKind.i64.wrap (v9 - (1 : Int))) < (List.length g0 : Int) then
          (F87_cmp_Less (rd (0 : Int) g0 v9) (rd (0 : Int) g0 (IntKind.i64.wrap (v9 - (1 : Int))))).bind fun y1 =>
          if (!y1.1) = true then
            if (2 : Int) ≤ (IntKind.i64.wrap (v2 - v7)) then
              F86_slices_partialInsertionSortOrdered_l1000020 v1 v2 v7 v8 (IntKind.i64.wrap (v7 + (1 : Int))) g0
            else
              F86_slices_partialInsertionSortOrdered_l1000003 v1 v2 v7 (IntKind.i64.wrap (v8 + (1 : Int))) g0
          else
            if (0 : Int) ≤ (IntKind.i64.wrap (v9 - (1 : Int))) ∧ (IntKind.i64.wrap (v9 - (1 : Int))) < (List.length g0 : Int) then
              if (0 : Int) ≤ v9 ∧ v9 < (List.length g0 : Int) then
                if (0 : Int) ≤ v9 ∧ v9 < (List.length g0 : Int) then
                  let e2 : (List Int) := List.set g0 (Int.toNat v9) (rd (0 : Int) g0 (IntKind.i64.wrap (v9 - (1 : Int))))
                  if (0 : Int) ≤ (IntKind.i64.wrap (v9 - (1 : Int))) ∧ (IntKind.i64.wrap (v9 - (1 : Int))) < (List.length e2 : Int) then
                    let e3 : (List Int) := List.set e2 (Int.toNat (IntKind.i64.wrap (v9 - (1 : Int)))) (rd (0 : Int) g0 v9)
                    F86_slices_partialInsertionSortOrdered_l1000014 v1 v2 v7 v8 (IntKind.i64.wrap (v9 - (1 : Int))) e3
                  else
                    none
                else
                  none
              else
                none
            else
              none
        else
          none
      else
        none
    else
      if (2 : Int) ≤ (IntKind.i64.wrap (v2 - v7)) then
        F86_slices_partialInsertionSortOrdered_l1000020 v1 v2 v7 v8 (IntKind.i64.wrap (v7 + (1 : Int))) g0
      else
        F86_slices_partialInsertionSortOrdered_l1000003 v1 v2 v7 (IntKind.i64.wrap (v8 + (1 : Int))) g0 :=
  (run_eq _ _ _ _).trans (by kernel_rfl)
theorem F86_slices_partialInsertionSortOrdered_l1000020_eq (v1 : Int) (v2 : Int) (v7 : Int) (v8 : Int) (v10 : Int) (g0 : (List Int)) : F86_slices_partialInsertionSortOrdered_l1000020 v1 v2 v7 v8 v10 g0 =
    if v10 < v2 then
      if (0 : Int) ≤ v10 ∧ v10 < (List.length g0 : Int) then
        if (0 : Int) ≤ (IntKind.i64.wrap (v10 - (1 : Int))) ∧ (IntKind.i64.wrap (v10 - (1 : Int))) < (List.length g0 : Int) then
          (F87_cmp_Less (rd (0 : Int) g0 v10) (rd (0 : Int) g0 (IntKind.i64.wrap (v10 - (1 : Int))))).bind fun y1 =>
          if (!y1.1) = true then
            F86_slices_partialInsertionSortOrdered_l1000003 v1 v2 v7 (IntKind.i64.wrap (v8 + (1 : Int))) g0
          else
            if (0 : Int) ≤ (IntKind.i64.wrap (v10 - (1 : Int))) ∧ (IntKind.i64.wrap (v10 - (1 : Int))) < (List.length g0 : Int) then
              if (0 : Int) ≤ v10 ∧ v10 < (List.length g0 : Int) then
                if (0 : Int) ≤ v10 ∧ v10 < (List.length g0 : Int) then
                  let e2 : (List Int) := List.set g0 (Int.toNat v10) (rd (0 : Int) g0 (IntKind.i64.wrap (v10 - (1 : Int))))
                  if (0 : Int) ≤ (IntKind.i64.wrap (v10 - (1 : Int))) ∧ (IntKind.i64.wrap (v10 - (1 : Int))) < (List.length e2 : Int) then
                    let e3 : (List Int) := List.set e2 (Int.toNat (IntKind.i64.wrap (v10 - (1 : Int)))) (rd (0 : Int) g0 v10)
                    F86_slices_partialInsertionSortOrdered_l1000020 v1 v2 v7 v8 (IntKind.i64.wrap (v10 + (1 : Int))) e3
                  else
                    none
                else
                  none
              else
                none
            else
              none
        else
          none
      else
        none
    else
      F86_slices_partialInsertionSortOrdered_l1000003 v1 v2 v7 (IntKind.i64.wrap (v8 + (1 : Int))) g0 :=
  (run_eq _ _ _ _).trans (by kernel_rfl)
theorem F87_cmp_Less_eq (x0 : Int) (x1 : Int) : F87_cmp_Less x0 x1 =
    (F112_cmp_isNaN x0).bind fun y1 =>
    if y1.1 = true then
      (F112_cmp_isNaN x1).bind fun y2 =>
      if (!y2.1) = true then
        some (true, ())
      else
        some ((decide (x0 < x1)), ())
    else
      some ((decide (x0 < x1)), ()) :=
  (F_eq (G := G) rfl fn9 rfl _).trans ((run_eq _ _ _ _).trans (by kernel_rfl))
theorem F88_slices_partitionEqualOrdered_eq (x1 : Int) (x2 : Int) (x3 : Int) (g0 : (List Int)) : F88_slices_partitionEqualOrdered x1 x2 x3 g0 =
    if (0 : Int) ≤ x3 ∧ x3 < (List.length g0 : Int) then
      if (0 : Int) ≤ x1 ∧ x1 < (List.length g0 : Int) then
        if (0 : Int) ≤ x1 ∧ x1 < (List.length g0 : Int) then
          if (0 : Int) ≤ x3 ∧ x3 < (List.length (List.set g0 (Int.toNat x1) (rd (0 : Int) g0 x3)) : Int) then
            let e1 : (List Int) := List.set (List.set g0 (Int.toNat x1) (rd (0 : Int) g0 x3)) (Int.toNat x3) (rd (0 : Int) g0 x1)
            F88_slices_partitionEqualOrdered_l1100003 x1 (IntKind.i64.wrap (x1 + (1 : Int))) (IntKind.i64.wrap (x2 - (1 : Int))) e1
          else
            none
        else
          none
      else
        none
    else
      none :=
  (F_eq (G := G) rfl fn10 rfl _).trans ((run_eq _ _ _ _).trans (by kernel_rfl))
theorem F88_slices_partitionEqualOrdered_l1100003_eq (v1 : Int) (v9 : Int) (v10 : Int) (g0 : (List Int)) : F88_slices_partitionEqualOrdered_l1100003 v1 v9 v10 g0 =
    F88_slices_partitionEqualOrdered_l1000003 v1 v9 v10 g0 :=
  (run_eq _ _ _ _).trans (by kernel_rfl)
theorem F88_slices_partitionEqualOrdered_l1000003_eq (v1 : Int) (v9 : Int) (v10 : Int) (g0 : (List Int)) : F88_slices_partitionEqualOrdered_l1000003 v1 v9 v10 g0 =
    if v9 ≤ v10 then
      if (0 : Int) ≤ v1 ∧ v1 < (List.length g0 : Int) then
        if (0 : Int) ≤ v9 ∧ v9 < (List.length g0 : Int) then
          (F87_cmp_Less (rd (0 : Int) g0 v1) (rd (0 : Int) g0 v9)).bind fun y1 =>
          if (!y1.1) = true then
            F88_slices_partitionEqualOrdered_l1000003 v1 (IntKind.i64.wrap (v9 + (1 : Int))) v10 g0
          else
            F88_slices_partitionEqualOrdered_l1000005 v1 v9 v10 g0
        else
          none
      else
        none
    else
      F88_slices_partitionEqualOrdered_l1000005 v1 v9 v10 g0 :=
  (run_eq _ _ _ _).trans (by kernel_rfl)
theorem F88_slices_partitionEqualOrdered_l1000005_eq (v1 : Int) (v9 : Int) (v10 : Int) (g0 : (List Int)) : F88_slices_partitionEqualOrdered_l1000005 v1 v9 v10 g0 =
    if v9 ≤ v10 then
      if (0 : Int) ≤ v1 ∧ v1 < (List.length g0 : Int) then
        if (0 : Int) ≤ v10 ∧ v10 < (List.length g0 : Int) then
          (F87_cmp_Less (rd (0 : Int) g0 v1) (rd (0 : Int) g0 v10)).bind fun y1 =>
          if y1.1 = true then
            F88_slices_partitionEqualOrdered_l1000005 v1 v9 (IntKind.i64.wrap (v10 - (1 : Int))) g0
          else
            if v10 < v9 then
              some (v9, g0, ())
            else
              if (0 : Int) ≤ v10 ∧ v10 < (List.length g0 : Int) then
                if (0 : Int) ≤ v9 ∧ v9 < (List.length g0 : Int) then
                  if (0 : Int) ≤ v9 ∧ v9 < (List.length g0 : Int) then
                    if (0 : Int) ≤ v10 ∧ v10 < (List.length (List.set g0 (Int.toNat v9) (rd (0 : Int) g0 v10)) : Int) then
                      let e2 : (List Int) := List.set (List.set g0 (Int.toNat v9) (rd (0 : Int) g0 v10)) (Int.toNat v10) (rd (0 : Int) g0 v9)
                      F88_slices_partitionEqualOrdered_l1100003 v1 (IntKind.i64.wrap (v9 + (1 : Int))) (IntKind.i64.wrap (v10 - (1 : Int))) e2
                    else
                      none
                  else
                    none
                else
                  none
              else
                none
        else
          none
      else
        none
    else
      if v10 < v9 then
        some (v9, g0, ())
      else
        if (0 : Int) ≤ v10 ∧ v10 < (List.length g0 : Int) then
          if (0 : Int) ≤ v9 ∧ v9 < (List.length g0 : Int) then
            if (0 : Int) ≤ v9 ∧ v9 < (List.length g0 : Int) then
              if (0 : Int) ≤ v10 ∧ v10 < (List.length (List.set g0 (Int.toNat v9) (rd (0 : Int) g0 v10)) : Int) then
                let e3 : (List Int) := List.set (List.set g0 (Int.toNat v9) (rd (0 : Int) g0 v10)) (Int.toNat v10) (rd (0 : Int) g0 v9)
                F88_slices_partitionEqualOrdered_l1100003 v1 (IntKind.i64.wrap (v9 + (1 : Int))) (IntKind.i64.wrap (v10 - (1 : Int))) e3
              else
                none
            else
              none
          else
            none
        else
          none :=
  (run_eq _ _ _ _).trans (by kernel_rfl)
theorem F89_slices_partitionOrdered_eq (x1 : Int) (x2 : Int) (x3 : Int) (g0 : (List Int)) : F89_slices_partitionOrdered x1 x2 x3 g0 =
    if (0 : Int) ≤ x3 ∧ x3 < (List.length g0 : Int) then
      if (0 : Int) ≤ x1 ∧ x1 < (List.length g0 : Int) then
        if (0 : Int) ≤ x1 ∧ x1 < (List.length g0 : Int) then
          if (0 : Int) ≤ x3 ∧ x3 < (List.length (List.set g0 (Int.toNat x1) (rd (0 : Int) g0 x3)) : Int) then
            let e1 : (List Int) := List.set (List.set g0 (Int.toNat x1) (rd (0 : Int) g0 x3)) (Int.toNat x3) (rd (0 : Int) g0 x1)
            F89_slices_partitionOrdered_l1000003 x1 (IntKind.i64.wrap (x1 + (1 : Int))) (IntKind.i64.wrap (x2 - (1 : Int))) e1
          else
            none
        else
          none
      else
        none
    else
      none :=
  (F_eq (G := G) rfl fn11 rfl _).trans ((run_eq _ _ _ _).trans (by kernel_rfl))
theorem F89_slices_partitionOrdered_l1000003_eq (v1 : Int) (v10 : Int) (v11 : Int) (g0 : (List Int)) : F89_slices_partitionOrdered_l1000003 v1 v10 v11 g0 =
    if v10 ≤ v11 then
      if (0 : Int) ≤ v10 ∧ v10 < (List.length g0 : Int) then
        if (0 : Int) ≤ v1 ∧ v1 < (List.length g0 : Int) then
          (F87_cmp_Less (rd (0 : Int) g0 v10) (rd (0 : Int) g0 v1)).bind fun y1 =>
          if y1.1 = true then
            F89_slices_partitionOrdered_l1000003 v1 (IntKind.i64.wrap (v10 + (1 : Int))) v11 g0
          else
            F89_slices_partitionOrdered_l1000005 v1 v10 v11 g0
        else
          none
      else
        none
    else
      F89_slices_partitionOrdered_l1000005 v1 v10 v11 g0 :=
  (run_eq _ _ _ _).trans (by kernel_rfl)
theorem F89_slices_partitionOrdered_l1000005_eq (v1 : Int) (v10 : Int) (v11 : Int) (g0 : (List Int)) : F89_slices_partitionOrdered_l1000005 v1 v10 v11 g0 =
    if v10 ≤ v11 then
      if (0 : Int) ≤ v11 ∧ v11 < (List.length g0 : Int) then
        if (0 : Int) ≤ v1 ∧ v1 < (List.length g0 : Int) then
          (F87_cmp_Less (rd (0 : Int) g0 v11) (rd (0 : Int) g0 v1)).bind fun y1 =>
          if (!y1.1) = true then
            F89_slices_partitionOrdered_l1000005 v1 v10 (IntKind.i64.wrap (v11 - (1 : Int))) g0
          else
            if v11 < v10 then
              if (0 : Int) ≤ v1 ∧ v1 < (List.length g0 : Int) then
                if (0 : Int) ≤ v11 ∧ v11 < (List.length g0 : Int) then
                  if (0 : Int) ≤ v11 ∧ v11 < (List.length g0 : Int) then
                    if (0 : Int) ≤ v1 ∧ v1 < (List.length (List.set g0 (Int.toNat v11) (rd (0 : Int) g0 v1)) : Int) then
                      let e2 : (List Int) := List.set (List.set g0 (Int.toNat v11) (rd (0 : Int) g0 v1)) (Int.toNat v1) (rd (0 : Int) g0 v11)
                      some (v11, true, e2, ())
                    else
                      none
                  else
                    none
                else
                  none
              else
                none
            else
              if (0 : Int) ≤ v11 ∧ v11 < (List.length g0 : Int) then
                if (0 : Int) ≤ v10 ∧ v10 < (List.length g0 : Int) then
                  if (0 : Int) ≤ v10 ∧ v10 < (List.length g0 : Int) then
                    let e3 : (List Int) := List.set g0 (Int.toNat v10) (rd (0 : Int) g0 v11)
                    if (0 : Int) ≤ v11 ∧ v11 < (List.length e3 : Int) then
                      let e4 : (List Int) := List.set e3 (Int.toNat v11) (rd (0 : Int) g0 v10)
                      F89_slices_partitionOrdered_l1100013 v1 (IntKind.i64.wrap (v10 + (1 : Int))) (IntKind.i64.wrap (v11 - (1 : Int))) e4
                    else
                      none
                  else
                    none
                else
                  none
              else
                none
        else
          none
      else
        none
    else
      if v11 < v10 then
        if (0 : Int) ≤ v1 ∧ v1 < (List.length g0 : Int) then
          if (0 : Int) ≤ v11 ∧ v11 < (List.length g0 : Int) then
            if (0 : Int) ≤ v11 ∧ v11 < (List.length g0 : Int) then
              if (0 : Int) ≤ v1 ∧ v1 < (List.length (List.set g0 (Int.toNat v11) (rd (0 : Int) g0 v1)) : Int) then
                let e5 : (List Int) := List.set (List.set g0 (Int.toNat v11) (rd (0 : Int) g0 v1)) (Int.toNat v1) (rd (0 : Int) g0 v11)
                some (v11, true, e5, ())
              else
                none
            else
              none
          else
            none
        else
          none
      else
        if (0 : Int) ≤ v11 ∧ v11 < (List.length g0 : Int) then
          if (0 : Int) ≤ v10 ∧ v10 < (List.length g0 : Int) then
            if (0 : Int) ≤ v10 ∧ v10 < (List.length g0 : Int) then
              let e6 : (List Int) := List.set g0 (Int.toNat v10) (rd (0 : Int) g0 v11)
              if (0 : Int) ≤ v11 ∧ v11 < (List.length e6 : Int) then
                let e7 : (List Int) := List.set e6 (Int.toNat v11) (rd (0 : Int) g0 v10)
                F89_slices_partitionOrdered_l1100013 v1 (IntKind.i64.wrap (v10 + (1 : Int))) (IntKind.i64.wrap (v11 - (1 : Int))) e7
              else
                none
            else
              none
          else
            none
        else
          none :=
  (run_eq _ _ _ _).trans (by kernel_rfl)
theorem F89_slices_partitionOrdered_l1100013_eq (v1 : Int) (v10 : Int) (v11 : Int) (g0 : (List Int)) : F89_slices_partitionOrdered_l1100013 v1 v10 v11 g0 =
    F89_slices_partitionOrdered_l1000013 v1 v10 v11 g0 :=
  (run_eq _ _ _ _).trans (by kernel_rfl)
theorem F89_slices_partitionOrdered_l1000013_eq (v1 : Int) (v10 : Int) (v11 : Int) (g0 : (List Int)) : F89_slices_partitionOrdered_l1000013 v1 v10 v11 g0 =
    if v10 ≤ v11 then
      if (0 : Int) ≤ v10 ∧ v10 < (List.length g0 : Int) then
        if (0 : Int) ≤ v1 ∧ v1 < (List.length g0 : Int) then
          (F87_cmp_Less (rd (0 : Int) g0 v10) (rd (0 : Int) g0 v1)).bind fun y1 =>
          if y1.1 = true then
            F89_slices_partitionOrdered_l1000013 v1 (IntKind.i64.wrap (v10 + (1 : Int))) v11 g0
          else
            F89_slices_partitionOrdered_l1000015 v1 v10 v11 g0
        else
          none
      else
        none
    else
      F89_slices_partitionOrdered_l1000015 v1 v10 v11 g0 :=
  (run_eq _ _ _ _).trans (by kernel_rfl)
theorem F89_slices_partitionOrdered_l1000015_eq (v1 : Int) (v10 : Int) (v11 : Int) (g0 : (List Int)) : F89_slices_partitionOrdered_l1000015 v1 v10 v11 g0 =
    if v10 ≤ v11 then
      if (0 : Int) ≤ v11 ∧ v11 < (List.length g0 : Int) then
        if (0 : Int) ≤ v1 ∧ v1 < (List.length g0 : Int) then
          (F87_cmp_Less (rd (0 : Int) g0 v11) (rd (0 : Int) g0 v1)).bind fun y1 =>
          if (!y1.1) = true then
            F89_slices_partitionOrdered_l1000015 v1 v10 (IntKind.i64.wrap (v11 - (1 : Int))) g0
          else
            if v11 < v10 then
              if (0 : Int) ≤ v1 ∧ v1 < (List.length g0 : Int) then
                if (0 : Int) ≤ v11 ∧ v11 < (List.length g0 : Int) then
                  if (0 : Int) ≤ v11 ∧ v11 < (List.length g0 : Int) then
                    if (0 : Int) ≤ v1 ∧ v1 < (List.length (List.set g0 (Int.toNat v11) (rd (0 : Int) g0 v1)) : Int) then
                      let e2 : (List Int) := List.set (List.set g0 (Int.toNat v11) (rd (0 : Int) g0 v1)) (Int.toNat v1) (rd (0 : Int) g0 v11)
                      some (v11, false, e2, ())
                    else
                      none
                  else
                    none
                else
                  none
              else
                none
            else
              if (0 : Int) ≤ v11 ∧ v11 < (List.length g0 : Int) then
                if (0 : Int) ≤ v10 ∧ v10 < (List.length g0 : Int) then
                  if (0 : Int) ≤ v10 ∧ v10 < (List.length g0 : Int) then
                    let e3 : (List Int) := List.set g0 (Int.toNat v10) (rd (0 : Int) g0 v11)
                    if (0 : Int) ≤ v11 ∧ v11 < (List.length e3 : Int) then
                      let e4 : (List Int) := List.set e3 (Int.toNat v11) (rd (0 : Int) g0 v10)
                      F89_slices_partitionOrdered_l1100013 v1 (IntKind.i64.wrap (v10 + (1 : Int))) (IntKind.i64.wrap (v11 - (1 : Int))) e4
                    else
                      none
                  else
                    none
                else
                  none
              else
                none
        else
          none
      else
        none
    else
      if v11 < v10 then
        if (0 : Int) ≤ v1 ∧ v1 < (List.length g0 : Int) then
          if (0 : Int) ≤ v11 ∧ v11 < (List.length g0 : Int) then
            if (0 : Int) ≤ v11 ∧ v11 < (List.length g0 : Int) then
              if (0 : Int) ≤ v1 ∧ v1 < (List.length (List.set g0 (Int.toNat v11) (rd (0 : Int) g0 v1)) : Int) then
                let e5 : (List Int) := List.set (List.set g0 (Int.toNat v11) (rd (0 : Int) g0 v1)) (Int.toNat v1) (rd (0 : Int) g0 v11)
                some (v11, false, e5, ())
              else
                none
            else
              none
          else
            none
        else
          none
      else
        if (0 : Int) ≤ v11 ∧ v11 < (List.length g0 : Int) then
          if (0 : Int) ≤ v10 ∧ v10 < (List.length g0 : Int) then
            if (0 : Int) ≤ v10 ∧ v10 < (List.length g0 : Int) then
              let e6 : (List Int) := List.set g0 (Int.toNat v10) (rd (0 : Int) g0 v11)
              if (0 : Int) ≤ v11 ∧ v11 < (List.length e6 : Int) then
                let e7 : (List Int) := List.set e6 (Int.toNat v11) (rd (0 : Int) g0 v10)
                F89_slices_partitionOrdered_l1100013 v1 (IntKind.i64.wrap (v10 + (1 : Int))) (IntKind.i64.wrap (v11 - (1 : Int))) e7
              else
                none
            else
              none
          else
            none
        else
          none :=
  (run_eq _ _ _ _).trans (by kernel_rfl)
theorem F112_cmp_isNaN_eq (x0 : Int) : F112_cmp_isNaN x0 =
    some ((decide (¬ x0 = x0)), ()) :=
  (F_eq (G := G) rfl fn12 rfl _).trans ((run_eq _ _ _ _).trans (by kernel_rfl))
theorem F110_slices_medianAdjacentOrdered_eq (x1 : Int) (g0 : (List Int)) (h1_0 : Int) : F110_slices_medianAdjacentOrdered x1 g0 h1_0 =
    (F111_slices_medianOrdered (IntKind.i64.wrap (x1 - (1 : Int))) x1 (IntKind.i64.wrap (x1 + (1 : Int))) g0 h1_0).bind fun y1 =>
    some (y1.1, y1.2.1, y1.2.2.1, ()) :=
  (F_eq (G := G) rfl fn13 rfl _).trans ((run_eq _ _ _ _).trans (by kernel_rfl))
theorem F111_slices_medianOrdered_eq (x1 : Int) (x2 : Int) (x3 : Int) (g0 : (List Int)) (h1_0 : Int) : F111_slices_medianOrdered x1 x2 x3 g0 h1_0 =
    (F122_slices_order2Ordered x1 x2 g0 h1_0).bind fun y1 =>
    (F122_slices_order2Ordered y1.2.1 x3 y1.2.2.1 y1.2.2.2.1).bind fun y2 =>
    (F122_slices_order2Ordered y1.1 y2.1 y2.2.2.1 y2.2.2.2.1).bind fun y3 =>
    some (y3.2.1, y3.2.2.1, y3.2.2.2.1, ()) :=
  (F_eq (G := G) rfl fn14 rfl _).trans ((run_eq _ _ _ _).trans (by kernel_rfl))
theorem F122_slices_order2Ordered_eq (x1 : Int) (x2 : Int) (g0 : (List Int)) (h1_0 : Int) : F122_slices_order2Ordered x1 x2 g0 h1_0 =
    if (0 : Int) ≤ x2 ∧ x2 < (List.length g0 : Int) then
      if (0 : Int) ≤ x1 ∧ x1 < (List.length g0 : Int) then
        (F87_cmp_Less (rd (0 : Int) g0 x2) (rd (0 : Int) g0 x1)).bind fun y1 =>
        if y1.1 = true then
          some (x2, x1, g0, (IntKind.i64.wrap (h1_0 + (1 : Int))), ())
        else
          some (x1, x2, g0, h1_0, ())
      else
        none
    else
      none :=
  (F_eq (G := G) rfl fn15 rfl _).trans ((run_eq _ _ _ _).trans (by kernel_rfl))
theorem F108_slices_nextPowerOfTwo_eq (x0 : Int) : F108_slices_nextPowerOfTwo x0 =
    (F70_bits_Len (IntKind.u64.wrap x0)).bind fun y1 =>
    if 0 ≤ y1.1 then
      some ((shlR .u64 (1 : Int) y1.1), ())
    else
      none :=
  (F_eq (G := G) rfl fn16 rfl _).trans ((run_eq _ _ _ _).trans (by kernel_rfl))
theorem F109_slices_xorshift_Next_eq (h0_0 : Int) : F109_slices_xorshift_Next h0_0 =
    let e1 : Int := shrR .u64 (bitsR .xor .u64 h0_0 (shlR .u64 h0_0 (13 : Int))) (7 : Int)
    let e2 : Int := bitsR .xor .u64 (bitsR .xor .u64 h0_0 (shlR .u64 h0_0 (13 : Int))) e1
    some ((bitsR .xor .u64 e2 (shlR .u64 e2 (17 : Int))), (bitsR .xor .u64 e2 (shlR .u64 e2 (17 : Int))), ()) :=
  (F_eq (G := G) rfl fn17 rfl _).trans ((run_eq _ _ _ _).trans (by kernel_rfl))
theorem F107_slices_siftDownOrdered_eq (x1 : Int) (x2 : Int) (x3 : Int) (g0 : (List Int)) : F107_slices_siftDownOrdered x1 x2 x3 g0 =
    F107_slices_siftDownOrdered_l1000001 x2 x3 x1 g0 :=
  (F_eq (G := G) rfl fn18 rfl _).trans ((run_eq _ _ _ _).trans (by kernel_rfl))
theorem F107_slices_siftDownOrdered_l1000001_eq (v2 : Int) (v3 : Int) (v8 : Int) (g0 : (List Int)) : F107_slices_siftDownOrdered_l1000001 v2 v3 v8 g0 =
    let e1 : Int := IntKind.i64.wrap ((IntKind.i64.wrap ((2 : Int) * v8)) + (1 : Int))
    if v2 ≤ e1 then
      some (g0, ())
    else
      if (IntKind.i64.wrap (e1 + (1 : Int))) < v2 then
        if (0 : Int) ≤ (IntKind.i64.wrap (v3 + e1)) ∧ (IntKind.i64.wrap (v3 + e1)) < (List.length g0 : Int) then
          let e2 : Int := IntKind.i64.wrap ((IntKind.i64.wrap (v3 + e1)) + (1 : Int))
          if (0 : Int) ≤ e2 ∧ e2 < (List.length g0 : Int) then
            (F87_cmp_Less (rd (0 : Int) g0 (IntKind.i64.wrap (v3 + e1))) (rd (0 : Int) g0 e2)).bind fun y3 =>
            if y3.1 = true then
              if (0 : Int) ≤ (IntKind.i64.wrap (v3 + v8)) ∧ (IntKind.i64.wrap (v3 + v8)) < (List.length g0 : Int) then
                let e4 : Int := IntKind.i64.wrap (v3 + (IntKind.i64.wrap (e1 + (1 : Int))))
                if (0 : Int) ≤ e4 ∧ e4 < (List.length g0 : Int) then
                  (F87_cmp_Less (rd (0 : Int) g0 (IntKind.i64.wrap (v3 + v8))) (rd (0 : Int) g0 e4)).bind fun y5 =>
                  if (!y5.1) = true then
                    some (g0, ())
                  else
                    let e6 : Int := IntKind.i64.wrap (v3 + (IntKind.i64.wrap (e1 + (1 : Int))))
                    let e7 : Int := IntKind.i64.wrap (v3 + (IntKind.i64.wrap (e1 + (1 : Int))))
                    if (0 : Int) ≤ e7 ∧ e7 < (List.length g0 : Int) then
                      if (0 : Int) ≤ (IntKind.i64.wrap (v3 + v8)) ∧ (IntKind.i64.wrap (v3 + v8)) < (List.length g0 : Int) then
                        if (0 : Int) ≤ (IntKind.i64.wrap (v3 + v8)) ∧ (IntKind.i64.wrap (v3 + v8)) < (List.length g0 : Int) then
                          let e8 : (List Int) := List.set g0 (Int.toNat (IntKind.i64.wrap (v3 + v8))) (rd (0 : Int) g0 e7)
                          if (0 : Int) ≤ e6 ∧ e6 < (List.length e8 : Int) then
                            let e9 : (List Int) := List.set e8 (Int.toNat e6) (rd (0 : Int) g0 (IntKind.i64.wrap (v3 + v8)))
                            F107_slices_siftDownOrdered_l1000001 v2 v3 (IntKind.i64.wrap (e1 + (1 : Int))) e9
                          else
                            none
                        else
                          none
                      else
                        none
                    else
                      none
                else
                  none
              else
                none
            else
              if (0 : Int) ≤ (IntKind.i64.wrap (v3 + v8)) ∧ (IntKind.i64.wrap (v3 + v8)) < (List.length g0 : Int) then
                if (0 : Int) ≤ (IntKind.i64.wrap (v3 + e1)) ∧ (IntKind.i64.wrap (v3 + e1)) < (List.length g0 : Int) then
                  (F87_cmp_Less (rd (0 : Int) g0 (IntKind.i64.wrap (v3 + v8))) (rd (0 : Int) g0 (IntKind.i64.wrap (v3 + e1)))).bind fun y10 =>
                  if (!y10.1) = true then
                    some (g0, ())
                  else
                    if (0 : Int) ≤ (IntKind.i64.wrap (v3 + e1)) ∧ (IntKind.i64.wrap (v3 + e1)) < (List.length g0 : Int) then
                      if (0 : Int) ≤ (IntKind.i64.wrap (v3 + v8)) ∧ (IntKind.i64.wrap (v3 + v8)) < (List.length g0 : Int) then
                        if (0 : Int) ≤ (IntKind.i64.wrap (v3 + v8)) ∧ (IntKind.i64.wrap (v3 + v8)) < (List.length g0 : Int) then
                          let e11 : (List Int) := List.set g0 (Int.toNat (IntKind.i64.wrap (v3 + v8))) (rd (0 : Int) g0 (IntKind.i64.wrap (v3 + e1)))
                          if (0 : Int) ≤ (IntKind.i64.wrap (v3 + e1)) ∧ (IntKind.i64.wrap (v3 + e1)) < (List.length e11 : Int) then
                            let e12 : (List Int) := List.set e11 (Int.toNat (IntKind.i64.wrap (v3 + e1))) (rd (0 : Int) g0 (IntKind.i64.wrap (v3 + v8)))
                            F107_slices_siftDownOrdered_l1000001 v2 v3 e1 e12
                          else
                            none
                        else
                          none
                      else
                        none
                    else
                      none
                else
                  none
              else
                none
          else
            none
        else
          none
      else
        if (0 : Int) ≤ (IntKind.i64.wrap (v3 + v8)) ∧ (IntKind.i64.wrap (v3 + v8)) < (List.length g0 : Int) then
          if (0 : Int) ≤ (IntKind.i64.wrap (v3 + e1)) ∧ (IntKind.i64.wrap (v3 + e1)) < (List.length g0 : Int) then
            (F87_cmp_Less (rd (0 : Int) g0 (IntKind.i64.wrap (v3 + v8))) (rd (0 : Int) g0 (IntKind.i64.wrap (v3 + e1)))).bind fun y13 =>
            if (!y13.1) = true then
              some (g0, ())
            else
              if (0 : Int) ≤ (IntKind.i64.wrap (v3 + e1)) ∧ (IntKind.i64.wrap (v3 + e1)) < (List.length g0 : Int) then
                if (0 : Int) ≤ (IntKind.i64.wrap (v3 + v8)) ∧ (IntKind.i64.wrap (v3 + v8)) < (List.length g0 : Int) then
                  if (0 : Int) ≤ (IntKind.i64.wrap (v3 + v8)) ∧ (IntKind.i64.wrap (v3 + v8)) < (List.length g0 : Int) then
                    let e14 : (List Int) := List.set g0 (Int.toNat (IntKind.i64.wrap (v3 + v8))) (rd (0 : Int) g0 (IntKind.i64.wrap (v3 + e1)))
                    if (0 : Int) ≤ (IntKind.i64.wrap (v3 + e1)) ∧ (IntKind.i64.wrap (v3 + e1)) < (List.length e14 : Int) then
                      let e15 : (List Int) := List.set e14 (Int.toNat (IntKind.i64.wrap (v3 + e1))) (rd (0 : Int) g0 (IntKind.i64.wrap (v3 + v8)))
                      F107_slices_siftDownOrdered_l1000001 v2 v3 e1 e15
                    else
                      none
                  else
                    none
                else
                  none
              else
                none
          else
            none
        else
          none :=
  (run_eq _ _ _ _).trans (by kernel_rfl)
theorem F91_bits_Len64_eq (x0 : Int) : F91_bits_Len64 x0 =
    if (4294967296 : Int) ≤ x0 then
      if (65536 : Int) ≤ (shrR .u64 x0 (32 : Int)) then
        F91_bits_Len64_l7 (shrR .u64 (shrR .u64 x0 (32 : Int)) (16 : Int)) (IntKind.i64.wrap ((32 : Int) + (16 : Int)))
      else
        F91_bits_Len64_l7 (shrR .u64 x0 (32 : Int)) 32
    else
      if (65536 : Int) ≤ x0 then
        F91_bits_Len64_l7 (shrR .u64 x0 (16 : Int)) (IntKind.i64.wrap ((0 : Int) + (16 : Int)))
      else
        F91_bits_Len64_l7 x0 0 :=
  (F_eq (G := G) rfl fn19 rfl _).trans ((run_eq _ _ _ _).trans (by kernel_rfl))
theorem F91_bits_Len64_l7_eq (v0 : Int) (v2 : Int) : F91_bits_Len64_l7 v0 v2 =
    if (256 : Int) ≤ v0 then
      F91_bits_Len64_l10 (shrR .u64 v0 (8 : Int)) (IntKind.i64.wrap (v2 + (8 : Int)))
    else
      F91_bits_Len64_l10 v0 v2 :=
  (run_eq _ _ _ _).trans (by kernel_rfl)
theorem F91_bits_Len64_l10_eq (v0 : Int) (v2 : Int) : F91_bits_Len64_l10 v0 v2 =
    let e1 : Int := bt (ByteArray.mk #[0, 1, 2, 2, 3, 3, 3, 3, 4, 4, 4, 4, 4, 4, 4, 4, 5, 5, 5, 5, 5, 5, 5, 5, 5, 5, 5, 5, 5, 5, 5, 5, 6, 6, 6, 6, 6, 6, 6, 6, 6, 6, 6, 6, 6, 6, 6, 6, 6, 6, 6, 6, 6, 6, 6, 6, 6, 6, 6, 6, 6, 6, 6, 6, 7, 7, 7, 7, 7, 7, 7, 7, 7, 7, 7, 7, 7, 7, 7, 7, 7, 7, 7, 7, 7, 7, 7, 7, 7, 7, 7, 7, 7, 7, 7, 7, 7, 7, 7, 7, 7, 7, 7, 7, 7, 7, 7, 7, 7, 7, 7, 7, 7, 7, 7, 7, 7, 7, 7, 7, 7, 7, 7, 7, 7, 7, 7, 7, 8, 8, 8, 8, 8, 8, 8, 8, 8, 8, 8, 8, 8, 8, 8, 8, 8, 8, 8, 8, 8, 8, 8, 8, 8, 8, 8, 8, 8, 8, 8, 8, 8, 8, 8, 8, 8, 8, 8, 8, 8, 8, 8, 8, 8, 8, 8, 8, 8, 8, 8, 8, 8, 8, 8, 8, 8, 8, 8, 8, 8, 8, 8, 8, 8, 8, 8, 8, 8, 8, 8, 8, 8, 8, 8, 8, 8, 8, 8, 8, 8, 8, 8, 8, 8, 8, 8, 8, 8, 8, 8, 8, 8, 8, 8, 8, 8, 8, 8, 8, 8, 8, 8, 8, 8, 8, 8, 8, 8, 8, 8, 8, 8, 8, 8, 8, 8, 8, 8, 8, 8, 8, 8, 8, 8, 8, 8, 8]) (IntKind.u8.wrap v0)
    if (0 : Int) ≤ (IntKind.u8.wrap v0) ∧ (IntKind.u8.wrap v0) < (ByteArray.size (ByteArray.mk #[0, 1, 2, 2, 3, 3, 3, 3, 4, 4, 4, 4, 4, 4, 4, 4, 5, 5, 5, 5, 5, 5, 5, 5, 5, 5, 5, 5, 5, 5, 5, 5, 6, 6, 6, 6, 6, 6, 6, 6, 6, 6, 6, 6, 6, 6, 6, 6, 6, 6, 6, 6, 6, 6, 6, 6, 6, 6, 6, 6, 6, 6, 6, 6, 7, 7, 7, 7, 7, 7, 7, 7, 7, 7, 7, 7, 7, 7, 7, 7, 7, 7, 7, 7, 7, 7, 7, 7, 7, 7, 7, 7, 7, 7, 7, 7, 7, 7, 7, 7, 7, 7, 7, 7, 7, 7, 7, 7, 7, 7, 7, 7, 7, 7, 7, 7, 7, 7, 7, 7, 7, 7, 7, 7, 7, 7, 7, 7, 8, 8, 8, 8, 8, 8, 8, 8, 8, 8, 8, 8, 8, 8, 8, 8, 8, 8, 8, 8, 8, 8, 8, 8, 8, 8, 8, 8, 8, 8, 8, 8, 8, 8, 8, 8, 8, 8, 8, 8, 8, 8, 8, 8, 8, 8, 8, 8, 8, 8, 8, 8, 8, 8, 8, 8, 8, 8, 8, 8, 8, 8, 8, 8, 8, 8, 8, 8, 8, 8, 8, 8, 8, 8, 8, 8, 8, 8, 8, 8, 8, 8, 8, 8, 8, 8, 8, 8, 8, 8, 8, 8, 8, 8, 8, 8, 8, 8, 8, 8, 8, 8, 8, 8, 8, 8, 8, 8, 8, 8, 8, 8, 8, 8, 8, 8, 8, 8, 8, 8, 8, 8, 8, 8, 8, 8, 8, 8]) : Int) then
      some ((IntKind.i64.wrap (v2 + (IntKind.i64.wrap e1))), ())
    else
      none :=
  (run_eq _ _ _ _).trans (by kernel_rfl)
end
end Go.Proofs.Ytckafnfidjfhjaa.Srtx
