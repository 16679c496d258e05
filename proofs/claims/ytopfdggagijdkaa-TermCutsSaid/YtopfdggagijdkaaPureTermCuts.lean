/- The pure law TermCuts: for all arguments. -/
import Derived.Test.YtopfdggagijdkaaSayTermCuts
import Derived.Test.YtopfdggagijdkaaReadP
import Derived.Test.YtopfdggagijdkaaEnc
import Derived.Test.YtopfdggagijdkaaRightR
set_option linter.unusedVariables false
set_option linter.unusedSimpArgs false
namespace Go.Proofs.Ytopfdggagijdkaa.Pure
open Go.RowKit Go.Proofs.Ytopfdggagijdkaa.F Go.Proofs.Ytopfdggagijdkaa.Open Go.Proofs.Ytopfdggagijdkaa.Aid Go.Proofs.YtopfdggagijdkaaW.PrintWords Go.Proofs.YtopfdggagijdkaaW.PrintLast Go.Proofs.YtopfdggagijdkaaW.PrintMore

theorem rest_ev {x : S25} (h : ok25 x) (hr : rightT x = 0) (a2 : ByteArray) (h2 : a2.size ≤ 140737488351232) : Ev (fun k => if (strOfNums (encT x)).size + a2.size ≤ 9223372036854775807 then ((term_Decode.f k (strOfNums (encT x) ++ a2)).bind fun bt113 => (if bt113.2.2.2.2 = 24 then (if a2.toList = ([] : List UInt8) then (if bt113.2.2.2.2 = 0 then (some (a2.toList == ([] : List UInt8))) else (some false)) else (some true)) else (if bt113.2.2.2.2 = 0 then (some (a2.toList == ([] : List UInt8))) else (some false)))) else (none)) true := by
  have hl := right_len h hr
  have hsz := size_str (encT x)
  have c1 : (strOfNums (encT x)).size + a2.size ≤ 9223372036854775807 := by omega
  simp only [if_pos c1]
  have hs2 : (strOfNums (encT x) ++ a2).size = (strOfNums (encT x)).size + a2.size := by simp
  refine Ev.bind (Decode_ev _ (by rw [hs2]; omega)) ?_
  obtain ⟨r1, r2, r3⟩ := right_is hr
  have e : decode (bytesOf (strOfNums (encT x) ++ a2)) = if bytesOf a2 = [] then (x.f0, x.f1, x.f2, x.f3, 0) else (0, 0, ⟨#[]⟩, [], 24) := by
    unfold decode
    rw [bytesOf_append, bytesOf_str (encT_B h), rdF_reads h 12 _ 0 r3 r2 (by omega)]
  rw [e]
  by_cases c : bytesOf a2 = []
  · have c2 : a2.toList = ([] : List UInt8) := toList_nil_iff.2 c
    simp only [if_pos c, if_pos c2, show ¬ (0 : Int) = 24 from by decide, if_false, if_true, c2]
    exact Ev.now _
  · have c2 : ¬ a2.toList = ([] : List UInt8) := fun h => c (toList_nil_iff.1 h)
    simp only [if_neg c, if_neg c2, if_true]
    exact Ev.now _
theorem TermCuts : TermCutsPure := by
  intro x0 x1 x2 h0 h1 h2
  unfold lethelaw02_TermCuts.f
  refine Ev.rounds (Ev.bind (Encode_ev h0) (Ev.bind (RightR_ev h0) ?_))
  unfold encode
  by_cases hr : rightT x0 = 0
  · simp only [if_pos hr, if_true, hr]
    have hl := right_len h0 hr
    have hsz := size_str (encT x0)
    have fin := rest_ev h0 hr x2 h2
    have nocut : Ev (fun k => lethelaw02_TermCuts.j0 k x1 x2 (strOfNums (encT x0)) false) true := by
      refine Ev.suc ?_
      simp only [lethelaw02_TermCuts.j0, Bool.false_eq_true, if_false]
      exact fin
    by_cases c1 : x1 ≥ 0
    · simp only [if_pos c1]
      by_cases c2 : x1 < ((strOfNums (encT x0)).size : Int)
      · simp only [decide_eq_true c2]
        refine Ev.suc ?_
        have c3 : 0 ≤ x1 := c1
        have c4 : x1 ≤ ((strOfNums (encT x0)).size : Int) := by omega
        simp only [lethelaw02_TermCuts.j0, if_true, if_pos c3, if_pos c4]
        obtain ⟨r1, r2, r3⟩ := right_is hr
        have hs2 : ((strOfNums (encT x0)).extract 0 x1.toNat).size ≤ 281474976710656 := by
          rw [str_take, size_str, List.length_take]; omega
        refine Ev.bind (Decode_ev _ hs2) ?_
        have e : decode (bytesOf ((strOfNums (encT x0)).extract 0 x1.toNat)) = (0, 0, ⟨#[]⟩, [], 20) := by
          unfold decode
          rw [str_take, bytesOf_str ((encT_B h0).take _), rdF_cut h0 12 x1.toNat 0 r3 r2 (by omega) (by omega)]
        rw [e]
        simp only [if_true]
        exact fin
      · simp only [decide_eq_false c2]
        exact nocut
    · simp only [if_neg c1]
      exact nocut
  · simp only [if_neg hr, if_true]
    exact Ev.now _

end Go.Proofs.Ytopfdggagijdkaa.Pure
