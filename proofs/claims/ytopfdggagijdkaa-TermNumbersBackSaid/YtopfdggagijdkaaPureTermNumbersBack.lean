/- The pure law TermNumbersBack: for all arguments. -/
import Derived.Test.YtopfdggagijdkaaSayTermNumbersBack
import Derived.Test.YtopfdggagijdkaaNum2
set_option linter.unusedVariables false
set_option linter.unusedSimpArgs false
namespace Go.Proofs.Ytopfdggagijdkaa.Pure
open Go.RowKit Go.Proofs.Ytopfdggagijdkaa.F Go.Proofs.Ytopfdggagijdkaa.Open Go.Proofs.Ytopfdggagijdkaa.Aid Go.Proofs.YtopfdggagijdkaaW.PrintWords Go.Proofs.YtopfdggagijdkaaW.PrintLast Go.Proofs.YtopfdggagijdkaaW.PrintMore

theorem nb_j1 (x1 : ByteArray) (h1 : x1.size ≤ 140737488351232) : Ev (fun k => lethelaw02_TermNumbersBack.j1 k x1 false) true := by
  have h1' : x1.size ≤ maxLen := Nat.le_trans h1 (by decide)
  refine Ev.suc ?_
  simp only [lethelaw02_TermNumbersBack.j1, Bool.false_eq_true, if_false]
  refine Ev.bind (GetNum_ev x1 h1') ?_
  rcases get_is0 (AllB.of_bytes x1) with ⟨m, more, h2, hm, h3⟩ | h3 | h3
  · rw [h3]
    have hl : (bytesOf x1).length = (putN m).length + more.length := by rw [h2, List.length_append]
    rw [bytesOf_length] at hl
    have hp := putN_pos m
    have c1 : ((putN m).length : Int) ≥ 1 := by omega
    have c2 : ((putN m).length : Int) ≤ (x1.size : Int) := by omega
    have c3 : 0 ≤ ((putN m).length : Int) := by omega
    simp only [if_pos c1, if_pos c2, if_true]
    refine Ev.bind (PutNum_ev hm) ?_
    simp only [if_pos c3, Int.toNat_natCast]
    refine Ev.const ?_
    have : (strOfNums (putN m)).toList = (x1.extract 0 (putN m).length).toList := by
      rw [toList_iff, bytesOf_str (putN_B m), bytesOf_extract, h2]
      simp
    rw [this]
    simp
  · rw [h3]
    simp only [show ¬ (20 : Int) = 0 from by decide, if_false, if_true]
    exact Ev.now _
  · rw [h3]
    simp only [show ¬ (21 : Int) = 0 from by decide, if_false, if_true]
    exact Ev.now _
theorem TermNumbersBack : TermNumbersBackPure := by
  intro x0 x1 h0 h1
  have hx := wf_u64 h0
  obtain ⟨n, rfl⟩ : ∃ n : Nat, x0 = (n : Int) := ⟨x0.toNat, by omega⟩
  have hn : n < 18446744073709551616 := by omega
  have hp := putN_pos n
  have hq := putN_len10 hn
  have hs := size_str (putN n)
  unfold lethelaw02_TermNumbersBack.f
  refine Ev.rounds (Ev.bind (PutNum_ev hn) ?_)
  have c1 : ¬ ((strOfNums (putN n)).size : Int) < 1 := by omega
  have c2 : ¬ ((strOfNums (putN n)).size : Int) > 10 := by omega
  simp only [if_neg c1, decide_eq_false c2]
  refine Ev.suc ?_
  have c3 : (strOfNums (putN n)).size + x1.size ≤ 9223372036854775807 := by omega
  have e1 : wrap64 (((strOfNums (putN n)).size : Int) - 1) = (((putN n).length - 1 : Nat) : Int) := by rw [w64 (by omega) (by omega)]; omega
  have c4 : 0 ≤ (((putN n).length - 1 : Nat) : Int) := by omega
  have c5 : (((putN n).length - 1 : Nat) : Int) ≤ ((strOfNums (putN n)).size : Int) := by omega
  simp only [lethelaw02_TermNumbersBack.j0, Bool.false_eq_true, if_false, if_pos c3, e1, if_pos c4, if_pos c5, Int.toNat_natCast]
  have hs2 : (strOfNums (putN n) ++ x1).size = (strOfNums (putN n)).size + x1.size := by simp
  have g1 := GetNum_ev (strOfNums (putN n) ++ x1) (by rw [hs2]; exact Nat.le_trans c3 (by decide))
  rw [bytesOf_append, bytesOf_str (putN_B n), get_put0 hn] at g1
  refine Ev.bind g1 ?_
  have g2 := GetNum_ev ((strOfNums (putN n)).extract 0 ((putN n).length - 1)) (by rw [str_take, size_str]; exact Nat.le_trans (Nat.le_trans (List.length_take_le _ _) (Nat.sub_le _ _)) (Nat.le_trans hq (by decide)))
  rw [str_take, bytesOf_str ((putN_B n).take _), get_cut0 hn (by omega)] at g2
  rw [← str_take] at g2
  refine Ev.bind g2 ?_
  have c6 : ((putN n).length : Int) = ((strOfNums (putN n)).size : Int) := by omega
  simp only [if_pos c6, if_true]
  exact nb_j1 x1 h1

end Go.Proofs.Ytopfdggagijdkaa.Pure
