/- The bytes of a term: what the program writes. Under no condition. -/
import Derived.Test.YtopfdggagijdkaaGPut
import Derived.Test.YtopfdggagijdkaaEncS
import Derived.Test.YtopfdggagijdkaaRight
set_option linter.unusedVariables false
set_option linter.unusedSimpArgs false
namespace Go.Proofs.Ytopfdggagijdkaa.Pure
open Go.RowKit Go.Proofs.Ytopfdggagijdkaa.F Go.Proofs.Ytopfdggagijdkaa.Open Go.Proofs.Ytopfdggagijdkaa.Aid Go.Proofs.YtopfdggagijdkaaW.PrintWords Go.Proofs.YtopfdggagijdkaaW.PrintLast Go.Proofs.YtopfdggagijdkaaW.PrintMore

theorem write_l0 (l : List S25) (hl : l.length ≤ 2513169434843) (ih : ∀ y ∈ l, ∀ b : List Int, b.length + (encT y).length < 140737488355328 → Ev (fun k => term_write.f k b y.f0 y.f1 y.f2 y.f3) (b ++ encT y)) (d : Nat) :
    ∀ (i : Nat) (b : List Int), i ≤ l.length → l.length - i = d → b.length + (encL (l.drop i)).length < 140737488355328 → Ev (fun k => term_write.l0 k b l (l.length : Int) (i : Int)) (b ++ encL (l.drop i)) := by
  induction d with
  | zero =>
    intro i b hi hd hb
    refine Ev.suc ?_
    have c : ¬ (i : Int) < (l.length : Int) := by omega
    simp only [term_write.l0, if_neg c]
    rw [List.drop_eq_nil_of_le (by omega), encL, List.append_nil]
    exact Ev.now _
  | succ d ihd =>
    intro i b hi hd hb
    have hlt : i < l.length := by omega
    have a1 : (i : Int) < (l.length : Int) := by omega
    have a2 : 0 ≤ (i : Int) := by omega
    rw [List.drop_eq_getElem_cons hlt, encL] at hb ⊢
    rw [List.length_append] at hb
    refine Ev.suc ?_
    simp only [term_write.l0, if_pos a1, if_pos a2, rdT hlt]
    refine Ev.bind (ih _ (List.getElem_mem hlt) b (by omega)) ?_
    rw [w64s (n := 2513169434916) (by omega) (by omega), ← List.append_assoc]
    exact ihd (i + 1) _ (by omega) (by omega) (by rw [List.length_append]; omega)
theorem write_ev {x : S25} (h : ok25 x) : ∀ b : List Int, b.length + (encT x).length < 140737488355328 → Ev (fun k => term_write.f k b x.f0 x.f1 x.f2 x.f3) (b ++ encT x) := by
  induction h with
  | @mk x h0 h1 h2 h3 h4 h5 ih =>
    intro b hb
    have hu := wf_u64 h1
    obtain ⟨f, hf⟩ : ∃ f : Nat, x.f1 = (f : Int) := ⟨x.f1.toNat, by omega⟩
    have hs : x.f2.size < 18446744073709551616 := by omega
    have hl : x.f3.length < 18446744073709551616 := by omega
    rw [encT_eq] at hb ⊢
    rw [List.length_append] at hb
    have j1 : ∀ c : List Int, c.length + (encL x.f3).length < 140737488355328 → Ev (fun k => term_write.j1 k c x.f0 x.f1 x.f2 x.f3) (c ++ encL x.f3) := by
      intro c hc
      refine Ev.suc ?_
      simp only [term_write.j1]
      exact write_l0 x.f3 (by omega) ih _ 0 c (by omega) rfl (by simpa using hc)
    have key : ∀ t : Bool, t = decide (x.f0 = 1 ∨ x.f0 = 3 ∨ x.f0 = 4) → Ev (fun k => term_write.j0 k (b ++ [x.f0 % 256]) x.f0 t x.f0 x.f1 x.f2 x.f3) (b ++ (hd x.f0 x.f1 x.f2 x.f3.length ++ encL x.f3)) := by
      intro t ht
      refine Ev.suc ?_
      simp only [term_write.j0, ht, decide_eq_true_eq]
      unfold hd at hb ⊢
      rw [List.length_cons] at hb
      by_cases c1 : x.f0 = 1 ∨ x.f0 = 3 ∨ x.f0 = 4
      · simp only [if_pos c1] at hb ⊢
        rw [hf] at hb ⊢
        rw [Int.toNat_natCast] at hb ⊢
        refine Ev.bind (PutNum_ev (n := f) (by omega)) ?_
        have a1 : (b ++ [x.f0 % 256]).length + (strOfNums (putN f)).size < 140737488355328 := by rw [size_str, List.length_append, List.length_singleton]; omega
        simp only [if_pos a1, bytesOf_str (putN_B f)]
        have := j1 (b ++ [x.f0 % 256] ++ putN f) (by simp only [List.length_append, List.length_singleton]; omega)
        rw [hf] at this
        simpa using this
      · simp only [if_neg c1] at hb ⊢
        by_cases c2 : x.f0 = 2
        · simp only [if_pos c2] at hb ⊢
          rw [List.length_append, bytesOf_length] at hb
          rw [wraps_u64 _ (by omega) (by omega)]
          refine Ev.bind (PutNum_ev hs) ?_
          have a1 : (b ++ [x.f0 % 256]).length + (strOfNums (putN x.f2.size)).size < 140737488355328 := by rw [size_str, List.length_append, List.length_singleton]; omega
          simp only [if_pos a1, bytesOf_str (putN_B _), Option.bind_some]
          have a2 : (b ++ [x.f0 % 256] ++ putN x.f2.size).length + x.f2.size < 140737488355328 := by simp only [List.length_append, List.length_singleton]; omega
          simp only [if_pos a2]
          have := j1 (b ++ [x.f0 % 256] ++ putN x.f2.size ++ bytesOf x.f2) (by simp only [List.length_append, List.length_singleton, bytesOf_length]; omega)
          simpa using this
        · simp only [if_neg c2] at hb ⊢
          by_cases c5 : x.f0 = 5
          · simp only [if_pos c5] at hb ⊢
            rw [wraps_u64 _ (by omega) (by omega)]
            refine Ev.bind (PutNum_ev hl) ?_
            have a1 : (b ++ [x.f0 % 256]).length + (strOfNums (putN x.f3.length)).size < 140737488355328 := by rw [size_str, List.length_append, List.length_singleton]; omega
            simp only [if_pos a1, bytesOf_str (putN_B _)]
            have := j1 (b ++ [x.f0 % 256] ++ putN x.f3.length) (by simp only [List.length_append, List.length_singleton]; omega)
            simpa using this
          · simp only [if_neg c5] at hb ⊢
            have := j1 (b ++ [x.f0 % 256]) (by simp only [List.length_append, List.length_singleton]; omega)
            simpa using this
    refine Ev.suc ?_
    have a0 : b.length < 140737488355328 := by omega
    simp only [term_write.f, if_pos a0, Option.bind_some]
    by_cases c1 : x.f0 = 1
    · simp only [if_pos c1]
      rw [← c1]
      exact key _ (by simp [c1])
    · simp only [if_neg c1]
      by_cases c3 : x.f0 = 3
      · simp only [if_pos c3]
        rw [← c3]
        exact key _ (by simp [c3])
      · simp only [if_neg c3]
        exact key _ (by simp [c1, c3, beqd])
theorem Encode_ev {x : S25} (h : ok25 x) : Ev (fun k => term_Encode.f k x.f0 x.f1 x.f2 x.f3) (encode x) := by
  unfold term_Encode.f encode
  refine Ev.bind (Right_ev h) ?_
  by_cases c : rightT x = 0
  · simp only [if_pos c]
    have := right_len h c
    exact Ev.bind (write_ev h [] (by simp; omega)) (Ev.now _)
  · simp only [if_neg c]
    exact Ev.now _

end Go.Proofs.Ytopfdggagijdkaa.Pure
