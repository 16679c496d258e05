/- What is wrong with a secret, but that it may be new: the program's answer and the document's are one. Under no condition. -/
import Derived.Test.YtpnjchejnghplaaFn34
import Derived.Test.YtpnjchejnghplaaFn32
import Derived.Test.YtpnjchejnghplaaAid
set_option linter.unusedVariables false
set_option linter.unusedSimpArgs false
namespace Go.Proofs.Ytpnjchejnghplaa.Pure
open Go.RowKit Go.Proofs.Ytpnjchejnghplaa.F Go.Proofs.Ytpnjchejnghplaa.Open Go.Proofs.Ytpnjchejnghplaa.Aid Go.Proofs.YtpnjchejnghplaaW.PrintWords Go.Proofs.YtpnjchejnghplaaW.PrintLast Go.Proofs.YtpnjchejnghplaaW.PrintMore

/-- A quota that may be. -/
def QOK (q0 q1 q2 q3 q4 q5 q6 : Int) : Prop := (1 ≤ q0 ∧ q0 ≤ 64) ∧ (1 ≤ q1 ∧ q1 ≤ 16) ∧ (0 ≤ q2 ∧ q2 ≤ 32) ∧ (0 ≤ q3 ∧ q3 ≤ 16) ∧ (1 ≤ q4 ∧ q4 ≤ 4) ∧ (1 ≤ q5 ∧ q5 ≤ 8) ∧ (0 ≤ q6 ∧ q6 ≤ 32)
instance (q0 q1 q2 q3 q4 q5 q6 : Int) : Decidable (QOK q0 q1 q2 q3 q4 q5 q6) := by unfold QOK; infer_instance
theorem in_f (a b c : Int) : quota_in.f a b c = some (decide (b ≤ a ∧ a ≤ c)) := by
  unfold quota_in.f
  by_cases h : a ≥ b
  · rw [if_pos h]
    congr 1
    apply decide_eq_decide.2
    omega
  · rw [if_neg h]
    congr 1
    symm
    apply decide_eq_false
    omega
theorem quota_f (q0 q1 q2 q3 q4 q5 q6 : Int) : quota_Right.f q0 q1 q2 q3 q4 q5 q6 = some (if QOK q0 q1 q2 q3 q4 q5 q6 then 0 else 40) := by
  unfold quota_Right.f
  simp only [in_f, Option.bind_some, decide_eq_true_eq]
  unfold QOK
  by_cases h0 : 1 ≤ q0 ∧ q0 ≤ 64 <;> by_cases h1 : 1 ≤ q1 ∧ q1 ≤ 16 <;> by_cases h2 : 0 ≤ q2 ∧ q2 ≤ 32 <;> by_cases h3 : 0 ≤ q3 ∧ q3 ≤ 16 <;> by_cases h4 : 1 ≤ q4 ∧ q4 ≤ 4 <;> by_cases h5 : 1 ≤ q5 ∧ q5 ≤ 8 <;> by_cases h6 : 0 ≤ q6 ∧ q6 ≤ 32 <;> simp only [h0, h1, h2, h3, h4, h5, h6, and_true, true_and, and_false, false_and, if_true, if_false]
theorem iteN {c : Prop} [Decidable c] {a : Option Bool} (h : ¬ c → a = some false) : (if c then some false else a) = some false := by
  by_cases hc : c
  · rw [if_pos hc]
  · rw [if_neg hc]; exact h hc
theorem iteP {c : Prop} [Decidable c] {a : Option Bool} (h : c → a = some false) : (if c then a else some false) = some false := by
  by_cases hc : c
  · rw [if_pos hc]; exact h hc
  · rw [if_neg hc]
theorem quotaRef_f (q0 q1 q2 q3 q4 q5 q6 : Int) : letheref04_Right.f q0 q1 q2 q3 q4 q5 q6 = some (decide (QOK q0 q1 q2 q3 q4 q5 q6)) := by
  unfold letheref04_Right.f
  by_cases h : QOK q0 q1 q2 q3 q4 q5 q6
  · rw [decide_eq_true h]
    unfold QOK at h
    rw [if_neg (by omega), if_neg (by omega), if_neg (by omega), if_neg (by omega), if_neg (by omega), if_neg (by omega), if_neg (by omega), if_neg (by omega), if_pos (by omega), if_pos (by omega), if_pos (by omega), if_pos (by omega), if_pos (by omega)]
    rw [decide_eq_true (by omega)]
  · rw [decide_eq_false h]
    unfold QOK at h
    refine iteN fun c0 => iteN fun c1 => iteN fun c2 => iteN fun c3 => iteN fun c4 => iteN fun c5 => iteN fun c6 => iteN fun c7 => iteP fun c8 => iteP fun c9 => iteP fun c10 => iteP fun c11 => iteP fun c12 => ?_
    rw [decide_eq_false (by omega)]
/-- What is wrong with versions, behind one of the number last. -/
def vers (v n : Int) : Int → List S26 → Int
  | _, [] => 0
  | last, x :: t => if x.f0 ≤ last ∨ x.f0 > 1073741824 then 50 else if (x.f1.size : Int) > v ∨ (x.f2.size : Int) > n then 5 else vers v n x.f0 t
def namedS (q0 q1 q2 q3 q4 q5 q6 : Int) (nm : ByteArray) (l : List S26) : Int :=
  if QOK q0 q1 q2 q3 q4 q5 q6 then (if nm.toList = ([] : List UInt8) then 4 else if (nm.size : Int) > q1 then 5 else if (l.length : Int) > q4 then 50 else vers q2 q3 0 l) else 40
theorem texts_f (q0 q1 q2 q3 q4 q5 q6 : Int) (a b : ByteArray) : entry_texts.f q0 q1 q2 q3 q4 q5 q6 a b = some (if (a.size : Int) > q2 ∨ (b.size : Int) > q3 then 5 else 0) := by
  unfold entry_texts.f
  by_cases h : (a.size : Int) > q2
  · rw [if_pos h, if_pos (Or.inl h)]
  · rw [if_neg h]
    by_cases h2 : (b.size : Int) > q3
    · rw [if_pos h2, if_pos (Or.inr h2)]
    · rw [if_neg h2, if_neg (by omega)]
theorem rd_drop {l : List S26} {j : Nat} (h : j < l.length) : l.drop j = rd_T26 l (j : Int) :: l.drop (j + 1) := by
  rw [List.drop_eq_getElem_cons h]
  simp [rd_T26, List.getD, h]
theorem rd_drop_cast {l : List S26} {j : Nat} (h : j < l.length) : rd_T26 l (j : Int) = l[j] := by simp [rd_T26, List.getD, h]
theorem named_l0 (q0 q1 q2 q3 q4 q5 q6 : Int) (l : List S26) (hl : l.length ≤ maxLen) (d : Nat) : ∀ (j : Nat) (last : Int), j ≤ l.length → l.length - j = d →
    Ev (fun k => entry_named.l0 k last l (l.length : Int) (j : Int) q0 q1 q2 q3 q4 q5 q6) (vers q2 q3 last (l.drop j)) := by
  unfold maxLen at hl
  induction d with
  | zero =>
    intro j last hj hd
    refine Ev.suc ?_
    have c1 : ¬ (j : Int) < (l.length : Int) := by omega
    simp only [entry_named.l0, if_neg c1]
    rw [List.drop_eq_nil_of_le (by omega)]
    exact Ev.now _
  | succ d ih =>
    intro j last hj hd
    have hlt : j < l.length := by omega
    rw [rd_drop hlt]
    generalize hx : rd_T26 l (j : Int) = x
    have key : Ev (fun k => entry_named.j1 k l (l.length : Int) (j : Int) (decide (x.f0 ≤ last ∨ x.f0 > 1073741824)) q0 q1 q2 q3 q4 q5 q6 x.f0 x.f1 x.f2) (vers q2 q3 last (x :: l.drop (j + 1))) := by
      refine Ev.suc ?_
      simp only [entry_named.j1, texts_f, Option.bind_some, decide_eq_true_eq, vers]
      by_cases h1 : x.f0 ≤ last ∨ x.f0 > 1073741824
      · simp only [if_pos h1]
        exact Ev.now _
      · simp only [if_neg h1]
        by_cases h2 : (x.f1.size : Int) > q2 ∨ (x.f2.size : Int) > q3
        · simp only [if_pos h2]
          exact Ev.now _
        · simp only [if_neg h2, if_true]
          rw [w64s hlt hl]
          exact ih (j + 1) x.f0 (by omega) (by omega)
    refine Ev.suc ?_
    have c1 : (j : Int) < (l.length : Int) := by omega
    have c2 : 0 ≤ (j : Int) := by omega
    simp only [entry_named.l0, if_pos c1, if_pos c2, hx]
    by_cases h1 : x.f0 ≤ last
    · rw [decide_eq_true (Or.inl h1)] at key
      simp only [if_pos h1]
      exact key
    · simp only [if_neg h1]
      rw [show decide (x.f0 ≤ last ∨ x.f0 > 1073741824) = decide (x.f0 > 1073741824) from decide_eq_decide.2 (by omega)] at key
      exact key
theorem named_ev (q0 q1 q2 q3 q4 q5 q6 : Int) (nm : ByteArray) (l : List S26) (hl : l.length ≤ maxLen) : Ev (fun k => entry_named.f k q0 q1 q2 q3 q4 q5 q6 nm l) (namedS q0 q1 q2 q3 q4 q5 q6 nm l) := by
  unfold namedS
  simp only [entry_named.f, quota_f, Option.bind_some]
  by_cases hq : QOK q0 q1 q2 q3 q4 q5 q6
  · simp only [if_pos hq, if_true]
    by_cases h1 : nm.toList = ([] : List UInt8)
    · simp only [if_pos h1]; exact Ev.now _
    · simp only [if_neg h1]
      by_cases h2 : (nm.size : Int) > q1
      · simp only [if_pos h2]; exact Ev.now _
      · simp only [if_neg h2]
        by_cases h3 : (l.length : Int) > q4
        · simp only [if_pos h3]; exact Ev.now _
        · simp only [if_neg h3]
          exact named_l0 q0 q1 q2 q3 q4 q5 q6 l hl l.length 0 0 (by omega) (by omega)
  · simp only [if_neg hq]
    exact Ev.now _
theorem Named_l0 (q0 q1 q2 q3 q4 q5 q6 : Int) (nm : ByteArray) (l : List S26) (hl : l.length ≤ maxLen) (d : Nat) : ∀ (j : Nat) (last : Int), j ≤ l.length → l.length - j = d →
    (j = 0 → last = 0) → (∀ h : 0 < j, 1 ≤ last ∧ last = (rd_T26 l ((j - 1 : Nat) : Int)).f0) →
    Ev (fun k => letheref05_Named.l0 k l (l.length : Int) (j : Int) q0 q1 q2 q3 q4 q5 q6 nm l) (vers q2 q3 last (l.drop j)) := by
  have hl0 := hl
  unfold maxLen at hl
  induction d with
  | zero =>
    intro j last hj hd _ _
    refine Ev.suc ?_
    have c1 : ¬ (j : Int) < (l.length : Int) := by omega
    simp only [letheref05_Named.l0, if_neg c1]
    rw [List.drop_eq_nil_of_le (by omega)]
    exact Ev.now _
  | succ d ih =>
    intro j last hj hd hz hp
    have hlt : j < l.length := by omega
    rw [rd_drop hlt]
    generalize hx : rd_T26 l (j : Int) = x
    have key : Ev (fun k => letheref05_Named.j1 k l (l.length : Int) (j : Int) (decide (x.f0 ≤ last ∨ x.f0 > 1073741824)) q0 q1 q2 q3 q4 q5 q6 nm l x.f0 x.f1 x.f2) (vers q2 q3 last (x :: l.drop (j + 1))) := by
      refine Ev.suc ?_
      simp only [letheref05_Named.j1, decide_eq_true_eq, vers]
      by_cases h1 : x.f0 ≤ last ∨ x.f0 > 1073741824
      · simp only [if_pos h1]
        exact Ev.now _
      · simp only [if_neg h1]
        have hlast : 0 ≤ last := by
          rcases Nat.eq_zero_or_pos j with h | h
          · rw [hz h]; omega
          · have := (hp h).1; omega
        by_cases h2 : (x.f1.size : Int) > q2
        · simp only [if_pos h2, h2, true_or, if_true]
          exact Ev.now _
        · by_cases h3 : (x.f2.size : Int) > q3
          · simp only [if_neg h2, if_pos h3, h3, or_true, if_true]
            exact Ev.now _
          · simp only [if_neg h2, if_neg h3, h2, h3, or_self, if_false]
            rw [w64s hlt hl]
            exact ih (j + 1) x.f0 (by omega) (by omega) (by omega) (fun _ => ⟨by omega, by rw [show j + 1 - 1 = j from rfl, hx]⟩)
    refine Ev.suc ?_
    have c1 : (j : Int) < (l.length : Int) := by omega
    have c2 : 0 ≤ (j : Int) := by omega
    simp only [letheref05_Named.l0, if_pos c1, if_pos c2, hx]
    have hlast : 0 ≤ last := by
      rcases Nat.eq_zero_or_pos j with h | h
      · rw [hz h]; omega
      · have := (hp h).1; omega
    by_cases h1 : x.f0 < 1
    · rw [decide_eq_true (Or.inl (by omega))] at key
      simp only [if_pos h1]
      exact key
    · simp only [if_neg h1]
      by_cases h2 : x.f0 > 1073741824
      · rw [decide_eq_true (Or.inr h2)] at key
        simp only [if_pos h2]
        exact key
      · simp only [if_neg h2]
        rcases Nat.eq_zero_or_pos j with h | h
        · subst h
          have := hz rfl
          rw [decide_eq_false (by omega)] at key
          have c3 : ¬ (((0 : Nat) : Int) > 0) := by omega
          simp only [if_neg c3]
          exact key
        · have c3 : (j : Int) > 0 := by omega
          have c4 : 0 ≤ (j : Int) - 1 := by omega
          have c5 : (j : Int) - 1 < (l.length : Int) := by omega
          rw [w64 (x := (j : Int) - 1) (by omega) (by omega)]
          simp only [if_pos c3, if_pos c4, if_pos c5]
          have h3 := (hp h).2
          rw [show ((j : Int) - 1) = ((j - 1 : Nat) : Int) from by omega, ← h3]
          rw [show decide (x.f0 ≤ last ∨ x.f0 > 1073741824) = decide (x.f0 ≤ last) from decide_eq_decide.2 (by omega)] at key
          exact key
theorem Named_ev (q0 q1 q2 q3 q4 q5 q6 : Int) (nm : ByteArray) (l : List S26) (hl : l.length ≤ maxLen) : Ev (fun k => letheref05_Named.f k q0 q1 q2 q3 q4 q5 q6 nm l) (namedS q0 q1 q2 q3 q4 q5 q6 nm l) := by
  unfold namedS
  simp only [letheref05_Named.f, quotaRef_f, Option.bind_some, decide_eq_true_eq]
  by_cases hq : QOK q0 q1 q2 q3 q4 q5 q6
  · simp only [if_pos hq]
    by_cases h1 : nm.toList = ([] : List UInt8)
    · simp only [if_pos h1]; exact Ev.now _
    · simp only [if_neg h1]
      by_cases h2 : (nm.size : Int) > q1
      · simp only [if_pos h2]; exact Ev.now _
      · simp only [if_neg h2]
        by_cases h3 : (l.length : Int) > q4
        · simp only [if_pos h3]; exact Ev.now _
        · simp only [if_neg h3]
          exact Named_l0 q0 q1 q2 q3 q4 q5 q6 nm l hl l.length 0 0 (by omega) (by omega) (fun _ => rfl) (fun h => by omega)
  · simp only [if_neg hq]
    exact Ev.now _
end Go.Proofs.Ytpnjchejnghplaa.Pure
