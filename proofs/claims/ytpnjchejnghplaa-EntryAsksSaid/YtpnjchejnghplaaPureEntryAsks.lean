/- The last version of any secret, and that of any number, are those that the document says. Under no condition. -/
import Derived.Test.YtpnjchejnghplaaSayEntryAsks
import Derived.Test.YtpnjchejnghplaaAid
set_option linter.unusedVariables false
namespace Go.Proofs.Ytpnjchejnghplaa.Pure
open Go.RowKit Go.Proofs.Ytpnjchejnghplaa.F Go.Proofs.Ytpnjchejnghplaa.Open Go.Proofs.Ytpnjchejnghplaa.Aid Go.Proofs.YtpnjchejnghplaaW.PrintWords Go.Proofs.YtpnjchejnghplaaW.PrintLast Go.Proofs.YtpnjchejnghplaaW.PrintMore

theorem last_some (a : ByteArray) (l : List S26) (hl : l.length ≤ maxLen) : ∃ r, entry_Last.f a l = some r ∧ letheref05_Last.f a l = some r := by
  have h : ∃ r, entry_Last.f a l = some r := by
    unfold entry_Last.f
    by_cases h0 : (l.length : Int) = 0
    · exact ⟨_, if_pos h0⟩
    · unfold maxLen at hl
      rw [if_neg h0, w64 (by omega) (by omega), if_pos (by omega), if_pos (by omega)]
      exact ⟨_, rfl⟩
  obtain ⟨r, hr⟩ := h
  exact ⟨r, hr, hr⟩
theorem at_some (a : Int) (l : List S26) (hl : l.length ≤ maxLen) (d : Nat) : ∀ (k j : Nat), j ≤ l.length → l.length - j = d → d < k → ∃ r, entry_At.l0 k a l (l.length : Int) (j : Int) = some r ∧ letheref05_At.l0 k a l (l.length : Int) (j : Int) = some r := by
  unfold maxLen at hl
  induction d with
  | zero =>
    intro k j hj hd hk
    obtain ⟨k, rfl⟩ : ∃ m, k = m + 1 := ⟨k - 1, by omega⟩
    simp only [entry_At.l0, letheref05_At.l0]
    have c1 : ¬ (j : Int) < (l.length : Int) := by omega
    simp only [if_neg c1]
    exact ⟨_, rfl, rfl⟩
  | succ d ih =>
    intro k j hj hd hk
    obtain ⟨k, rfl⟩ : ∃ m, k = m + 1 := ⟨k - 1, by omega⟩
    simp only [entry_At.l0, letheref05_At.l0]
    have c1 : (j : Int) < (l.length : Int) := by omega
    have c2 : 0 ≤ (j : Int) := by omega
    simp only [if_pos c1, if_pos c2]
    by_cases h : (rd_T26 l (j : Int)).f0 = a
    · rw [if_pos h, if_pos h]
      exact ⟨_, rfl, rfl⟩
    · rw [if_neg h, if_neg h, w64s (show j < l.length by omega) hl]
      exact ih k (j + 1) (by omega) (by omega) (by omega)

-- ∀ (x0 : S24) (x1 : Int), ok24 x0 → (Lit.int .i64 x1).wf = true → ∃ k, lethelaw05_EntryAsks.f k x0.f0 x0.f1 x1 = some true
theorem EntryAsks : EntryAsksPure := by
  intro e no he _
  obtain ⟨_, _, hl, _⟩ := he
  obtain ⟨r, h1, h2⟩ := last_some e.f0 e.f1 hl
  obtain ⟨q, h3, h4⟩ := at_some no e.f1 hl e.f1.length (e.f1.length + 1) 0 (by omega) (by omega) (by omega)
  refine ⟨e.f1.length + 1, ?_⟩
  unfold lethelaw05_EntryAsks.f
  rw [h1, h2]
  have h5 : entry_At.f (e.f1.length + 1) e.f0 e.f1 no = some q := h3
  have h6 : letheref05_At.f (e.f1.length + 1) e.f0 e.f1 no = some q := h4
  simp only [Option.bind_some, h5, h6, beq_self_eq_true, Bool.and_self, if_true]

end Go.Proofs.Ytpnjchejnghplaa.Pure
