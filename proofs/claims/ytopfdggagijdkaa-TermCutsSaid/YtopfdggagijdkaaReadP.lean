/- Reading a term from bytes: what the program reads is what the plain function reads. Under no condition. -/
import Derived.Test.YtopfdggagijdkaaGGet
import Derived.Test.YtopfdggagijdkaaRead
set_option linter.unusedVariables false
set_option linter.unusedSimpArgs false
namespace Go.Proofs.Ytopfdggagijdkaa.Pure
open Go.RowKit Go.Proofs.Ytopfdggagijdkaa.F Go.Proofs.Ytopfdggagijdkaa.Open Go.Proofs.Ytopfdggagijdkaa.Aid Go.Proofs.YtopfdggagijdkaaW.PrintWords Go.Proofs.YtopfdggagijdkaaW.PrintLast Go.Proofs.YtopfdggagijdkaaW.PrintMore

theorem str_drop (l : List Int) (j : Nat) : (strOfNums l).extract j (strOfNums l).size = strOfNums (l.drop j) := by
  apply ByteArray.ext
  simp [strOfNums, List.map_drop, ByteArray.size]
  rw [List.take_of_length_le (by simp)]
theorem ext_size (s : ByteArray) (i : Nat) : bytesOf (s.extract i s.size) = (bytesOf s).drop i := by
  rw [bytesOf_extract, List.take_of_length_le (by rw [bytesOf_length]; omega)]
theorem ext_part (s : ByteArray) (i n : Nat) : s.extract i (i + n) = strOfNums (((bytesOf s).drop i).take n) := by
  apply bytesOf_inj
  rw [bytesOf_extract, bytesOf_str (((AllB.of_bytes s).drop i).take n), List.drop_take, Nat.add_sub_cancel_left]
abbrev RdP := Int × Int × ByteArray × List S25 × Int × ByteArray × Int
def MeetsP (r : Rd S25) (g : Nat → Option RdP) : Prop :=
  match r with
  | .ok (x, b', n) => Ev g (x.f0, x.f1, x.f2, x.f3, 0, strOfNums b', (n : Int))
  | .error e => e ≠ 0 ∧ ∃ s' n', Ev g (0, 0, (⟨#[]⟩ : ByteArray), ([] : List S25), e, s', n')
def MeetsL (c0 c1 : Int) (c2 : ByteArray) (acc : List S25) (r : Rd (List S25)) (g : Nat → Option RdP) : Prop :=
  match r with
  | .ok (l, b', n) => Ev g (c0, c1, c2, acc ++ l, 0, strOfNums b', (n : Int))
  | .error e => e ≠ 0 ∧ ∃ s' n', Ev g (0, 0, (⟨#[]⟩ : ByteArray), ([] : List S25), e, s', n')
theorem reader_l0 {D : Nat} {f : List Int → Nat → Rd S25} (around : Nat) (ha : around ≤ 12)
    (hf : ∀ b seen, AllB b → b.length ≤ 281474976710656 → seen ≤ 4000 → MeetsP (f b seen) (fun k => term_reader_term.f k (strOfNums b) (seen : Int) ((around + 1 : Nat) : Int)))
    (hw : ∀ b seen x b' n, AllB b → f b seen = .ok (x, b', n) → Was D b seen x b' n) (c0 c1 : Int) (c2 : ByteArray) (m : Nat) :
    ∀ b seen (acc : List S25), AllB b → b.length ≤ 281474976710656 → seen ≤ 4000 → m < 18446744073709551616 → acc.length ≤ seen →
      MeetsL c0 c1 c2 acc (rdL f m b seen) (fun k => term_reader_term.l0 k (around : Int) (m : Int) (strOfNums b) (seen : Int) c0 c1 c2 acc) := by
  induction m with
  | zero =>
    intro b seen acc hB hb hs hm ha
    rw [rdL]
    show Ev _ _
    refine Ev.suc ?_
    simp only [term_reader_term.l0, if_neg (show ¬ ((0 : Nat) : Int) > 0 by omega), List.append_nil]
    exact Ev.now _
  | succ m ih =>
    intro b seen acc hB hb hs hm hacc
    have h1 := hf b seen hB hb hs
    have c1' : (((m + 1 : Nat) : Int)) > 0 := by omega
    rw [rdL]
    cases e1 : f b seen with
    | error e =>
      rw [e1] at h1
      obtain ⟨he, s', n', hev⟩ := h1
      refine ⟨he, s', n', Ev.suc ?_⟩
      simp only [term_reader_term.l0, if_pos c1']
      rw [w64s (n := 13) (by omega) (by omega)]
      refine Ev.bind hev ?_
      simp only [if_neg he]
      exact Ev.now _
    | ok r =>
      obtain ⟨x, b1, n1⟩ := r
      rw [e1] at h1
      have w := hw _ _ _ _ _ hB e1
      have hpp := parts_pos x
      have hcnt := w.cnt
      have hmost := w.most
      have hB1 : AllB b1 := fun y hy => hB y (by rw [w.enc]; simp [hy])
      have hb1 : b1.length ≤ 281474976710656 := by have := congrArg List.length w.enc; rw [List.length_append] at this; omega
      have h2 := ih b1 n1 (acc ++ [x]) hB1 hb1 w.most (by omega) (by rw [List.length_append, List.length_singleton]; omega)
      have step : ∀ r, Ev (fun k => term_reader_term.l0 k (around : Int) (m : Int) (strOfNums b1) (n1 : Int) c0 c1 c2 (acc ++ [x])) r → Ev (fun k => term_reader_term.l0 k (around : Int) ((m + 1 : Nat) : Int) (strOfNums b) (seen : Int) c0 c1 c2 acc) r := by
        intro r hr
        refine Ev.suc ?_
        simp only [term_reader_term.l0, if_pos c1']
        rw [w64s (n := 13) (by omega) (by omega)]
        refine Ev.bind h1 ?_
        have a1 : acc.length < 2513169434916 := by omega
        simp only [if_true, if_pos a1, eta25]
        rw [wraps_u64 _ (by omega) (by omega), show ((m + 1 : Nat) : Int) - 1 = (m : Int) from by omega]
        exact hr
      simp only
      cases e2 : rdL f m b1 n1 with
      | error e =>
        rw [e2] at h2
        obtain ⟨he, s', n', hev⟩ := h2
        exact ⟨he, s', n', step _ hev⟩
      | ok r =>
        obtain ⟨l, b2, n2⟩ := r
        rw [e2] at h2
        have h3 := step _ h2
        simp only [List.append_assoc, List.cons_append, List.nil_append] at h3
        exact h3
theorem reader_j0 {D : Nat} {f : List Int → Nat → Rd S25} (around : Nat) (ha : around ≤ 12)
    (hf : ∀ b seen, AllB b → b.length ≤ 281474976710656 → seen ≤ 4000 → MeetsP (f b seen) (fun k => term_reader_term.f k (strOfNums b) (seen : Int) ((around + 1 : Nat) : Int)))
    (hw : ∀ b seen x b' n, AllB b → f b seen = .ok (x, b', n) → Was D b seen x b' n) (c : Int) (n : Nat) (hn : n < 18446744073709551616) (hc : 1 ≤ c ∧ c ≤ 5) (t : List Int) (seen : Nat) (hB : AllB t) (ht : t.length ≤ 281474976710656) (hs : seen ≤ 4000) :
    MeetsP (bodyT f c n t seen) (fun k => term_reader_term.j0 k (around : Int) (n : Int) 0 c (decide (c = 1 ∨ c = 3)) (strOfNums t) (seen : Int) c 0 ⟨#[]⟩) := by
  have j1 : ∀ (d1 : Int) (d2 : ByteArray) (m : Nat) (t : List Int), AllB t → t.length ≤ 281474976710656 → m < 18446744073709551616 → MeetsL c d1 d2 [] (rdL f m t seen) (fun k => term_reader_term.j1 k (around : Int) (m : Int) (strOfNums t) (seen : Int) c d1 d2) := by
    intro d1 d2 m t hB ht hm
    have h := reader_l0 around ha hf hw c d1 d2 m t seen [] hB ht hs hm (by simp)
    cases e : rdL f m t seen with
    | error e' =>
      rw [e] at h
      obtain ⟨he, s', n', hev⟩ := h
      refine ⟨he, s', n', Ev.suc ?_⟩
      simp only [term_reader_term.j1]
      exact hev
    | ok r =>
      obtain ⟨l, b2, n2⟩ := r
      rw [e] at h
      show Ev _ _
      refine Ev.suc ?_
      simp only [term_reader_term.j1]
      exact h
  unfold bodyT
  by_cases c13 : c = 1 ∨ c = 3
  · rw [if_pos c13]
    have h := j1 (n : Int) ⟨#[]⟩ 0 t hB ht (by omega)
    rw [rdL] at h
    show Ev _ _
    refine Ev.suc ?_
    simp only [term_reader_term.j0, decide_eq_true_eq, if_pos c13]
    exact h
  · rw [if_neg c13]
    by_cases c2 : c = 2
    · subst c2
      rw [if_pos rfl]
      have hsz := size_str t
      by_cases h1 : 4000 < n
      · rw [if_pos h1]
        refine ⟨by decide, strOfNums t, (seen : Int), Ev.suc ?_⟩
        have a1 : (n : Int) > 4000 := by omega
        simp only [term_reader_term.j0, decide_eq_true_eq, if_neg c13, if_true, if_pos a1]
        exact Ev.now _
      · rw [if_neg h1]
        have a1 : ¬ (n : Int) > 4000 := by omega
        have e1 : IntKind.u64.wrap ((strOfNums t).size : Int) = (t.length : Int) := by rw [hsz, wraps_u64 _ (by omega) (by omega)]
        by_cases h2 : t.length < n
        · rw [if_pos h2]
          refine ⟨by decide, strOfNums t, (seen : Int), Ev.suc ?_⟩
          have a2 : (n : Int) > (t.length : Int) := by omega
          simp only [term_reader_term.j0, decide_eq_true_eq, if_neg c13, if_true, if_neg a1, e1, if_pos a2]
          exact Ev.now _
        · rw [if_neg h2]
          have a2 : ¬ (n : Int) > (t.length : Int) := by omega
          have a3 : 0 ≤ (n : Int) := by omega
          have a4 : (n : Int) ≤ ((strOfNums t).size : Int) := by rw [hsz]; omega
          have h := j1 0 (strOfNums (t.take n)) 0 (t.drop n) (hB.drop n) (by rw [List.length_drop]; omega) (by omega)
          rw [rdL] at h
          show Ev _ _
          refine Ev.suc ?_
          simp only [term_reader_term.j0, decide_eq_true_eq, if_neg c13, if_true, if_neg a1, e1, if_neg a2, if_pos a3, if_pos a4, Int.toNat_natCast, str_drop, str_take]
          exact h
    · rw [if_neg c2]
      by_cases c4 : c = 4
      · subst c4
        have h := j1 (n : Int) ⟨#[]⟩ 1 t hB ht (by omega)
        have st : ∀ r, Ev (fun k => term_reader_term.j1 k (around : Int) ((1 : Nat) : Int) (strOfNums t) (seen : Int) 4 (n : Int) ⟨#[]⟩) r → Ev (fun k => term_reader_term.j0 k (around : Int) (n : Int) 0 4 (decide ((4 : Int) = 1 ∨ (4 : Int) = 3)) (strOfNums t) (seen : Int) 4 0 ⟨#[]⟩) r := by
          intro r hr
          refine Ev.suc ?_
          simp only [term_reader_term.j0, decide_eq_true_eq, if_neg c13, if_neg c2, if_true]
          exact hr
        simp only [if_true]
        cases q : rdL f 1 t seen with
        | error e =>
          rw [q] at h
          obtain ⟨he, s', n', hev⟩ := h
          exact ⟨he, s', n', st _ hev⟩
        | ok r =>
          obtain ⟨l, b2, n2⟩ := r
          rw [q] at h
          exact st _ h
      · have c5 : c = 5 := by omega
        have h := j1 0 ⟨#[]⟩ n t hB ht hn
        have st : ∀ r, Ev (fun k => term_reader_term.j1 k (around : Int) (n : Int) (strOfNums t) (seen : Int) c 0 ⟨#[]⟩) r → Ev (fun k => term_reader_term.j0 k (around : Int) (n : Int) 0 c (decide (c = 1 ∨ c = 3)) (strOfNums t) (seen : Int) c 0 ⟨#[]⟩) r := by
          intro r hr
          refine Ev.suc ?_
          simp only [term_reader_term.j0, decide_eq_true_eq, if_neg c13, if_neg c2, if_neg c4, if_pos c5]
          exact hr
        simp only [if_neg c4]
        cases q : rdL f n t seen with
        | error e =>
          rw [q] at h
          obtain ⟨he, s', n', hev⟩ := h
          exact ⟨he, s', n', st _ hev⟩
        | ok r =>
          obtain ⟨l, b2, n2⟩ := r
          rw [q] at h
          exact st _ h
theorem MeetsP.err {s : ByteArray} {seen around e : Int} {s' : ByteArray} {n' : Int} (he : e ≠ 0) (h : Ev (fun k => term_reader_head.f k s seen around) (0, 0, e, s', n')) : MeetsP (.error e) (fun k => term_reader_term.f k s seen around) := by
  refine ⟨he, s', n', Ev.suc ?_⟩
  simp only [term_reader_term.f]
  refine Ev.bind h ?_
  simp only [if_neg he]
  exact Ev.now _
theorem aux_len {t p more : List Int} {M : Nat} (h : t = p ++ more) (hb : t.length + 1 ≤ M) : more.length ≤ M := by
  subst h
  rw [List.length_append] at hb
  omega
theorem aux_c {c : Int} (h : ¬ (c < 1 ∨ 5 < c)) : 1 ≤ c ∧ c ≤ 5 := by omega
set_option maxHeartbeats 2000000 in
theorem reader_ev (D : Nat) : D ≤ 12 → ∀ b seen, AllB b → b.length ≤ 281474976710656 → seen ≤ 4000 → MeetsP (rdF D b seen) (fun k => term_reader_term.f k (strOfNums b) (seen : Int) ((12 - D : Nat) : Int)) := by
  induction D with
  | zero =>
    intro hD b seen hB hb hs
    rw [rdF]
    by_cases h1 : 4000 ≤ seen
    · rw [if_pos h1]
      have a1 : (seen : Int) ≥ 4000 := by omega
      refine MeetsP.err (s' := strOfNums b) (n' := (seen : Int)) (by decide) ?_
      unfold term_reader_head.f
      simp only [if_pos a1]
      exact Ev.now _
    · rw [if_neg h1]
      have a1 : ¬ (seen : Int) ≥ 4000 := by omega
      have a2 : ((12 - 0 : Nat) : Int) ≥ 12 := by omega
      refine MeetsP.err (s' := strOfNums b) (n' := (seen : Int)) (by decide) ?_
      unfold term_reader_head.f
      simp only [if_neg a1, if_pos a2]
      exact Ev.now _
  | succ D ih =>
    intro hD b seen hB hb hs
    rw [rdF]
    by_cases h1 : 4000 ≤ seen
    · rw [if_pos h1]
      have a1 : (seen : Int) ≥ 4000 := by omega
      refine MeetsP.err (s' := strOfNums b) (n' := (seen : Int)) (by decide) ?_
      unfold term_reader_head.f
      simp only [if_pos a1]
      exact Ev.now _
    · rw [if_neg h1]
      have a1 : ¬ (seen : Int) ≥ 4000 := by omega
      have a2 : ¬ ((12 - (D + 1) : Nat) : Int) ≥ 12 := by omega
      have hsz := size_str b
      cases b with
      | nil =>
        rw [headT]
        refine MeetsP.err (s' := strOfNums []) (n' := (seen : Int)) (by decide) ?_
        unfold term_reader_head.f
        have a3 : (strOfNums []).toList = ([] : List UInt8) := by rw [toList_nil_iff]; exact bytesOf_str AllB.nil
        simp only [if_neg a1, if_neg a2, if_pos a3]
        exact Ev.now _
      | cons c t =>
        have hcB := hB c (by simp)
        have hBt : AllB t := fun y hy => hB y (by simp [hy])
        have a3 : ¬ (strOfNums (c :: t)).toList = ([] : List UInt8) := by rw [toList_nil_iff, bytesOf_str hB]; simp
        have a4 : 0 < ((strOfNums (c :: t)).size : Int) := by rw [hsz, List.length_cons]; omega
        have a5 : bt (strOfNums (c :: t)) 0 = c := by rw [← rd_bytesOf, bytesOf_str hB]; rfl
        have a6 : wrap64 c = c := w64 (by omega) (by omega)
        have a7 : wrap64 ((seen : Int) + 1) = ((seen + 1 : Nat) : Int) := w64s (n := 4001) (by omega) (by omega)
        have hd : ∀ r, Ev (fun k => term_reader_head.j0 k c (decide (c < 1 ∨ 5 < c)) (strOfNums (c :: t)) ((seen + 1 : Nat) : Int)) r → Ev (fun k => term_reader_head.f k (strOfNums (c :: t)) (seen : Int) ((12 - (D + 1) : Nat) : Int)) r := by
          intro r hr
          unfold term_reader_head.f
          simp only [if_neg a1, if_neg a2, if_neg a3, if_pos a4, a5, a6, a7]
          by_cases h2 : c < 1
          · simp only [if_pos h2]
            rw [decide_eq_true (show c < 1 ∨ 5 < c from .inl h2)] at hr
            exact hr
          · simp only [if_neg h2]
            rw [show decide (c < 1 ∨ 5 < c) = decide (c > 5) from decide_eq_decide.2 (by omega)] at hr
            exact hr
        rw [headT]
        by_cases h2 : c < 1 ∨ 5 < c
        · rw [if_pos h2]
          refine MeetsP.err (s' := strOfNums (c :: t)) (n' := ((seen + 1 : Nat) : Int)) (by decide) (hd _ (Ev.suc ?_))
          simp only [term_reader_head.j0, decide_eq_true_eq, if_pos h2]
          exact Ev.now _
        · rw [if_neg h2]
          have b1 : 1 ≤ ((strOfNums (c :: t)).size : Int) := by omega
          have b2 : (strOfNums (c :: t)).extract 1 (strOfNums (c :: t)).size = strOfNums t := by rw [str_drop]; rfl
          have g := GetNum_ev (strOfNums t) (by rw [size_str]; rw [List.length_cons] at hb; unfold maxLen; omega)
          rw [bytesOf_str hBt] at g
          have step : ∀ e, getN 0 0 t = (0, 0, e) → e ≠ 0 → MeetsP (.error e) (fun k => term_reader_term.f k (strOfNums (c :: t)) (seen : Int) ((12 - (D + 1) : Nat) : Int)) := by
            intro e he he0
            refine MeetsP.err (s' := strOfNums (c :: t)) (n' := ((seen + 1 : Nat) : Int)) he0 (hd _ (Ev.suc ?_))
            simp only [term_reader_head.j0, decide_eq_true_eq, if_neg h2, if_pos b1, b2]
            refine Ev.bind g ?_
            rw [he]
            simp only [if_neg he0]
            exact Ev.now _
          rcases get_is0 hBt with ⟨n, more, e1, hn, e2⟩ | e2 | e2
          · have hBm : AllB more := fun y hy => hBt y (by rw [e1]; simp [hy])
            rw [List.length_cons] at hb hsz
            have hlen : t.length = (putN n).length + more.length := by rw [e1, List.length_append]
            have hq := putN_len10 hn
            have w1 : wrap64 (1 + ((putN n).length : Int)) = ((1 + (putN n).length : Nat) : Int) := by rw [w64 (by omega) (by omega)]; omega
            have b3 : 0 ≤ ((1 + (putN n).length : Nat) : Int) := Int.natCast_nonneg _
            have hml : more.length ≤ 281474976710656 := aux_len e1 hb
            have hs1 : seen + 1 ≤ 4000 := Nat.lt_of_not_le h1
            have b4 : ((1 + (putN n).length : Nat) : Int) ≤ ((strOfNums (c :: t)).size : Int) := by omega
            have b5 : (strOfNums (c :: t)).extract (1 + (putN n).length) (strOfNums (c :: t)).size = strOfNums more := by
              rw [str_drop, Nat.add_comm, List.drop_succ_cons, e1, List.drop_left' rfl]
            have hh : Ev (fun k => term_reader_head.f k (strOfNums (c :: t)) (seen : Int) ((12 - (D + 1) : Nat) : Int)) (c, (n : Int), 0, strOfNums more, ((seen + 1 : Nat) : Int)) := by
              refine hd _ (Ev.suc ?_)
              simp only [term_reader_head.j0, decide_eq_true_eq, if_neg h2, if_pos b1, b2]
              refine Ev.bind g ?_
              rw [e2]
              simp only [if_true, w1, if_pos b3, if_pos b4, Int.toNat_natCast, b5]
              exact Ev.now _
            rw [e2]
            simp only [if_true, Int.toNat_natCast]
            rw [show t.drop (putN n).length = more from by rw [e1, List.drop_left' rfl]]
            have hb' := reader_j0 (D := D) (f := rdF D) (12 - (D + 1)) (by omega) (fun b s a1 a2 a3 => by have := ih (by omega) b s a1 a2 a3; rw [show 12 - (D + 1) + 1 = 12 - D from by omega]; exact this) (rdF_was D) c n hn (aux_c h2) more (seen + 1) hBm hml hs1
            have fin : ∀ r, Ev (fun k => term_reader_term.j0 k ((12 - (D + 1) : Nat) : Int) (n : Int) 0 c (decide (c = 1 ∨ c = 3)) (strOfNums more) ((seen + 1 : Nat) : Int) c 0 ⟨#[]⟩) r → Ev (fun k => term_reader_term.f k (strOfNums (c :: t)) (seen : Int) ((12 - (D + 1) : Nat) : Int)) r := by
              intro r hr
              refine Ev.suc ?_
              simp only [term_reader_term.f]
              refine Ev.bind hh ?_
              simp only [if_true]
              by_cases k1 : c = 1
              · simp only [if_pos k1]
                rw [decide_eq_true (show c = 1 ∨ c = 3 from .inl k1)] at hr
                rw [beqd, decide_eq_true k1]
                exact hr
              · simp only [if_neg k1]
                rw [show decide (c = 1 ∨ c = 3) = (c == 3) from by rw [beqd]; exact decide_eq_decide.2 (by omega)] at hr
                exact hr
            cases q : bodyT (rdF D) c n more (seen + 1) with
            | error e =>
              rw [q] at hb'
              obtain ⟨he, s', n', hev⟩ := hb'
              exact ⟨he, s', n', fin _ hev⟩
            | ok r =>
              obtain ⟨x, b2', n2⟩ := r
              rw [q] at hb'
              exact fin _ hb'
          · rw [e2]
            exact step 20 e2 (by decide)
          · rw [e2]
            exact step 21 e2 (by decide)
/-- What both programs answer for a string. -/
def decode (b : List Int) : Int × Int × ByteArray × List S25 × Int :=
  match rdF 12 b 0 with
  | .ok (x, b', _) => if b' = [] then (x.f0, x.f1, x.f2, x.f3, 0) else (0, 0, ⟨#[]⟩, [], 24)
  | .error e => (0, 0, ⟨#[]⟩, [], e)
theorem Decode_ev (s : ByteArray) (hs : s.size ≤ 281474976710656) : Ev (fun k => term_Decode.f k s) (decode (bytesOf s)) := by
  have h := reader_ev 12 (by omega) (bytesOf s) 0 (AllB.of_bytes s) (by rw [bytesOf_length]; exact hs) (by omega)
  rw [str_bytesOf] at h
  unfold term_Decode.f decode
  cases e : rdF 12 (bytesOf s) 0 with
  | error e' =>
    rw [e] at h
    obtain ⟨he, s', n', hev⟩ := h
    refine Ev.bind hev ?_
    simp only [if_neg he]
    exact Ev.now _
  | ok r =>
    obtain ⟨x, b', n⟩ := r
    rw [e] at h
    have w := rdF_was 12 _ _ _ _ _ (AllB.of_bytes s) e
    have hB1 : AllB b' := fun y hy => AllB.of_bytes s y (by rw [w.enc]; simp [hy])
    refine Ev.bind h ?_
    simp only [if_true, toList_nil_iff, bytesOf_str hB1]
    by_cases c : b' = []
    · simp only [if_pos c]
      exact Ev.now _
    · simp only [if_neg c]
      exact Ev.now _
theorem errNeL {f : List Int → Nat → Rd S25} {D : Nat} (hf : ∀ b seen e, AllB b → f b seen = .error e → e ≠ 0) (hw : ∀ b seen x b' n, AllB b → f b seen = .ok (x, b', n) → Was D b seen x b' n) (m : Nat) : ∀ b seen e, AllB b → rdL f m b seen = .error e → e ≠ 0 := by
  induction m with
  | zero => intro b seen e _ h; simp [rdL] at h
  | succ m ih =>
    intro b seen e hB h
    rw [rdL] at h
    cases e1 : f b seen with
    | error e' =>
      rw [e1] at h
      simp only [Except.error.injEq] at h
      subst h
      exact hf _ _ _ hB e1
    | ok r =>
      obtain ⟨x, b1, n1⟩ := r
      rw [e1] at h
      have w := hw _ _ _ _ _ hB e1
      have hB1 : AllB b1 := fun y hy => hB y (by rw [w.enc]; simp [hy])
      simp only at h
      cases e2 : rdL f m b1 n1 with
      | error e' =>
        rw [e2] at h
        simp only [Except.error.injEq] at h
        subst h
        exact ih _ _ _ hB1 e2
      | ok r => rw [e2] at h; simp at h
theorem errNe (D : Nat) : ∀ b seen e, AllB b → rdF D b seen = .error e → e ≠ 0 := by
  induction D with
  | zero =>
    intro b seen e _ h
    rw [rdF] at h
    split at h <;> (simp only [Except.error.injEq] at h; omega)
  | succ D ih =>
    intro b seen e hB h
    rw [rdF] at h
    split at h
    · simp only [Except.error.injEq] at h; omega
    · cases b with
      | nil => simp only [headT, Except.error.injEq] at h; omega
      | cons c t =>
        have hBt : AllB t := fun y hy => hB y (by simp [hy])
        rw [headT] at h
        split at h
        · simp only [Except.error.injEq] at h; omega
        · split at h
          · unfold bodyT at h
            split at h
            · simp at h
            · split at h
              · split at h
                · simp only [Except.error.injEq] at h; omega
                · split at h
                  · simp only [Except.error.injEq] at h; omega
                  · simp at h
              · cases q : rdL (rdF D) (if c = 4 then 1 else (getN 0 0 t).1.toNat) (t.drop (getN 0 0 t).2.1.toNat) (seen + 1) with
                | error e' =>
                  rw [q] at h
                  simp only [Except.error.injEq] at h
                  subst h
                  exact errNeL ih (rdF_was D) _ _ _ _ (hBt.drop _) q
                | ok r => rw [q] at h; simp at h
          · rename_i hne
            simp only [Except.error.injEq] at h
            subst h
            exact hne
/-- A decoded term: as it was, and all there is. -/
theorem decode_is (s : ByteArray) : (∃ x, decode (bytesOf s) = (x.f0, x.f1, x.f2, x.f3, 0) ∧ bytesOf s = encT x ∧ ok25 x ∧ rightT x = 0) ∨ ∃ e, e ≠ 0 ∧ decode (bytesOf s) = (0, 0, ⟨#[]⟩, [], e) := by
  unfold decode
  cases e : rdF 12 (bytesOf s) 0 with
  | error e' =>
    refine .inr ⟨e', ?_, rfl⟩
    intro he
    subst he
    exact absurd rfl (errNe 12 _ _ _ (AllB.of_bytes s) e)
  | ok r =>
    obtain ⟨x, b', n⟩ := r
    have w := rdF_was 12 _ _ _ _ _ (AllB.of_bytes s) e
    by_cases c : b' = []
    · refine .inl ⟨x, by simp only [if_pos c], by rw [w.enc, c, List.append_nil], w.ok, ?_⟩
      have hc := w.cnt
      have hm := w.most
      have hdp := w.deep
      unfold rightT
      rw [if_neg (by omega), if_neg (by omega), if_pos w.shape]
    · exact .inr ⟨24, by decide, by simp only [if_neg c]⟩

end Go.Proofs.Ytopfdggagijdkaa.Pure
