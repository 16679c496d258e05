/- Reading a term from bytes: what the document's answer reads is what the plain function reads. Under no condition. -/
import Derived.Test.YtopfdggagijdkaaGGetR
import Derived.Test.YtopfdggagijdkaaReadP
set_option linter.unusedVariables false
set_option linter.unusedSimpArgs false
namespace Go.Proofs.Ytopfdggagijdkaa.Pure
open Go.RowKit Go.Proofs.Ytopfdggagijdkaa.F Go.Proofs.Ytopfdggagijdkaa.Open Go.Proofs.Ytopfdggagijdkaa.Aid Go.Proofs.YtopfdggagijdkaaW.PrintWords Go.Proofs.YtopfdggagijdkaaW.PrintLast Go.Proofs.YtopfdggagijdkaaW.PrintMore

abbrev RdR := Int × Int × ByteArray × List S25 × Int × Int × Int
def MeetsR (pos : Nat) (r : Rd S25) (g : Nat → Option RdR) : Prop :=
  match r with
  | .ok (x, _, n) => Ev g (x.f0, x.f1, x.f2, x.f3, ((pos + (encT x).length : Nat) : Int), (n : Int), 0)
  | .error e => e ≠ 0 ∧ Ev g (0, 0, (⟨#[]⟩ : ByteArray), ([] : List S25), 0, 0, e)
def MeetsRL (pos : Nat) (c0 c1 : Int) (c2 : ByteArray) (acc : List S25) (r : Rd (List S25)) (g : Nat → Option RdR) : Prop :=
  match r with
  | .ok (l, _, n) => Ev g (c0, c1, c2, acc ++ l, ((pos + (encL l).length : Nat) : Int), (n : Int), 0)
  | .error e => e ≠ 0 ∧ Ev g (0, 0, (⟨#[]⟩ : ByteArray), ([] : List S25), 0, 0, e)
theorem suf_next {l a b : List Int} {pos : Nat} (h : l.drop pos = a ++ b) : l.drop (pos + a.length) = b := by
  rw [← List.drop_drop, h, List.drop_left' rfl]
theorem suf_le {l a b : List Int} {pos : Nat} (hp : pos ≤ l.length) (h : l.drop pos = a ++ b) : pos + a.length ≤ l.length := by
  have := congrArg List.length h
  rw [List.length_drop, List.length_append] at this
  omega
theorem more_l0 {D : Nat} {f : List Int → Nat → Rd S25} (s : ByteArray) (depth : Nat) (ha : depth ≤ 12)
    (hf : ∀ pos seen, pos ≤ s.size → seen ≤ 4000 → MeetsR pos (f ((bytesOf s).drop pos) seen) (fun k => letheref02_read.f k s (pos : Int) (seen : Int) ((depth + 1 : Nat) : Int)))
    (hw : ∀ b seen x b' n, AllB b → f b seen = .ok (x, b', n) → Was D b seen x b' n) (c0 c1 : Int) (c2 : ByteArray) (m : Nat) :
    ∀ pos seen (acc : List S25), pos ≤ s.size → seen ≤ 4000 → m < 18446744073709551616 → acc.length ≤ seen →
      MeetsRL pos c0 c1 c2 acc (rdL f m ((bytesOf s).drop pos) seen) (fun k => letheref02_more.l0 k s (m : Int) (depth : Int) c0 c1 c2 acc (pos : Int) (seen : Int) 0) := by
  induction m with
  | zero =>
    intro pos seen acc hp hs hm ha
    rw [rdL]
    show Ev _ _
    refine Ev.suc ?_
    simp only [letheref02_more.l0, if_neg (show ¬ ((0 : Nat) : Int) > 0 by omega), List.append_nil, encL, List.length_nil, Nat.add_zero]
    exact Ev.now _
  | succ m ih =>
    intro pos seen acc hp hs hm hacc
    have h1 := hf pos seen hp hs
    have c1' : (((m + 1 : Nat) : Int)) > 0 := by omega
    have w1 : wrap64 ((depth : Int) + 1) = ((depth + 1 : Nat) : Int) := w64s (n := 13) (by omega) (by omega)
    rw [rdL]
    cases e1 : f ((bytesOf s).drop pos) seen with
    | error e =>
      rw [e1] at h1
      obtain ⟨he, hev⟩ := h1
      refine ⟨he, Ev.suc ?_⟩
      simp only [letheref02_more.l0, if_pos c1', w1]
      refine Ev.bind hev ?_
      simp only [if_neg he]
      exact Ev.now _
    | ok r =>
      obtain ⟨x, b1, n1⟩ := r
      rw [e1] at h1
      have w := hw _ _ _ _ _ ((AllB.of_bytes s).drop pos) e1
      have hpp := parts_pos x
      have hcnt := w.cnt
      have hmost := w.most
      have hb1 := suf_next w.enc
      have hp1 := suf_le (by rw [bytesOf_length]; exact hp) w.enc
      rw [bytesOf_length] at hp1
      have h2 := ih (pos + (encT x).length) n1 (acc ++ [x]) hp1 w.most (by omega) (by rw [List.length_append, List.length_singleton]; omega)
      rw [hb1] at h2
      have step : ∀ r, Ev (fun k => letheref02_more.l0 k s (m : Int) (depth : Int) c0 c1 c2 (acc ++ [x]) ((pos + (encT x).length : Nat) : Int) (n1 : Int) 0) r → Ev (fun k => letheref02_more.l0 k s ((m + 1 : Nat) : Int) (depth : Int) c0 c1 c2 acc (pos : Int) (seen : Int) 0) r := by
        intro r hr
        refine Ev.suc ?_
        simp only [letheref02_more.l0, if_pos c1', w1]
        refine Ev.bind h1 ?_
        have a1 : acc.length < 2513169434916 := by omega
        simp only [if_true, if_pos a1, eta25]
        rw [wraps_u64 _ (by omega) (by omega), show ((m + 1 : Nat) : Int) - 1 = (m : Int) from by omega]
        exact hr
      simp only
      cases e2 : rdL f m b1 n1 with
      | error e =>
        rw [e2] at h2
        obtain ⟨he, hev⟩ := h2
        exact ⟨he, step _ hev⟩
      | ok r =>
        obtain ⟨l, b2, n2⟩ := r
        rw [e2] at h2
        have h3 := step _ h2
        simp only [List.append_assoc, List.cons_append, List.nil_append] at h3
        show Ev _ _
        rw [encL, List.length_append, ← Nat.add_assoc]
        exact h3
theorem aux_end {L n S pos : Nat} (hl : L = S - pos) (h : ¬ L < n) (hp : pos ≤ S) : ((pos + n : Nat) : Int) ≤ (S : Int) := by omega
theorem read_j1 {D : Nat} {f : List Int → Nat → Rd S25} (s : ByteArray) (hsz : s.size ≤ 281474976710656) (depth : Nat) (ha : depth ≤ 12)
    (hf : ∀ pos seen, pos ≤ s.size → seen ≤ 4000 → MeetsR pos (f ((bytesOf s).drop pos) seen) (fun k => letheref02_read.f k s (pos : Int) (seen : Int) ((depth + 1 : Nat) : Int)))
    (hw : ∀ b seen x b' n, AllB b → f b seen = .ok (x, b', n) → Was D b seen x b' n) (c : Int) (n : Nat) (hn : n < 18446744073709551616) (hc : 1 ≤ c ∧ c ≤ 5) (p0 pos seen : Nat) (hp : pos ≤ s.size) (hs : seen ≤ 4000) (hp0 : p0 + 1 + (putN n).length = pos) :
    MeetsR p0 (bodyT f c n ((bytesOf s).drop pos) seen) (fun k => letheref02_read.j1 k s (depth : Int) (n : Int) c (decide (c = 1 ∨ c = 3)) c 0 ⟨#[]⟩ (pos : Int) (seen : Int) 0) := by
  have mr : ∀ (d1 : Int) (d2 : ByteArray) (m : Nat), m < 18446744073709551616 → MeetsRL pos c d1 d2 [] (rdL f m ((bytesOf s).drop pos) seen) (fun k => letheref02_more.f k s c d1 d2 (pos : Int) (seen : Int) 0 (m : Int) (depth : Int)) := by
    intro d1 d2 m hm
    have h := more_l0 s depth ha hf hw c d1 d2 m pos seen [] hp hs hm (by simp)
    cases e : rdL f m ((bytesOf s).drop pos) seen with
    | error e' =>
      rw [e] at h
      obtain ⟨he, hev⟩ := h
      refine ⟨he, Ev.suc ?_⟩
      simp only [letheref02_more.f]
      exact hev
    | ok r =>
      obtain ⟨l, b2, n2⟩ := r
      rw [e] at h
      show Ev _ _
      refine Ev.suc ?_
      simp only [letheref02_more.f]
      exact h
  have hlen : ((bytesOf s).drop pos).length = s.size - pos := by rw [List.length_drop, bytesOf_length]
  unfold bodyT
  by_cases c13 : c = 1 ∨ c = 3
  · rw [if_pos c13]
    show Ev _ _
    refine Ev.suc ?_
    simp only [letheref02_read.j1, decide_eq_true_eq, if_pos c13]
    have e : p0 + (encT ⟨c, (n : Int), ⟨#[]⟩, []⟩).length = pos := by
      rw [encT_eq, hd, if_pos (by show c = 1 ∨ c = 3 ∨ c = 4; omega)]
      simp only [encL, List.append_nil, List.length_cons, Int.toNat_natCast]
      omega
    rw [e]
    exact Ev.now _
  · rw [if_neg c13]
    by_cases c2 : c = 2
    · subst c2
      rw [if_pos rfl]
      have st : ∀ r, Ev (fun k => letheref02_atom.f s 2 0 ⟨#[]⟩ (pos : Int) (seen : Int) 0 (n : Int)) r → Ev (fun k => letheref02_read.j1 k s (depth : Int) (n : Int) 2 (decide ((2 : Int) = 1 ∨ (2 : Int) = 3)) 2 0 ⟨#[]⟩ (pos : Int) (seen : Int) 0) r := by
        intro r hr
        refine Ev.suc ?_
        simp only [letheref02_read.j1, decide_eq_true_eq, if_neg c13, if_true]
        exact Ev.bind hr (Ev.now _)
      by_cases h1 : 4000 < n
      · rw [if_pos h1]
        refine ⟨by decide, st _ ?_⟩
        have a1 : (n : Int) > 4000 := by omega
        unfold letheref02_atom.f
        simp only [if_pos a1, letheref02_wrong.f, Option.bind_some]
        exact Ev.now _
      · rw [if_neg h1]
        have a1 : ¬ (n : Int) > 4000 := by omega
        have e1 : wrap64 (n : Int) = (n : Int) := w64 (by omega) (by omega)
        have e2 : wrap64 ((s.size : Int) - (pos : Int)) = ((s.size - pos : Nat) : Int) := by rw [w64 (by omega) (by omega)]; omega
        have e3 : wrap64 ((pos : Int) + (n : Int)) = ((pos + n : Nat) : Int) := by rw [w64 (by omega) (by omega)]; omega
        by_cases h2 : ((bytesOf s).drop pos).length < n
        · rw [if_pos h2]
          refine ⟨by decide, st _ ?_⟩
          have a2 : (n : Int) > ((s.size - pos : Nat) : Int) := by omega
          unfold letheref02_atom.f
          simp only [if_neg a1, e1, e2, if_pos a2, letheref02_wrong.f, Option.bind_some]
          exact Ev.now _
        · rw [if_neg h2]
          have a2 : ¬ (n : Int) > ((s.size - pos : Nat) : Int) := by omega
          have a3 : 0 ≤ (pos : Int) := Int.natCast_nonneg _
          have a4 : (pos : Int) ≤ ((pos + n : Nat) : Int) := by omega
          have a5 : ((pos + n : Nat) : Int) ≤ (s.size : Int) := aux_end hlen h2 hp
          show Ev _ _
          refine st _ ?_
          unfold letheref02_atom.f
          simp only [if_neg a1, e1, e2, if_neg a2, if_pos a3, e3, if_pos a4, if_pos a5, Int.toNat_natCast, ext_part]
          have hz : (strOfNums (((bytesOf s).drop pos).take n)).size = n := by rw [size_str, List.length_take]; omega
          have e : p0 + (encT ⟨2, 0, strOfNums (((bytesOf s).drop pos).take n), []⟩).length = pos + n := by
            rw [encT_eq, hd, if_neg (by simp), if_pos rfl]
            simp only [encL, List.append_nil, List.length_cons, List.length_append, bytesOf_length, hz]
            omega
          rw [e]
          exact Ev.now _
    · rw [if_neg c2]
      by_cases c4 : c = 4
      · subst c4
        have h := mr (n : Int) ⟨#[]⟩ 1 (by omega)
        have st : ∀ r, Ev (fun k => letheref02_more.f k s 4 (n : Int) ⟨#[]⟩ (pos : Int) (seen : Int) 0 ((1 : Nat) : Int) (depth : Int)) r → Ev (fun k => letheref02_read.j1 k s (depth : Int) (n : Int) 4 (decide ((4 : Int) = 1 ∨ (4 : Int) = 3)) 4 0 ⟨#[]⟩ (pos : Int) (seen : Int) 0) r := by
          intro r hr
          refine Ev.suc ?_
          simp only [letheref02_read.j1, decide_eq_true_eq, if_neg c13, if_neg c2, if_true]
          exact Ev.bind hr (Ev.now _)
        simp only [if_true]
        cases q : rdL f 1 ((bytesOf s).drop pos) seen with
        | error e =>
          rw [q] at h
          obtain ⟨he, hev⟩ := h
          exact ⟨he, st _ hev⟩
        | ok r =>
          obtain ⟨l, b2, n2⟩ := r
          rw [q] at h
          have e : p0 + (encT ⟨4, (n : Int), ⟨#[]⟩, l⟩).length = pos + (encL l).length := by
            rw [encT_eq, hd, if_pos (by simp)]
            simp only [List.length_cons, List.length_append, Int.toNat_natCast]
            omega
          show Ev _ _
          rw [e]
          exact st _ h
      · have c5 : c = 5 := by omega
        have h := mr 0 ⟨#[]⟩ n hn
        have st : ∀ r, Ev (fun k => letheref02_more.f k s c 0 ⟨#[]⟩ (pos : Int) (seen : Int) 0 (n : Int) (depth : Int)) r → Ev (fun k => letheref02_read.j1 k s (depth : Int) (n : Int) c (decide (c = 1 ∨ c = 3)) c 0 ⟨#[]⟩ (pos : Int) (seen : Int) 0) r := by
          intro r hr
          refine Ev.suc ?_
          simp only [letheref02_read.j1, decide_eq_true_eq, if_neg c13, if_neg c2, if_neg c4]
          exact Ev.bind hr (Ev.now _)
        simp only [if_neg c4]
        cases q : rdL f n ((bytesOf s).drop pos) seen with
        | error e =>
          rw [q] at h
          obtain ⟨he, hev⟩ := h
          exact ⟨he, st _ hev⟩
        | ok r =>
          obtain ⟨l, b2, n2⟩ := r
          have w := rdL_was hw _ _ _ _ _ _ ((AllB.of_bytes s).drop pos) hs q
          rw [q] at h
          have e : p0 + (encT ⟨c, 0, ⟨#[]⟩, l⟩).length = pos + (encL l).length := by
            rw [encT_eq, hd, if_neg (by show ¬ (c = 1 ∨ c = 3 ∨ c = 4); omega), if_neg (show ¬ c = 2 from c2), if_pos (show c = 5 from c5)]
            simp only [List.length_cons, List.length_append, w.len]
            omega
          show Ev _ _
          rw [e]
          exact st _ h
theorem MeetsR.err {pos : Nat} {g : Nat → Option RdR} {e : Int} (he : e ≠ 0) (h : Ev g (0, 0, ⟨#[]⟩, [], 0, 0, e)) : MeetsR pos (.error e) g := ⟨he, h⟩
theorem aux_pos {l t : List Int} {c : Int} {pos : Nat} (h : l.drop pos = c :: t) : l.drop (pos + 1) = t := by
  rw [← List.drop_drop, h]
  rfl
/-- A wrap that does nothing, kept out of omega's sight. -/
structure WW (a b : Int) : Prop where
  out : wrap64 a = b
set_option maxHeartbeats 2000000 in
theorem read_ev (s : ByteArray) (hsz : s.size ≤ 281474976710656) (D : Nat) : D ≤ 12 → ∀ pos seen, pos ≤ s.size → seen ≤ 4000 → MeetsR pos (rdF D ((bytesOf s).drop pos) seen) (fun k => letheref02_read.f k s (pos : Int) (seen : Int) ((12 - D : Nat) : Int)) := by
  induction D with
  | zero =>
    intro hD pos seen hp hs
    rw [rdF]
    by_cases h1 : 4000 ≤ seen
    · rw [if_pos h1]
      have a1 : (seen : Int) ≥ 4000 := by omega
      refine MeetsR.err (by decide) (Ev.suc ?_)
      simp only [letheref02_read.f, if_pos a1, letheref02_wrong.f, Option.bind_some]
      exact Ev.now _
    · rw [if_neg h1]
      have a1 : ¬ (seen : Int) ≥ 4000 := by omega
      have a2 : ((12 - 0 : Nat) : Int) ≥ 12 := by omega
      refine MeetsR.err (by decide) (Ev.suc ?_)
      simp only [letheref02_read.f, if_neg a1, if_pos a2, letheref02_wrong.f, Option.bind_some]
      exact Ev.now _
  | succ D ih =>
    intro hD pos seen hp hs
    rw [rdF]
    by_cases h1 : 4000 ≤ seen
    · rw [if_pos h1]
      have a1 : (seen : Int) ≥ 4000 := by omega
      refine MeetsR.err (by decide) (Ev.suc ?_)
      simp only [letheref02_read.f, if_pos a1, letheref02_wrong.f, Option.bind_some]
      exact Ev.now _
    · rw [if_neg h1]
      have a1 : ¬ (seen : Int) ≥ 4000 := by omega
      have a2 : ¬ ((12 - (D + 1) : Nat) : Int) ≥ 12 := by omega
      cases hdr : (bytesOf s).drop pos with
      | nil =>
        rw [headT]
        have hl := congrArg List.length hdr
        rw [List.length_drop, bytesOf_length, List.length_nil] at hl
        have a3 : (pos : Int) ≥ (s.size : Int) := by omega
        refine MeetsR.err (by decide) (Ev.suc ?_)
        simp only [letheref02_read.f, if_neg a1, if_neg a2, if_pos a3, letheref02_wrong.f, Option.bind_some]
        exact Ev.now _
      | cons c t =>
        have hl := congrArg List.length hdr
        rw [List.length_drop, bytesOf_length, List.length_cons] at hl
        have hB : AllB (c :: t) := by rw [← hdr]; exact (AllB.of_bytes s).drop pos
        have hcB := hB c (by simp)
        have hBt : AllB t := fun y hy => hB y (by simp [hy])
        have a3 : ¬ (pos : Int) ≥ (s.size : Int) := by omega
        have a4 : 0 ≤ (pos : Int) := by omega
        have a5 : (pos : Int) < (s.size : Int) := by omega
        have a6 : bt s (pos : Int) = c := by
          have := bytes_drop (s := s) (j := pos) (by omega)
          rw [hdr] at this
          exact (List.cons.inj this).1.symm
        have a7 : WW c c := ⟨w64 (by omega) (by omega)⟩
        have ht := aux_pos hdr
        have w1 : WW ((pos : Int) + 1) ((pos + 1 : Nat) : Int) := ⟨w64s (n := 281474976710657) (by omega) (by omega)⟩
        have w2 : WW ((seen : Int) + 1) ((seen + 1 : Nat) : Int) := ⟨w64s (n := 4001) (by omega) (by omega)⟩
        have hd : ∀ r, Ev (fun k => letheref02_read.j0 k s (pos : Int) (seen : Int) ((12 - (D + 1) : Nat) : Int) c (decide (c < 1 ∨ 5 < c))) r → Ev (fun k => letheref02_read.f k s (pos : Int) (seen : Int) ((12 - (D + 1) : Nat) : Int)) r := by
          intro r hr
          refine Ev.suc ?_
          simp only [letheref02_read.f, if_neg a1, if_neg a2, if_neg a3, if_pos a4, if_pos a5, a6, a7.out]
          by_cases h2 : c < 1
          · simp only [if_pos h2]
            rw [decide_eq_true (show c < 1 ∨ 5 < c from .inl h2)] at hr
            exact hr
          · simp only [if_neg h2]
            rw [show decide (c < 1 ∨ 5 < c) = decide (c > 5) from decide_eq_decide.2 (by omega)] at hr
            exact hr
        rw [headT]
        by_cases h2 : c < 1 ∨ 5 < c
        · rw [if_pos h2]
          refine MeetsR.err (by decide) (hd _ (Ev.suc ?_))
          simp only [letheref02_read.j0, decide_eq_true_eq, if_pos h2, letheref02_wrong.f, Option.bind_some]
          exact Ev.now _
        · rw [if_neg h2]
          have b1 : 0 ≤ ((pos + 1 : Nat) : Int) := Int.natCast_nonneg _
          have b2 : ((pos + 1 : Nat) : Int) ≤ (s.size : Int) := by omega
          have g := GetNumRef_ev (s.extract (pos + 1) s.size) (by rw [size_bytesOf, ext_size, ht]; unfold maxLen; omega)
          rw [ext_size, ht] at g
          have step : ∀ e, getN 0 0 t = (0, 0, e) → e ≠ 0 → MeetsR pos (.error e) (fun k => letheref02_read.f k s (pos : Int) (seen : Int) ((12 - (D + 1) : Nat) : Int)) := by
            intro e he he0
            refine MeetsR.err he0 (hd _ (Ev.suc ?_))
            simp only [letheref02_read.j0, decide_eq_true_eq, if_neg h2, w1.out, if_pos b1, if_pos b2, Int.toNat_natCast]
            refine Ev.bind g ?_
            rw [he]
            simp only [if_neg he0, letheref02_wrong.f, Option.bind_some]
            exact Ev.now _
          rcases get_is0 hBt with ⟨n, more, e1, hn, e2⟩ | e2 | e2
          · have hq := putN_len10 hn
            have hp2 : pos + 1 + (putN n).length ≤ s.size := by
              have := suf_le (l := bytesOf s) (pos := pos + 1) (by rw [bytesOf_length]; omega) (ht.trans e1)
              rw [bytesOf_length] at this
              exact this
            have hnext : (bytesOf s).drop (pos + 1 + (putN n).length) = more := suf_next (ht.trans e1)
            have w3 : WW (((pos + 1 : Nat) : Int) + ((putN n).length : Int)) ((pos + 1 + (putN n).length : Nat) : Int) := ⟨by rw [w64 (by omega) (by omega)]; omega⟩
            rw [e2]
            simp only [if_true, Int.toNat_natCast]
            rw [show t.drop (putN n).length = more from by rw [e1, List.drop_left' rfl]]
            have hb' := read_j1 (D := D) (f := rdF D) s hsz (12 - (D + 1)) (Nat.sub_le _ _) (fun p q a1 a2 => by have := ih (Nat.le_of_succ_le hD) p q a1 a2; rw [show 12 - (D + 1) + 1 = 12 - D from by omega]; exact this) (rdF_was D) c n hn (aux_c h2) pos (pos + 1 + (putN n).length) (seen + 1) hp2 (Nat.lt_of_not_le h1) rfl
            rw [hnext] at hb'
            have fin : ∀ r, Ev (fun k => letheref02_read.j1 k s ((12 - (D + 1) : Nat) : Int) (n : Int) c (decide (c = 1 ∨ c = 3)) c 0 ⟨#[]⟩ ((pos + 1 + (putN n).length : Nat) : Int) ((seen + 1 : Nat) : Int) 0) r → Ev (fun k => letheref02_read.f k s (pos : Int) (seen : Int) ((12 - (D + 1) : Nat) : Int)) r := by
              intro r hr
              refine hd _ (Ev.suc ?_)
              simp only [letheref02_read.j0, decide_eq_true_eq, if_neg h2, w1.out, if_pos b1, if_pos b2, Int.toNat_natCast]
              refine Ev.bind g ?_
              rw [e2]
              simp only [if_true, w2.out, w3.out]
              by_cases k1 : c = 1
              · simp only [if_pos k1]
                rw [decide_eq_true (show c = 1 ∨ c = 3 from .inl k1)] at hr
                rw [beqd, decide_eq_true k1]
                exact hr
              · simp only [if_neg k1]
                rw [show decide (c = 1 ∨ c = 3) = (c == 3) from by rw [beqd]; exact decide_eq_decide.2 (by omega)] at hr
                exact hr
            cases q : bodyT (rdF D) c n more (seen + 1) with
            | error e =>
              rw [q] at hb'
              obtain ⟨he, hev⟩ := hb'
              exact ⟨he, fin _ hev⟩
            | ok r =>
              obtain ⟨x, b2', n2⟩ := r
              rw [q] at hb'
              exact fin _ hb'
          · rw [e2]
            exact step 20 e2 (by decide)
          · rw [e2]
            exact step 21 e2 (by decide)
theorem DecodeR_ev (s : ByteArray) (hs : s.size ≤ 281474976710656) : Ev (fun k => letheref02_Decode.f k s) (decode (bytesOf s)) := by
  have h := read_ev s hs 12 (by omega) 0 0 (by omega) (by omega)
  rw [List.drop_zero] at h
  unfold letheref02_Decode.f decode
  cases e : rdF 12 (bytesOf s) 0 with
  | error e' =>
    rw [e] at h
    obtain ⟨he, hev⟩ := h
    refine Ev.bind hev ?_
    simp only [if_neg he]
    exact Ev.now _
  | ok r =>
    obtain ⟨x, b', n⟩ := r
    rw [e] at h
    have w := rdF_was 12 _ _ _ _ _ (AllB.of_bytes s) e
    have hl := congrArg List.length w.enc
    rw [bytesOf_length, List.length_append] at hl
    refine Ev.bind h ?_
    simp only [if_true, Nat.zero_add]
    by_cases c : b' = []
    · have a1 : ¬ ((encT x).length : Int) < (s.size : Int) := by rw [c, List.length_nil] at hl; omega
      simp only [if_pos c, if_neg a1]
      exact Ev.now _
    · have := List.length_pos_iff.2 c
      have a1 : ((encT x).length : Int) < (s.size : Int) := by omega
      simp only [if_neg c, if_pos a1]
      exact Ev.now _

end Go.Proofs.Ytopfdggagijdkaa.Pure
