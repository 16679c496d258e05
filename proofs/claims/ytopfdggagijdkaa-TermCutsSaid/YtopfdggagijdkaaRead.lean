/- Reading a term from bytes, as a plain function: what reads was so written, what is written reads, what is cut short is short. Under no condition. -/
import Derived.Test.YtopfdggagijdkaaNum2
import Derived.Test.YtopfdggagijdkaaEncS
set_option linter.unusedVariables false
set_option linter.unusedSimpArgs false
namespace Go.Proofs.Ytopfdggagijdkaa.Pure
open Go.RowKit Go.Proofs.Ytopfdggagijdkaa.F Go.Proofs.Ytopfdggagijdkaa.Open Go.Proofs.Ytopfdggagijdkaa.Aid Go.Proofs.YtopfdggagijdkaaW.PrintWords Go.Proofs.YtopfdggagijdkaaW.PrintLast Go.Proofs.YtopfdggagijdkaaW.PrintMore

abbrev Rd (α : Type) := Except Int (α × List Int × Nat)
def rdL (f : List Int → Nat → Rd S25) : Nat → List Int → Nat → Rd (List S25)
  | 0, b, seen => .ok ([], b, seen)
  | m + 1, b, seen => match f b seen with
    | .error e => .error e
    | .ok (x, b', s') => match rdL f m b' s' with
      | .error e => .error e
      | .ok (l, b2, s2) => .ok (x :: l, b2, s2)
def bodyT (f : List Int → Nat → Rd S25) (c : Int) (n : Nat) (t : List Int) (seen : Nat) : Rd S25 :=
  if c = 1 ∨ c = 3 then .ok (⟨c, n, ⟨#[]⟩, []⟩, t, seen)
  else if c = 2 then (if 4000 < n then .error 25 else if t.length < n then .error 20 else .ok (⟨2, 0, strOfNums (t.take n), []⟩, t.drop n, seen))
  else match rdL f (if c = 4 then 1 else n) t seen with
    | .error e => .error e
    | .ok (l, b2, s2) => .ok (⟨c, if c = 4 then n else 0, ⟨#[]⟩, l⟩, b2, s2)
def headT (f : List Int → Nat → Rd S25) (b : List Int) (seen : Nat) : Rd S25 :=
  match b with
  | [] => .error 20
  | c :: t => if c < 1 ∨ 5 < c then .error 21 else if (getN 0 0 t).2.2 = 0 then bodyT f c (getN 0 0 t).1.toNat (t.drop (getN 0 0 t).2.1.toNat) (seen + 1) else .error (getN 0 0 t).2.2
def rdF : Nat → List Int → Nat → Rd S25
  | 0, b, seen => if 4000 ≤ seen then .error 23 else .error 22
  | D + 1, b, seen => if 4000 ≤ seen then .error 23 else headT (rdF D) b seen

theorem str_nil_iff {s : ByteArray} : bytesOf s = [] ↔ s = ⟨#[]⟩ := ⟨fun h => bytesOf_inj (by rw [h]; rfl), fun h => by rw [h]; rfl⟩
theorem len_parts (l : List S25) : l.length ≤ partsL l := by
  induction l with
  | nil => simp
  | cons x t ih =>
    rw [partsL, List.length_cons]
    have := parts_pos x
    omega
/-- What is read, told of a term and of a row of terms. -/
structure Was (D : Nat) (b : List Int) (seen : Nat) (x : S25) (b' : List Int) (n : Nat) : Prop where
  enc : b = encT x ++ b'
  cnt : seen + parts x = n
  most : n ≤ 4000
  deep : depth x ≤ D
  shape : shp x = true
  ok : ok25 x
structure WasL (D : Nat) (b : List Int) (seen m : Nat) (l : List S25) (b' : List Int) (n : Nat) : Prop where
  enc : b = encL l ++ b'
  cnt : seen + partsL l = n
  most : n ≤ 4000
  deep : depthL l ≤ D
  shape : shpL l = true
  ok : ∀ y ∈ l, ok25 y
  len : l.length = m
theorem rdL_was {D : Nat} {f : List Int → Nat → Rd S25} (hf : ∀ b seen x b' n, AllB b → f b seen = .ok (x, b', n) → Was D b seen x b' n) (m : Nat) :
    ∀ b seen l b' n, AllB b → seen ≤ 4000 → rdL f m b seen = .ok (l, b', n) → WasL D b seen m l b' n := by
  induction m with
  | zero =>
    intro b seen l b' n hB hs h
    simp only [rdL, Except.ok.injEq, Prod.mk.injEq] at h
    obtain ⟨rfl, rfl, rfl⟩ := h
    exact ⟨by simp [encL], by simp [partsL], hs, by simp [depthL], by simp [shpL], by simp, rfl⟩
  | succ m ih =>
    intro b seen l b' n hB hs h
    rw [rdL] at h
    cases e1 : f b seen with
    | error e => rw [e1] at h; simp at h
    | ok r =>
      obtain ⟨x, b1, n1⟩ := r
      rw [e1] at h
      simp only at h
      have w1 := hf _ _ _ _ _ hB e1
      cases e2 : rdL f m b1 n1 with
      | error e => rw [e2] at h; simp at h
      | ok r =>
        obtain ⟨l1, b2, n2⟩ := r
        rw [e2] at h
        simp only [Except.ok.injEq, Prod.mk.injEq] at h
        obtain ⟨rfl, rfl, rfl⟩ := h
        have hB1 : AllB b1 := fun y hy => hB y (by rw [w1.enc]; simp [hy])
        have w2 := ih _ _ _ _ _ hB1 w1.most e2
        refine ⟨?_, ?_, w2.most, ?_, ?_, ?_, ?_⟩
        · rw [encL, List.append_assoc, ← w2.enc]; exact w1.enc
        · rw [partsL]; have := w1.cnt; have := w2.cnt; omega
        · rw [depthL]; have := w1.deep; have := w2.deep; omega
        · rw [shpL, w1.shape, w2.shape]; rfl
        · intro y hy
          rcases List.mem_cons.1 hy with rfl | hy
          · exact w1.ok
          · exact w2.ok y hy
        · rw [List.length_cons, w2.len]
theorem wf_nat {n : Nat} (h : n < 18446744073709551616) : (Lit.int .u64 (n : Int)).wf = true := by
  simp [Lit.wf, IntKind.min, IntKind.max, IntKind.bits, IntKind.signed]
  omega
theorem wf_kind {c : Int} (h : 1 ≤ c ∧ c ≤ 5) : (Lit.int .i64 c).wf = true := by
  simp [Lit.wf, IntKind.min, IntKind.max, IntKind.bits, IntKind.signed]
  omega
theorem rdF_was (D : Nat) : ∀ b seen x b' n, AllB b → rdF D b seen = .ok (x, b', n) → Was D b seen x b' n := by
  induction D with
  | zero =>
    intro b seen x b' n hB h
    rw [rdF] at h
    split at h <;> simp at h
  | succ D ih =>
    intro b seen x b' n hB h
    rw [rdF] at h
    split at h
    · simp at h
    · rename_i hs
      cases b with
      | nil => simp [headT] at h
      | cons c t =>
        rw [headT] at h
        split at h
        · simp at h
        · rename_i hc
          have hBt : AllB t := fun y hy => hB y (by simp [hy])
          rcases get_is0 hBt with ⟨k, more, h1, hk, h2⟩ | h2 | h2
          · rw [h2] at h
            simp only [if_true, Int.toNat_natCast] at h
            rw [show t.drop (putN k).length = more from by rw [h1]; simp] at h
            have hBm : AllB more := fun y hy => hBt y (by rw [h1]; simp [hy])
            have hcm : c % 256 = c := by omega
            unfold bodyT at h
            split at h
            · rename_i c13
              simp only [Except.ok.injEq, Prod.mk.injEq] at h
              obtain ⟨rfl, rfl, rfl⟩ := h
              refine ⟨?_, by rw [parts_eq]; simp [partsL], by omega, by rw [depth_eq]; simp [depthL], ?_, ok25.leaf (wf_kind (by omega)) (wf_nat hk) (by simp [ByteArray.size])⟩
              · rw [encT_eq, hd, if_pos (show c = 1 ∨ c = 3 ∨ c = 4 by omega), hcm, h1]
                simp [encL]
              · rw [shp_eq, one, if_pos c13]
                simp [shpL, bytesOf_empty]
            · rename_i c13
              split at h
              · rename_i c2
                subst c2
                split at h
                · simp at h
                · rename_i hk2
                  split at h
                  · simp at h
                  · rename_i hk3
                    simp only [Except.ok.injEq, Prod.mk.injEq] at h
                    obtain ⟨rfl, rfl, rfl⟩ := h
                    have hsz : (strOfNums (more.take k)).size = k := by rw [size_str, List.length_take]; omega
                    refine ⟨?_, by rw [parts_eq]; simp [partsL], by omega, by rw [depth_eq]; simp [depthL], ?_, ok25.leaf (wf_kind (by omega)) (by decide) (by rw [hsz]; omega)⟩
                    · rw [encT_eq, hd, if_neg (by simp), if_pos rfl]
                      simp only [hsz, bytesOf_str (hBm.take k), encL, List.append_nil]
                      rw [h1]
                      simp
                    · rw [shp_eq, one, if_neg (by simp), if_pos rfl]
                      simp only [hsz, shpL, Bool.and_true, decide_eq_true_eq]
                      exact ⟨trivial, by omega, rfl⟩
              · rename_i c2
                cases e1 : rdL (rdF D) (if c = 4 then 1 else k) more (seen + 1) with
                | error e => rw [e1] at h; simp at h
                | ok r =>
                  obtain ⟨l, b1, n1⟩ := r
                  rw [e1] at h
                  simp only [Except.ok.injEq, Prod.mk.injEq] at h
                  obtain ⟨rfl, rfl, rfl⟩ := h
                  have w := rdL_was ih _ _ _ _ _ _ hBm (by omega) e1
                  have hlen : l.length ≤ 4000 := by have := len_parts l; have := w.cnt; have := w.most; omega
                  refine ⟨?_, ?_, w.most, ?_, ?_, ok25.mk (show (Lit.int .i64 c).wf = true from wf_kind (by omega)) (by show (Lit.int .u64 (if c = 4 then (k : Int) else 0)).wf = true; split; exact wf_nat hk; decide) (by simp [ByteArray.size]) (by show l.length * 56 ≤ _; omega) (by show l.length ≤ _; exact Nat.le_trans hlen (by decide)) w.ok⟩
                  · rw [encT_eq, hd, hcm]
                    simp only
                    by_cases c4 : c = 4
                    · rw [if_pos (by omega), if_pos c4, Int.toNat_natCast, h1, w.enc]
                      simp
                    · have hl := w.len
                      rw [if_neg c4] at hl
                      rw [if_neg (by omega), if_neg c2, if_pos (show c = 5 by omega), hl, h1, w.enc]
                      simp
                  · rw [parts_eq]; have := w.cnt; simp only; omega
                  · rw [depth_eq]; have := w.deep; simp only; omega
                  · rw [shp_eq, one]
                    simp only [if_neg c13, if_neg c2, w.shape, Bool.and_true]
                    have hl := w.len
                    by_cases c4 : c = 4
                    · rw [if_pos c4] at hl
                      simp [c4, hl, bytesOf_empty]
                    · simp only [if_neg c4, if_pos (show c = 5 by omega)]
                      simp [bytesOf_empty]
          · rw [h2] at h; simp at h
          · rw [h2] at h; simp at h
theorem rdL_reads {D : Nat} (l : List S25) (ih : ∀ y ∈ l, ∀ more seen, shp y = true → depth y ≤ D → seen + parts y ≤ 4000 → rdF D (encT y ++ more) seen = .ok (y, more, seen + parts y)) (hs : shpL l = true) (hd : depthL l ≤ D) :
    ∀ more seen, seen + partsL l ≤ 4000 → rdL (rdF D) l.length (encL l ++ more) seen = .ok (l, more, seen + partsL l) := by
  induction l with
  | nil => intro more seen _; simp [rdL, encL, partsL]
  | cons x t iht =>
    intro more seen hn
    rw [shpL, Bool.and_eq_true] at hs
    rw [depthL] at hd
    rw [partsL] at hn ⊢
    rw [encL, List.append_assoc, List.length_cons, rdL, ih x (by simp) _ _ hs.1 (by omega) (by omega)]
    simp only
    rw [iht (fun y hy => ih y (by simp [hy])) hs.2 (by omega) more (seen + parts x) (by omega)]
    simp only
    rw [Nat.add_assoc]
theorem one_kind {n f : Int} {s : ByteArray} {len : Nat} (h : one n f s len = true) : ((n = 1 ∨ n = 3) ∧ s = ⟨#[]⟩ ∧ len = 0) ∨ (n = 2 ∧ f = 0 ∧ s.size ≤ 4000 ∧ len = 0) ∨ (n = 4 ∧ s = ⟨#[]⟩ ∧ len = 1) ∨ (n = 5 ∧ f = 0 ∧ s = ⟨#[]⟩) := by
  unfold one at h
  simp only [str_nil_iff] at h
  split at h
  · rename_i c; exact .inl ⟨c, by simpa using h⟩
  · split at h
    · rename_i c; exact .inr (.inl ⟨c, by simpa using h⟩)
    · split at h
      · rename_i c; exact .inr (.inr (.inl ⟨c, by simpa using h⟩))
      · split at h
        · rename_i c; exact .inr (.inr (.inr ⟨c, by simpa using h⟩))
        · simp at h
theorem rdF_reads {x : S25} (h : ok25 x) : ∀ D more seen, shp x = true → depth x ≤ D → seen + parts x ≤ 4000 → rdF D (encT x ++ more) seen = .ok (x, more, seen + parts x) := by
  induction h with
  | @mk x h0 h1 h2 h3 h4 h5 ih =>
    intro D more seen hs hdp hn
    have hu := wf_u64 h1
    obtain ⟨f, hf⟩ : ∃ f : Nat, x.f1 = (f : Int) := ⟨x.f1.toNat, by omega⟩
    cases D with
    | zero => have := depth_pos x; omega
    | succ D =>
      rw [shp_eq, Bool.and_eq_true] at hs
      rw [depth_eq] at hdp
      rw [parts_eq] at hn ⊢
      have hl := rdL_reads (D := D) x.f3 (fun y hy more seen a b c => ih y hy D more seen a b c) hs.2 (by omega)
      rw [rdF, if_neg (by omega), encT_eq, hd]
      rcases one_kind hs.1 with ⟨c, e1, e2⟩ | ⟨c, e1, e2, e3⟩ | ⟨c, e1, e2⟩ | ⟨c, e1, e2⟩
      · have e3 : x.f3 = [] := List.length_eq_zero_iff.1 e2
        rw [if_pos (by omega), show x.f0 % 256 = x.f0 from by omega, hf, Int.toNat_natCast, List.append_assoc, List.cons_append, headT, if_neg (by omega), get_put0 (by omega)]
        simp only [if_true, Int.toNat_natCast]
        rw [bodyT, if_pos c, e3]
        simp only [encL, partsL, List.nil_append, List.drop_left']
        rw [← eta25 x, hf, e1, e3]
      · have e4 : x.f3 = [] := List.length_eq_zero_iff.1 e3
        rw [if_neg (by omega), if_pos c, show x.f0 % 256 = 2 from by omega, List.append_assoc, List.cons_append, List.append_assoc, headT, if_neg (by omega), get_put0 (by omega)]
        simp only [if_true, Int.toNat_natCast]
        rw [bodyT, if_neg (by decide), if_pos rfl, if_neg (by omega), e4]
        have e5 : List.drop (putN x.f2.size).length (putN x.f2.size ++ (bytesOf x.f2 ++ (encL [] ++ more))) = bytesOf x.f2 ++ more := by simp [encL]
        rw [e5, if_neg (by rw [List.length_append, bytesOf_length]; omega), List.take_left' (bytesOf_length _), List.drop_left' (bytesOf_length _), str_bytesOf]
        simp only [partsL]
        rw [← eta25 x, c, e1, e4]
      · rw [if_pos (by omega), show x.f0 % 256 = x.f0 from by omega, hf, Int.toNat_natCast, List.append_assoc, List.cons_append, headT, if_neg (by omega), get_put0 (by omega)]
        simp only [if_true, Int.toNat_natCast]
        rw [bodyT, if_neg (by omega), if_neg (by omega), if_pos c, List.drop_left' rfl]
        have := hl more (seen + 1) (by omega)
        rw [e2] at this
        rw [this]
        simp only [if_pos c]
        rw [← hf, ← e1, eta25, Nat.add_assoc]
      · rw [if_neg (by omega), if_neg (by omega), if_pos c, show x.f0 % 256 = x.f0 from by omega, List.append_assoc, List.cons_append, headT, if_neg (by omega), get_put0 (by omega)]
        simp only [if_true, Int.toNat_natCast]
        rw [bodyT, if_neg (by omega), if_neg (by omega), if_neg (show ¬ x.f0 = 4 by omega), List.drop_left' rfl]
        rw [hl more (seen + 1) (by omega)]
        simp only [if_neg (show ¬ x.f0 = 4 by omega)]
        rw [← e1, ← e2, eta25, Nat.add_assoc]
theorem rdL_cut {D : Nat} (l : List S25) (ih : ∀ y ∈ l, ∀ m seen, shp y = true → depth y ≤ D → seen + parts y ≤ 4000 → m < (encT y).length → rdF D ((encT y).take m) seen = .error 20) (ho : ∀ y ∈ l, ok25 y) (hs : shpL l = true) (hd : depthL l ≤ D) :
    ∀ m seen, seen + partsL l ≤ 4000 → m < (encL l).length → rdL (rdF D) l.length ((encL l).take m) seen = .error 20 := by
  induction l with
  | nil => intro m seen _ hm; simp [encL] at hm
  | cons x t iht =>
    intro m seen hn hm
    rw [shpL, Bool.and_eq_true] at hs
    rw [depthL] at hd
    rw [partsL] at hn
    rw [encL, List.length_append] at hm
    rw [encL, List.length_cons, rdL, List.take_append]
    rcases Nat.lt_or_ge m (encT x).length with h | h
    · rw [show m - (encT x).length = 0 from by omega, List.take_zero, List.append_nil, ih x (by simp) m seen hs.1 (by omega) (by omega) h]
    · rw [List.take_of_length_le h, rdF_reads (ho x (by simp)) D _ _ hs.1 (by omega) (by omega)]
      simp only
      rw [iht (fun y hy => ih y (by simp [hy])) (fun y hy => ho y (by simp [hy])) hs.2 (by omega) (m - (encT x).length) (seen + parts x) (by omega) (by omega)]
theorem rdF_cut {x : S25} (h : ok25 x) : ∀ D m seen, shp x = true → depth x ≤ D → seen + parts x ≤ 4000 → m < (encT x).length → rdF D ((encT x).take m) seen = .error 20 := by
  induction h with
  | @mk x h0 h1 h2 h3 h4 h5 ih =>
    intro D m seen hs hdp hn hm
    have hu := wf_u64 h1
    obtain ⟨f, hf⟩ : ∃ f : Nat, x.f1 = (f : Int) := ⟨x.f1.toNat, by omega⟩
    cases D with
    | zero => have := depth_pos x; omega
    | succ D =>
      rw [shp_eq, Bool.and_eq_true] at hs
      rw [depth_eq] at hdp
      rw [parts_eq] at hn
      have hl := rdL_cut (D := D) x.f3 (fun y hy m seen a b c d => ih y hy D m seen a b c d) h5 hs.2 (by omega)
      rw [rdF, if_neg (by omega)]
      rw [encT_eq, hd] at hm ⊢
      cases m with
      | zero => rfl
      | succ m =>
        rw [List.cons_append, List.length_cons] at hm
        rw [List.cons_append, List.take_succ_cons]
        have num : ∀ (c : Int) (n : Nat) (rest : List Int), (1 ≤ c ∧ c ≤ 5) → n < 18446744073709551616 → m < (putN n ++ rest).length → (∀ j, j < rest.length → bodyT (rdF D) c n (rest.take j) (seen + 1) = .error 20) → headT (rdF D) (c :: (putN n ++ rest).take m) seen = .error 20 := by
          intro c n rest hc hn' hm' hb
          rw [headT, if_neg (by omega), List.take_append]
          rw [List.length_append] at hm'
          rcases Nat.lt_or_ge m (putN n).length with h | h
          · rw [show m - (putN n).length = 0 from by omega, List.take_zero, List.append_nil, get_cut0 hn' h]
            rfl
          · rw [List.take_of_length_le h, get_put0 hn']
            simp only [if_true, Int.toNat_natCast]
            rw [List.drop_left' rfl]
            exact hb _ (by omega)
        rcases one_kind hs.1 with ⟨c, e1, e2⟩ | ⟨c, e1, e2, e3⟩ | ⟨c, e1, e2⟩ | ⟨c, e1, e2⟩
        · have e3 : x.f3 = [] := List.length_eq_zero_iff.1 e2
          rw [if_pos (by omega), hf, Int.toNat_natCast, e3] at hm ⊢
          rw [show x.f0 % 256 = x.f0 from by omega]
          exact num _ _ _ (by omega) (by omega) (by omega) (fun j hj => by simp [encL] at hj)
        · have e4 : x.f3 = [] := List.length_eq_zero_iff.1 e3
          rw [if_neg (by omega), if_pos c, e4, List.append_assoc] at hm ⊢
          rw [show x.f0 % 256 = 2 from by omega]
          refine num _ _ _ (by omega) (by omega) (by omega) (fun j hj => ?_)
          rw [List.length_append, bytesOf_length] at hj
          simp only [encL, List.length_nil] at hj
          rw [bodyT, if_neg (by decide), if_pos rfl, if_neg (by omega), if_pos (by rw [List.length_take]; omega)]
        · rw [if_pos (by omega), hf, Int.toNat_natCast] at hm ⊢
          rw [show x.f0 % 256 = x.f0 from by omega]
          refine num _ _ _ (by omega) (by omega) (by omega) (fun j hj => ?_)
          rw [bodyT, if_neg (by omega), if_neg (by omega), if_pos c]
          have := hl j (seen + 1) (by omega) hj
          rw [e2] at this
          rw [this]
        · rw [if_neg (by omega), if_neg (by omega), if_pos c] at hm ⊢
          rw [show x.f0 % 256 = x.f0 from by omega]
          refine num _ _ _ (by omega) (by omega) (by omega) (fun j hj => ?_)
          rw [bodyT, if_neg (by omega), if_neg (by omega), if_neg (show ¬ x.f0 = 4 by omega), hl j (seen + 1) (by omega) hj]

end Go.Proofs.Ytopfdggagijdkaa.Pure
