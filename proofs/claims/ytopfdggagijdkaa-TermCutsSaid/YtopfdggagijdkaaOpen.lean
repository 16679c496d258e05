/- What an argument of a law reads as, told by the words of the print: from the reading of the form to the words' kinds. Under no condition. -/
import Derived.Test.YtopfdggagijdkaaWWords
import Derived.ChangeArms
import Derived.ChangeShapes
import Derived.SizedLaws
import Derived.DataReads
import Derived.ChangeOld
set_option linter.unusedVariables false
namespace Go.Proofs.Ytopfdggagijdkaa.Open
open Go.RowKit Go.Proofs.YtopfdggagijdkaaW.PrintWords

/-- A reading of type t with so much fuel is one of the kind k, and Q holds of what is read. -/
def OpensAt (P : Program) (n : Nat) (t : TypeId) {α : Type} (k : Kd α) (Q : α → Prop) : Prop :=
  ∀ {H : Type} (enc : TypeId × Value → H) (w : World) (cs : List Value) (x : DataW H × List MemPlace),
    DataW.trod enc P w 0 (fun _ => true) true n t cs = some x → (∀ m ∈ x.1.weights P t, m ≤ reachBytes) → ∃ y, k.K w y cs ∧ Q y

theorem at_int {P : Program} {n : Nat} {t : TypeId} {k : IntKind} (ht : P.underlying t = some (.int k)) : OpensAt P n t (Kd.int k) (fun x => (Lit.int k x).wf = true) := by
  intro H enc w cs x h _
  obtain ⟨a, rfl, rfl, hw⟩ := DataW.trod_int ht h
  exact ⟨a, rfl, hw⟩
theorem at_bool {P : Program} {n : Nat} {t : TypeId} (ht : P.underlying t = some .bool) : OpensAt P n t Kd.bool (fun _ => True) := by
  intro H enc w cs x h _
  obtain ⟨a, rfl, rfl⟩ := DataW.trod_bool ht h
  exact ⟨a, rfl, trivial⟩
theorem at_string {P : Program} {n : Nat} {t : TypeId} (ht : P.underlying t = some .string) : OpensAt P n t Kd.string (fun x => x.size ≤ 140737488351232) := by
  intro H enc w cs x h hm
  obtain ⟨a, rfl, rfl, hw⟩ := DataW.trod_string ht h
  refine ⟨a, rfl, ?_⟩
  have := hm a.data.toList.length (by simp [DataW.weights])
  simpa [reachBytes] using this
theorem weights_all {H : Type} {P : Program} {e : TypeId} : ∀ {l : List (DataW H)} {j : Nat} {d : DataW H}, l[j]? = some d → ∀ m ∈ d.weights P e, m ∈ DataW.weightsAll P e l
  | [], _, _, h, _, _ => by simp at h
  | d0 :: l, 0, d, h, m, hm => by
    simp only [List.getElem?_cons_zero, Option.some.injEq] at h
    subst h
    simp only [DataW.weightsAll, List.mem_append]
    exact Or.inl hm
  | d0 :: l, j + 1, d, h, m, hm => by
    simp only [List.getElem?_cons_succ] at h
    simp only [DataW.weightsAll, List.mem_append]
    exact Or.inr (weights_all h m hm)
theorem list_of {α : Type} {n : Nat} {R : Nat → α → Prop} (h : ∀ i, i < n → ∃ y, R i y) : ∃ ys : List α, ys.length = n ∧ ∀ i y, ys[i]? = some y → R i y := by
  induction n with
  | zero => exact ⟨[], rfl, fun i y hy => by simp at hy⟩
  | succ n ih =>
    obtain ⟨ys, hl, hy⟩ := ih (fun i hi => h i (by omega))
    obtain ⟨z, hz⟩ := h n (by omega)
    refine ⟨ys ++ [z], by simp [hl], fun i y hi => ?_⟩
    rcases Nat.lt_or_ge i n with hlt | hge
    · rw [List.getElem?_append_left (by omega)] at hi
      exact hy i y hi
    · rw [List.getElem?_append_right (by omega)] at hi
      have : i = n := by
        have := (List.getElem?_eq_some_iff.1 hi).1
        simp at this
        omega
      subst this
      simp [hl] at hi
      rw [← hi]
      exact hz
theorem cells_row {w : World} {a : Addr} {m : Nat} {cs : List Value} (h : w.cells? 0 a m = some cs) : cs.length = m ∧ ∀ i u, cs[i]? = some u → w.cell? (a.add i) = some u := by
  obtain ⟨_, hl, hc⟩ := World.cells?_some h
  refine ⟨hl, fun i u hu => ?_⟩
  have hi : i < m := by
    have := (List.getElem?_eq_some_iff.1 hu).1
    omega
  rw [hc i hi, hu]
/-- What is known of a list that came in: its bytes, and of each element. -/
def okL {α : Type} (b : Nat) (Q : α → Prop) (xs : List α) : Prop := xs.length * b ≤ 140737488351232 ∧ xs.length ≤ maxLen ∧ ∀ x ∈ xs, Q x
theorem at_slice {P : Program} {n : Nat} {t e : TypeId} {α : Type} {k : Kd α} {Q : α → Prop} {b : Nat} (ht : P.underlying t = some (.slice e)) (hsz : P.cellsOf e = k.sz) (hby : P.bytesOf e = b) (h : ∀ m, m < n → OpensAt P m e k Q) :
    OpensAt P n t (Kd.slice e k) (okL b Q) := by
  subst hby
  intro H enc w cs x hx hm
  rcases DataW.trod_slice ht hx with ⟨rfl, rfl⟩ | ⟨a, len, cap, elems, rest, n', rfl, rfl, rfl, hb, hl, hcm, hlen, hel, _, _⟩
  · exact ⟨[], ⟨none, 0, rfl, Nat.le_refl _, rfl, by simp, fun h0 => absurd h0 (by simp)⟩, by simp, by simp, by simp⟩
  · simp only [DataW.weights, ht] at hm
    have hbytes : len * P.bytesOf e ≤ 140737488351232 := by
      have h1 := hm _ List.mem_cons_self
      simp only [List.length_map, hlen] at h1
      refine Nat.le_trans (Nat.mul_le_mul_right _ (Nat.le_add_right len rest.length)) h1
    obtain ⟨ys, hyl, hy⟩ := list_of (n := len) (R := fun i y => Q y ∧ ∃ c, c.length = k.sz ∧ k.K w y c ∧ ∀ j u, c[j]? = some u → w.cell? (a.add (i * k.sz + j)) = some u) (by
      intro i hi
      have h1 := hel i hi
      rw [List.getElem?_eq_getElem (by omega)] at h1
      obtain ⟨c, h2, h3⟩ := Option.bind_eq_some_iff.1 h1
      obtain ⟨y, hk, hq⟩ := h n' (by omega) enc w c _ h3 (fun m hm1 => hm m (by
        refine List.mem_cons_of_mem _ (List.mem_append_left _ ?_)
        exact weights_all (j := i) (d := elems[i].1) (by simp [List.getElem?_eq_getElem (show i < elems.length by omega)]) m hm1))
      obtain ⟨hcl, hcc⟩ := cells_row h2
      refine ⟨y, hq, c, by rw [hcl, hsz], hk, fun j u hu => ?_⟩
      have := hcc j u hu
      rw [hsz] at this
      rwa [add_add] at this)
    refine ⟨ys, ⟨some a, cap, by rw [hyl], by omega, rfl, by rw [hyl]; simp only [maxLen] at hcm; omega, fun _ => ⟨a, rfl, fun j p hj => (hy j p hj).2⟩⟩, by rw [hyl]; exact hbytes, by rw [hyl]; omega, fun x hx => ?_⟩
    obtain ⟨i, hi⟩ := List.mem_iff_getElem?.1 hx
    exact (hy i x hi).1

/-- The fields from one on. -/
def FieldsAt (P : Program) (n : Nat) (fs : List Field) (off : Nat) {α : Type} (k : Kd α) (Q : α → Prop) : Prop :=
  ∀ {H : Type} (enc : TypeId × Value → H) (w : World) (cs : List Value) (xs : List (DataW H × List MemPlace)), xs.length = fs.length → off + k.sz ≤ cs.length →
    (∀ (i : Nat) (f : Field), fs[i]? = some f → DataW.trod enc P w 0 (fun _ => true) true n f.type ((cs.drop f.offset).take (P.cellsOf f.type)) = xs[i]?) →
    (∀ m ∈ DataW.weightsEach P (fs.map (·.type)) (xs.map (·.1)), m ≤ reachBytes) → ∃ y, k.K w y ((cs.drop off).take k.sz) ∧ Q y
theorem fields_one {P : Program} {n : Nat} {f : Field} {off : Nat} {α : Type} {k : Kd α} {Q : α → Prop} (ho : f.offset = off) (hsz : P.cellsOf f.type = k.sz) (h : OpensAt P n f.type k Q) : FieldsAt P n [f] off k Q := by
  intro H enc w cs xs hl hle hx hm
  have h0 := hx 0 f rfl
  match xs, hl with
  | [x], _ =>
    rw [ho, hsz] at h0
    exact h enc w _ x h0 (fun m hm1 => hm m (by simp [DataW.weightsEach, hm1]))
theorem fields_cons {P : Program} {n : Nat} {f : Field} {fs : List Field} {off : Nat} {α β : Type} {k : Kd α} {k2 : Kd β} {Q : α → Prop} {Q2 : β → Prop} (ho : f.offset = off) (hsz : P.cellsOf f.type = k.sz) (h : OpensAt P n f.type k Q) (h2 : FieldsAt P n fs (off + k.sz) k2 Q2) :
    FieldsAt P n (f :: fs) off (Kd.pair k k2) (fun x => Q x.1 ∧ Q2 x.2) := by
  intro H enc w cs xs hl hle hx hm
  have h0 := hx 0 f rfl
  have hps : (Kd.pair k k2).sz = k.sz + k2.sz := rfl
  match xs, hl with
  | x :: xs, hl =>
    rw [ho, hsz] at h0
    obtain ⟨y, hy, hq⟩ := h enc w _ x h0 (fun m hm1 => hm m (by simp [DataW.weightsEach, hm1]))
    obtain ⟨y2, hy2, hq2⟩ := h2 enc w cs xs (by simpa using hl) (by omega) (fun i f hf => by simpa using hx (i + 1) f (by simpa using hf)) (fun m hm1 => hm m (by simp [DataW.weightsEach, hm1]))
    refine ⟨(y, y2), ⟨(cs.drop off).take k.sz, (cs.drop (off + k.sz)).take k2.sz, ?_, hy, hy2⟩, hq, hq2⟩
    rw [hps, List.take_add, List.drop_drop]
theorem at_struct {P : Program} {n : Nat} {t : TypeId} {fs : Array Field} {l : List Field} {α : Type} {k : Kd α} {Q : α → Prop} (ht : P.underlying t = some (.struct fs)) (hl : fs.toList = l) (hsz : P.cellsOf t = k.sz) (h : ∀ m, m < n → FieldsAt P m l 0 k Q) : OpensAt P n t k Q := by
  subst hl
  intro H enc w cs x hx hm
  obtain ⟨xs, n', rfl, rfl, hl, hlen, hf⟩ := DataW.trod_struct ht hx
  simp only [DataW.weights, ht] at hm
  obtain ⟨y, hy, hq⟩ := h n' (by omega) enc w cs xs (by simpa using hlen) (by omega) (fun i f hf1 => hf i f (by simpa using hf1)) hm
  refine ⟨y, ?_, hq⟩
  rw [List.drop_zero, List.take_of_length_le (by omega)] at hy
  exact hy
theorem at_iso {P : Program} {n : Nat} {t : TypeId} {α β : Type} {k : Kd α} {Q : α → Prop} {Q2 : β → Prop} {f : β → α} (g : α → β) (hfg : ∀ a, f (g a) = a) (hq : ∀ a, Q a → Q2 (g a)) (h : OpensAt P n t k Q) : OpensAt P n t (Kd.iso k f) Q2 := by
  intro H enc w cs x hx hm
  obtain ⟨y, hy, hqy⟩ := h enc w cs x hx hm
  refine ⟨g y, ?_, hq y hqy⟩
  show k.K w (f (g y)) cs
  rw [hfg]
  exact hy
theorem at_imp {P : Program} {n : Nat} {t : TypeId} {α : Type} {k : Kd α} {Q Q2 : α → Prop} (hq : ∀ a, Q a → Q2 a) (h : OpensAt P n t k Q) : OpensAt P n t k Q2 := by
  intro H enc w cs x hx hm
  obtain ⟨y, hy, hqy⟩ := h enc w cs x hx hm
  exact ⟨y, hy, hq y hqy⟩
/-- A type nested in itself. -/
theorem at_fix {P : Program} {t : TypeId} {α : Type} {F : Kd α → Kd α} {sz : Nat} {E : List Nat} (hs : ∀ n, (Kd.upto F sz E n).sz = sz) (hE : ∀ n q, q ∈ (Kd.upto F sz E n).E → q ∈ E) {Q : α → Prop}
    (h : ∀ n (d : Kd α), d.sz = sz → (∀ m, m < n → OpensAt P m t d Q) → OpensAt P n t (F d) Q) (hmono : Kd.Mono F) (n : Nat) : OpensAt P n t (Kd.fix F sz E hs hE) Q := by
  have key : ∀ n N, n < N → OpensAt P n t (Kd.upto F sz E N) Q := by
    intro n
    induction n using Nat.strongRecOn with
    | _ n ih =>
      intro N hN
      cases N with
      | zero => omega
      | succ N => exact h n (Kd.upto F sz E N) (hs N) (fun m hm => ih m hm N (by omega))
  intro H enc w cs x hx hm
  obtain ⟨y, hy, hq⟩ := key n (n + 1) (by omega) enc w cs x hx hm
  exact ⟨y, ⟨n + 1, hy⟩, hq⟩

/-- What a value of type t reads as. -/
theorem opens {P : Program} {t : TypeId} {α : Type} {k : Kd α} {Q : α → Prop} (h : ∀ n, OpensAt P n t k Q) {H : Type} {enc : TypeId × Value → H} {w : World} {v : Value} {d : DataW H} {ps : List MemPlace}
    (hr : DataW.Trod enc P w 0 (fun _ => true) true t v d ps) (hm : ∀ m ∈ d.weights P t, m ≤ reachBytes) : ∃ y, k.K w y v.cells.toList ∧ Q y := by
  obtain ⟨n, hn⟩ := hr
  exact h n enc w _ _ hn hm
theorem sized_arg {H : Type} {P : Program} {ts : List TypeId} {ds : List (DataW H)} (h : (DataW.weightsEach P ts ds).all (· ≤ reachBytes) = true) {j : Nat} {t : TypeId} {d : DataW H} (ht : ts[j]? = some t) (hd : ds[j]? = some d) : ∀ m ∈ d.weights P t, m ≤ reachBytes := by
  intro m hm
  have := List.all_eq_true.1 h _ (DataW.weights_mem_each ht hd m hm)
  simpa using this
theorem agg_of {P : Program} {W : World} {base : Nat} {t : TypeId} {fs : Array Field} {v : Value} (ht : P.underlying t = some (.struct fs)) (h : Value.okWide P W .any base t v) : ∃ cs : List Value, v = .agg cs.toArray ∧ v.cells.toList = cs := by
  unfold Value.okWide at h
  rw [ht] at h
  obtain ⟨cs, rfl, _⟩ := h
  exact ⟨cs.toList, by simp, by simp [Value.cells]⟩
theorem slice_of {w : World} {α : Type} {e : Nat} {k : Kd α} {v : Value} {xs : List α} {a : Option Addr} {len cap : Nat} (hv : v = .slice a len cap) (h : (Kd.slice e k).K w xs v.cells.toList) : len = xs.length ∧ xs.length ≤ cap ∧ k.C w a xs.length xs := by
  subst hv
  obtain ⟨A, c, he, hl, hc⟩ := h
  simp [Value.cells] at he
  obtain ⟨rfl, rfl, rfl⟩ := he
  exact ⟨rfl, hl, hc⟩
theorem one_of {P : Program} {W : World} {base : Nat} {t : TypeId} {v u : Value} (h : v.cells.toList = [u]) (hv : ∀ cs, v ≠ .agg cs) : v = u := by
  cases v <;> simp_all [Value.cells]
end Go.Proofs.Ytopfdggagijdkaa.Open
