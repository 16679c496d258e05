/- A plain evaluator over the translated code: regions that draw their order: every order comes to what the text's comes to. Under no condition. -/
import Derived.Test.YtfojcadooepgpaaRxDc
import Derived.Orders
set_option linter.unusedSectionVars false
set_option linter.unusedVariables false
set_option linter.unusedSimpArgs false
namespace Go.Proofs.Ytfojcadooepgpaa.Rx
open Go Go.RowKit

section
variable {T : Tab} {P : Program} {tb : List (FuncId × Fx)} {Fn : (key : Nat) → List (DL T) → Option (HL T.S (fxAt tb key).tout)} {N : Nat} {ops : Array Oper} {fas : List (Option (Ob T) × Nat)} {env0 : Env T} {h0 : Hp T}
theorem loud_load {ids : List Nat} {op : Op} (h : quietOp ids op = false) : loadOp op = false := by
  cases op <;> first | rfl | (simp [quietOp, pureOp, readOp] at h)
theorem merge_keep {k : Nat} {ids : List Nat} : ∀ (r : List Nat) (g h : Hp T), h.length ≤ (mergeO k ids r g h).length ∧ ∀ x, x ∉ r → x < h.length → (mergeO k ids r g h)[x]? = h[x]?
  | [], g, h => by
    have : mergeO k ids [] g h = h ++ g.map (renO (backN k ids)) := by cases g <;> rfl
    rw [this]
    exact ⟨by simp, fun x _ hx => List.getElem?_append_left hx⟩
  | i :: r, [], h => by simp [mergeO]
  | i :: r, o :: g, h => by
    simp only [mergeO]
    obtain ⟨h1, h2⟩ := merge_keep r g (setO h i (renO (backN k ids) o)) (k := k) (ids := ids)
    rw [setO_len] at h1 h2
    refine ⟨h1, fun x hx hl => ?_⟩
    simp only [List.mem_cons, not_or] at hx
    rw [h2 x hx.2 hl, setO_other _ _ (fun e => hx.1 e)]
theorem pair_of {i : Nat} {x y : Lg} (h : okPair i x y = true) : (∀ t, x.dst = some t → y.dst ≠ some t) ∧ (∀ t, x.dst = some t → t ∈ y.reads → i ∈ y.anc) ∧ (∀ t, y.dst = some t → t ∈ x.reads → i ∈ y.anc) ∧ okKinds i x y = true := by
  simp only [okPair, Bool.and_eq_true, Bool.or_eq_true, Bool.not_eq_true'] at h
  obtain ⟨h1, h2, h3, h4⟩ := h
  refine ⟨fun t ht hy => ?_, fun t ht hm => ?_, fun t ht hm => ?_, h4⟩
  · rw [ht, hy] at h1; simp [eqO] at h1
  · rcases h2 with h2 | h2
    · rw [ht] at h2; simp only [inO] at h2; rw [memN_iff.2 hm] at h2; cases h2
    · exact memN_iff.1 h2
  · rcases h3 with h3 | h3
    · rw [ht] at h3; simp only [inO] at h3; rw [memN_iff.2 hm] at h3; cases h3
    · exact memN_iff.1 h3
theorem dis_of {l r : List Nat} (h : disN l r = true) : ∀ i ∈ l, i ∉ r := by
  intro i hi hr
  have := allN_iff.1 h i hi
  rw [memN_iff.2 hr] at this
  cases this
def lst (listed : Array Bool) (k : Nat) : Prop := listed.getD k false = true
theorem lst_set {listed : Array Bool} {i k : Nat} (hi : i < listed.size) : lst (listed.setIfInBounds i true) k ↔ k = i ∨ lst listed k := by
  unfold lst
  by_cases e : i = k
  · subst e; simp [hi]
  · rw [getD_set_ne false e]
    constructor
    · exact .inr
    · rintro (rfl | h)
      · exact absurd rfl e
      · exact h
section
variable {recs : List (Rec T)} {env : Env T} {h : Hp T} (hw : WF P tb Fn N ops fas env0 h0 recs env h)
include hw
theorem WF.at {i : Nat} {r : Rec T} (hr : recs[i]? = some r) : hAt recs h i = r.h := by unfold hAt; rw [hr]
theorem WF.flat {c : Nat} : ∀ {d : Nat}, c ≤ d → d ≤ recs.length → (∀ k r, c ≤ k → k < d → recs[k]? = some r → r.lg.kind ≠ some true) → hAt recs h d = hAt recs h c
  | d, hcd, hd, hk => by
    induction d with
    | zero =>
      have : c = 0 := by omega
      rw [this]
    | succ d ih =>
      rcases Nat.lt_or_ge d c with hlt | hge
      · have : c = d + 1 := by omega
        rw [this]
      · rw [← ih hge (by omega) (fun k r h1 h2 => hk k r h1 (by omega))]
        obtain ⟨r, hr⟩ : ∃ r, recs[d]? = some r := ⟨recs[d], List.getElem?_eq_getElem (by omega)⟩
        rw [hw.heap d r hr, hw.at hr]
        have := hk d r hge (by omega) hr
        unfold aft
        split
        · rename_i e; exact absurd e this
        · rfl
/-- What a loud operation does not meet, it leaves; and memory grows. -/
theorem WF.step {k : Nat} {r : Rec T} (hr : recs[k]? = some r) : (hAt recs h k).length ≤ (hAt recs h (k + 1)).length ∧ ∀ x, (r.lg.kind = some true → x ∉ r.lg.ids) → x < (hAt recs h k).length → (hAt recs h (k + 1))[x]? = (hAt recs h k)[x]? := by
  rw [hw.heap k r hr, hw.at hr]
  unfold aft
  split
  · rename_i e
    obtain ⟨h1, h2⟩ := merge_keep r.ids r.g' r.h (k := r.h.length) (ids := r.ids)
    refine ⟨h1, fun x hx hl => h2 x (fun hm => ?_) hl⟩
    obtain ⟨o, ho, h3⟩ := hw.one k r hr
    have h4 := h3.done.done (by rw [e]; simp)
    unfold Done at h4
    rw [e] at h4
    obtain ⟨_, _, h5, _, _, h6, _⟩ := h4
    have hp : pureOp o.op = false := by
      cases hp : pureOp o.op with
      | false => rfl
      | true => simp [quietOp, hp] at h6
    apply hx e
    rw [h5]
    unfold lidD
    have hq : quietOp r.ids o.op = false := by
      cases hq : quietOp r.ids o.op with
      | false => rfl
      | true => simp [hq] at h6
    have hlo := loud_load hq
    rw [hp, hlo]
    exact hm
  · exact ⟨Nat.le_refl _, fun _ _ _ => rfl⟩
theorem WF.len_of {k : Nat} {r : Rec T} (hr : recs[k]? = some r) (hk : r.lg.kind = some true) : r.lg.len = (hAt recs h k).length := by
  obtain ⟨o, ho, h3⟩ := hw.one k r hr
  have h4 := h3.done.done (by rw [hk]; simp)
  unfold Done at h4
  rw [hk] at h4
  rw [h4.2.2.2.2.1, hw.at hr]
theorem WF.down {listed : Array Bool} (hdir : ∀ k o, ops[k]? = some o → lst listed k → ∀ e ∈ o.after.toList, Region.binds .any e = true → lst listed e.on) (k : Nat) : ∀ r, recs[k]? = some r → lst listed k → ∀ j ∈ r.lg.anc, lst listed j := by
  induction k using Nat.strongRecOn with
  | _ k ih =>
    intro r hr hl j hj
    obtain ⟨o, ho, h1⟩ := hw.one k r hr
    obtain ⟨e, e1, e2, e3⟩ := h1.anc j hj
    have h2 := hdir k o ho hl e e1 e2
    rcases e3 with rfl | ⟨r2, f1, f2⟩
    · exact h2
    · exact ih e.on (h1.lt e e1 e2) r2 f1 h2 j f2
/-- What a quiet operation looks at is the same, as soon as it may come. -/
theorem WF.agree {listed : Array Bool} {i c : Nat} {r : Rec T} (hr : recs[i]? = some r) (hk : r.lg.kind = some false) (hc : c ≤ recs.length) (hcl : ∀ k rk, recs[k]? = some rk → rk.lg.kind = some true → (lst listed k ↔ k < c))
    (hanc : ∀ k ∈ r.lg.anc, lst listed k) (hni : ¬ lst listed i) (hdown : ∀ k rk, recs[k]? = some rk → lst listed k → ∀ j ∈ rk.lg.anc, lst listed j) {x : Nat} (hx : x ∈ r.lg.all) (hxl : x < r.h.length) :
    x < (hAt recs h c).length ∧ (x ∈ r.lg.ids → (hAt recs h c)[x]? = r.h[x]?) := by
  have hil : i < recs.length := (List.getElem?_eq_some_iff.1 hr).1
  rw [← hw.at hr] at hxl ⊢
  rcases Nat.le_total c i with hci | hic
  · -- the loud ones between are not done yet
    have : ∀ d, d ≤ i → c ≤ i - d → x < (hAt recs h (i - d)).length ∧ (x ∈ r.lg.ids → (hAt recs h (i - d))[x]? = (hAt recs h i)[x]?) := by
      intro d
      induction d with
      | zero => intro _ _; exact ⟨hxl, fun _ => rfl⟩
      | succ d ih =>
        intro hd hcd
        obtain ⟨q1, q2⟩ := ih (by omega) (by omega)
        have e1 : i - d = (i - (d + 1)) + 1 := by omega
        rw [e1] at q1 q2
        obtain ⟨rk, hrk⟩ : ∃ rk, recs[i - (d + 1)]? = some rk := ⟨_, List.getElem?_eq_getElem (by omega)⟩
        obtain ⟨s1, s2⟩ := hw.step hrk
        by_cases hl : rk.lg.kind = some true
        · have hnl : ¬ lst listed (i - (d + 1)) := fun hh => by have := (hcl _ _ hrk hl).1 hh; omega
          have hkd := (pair_of (hw.pair _ _ _ _ (by omega) hrk hr)).2.2.2
          unfold okKinds at hkd
          rw [hl, hk] at hkd
          simp only [Bool.or_eq_true, Bool.and_eq_true] at hkd
          rcases hkd with hkd | ⟨k1, k2⟩
          · exact absurd (hanc _ (memN_iff.1 hkd)) hnl
          · have k3 : x < rk.lg.len := Nat.le_of_ble_eq_true (allN_iff.1 k2 x hx)
            rw [hw.len_of hrk hl] at k3
            refine ⟨k3, fun hxi => ?_⟩
            rw [← q2 hxi]
            exact (s2 x (fun _ hm => dis_of k1 x hm hxi) k3).symm
        · have e2 : hAt recs h (i - (d + 1) + 1) = hAt recs h (i - (d + 1)) := hw.flat (by omega) (by omega) (fun k r' h1 h2 h3 => by
            have : k = i - (d + 1) := by omega
            subst this
            rw [hrk] at h3
            cases h3
            exact hl)
          rw [e2] at q1 q2
          exact ⟨q1, q2⟩
    have := this (i - c) (by omega) (by omega)
    rw [show i - (i - c) = c by omega] at this
    exact this
  · have : ∀ d, i + d ≤ c → x < (hAt recs h (i + d)).length ∧ (x ∈ r.lg.ids → (hAt recs h (i + d))[x]? = (hAt recs h i)[x]?) := by
      intro d
      induction d with
      | zero => intro _; exact ⟨hxl, fun _ => rfl⟩
      | succ d ih =>
        intro hd
        obtain ⟨q1, q2⟩ := ih (by omega)
        obtain ⟨rk, hrk⟩ : ∃ rk, recs[i + d]? = some rk := ⟨_, List.getElem?_eq_getElem (by omega)⟩
        obtain ⟨s1, s2⟩ := hw.step hrk
        refine ⟨Nat.lt_of_lt_of_le q1 s1, fun hxi => ?_⟩
        rw [← q2 hxi]
        refine s2 x (fun hl hm => ?_) q1
        have hlk : lst listed (i + d) := (hcl _ _ hrk hl).2 (by omega)
        cases d with
        | zero => exact hni hlk
        | succ d =>
          have hkd := (pair_of (hw.pair _ _ _ _ (by omega) hr hrk)).2.2.2
          unfold okKinds at hkd
          rw [hl, hk] at hkd
          simp only [Bool.or_eq_true] at hkd
          rcases hkd with hkd | k1
          · exact hni (hdown _ _ hrk hlk _ (memN_iff.1 hkd))
          · exact dis_of k1 x hxi hm
    have := this (c - i) (by omega)
    rw [show i + (c - i) = c by omega] at this
    exact this
end
end
end Go.Proofs.Ytfojcadooepgpaa.Rx
