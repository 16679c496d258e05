/- A plain evaluator over the translated code: runs as limits, and their equations. Under no condition. -/
import Derived.Test.YtfojcadooepgpaaRxE
set_option linter.unusedVariables false
namespace Go.Proofs.Ytfojcadooepgpaa.Rx
open Go Go.RowKit

/-! ### limits -/
def LeO {α : Type} (a b : Option α) : Prop := ∀ r, a = some r → b = some r
theorem LeO.refl {α : Type} (a : Option α) : LeO a a := fun _ h => h
theorem LeO.trans {α : Type} {a b c : Option α} (h : LeO a b) (k : LeO b c) : LeO a c := fun r hr => k r (h r hr)
theorem LeO.bind {α β : Type} {a a' : Option α} {f f' : α → Option β} (h : LeO a a') (k : ∀ x, LeO (f x) (f' x)) : LeO (a.bind f) (a'.bind f') := by
  intro r hr
  obtain ⟨x, hx, hf⟩ := Option.bind_eq_some_iff.1 hr
  exact Option.bind_eq_some_iff.2 ⟨x, h x hx, k x r hf⟩
open Classical in
noncomputable def lim {α : Type} (g : Nat → Option α) : Option α := if h : ∃ r k, g k = some r then some h.choose else none
def Inc {α : Type} (g : Nat → Option α) : Prop := ∀ k, LeO (g k) (g (k + 1))
theorem Inc.le {α : Type} {g : Nat → Option α} (h : Inc g) {k j : Nat} (hk : k ≤ j) : LeO (g k) (g j) := by
  obtain ⟨d, rfl⟩ := Nat.exists_eq_add_of_le hk
  induction d with
  | zero => exact LeO.refl _
  | succ d ih => exact (ih (by omega)).trans (h (k + d))
theorem lim_some {α : Type} {g : Nat → Option α} (h : Inc g) {r : α} : lim g = some r ↔ ∃ k, g k = some r := by
  unfold lim
  constructor
  · intro hr
    split at hr
    · rename_i h2
      have h3 := h2.choose_spec
      simp only [Option.some.injEq] at hr
      rw [hr] at h3
      exact h3
    · cases hr
  · rintro ⟨k, hk⟩
    have h2 : ∃ r k, g k = some r := ⟨r, k, hk⟩
    rw [dif_pos h2]
    obtain ⟨j, hj⟩ := h2.choose_spec
    have e1 := h.le (Nat.le_max_left k j) _ hk
    have e2 := h.le (Nat.le_max_right k j) _ hj
    rw [e1] at e2
    exact congrArg some (Option.some.inj e2).symm
theorem ext_some {α : Type} {a b : Option α} (h : ∀ r, a = some r ↔ b = some r) : a = b := by
  cases a with
  | none => cases b with
    | none => rfl
    | some y => exact absurd ((h y).2 rfl) (by simp)
  | some x => exact ((h x).1 rfl).symm

/-! ### the programs' functions -/
section
variable {T : Tab}
def EntLe (I I' : Nat → Ent T) : Prop := ∀ (R : Type) key as h (K K' : AV T → Hp T → Option R), (∀ v h', LeO (K v h') (K' v h')) → LeO (I key as h K) (I' key as h K')
theorem dn_le {R : Type} {I I' : Nat → Ent T} (hI : EntLe I I') {fin : AV T → Hp T → Option R} {Φ Φ' : St T → Option R} (hΦ : ∀ s, LeO (Φ s) (Φ' s)) (tr : Tr T) : LeO (dn I fin Φ tr) (dn I' fin Φ' tr) := by
  induction tr with
  | fail => exact LeO.refl _
  | done v h => exact LeO.refl _
  | cut s => exact hΦ s
  | ite p i a b iha ihb =>
    intro r hr
    simp only [dn] at hr ⊢
    by_cases hp : p
    · rw [if_pos hp] at hr ⊢; exact iha r hr
    · rw [if_neg hp] at hr ⊢; exact ihb r hr
  | call key as h k ih => exact hI R key as h _ _ ih
  | any a b iha ihb =>
    intro r hr
    simp only [dn] at hr ⊢
    obtain ⟨h1, h2⟩ := anyO_some.1 hr
    exact anyO_some.2 ⟨iha r h1, ihb r h2⟩
  | pick n k ih =>
    intro r hr
    simp only [dn] at hr ⊢
    obtain ⟨h1, h2⟩ := allO_some.1 hr
    exact allO_some.2 ⟨h1, fun i hi => ih i r (h2 i hi)⟩
theorem ent_le {x : Fx} {F F' : List (DL T) → Option (HL T.S x.tout)} (hF : ∀ ds, LeO (F ds) (F' ds)) {R : Type} (as : List (AV T)) (h : Hp T) {K K' : AV T → Hp T → Option R} (hK : ∀ v h', LeO (K v h') (K' v h')) :
    LeO (x.ent F as h K) (x.ent F' as h K') := by
  rw [ent_eq, ent_eq]
  cases x.take as h with
  | none => exact LeO.refl _
  | some ds =>
    refine LeO.bind (hF ds) (fun y => ?_)
    cases x.back y with
    | none => exact LeO.refl _
    | some z => exact hK _ _
def dfx : Fx := ⟨[], [], [], [], [], none⟩
def fxAt (tb : List (FuncId × Fx)) (key : Nat) : Fx := match nth tb key with | some x => x.2 | none => dfx
def fnAt (P : Program) (tb : List (FuncId × Fx)) (key : Nat) : Option Func := match nth tb key with | some x => P.funcs[x.1]? | none => none
def enum : Nat → List (AV T) → Env T
  | _, [] => [] | n, v :: r => (n, v) :: enum (n + 1) r
def start (x : Fx) (c : Code) (ds : List (DL T)) : Option (St T) :=
  match x.give ds with | some z => some ⟨[.c c], enum 0 z.1, z.2⟩ | none => none
abbrev Giv (T : Tab) (tb : List (FuncId × Fx)) := (key : Nat) → Option (List (DL T) → Option (HL T.S (fxAt tb key).tout))
variable (P : Program) (tb : List (FuncId × Fx))
noncomputable def go {R : Type} (I : Nat → Ent T) (fin : AV T → Hp T → Option R) (fn : Func) (x : Fx) : Nat → St T → Option R
  | 0, _ => none
  | k + 1, s => dn I fin (go I fin fn x k) (ev P tb fn x s)
noncomputable def body (I : Nat → Ent T) (key : Nat) (ds : List (DL T)) : Option (HL T.S (fxAt tb key).tout) :=
  match fnAt P tb key with
  | some fn => match fn.body with
    | some c => match start (fxAt tb key) c ds with
      | some s => lim (fun k => go P tb I (fxAt tb key).fin fn (fxAt tb key) k s)
      | none => none
    | none => none
  | none => none
variable (G : Giv T tb)
noncomputable def Fk : Nat → (key : Nat) → List (DL T) → Option (HL T.S (fxAt tb key).tout)
  | 0, _, _ => none
  | n + 1, key, ds => match G key with
    | some g => g ds
    | none => body P tb (fun key => (fxAt tb key).ent (Fk n key)) key ds
noncomputable def Ik (n : Nat) : Nat → Ent T := fun key => (fxAt tb key).ent (Fk P tb G n key)
noncomputable def F (key : Nat) (ds : List (DL T)) : Option (HL T.S (fxAt tb key).tout) := lim (fun n => Fk P tb G n key ds)
noncomputable def Io : Nat → Ent T := fun key => (fxAt tb key).ent (F P tb G key)
noncomputable def run {R : Type} (fin : AV T → Hp T → Option R) (fn : Func) (x : Fx) (s : St T) : Option R := lim (fun k => go P tb (Io P tb G) fin fn x k s)

variable {P tb G}
theorem go_le {R : Type} {I I' : Nat → Ent T} (hI : EntLe I I') {fin : AV T → Hp T → Option R} {fn : Func} {x : Fx} : ∀ k s, LeO (go P tb I fin fn x k s) (go P tb I' fin fn x k s)
  | 0, _ => LeO.refl _
  | k + 1, s => dn_le hI (fun s' => go_le hI k s') _
theorem ent_self (F : (key : Nat) → List (DL T) → Option (HL T.S (fxAt tb key).tout)) : EntLe (fun key => (fxAt tb key).ent (F key)) (fun key => (fxAt tb key).ent (F key)) :=
  fun R key as h K K' hK => ent_le (fun _ => LeO.refl _) as h hK
theorem go_inc {R : Type} {I : Nat → Ent T} (hI : EntLe I I) {fin : AV T → Hp T → Option R} {fn : Func} {x : Fx} (s : St T) : Inc (fun k => go P tb I fin fn x k s) := by
  intro k
  show LeO (go P tb I fin fn x k s) (go P tb I fin fn x (k + 1) s)
  induction k generalizing s with
  | zero => intro r hr; cases hr
  | succ k ih => exact dn_le hI (fun s' => ih s') _
theorem lim_le {α : Type} {g g' : Nat → Option α} (hg : Inc g) (hg' : Inc g') (h : ∀ k, LeO (g k) (g' k)) : LeO (lim g) (lim g') := by
  intro r hr
  obtain ⟨k, hk⟩ := (lim_some hg).1 hr
  exact (lim_some hg').2 ⟨k, h k r hk⟩
theorem body_le {F F' : (key : Nat) → List (DL T) → Option (HL T.S (fxAt tb key).tout)} (hF : ∀ key ds, LeO (F key ds) (F' key ds)) (key : Nat) (ds : List (DL T)) :
    LeO (body P tb (fun key => (fxAt tb key).ent (F key)) key ds) (body P tb (fun key => (fxAt tb key).ent (F' key)) key ds) := by
  unfold body
  split
  · split
    · split
      · exact lim_le (go_inc (ent_self F) _) (go_inc (ent_self F') _) (fun k => go_le (fun R key as h K K' hK => ent_le (hF key) as h hK) k _)
      · exact LeO.refl _
    · exact LeO.refl _
  · exact LeO.refl _
theorem Fk_inc (key : Nat) (ds : List (DL T)) : Inc (fun n => Fk P tb G n key ds) := by
  intro n
  show LeO (Fk P tb G n key ds) (Fk P tb G (n + 1) key ds)
  induction n generalizing key ds with
  | zero => intro r hr; cases hr
  | succ n ih =>
    simp only [Fk]
    split
    · exact LeO.refl _
    · exact body_le (fun key ds => ih key ds) key ds
theorem Ik_le {n m : Nat} (h : n ≤ m) : EntLe (Ik P tb G n) (Ik P tb G m) :=
  fun R key as hp K K' hK => ent_le (fun ds => (Fk_inc key ds).le h) as hp hK
theorem Ik_lo (n : Nat) : EntLe (Ik P tb G n) (Io P tb G) :=
  fun R key as hp K K' hK => ent_le (fun ds r hr => (lim_some (Fk_inc key ds)).2 ⟨n, hr⟩) as hp hK
theorem Io_self : EntLe (Io P tb G) (Io P tb G) := ent_self _
theorem all_max {p : Nat → Nat → Prop} (hp : ∀ i n m, n ≤ m → p i n → p i m) : ∀ (k : Nat), (∀ i, i < k → ∃ n, p i n) → ∃ n, ∀ i, i < k → p i n
  | 0, _ => ⟨0, fun i hi => by omega⟩
  | k + 1, h => by
    obtain ⟨n, hn⟩ := all_max hp k (fun i hi => h i (by omega))
    obtain ⟨m, hm⟩ := h k (by omega)
    refine ⟨max n m, fun i hi => ?_⟩
    by_cases c : i < k
    · exact hp i n _ (Nat.le_max_left n m) (hn i c)
    · have : i = k := by omega
      subst this
      exact hp i m _ (Nat.le_max_right n m) hm
/-- What an answer in the limit leans on is there in finitely many rounds. -/
theorem dn_fin {R : Type} {fin : AV T → Hp T → Option R} {Φ : St T → Option R} {Ψ : Nat → St T → Option R} (hΨ : ∀ s, Inc (fun n => Ψ n s)) (hΦ : ∀ s r, Φ s = some r → ∃ n, Ψ n s = some r) (tr : Tr T) {r : R} (h : dn (Io P tb G) fin Φ tr = some r) :
    ∃ n, dn (Ik P tb G n) fin (Ψ n) tr = some r := by
  induction tr with
  | fail => cases h
  | done v hp => exact ⟨0, h⟩
  | cut s =>
    obtain ⟨n, hn⟩ := hΦ s r h
    exact ⟨n, hn⟩
  | ite p i a b iha ihb =>
    simp only [dn] at h
    by_cases hp : p
    · rw [if_pos hp] at h
      obtain ⟨n, hn⟩ := iha h
      exact ⟨n, by simp only [dn]; rw [if_pos hp]; exact hn⟩
    · rw [if_neg hp] at h
      obtain ⟨n, hn⟩ := ihb h
      exact ⟨n, by simp only [dn]; rw [if_neg hp]; exact hn⟩
  | call key as hp k ih =>
    simp only [dn, Io, ent_eq] at h
    split at h
    · rename_i ds hds
      obtain ⟨y, hy, h2⟩ := Option.bind_eq_some_iff.1 h
      obtain ⟨n1, hn1⟩ := (lim_some (Fk_inc key ds)).1 hy
      split at h2
      · rename_i z hz
        obtain ⟨n2, hn2⟩ := ih z.1 z.2 h2
        refine ⟨max n1 n2, ?_⟩
        simp only [dn, Ik, ent_eq, hds]
        refine Option.bind_eq_some_iff.2 ⟨y, (Fk_inc key ds).le (Nat.le_max_left _ _) _ hn1, ?_⟩
        simp only [hz]
        exact dn_le (Ik_le (Nat.le_max_right n1 n2)) (fun s => (hΨ s).le (Nat.le_max_right n1 n2)) _ _ hn2
      · cases h2
    · cases h
  | any a b iha ihb =>
    simp only [dn] at h
    obtain ⟨h1, h2⟩ := anyO_some.1 h
    obtain ⟨n1, q1⟩ := iha h1
    obtain ⟨n2, q2⟩ := ihb h2
    refine ⟨max n1 n2, ?_⟩
    simp only [dn]
    exact anyO_some.2 ⟨dn_le (Ik_le (Nat.le_max_left n1 n2)) (fun s => (hΨ s).le (Nat.le_max_left n1 n2)) _ _ q1, dn_le (Ik_le (Nat.le_max_right n1 n2)) (fun s => (hΨ s).le (Nat.le_max_right n1 n2)) _ _ q2⟩
  | pick n k ih =>
    simp only [dn] at h
    obtain ⟨h1, h2⟩ := allO_some.1 h
    obtain ⟨m, hm⟩ := all_max (p := fun i n => dn (Ik P tb G n) fin (Ψ n) (k i) = some r) (fun i n m hnm q => dn_le (Ik_le hnm) (fun s => (hΨ s).le hnm) _ _ q) n (fun i hi => ih i (h2 i hi))
    exact ⟨m, by simp only [dn]; exact allO_some.2 ⟨h1, hm⟩⟩
theorem run_some {R : Type} {fin : AV T → Hp T → Option R} {fn : Func} {x : Fx} {s : St T} {r : R} : run P tb G fin fn x s = some r ↔ ∃ k, go P tb (Io P tb G) fin fn x k s = some r := lim_some (go_inc Io_self s)
/-- A run is its first step, and runs behind it. -/
theorem run_eq {R : Type} (fin : AV T → Hp T → Option R) (fn : Func) (x : Fx) (s : St T) : run P tb G fin fn x s = dn (Io P tb G) fin (run P tb G fin fn x) (ev P tb fn x s) := by
  refine ext_some fun r => ?_
  constructor
  · intro h
    obtain ⟨k, hk⟩ := run_some.1 h
    cases k with
    | zero => cases hk
    | succ k => exact dn_le Io_self (fun s' r' h' => run_some.2 ⟨k, h'⟩) _ _ hk
  · intro h
    have key : ∀ tr r, dn (Io P tb G) fin (run P tb G fin fn x) tr = some r → ∃ k, dn (Io P tb G) fin (go P tb (Io P tb G) fin fn x k) tr = some r := by
      intro tr
      induction tr with
      | fail => intro r h; cases h
      | done v hp => intro r h; exact ⟨0, h⟩
      | cut s => intro r h; exact run_some.1 h
      | ite p i a b iha ihb =>
        intro r h
        simp only [dn] at h
        by_cases hp : p
        · rw [if_pos hp] at h
          obtain ⟨n, hn⟩ := iha r h
          exact ⟨n, by simp only [dn]; rw [if_pos hp]; exact hn⟩
        · rw [if_neg hp] at h
          obtain ⟨n, hn⟩ := ihb r h
          exact ⟨n, by simp only [dn]; rw [if_neg hp]; exact hn⟩
      | call key as hp k ih =>
        intro r h
        simp only [dn, Io, ent_eq] at h
        split at h
        · rename_i ds hds
          obtain ⟨y, hy, h2⟩ := Option.bind_eq_some_iff.1 h
          split at h2
          · rename_i z hz
            obtain ⟨n, hn⟩ := ih z.1 z.2 r h2
            refine ⟨n, ?_⟩
            simp only [dn, Io, ent_eq, hds]
            refine Option.bind_eq_some_iff.2 ⟨y, hy, ?_⟩
            simp only [hz]
            exact hn
          · cases h2
        · cases h
      | any a b iha ihb =>
        intro r h
        simp only [dn] at h
        obtain ⟨h1, h2⟩ := anyO_some.1 h
        obtain ⟨n1, q1⟩ := iha r h1
        obtain ⟨n2, q2⟩ := ihb r h2
        refine ⟨max n1 n2, ?_⟩
        simp only [dn]
        exact anyO_some.2 ⟨dn_le Io_self (fun s => (go_inc Io_self s).le (Nat.le_max_left n1 n2)) _ _ q1, dn_le Io_self (fun s => (go_inc Io_self s).le (Nat.le_max_right n1 n2)) _ _ q2⟩
      | pick n k ih =>
        intro r h
        simp only [dn] at h
        obtain ⟨h1, h2⟩ := allO_some.1 h
        obtain ⟨m, hm⟩ := all_max (p := fun i n => dn (Io P tb G) fin (go P tb (Io P tb G) fin fn x n) (k i) = some r) (fun i n m hnm q => dn_le Io_self (fun s => (go_inc Io_self s).le hnm) _ _ q) n (fun i hi => ih i r (h2 i hi))
        exact ⟨m, by simp only [dn]; exact allO_some.2 ⟨h1, hm⟩⟩
    obtain ⟨k, hk⟩ := key _ r h
    exact run_some.2 ⟨k + 1, hk⟩
theorem go_fin {R : Type} {fin : AV T → Hp T → Option R} {fn : Func} {x : Fx} : ∀ k s r, go P tb (Io P tb G) fin fn x k s = some r → ∃ n, go P tb (Ik P tb G n) fin fn x k s = some r
  | 0, _, _, h => by cases h
  | k + 1, s, r, h =>
    dn_fin (Ψ := fun n s => go P tb (Ik P tb G n) fin fn x k s) (fun s n => go_le (Ik_le (Nat.le_succ n)) k s) (fun s r h => go_fin k s r h) _ h
/-- A function that is not given is its body's run. -/
theorem F_eq {key : Nat} {fn : Func} {c : Code} (hg : G key = none) (hf : fnAt P tb key = some fn) (hc : fn.body = some c) (ds : List (DL T)) :
    F P tb G key ds = match start (fxAt tb key) c ds with | some s => run P tb G (fxAt tb key).fin fn (fxAt tb key) s | none => none := by
  have hb : ∀ I : Nat → Ent T, body P tb I key ds = match start (fxAt tb key) c ds with | some s => lim (fun k => go P tb I (fxAt tb key).fin fn (fxAt tb key) k s) | none => none := by
    intro I
    unfold body
    simp only [hf, hc]
  cases hs : start (T := T) (fxAt tb key) c ds with
  | none =>
    refine ext_some fun r => ?_
    constructor
    · intro h
      obtain ⟨n, hn⟩ := (lim_some (Fk_inc key ds)).1 h
      cases n with
      | zero => cases hn
      | succ n =>
        simp only [Fk, hg] at hn
        rw [hb, hs] at hn
        cases hn
    · intro h; cases h
  | some s =>
    refine ext_some fun r => ?_
    constructor
    · intro h
      obtain ⟨n, hn⟩ := (lim_some (Fk_inc key ds)).1 h
      cases n with
      | zero => cases hn
      | succ n =>
        simp only [Fk, hg] at hn
        rw [hb, hs] at hn
        obtain ⟨k, hk⟩ := (lim_some (go_inc (ent_self _) s)).1 hn
        exact run_some.2 ⟨k, go_le (Ik_lo n) k s r hk⟩
    · intro h
      obtain ⟨k, hk⟩ := run_some.1 h
      obtain ⟨n, hn⟩ := go_fin k s r hk
      refine (lim_some (Fk_inc key ds)).2 ⟨n + 1, ?_⟩
      simp only [Fk, hg]
      rw [hb, hs]
      exact (lim_some (go_inc (ent_self _) s)).2 ⟨k, hn⟩
/-- A function that is given. -/
theorem F_giv {key : Nat} {g : List (DL T) → Option (HL T.S (fxAt tb key).tout)} (hg : G key = some g) (ds : List (DL T)) : F P tb G key ds = g ds := by
  refine ext_some fun r => ?_
  constructor
  · intro h
    obtain ⟨n, hn⟩ := (lim_some (Fk_inc key ds)).1 h
    cases n with
    | zero => cases hn
    | succ n => simpa only [Fk, hg] using hn
  · intro h
    exact (lim_some (Fk_inc key ds)).2 ⟨1, by simpa only [Fk, hg] using h⟩
end
end Go.Proofs.Ytfojcadooepgpaa.Rx
