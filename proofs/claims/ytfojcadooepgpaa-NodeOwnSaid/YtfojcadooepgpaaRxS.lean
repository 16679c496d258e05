/- A plain evaluator over the translated code: what its values stand for in the machine's memory. Under no condition. -/
import Derived.Test.YtfojcadooepgpaaRxR
import Derived.Deep.MidRow
import Derived.Deep.Draws
import Derived.Laws.AppendOwn
import Derived.Laws.OwnMore
import Derived.Laws.MakeOwn
set_option linter.unusedVariables false
set_option linter.unusedSimpArgs false
namespace Go.Proofs.Ytfojcadooepgpaa.Rx
open Go Go.RowKit

/-! ### two lists, member by member -/
def All2 {α β : Type} (R : α → β → Prop) : List α → List β → Prop
  | [], [] => True
  | a :: l, b :: r => R a b ∧ All2 R l r
  | _, _ => False
section
variable {α β γ : Type} {R R' : α → β → Prop}
theorem All2.len : ∀ {l : List α} {r : List β}, All2 R l r → l.length = r.length
  | [], [], _ => rfl
  | _ :: _, _ :: _, h => congrArg (· + 1) (All2.len h.2)
  | [], _ :: _, h => h.elim
  | _ :: _, [], h => h.elim
theorem All2.get : ∀ {l : List α} {r : List β}, All2 R l r → ∀ {i : Nat} {a : α}, l[i]? = some a → ∃ b, r[i]? = some b ∧ R a b
  | [], [], _, i, a, hi => by simp at hi
  | x :: l, y :: r, h, 0, a, hi => by simp at hi; subst hi; exact ⟨y, by simp, h.1⟩
  | x :: l, y :: r, h, i + 1, a, hi => by simp at hi; obtain ⟨b, h1, h2⟩ := All2.get h.2 hi; exact ⟨b, by simpa using h1, h2⟩
theorem All2.of : ∀ {l : List α} {r : List β}, l.length = r.length → (∀ (i : Nat) a b, l[i]? = some a → r[i]? = some b → R a b) → All2 R l r
  | [], [], _, _ => trivial
  | x :: l, y :: r, hl, h => ⟨h 0 x y rfl rfl, All2.of (by simpa using hl) (fun i a b ha hb => h (i + 1) a b (by simpa using ha) (by simpa using hb))⟩
  | [], _ :: _, hl, _ => by simp at hl
  | _ :: _, [], hl, _ => by simp at hl
theorem All2.imp (hR : ∀ a b, R a b → R' a b) : ∀ {l : List α} {r : List β}, All2 R l r → All2 R' l r
  | [], [], _ => trivial
  | _ :: _, _ :: _, h => ⟨hR _ _ h.1, All2.imp hR h.2⟩
  | [], _ :: _, h => h.elim
  | _ :: _, [], h => h.elim
theorem All2.append : ∀ {l l' : List α} {r r' : List β}, All2 R l r → All2 R l' r' → All2 R (l ++ l') (r ++ r')
  | [], _, [], _, _, h' => h'
  | _ :: _, _, _ :: _, _, h, h' => ⟨h.1, All2.append h.2 h'⟩
  | [], _, _ :: _, _, h, _ => h.elim
  | _ :: _, _, [], _, h, _ => h.elim
theorem All2.take {l : List α} {r : List β} (h : All2 R l r) (n : Nat) : All2 R (l.take n) (r.take n) := by
  induction n generalizing l r with
  | zero => trivial
  | succ n ih => match l, r, h with
    | [], [], _ => trivial
    | _ :: _, _ :: _, h => exact ⟨h.1, ih h.2⟩
theorem All2.drop {l : List α} {r : List β} (h : All2 R l r) (n : Nat) : All2 R (l.drop n) (r.drop n) := by
  induction n generalizing l r with
  | zero => exact h
  | succ n ih => match l, r, h with
    | [], [], _ => trivial
    | _ :: _, _ :: _, h => exact ih h.2
theorem All2.map {α' : Type} {f : α' → α} {l : List α'} {r : List β} (h : All2 (fun a b => R (f a) b) l r) : All2 R (l.map f) r := by
  match l, r, h with
  | [], [], _ => trivial
  | _ :: _, _ :: _, h => exact ⟨h.1, All2.map h.2⟩
theorem All2.unmap {α' : Type} {f : α' → α} : ∀ {l : List α'} {r : List β}, All2 R (l.map f) r → All2 (fun a b => R (f a) b) l r
  | [], [], _ => trivial
  | _ :: _, _ :: _, h => ⟨h.1, All2.unmap h.2⟩
  | [], _ :: _, h => h.elim
  | _ :: _, [], h => h.elim
theorem All2.mem_right {l : List α} {r : List β} (h : All2 R l r) : ∀ b ∈ r, ∃ a ∈ l, R a b := by
  match l, r, h with
  | [], [], _ => intro b hb; cases hb
  | x :: l, y :: r, h =>
    intro b hb
    rcases List.mem_cons.1 hb with rfl | hb
    · exact ⟨x, List.mem_cons_self, h.1⟩
    · obtain ⟨a, ha, hr⟩ := All2.mem_right h.2 b hb
      exact ⟨a, List.mem_cons_of_mem _ ha, hr⟩
theorem All2.one {a : α} {r : List β} (h : All2 R [a] r) : ∃ b, r = [b] ∧ R a b := by
  match r, h with
  | [b], h => exact ⟨b, rfl, h.1⟩
  | [], h => exact h.elim
  | _ :: _ :: _, h => exact h.2.elim
end

/-! ### readings -/
section
variable {T : Tab}
/-- A value reads as data of a type; all cells that the reading meets are among X. -/
inductive RD (T : Tab) (w : World) (X : Nat → Nat → Prop) : (t : Ty) → den T.S t → Value → Prop
  | int (k : IntKind) (n : Int) : RD T w X (.int k) n (.int k n)
  | bool (b : Bool) : RD T w X .bool b (.bool b)
  | str (s : ByteArray) : RD T w X .str s (.string s)
  | nil (e : TypeId) (t : Ty) (A : Option Addr) (c : Nat) : RD T w X (.sl e t) ([] : List (den T.S t)) (.slice A 0 c)
  | sl (e : TypeId) (t : Ty) (xs : List (den T.S t)) (b o c : Nat) (vs : Nat → Nat → Value) (hc : xs.length ≤ c)
      (h1 : ∀ (i : Nat) x (j : Nat) d, xs[i]? = some x → (lv T t x)[j]? = some d → w.cell? ⟨b, o + (i * (flat T t).length + j), none⟩ = some (vs i j))
      (h2 : ∀ (i : Nat) x (j : Nat) d, xs[i]? = some x → (lv T t x)[j]? = some d → X b (o + (i * (flat T t).length + j)))
      (h3 : ∀ (i : Nat) x (j : Nat) d, xs[i]? = some x → (lv T t x)[j]? = some d → RD T w X d.1 d.2 (vs i j)) :
      RD T w X (.sl e t) xs (.slice (some ⟨b, o, none⟩) xs.length c)
/-- A map's value. -/
def MValR (T : Tab) (w : World) (X : Nat → Nat → Prop) (v : Ty) (y : den T.S v) (val : Value) : Prop := ∃ us : List Value, All2 (fun (d : DL T) u => RD T w X d.1 d.2 u) (lv T v y) us ∧ (if isSt v = true then val = .agg us.toArray else us = [val])
/-- A map's entry. -/
def EntR (T : Tab) (w : World) (X : Nat → Nat → Prop) (k v : Ty) (e : Nat × den T.S k × den T.S v) (me : MapEntry) : Prop := me.born = e.1 ∧ RD T w X k e.2.1 me.key ∧ MValR T w X v e.2.2 me.val
theorem RD.mono {w w' : World} {X X' : Nat → Nat → Prop} (hw : ∀ b o, X b o → w'.cell? ⟨b, o, none⟩ = w.cell? ⟨b, o, none⟩) (hX : ∀ b o, X b o → X' b o) {t : Ty} {x : den T.S t} {v : Value} (h : RD T w X t x v) : RD T w' X' t x v := by
  induction h with
  | int k n => exact .int k n
  | bool b => exact .bool b
  | str s => exact .str s
  | nil e t A c => exact .nil e t A c
  | sl e t xs b o c vs hc h1 h2 h3 ih =>
    exact .sl e t xs b o c vs hc (fun i x j d hi hj => (hw _ _ (h2 i x j d hi hj)).trans (h1 i x j d hi hj)) (fun i x j d hi hj => hX _ _ (h2 i x j d hi hj)) (fun i x j d hi hj => ih i x j d hi hj)
def SlInv (T : Tab) (w : World) (X : Nat → Nat → Prop) (t : Ty) (xs : List (den T.S t)) (v : Value) : Prop :=
  ∃ A c, v = .slice A xs.length c ∧ xs.length ≤ c ∧ (xs.length = 0 ∨ ∃ b o, A = some ⟨b, o, none⟩ ∧ ∃ vs : Nat → Nat → Value,
      (∀ (i : Nat) x (j : Nat) d, xs[i]? = some x → (lv T t x)[j]? = some d → w.cell? ⟨b, o + (i * (flat T t).length + j), none⟩ = some (vs i j) ∧ X b (o + (i * (flat T t).length + j)) ∧ RD T w X d.1 d.2 (vs i j)))
def RDInv (T : Tab) (w : World) (X : Nat → Nat → Prop) : (t : Ty) → den T.S t → Value → Prop
  | .int k, n, v => v = .int k n
  | .bool, b, v => v = .bool b
  | .str, s, v => v = .string s
  | .sl e t, xs, v => SlInv T w X t xs v
  | .st _, _, _ => False
  | .mp _ _, _, _ => False
  | .it, _, _ => False
theorem RD.inv {w : World} {X : Nat → Nat → Prop} {t : Ty} {x : den T.S t} {v : Value} (h : RD T w X t x v) : RDInv T w X t x v := by
  cases h with
  | int k n => rfl
  | bool b => rfl
  | str s => rfl
  | nil e t A c => exact ⟨A, c, rfl, Nat.zero_le _, .inl rfl⟩
  | sl e t xs b o c vs hc h1 h2 h3 => exact ⟨_, c, rfl, hc, .inr ⟨b, o, rfl, vs, fun i x j d hi hj => ⟨h1 i x j d hi hj, h2 i x j d hi hj, h3 i x j d hi hj⟩⟩⟩
theorem MValR.mono {w w' : World} {X X' : Nat → Nat → Prop} (hw : ∀ b o, X b o → w'.cell? ⟨b, o, none⟩ = w.cell? ⟨b, o, none⟩) (hX : ∀ b o, X b o → X' b o) {v : Ty} {y : den T.S v} {val : Value} (h : MValR T w X v y val) : MValR T w' X' v y val := by
  obtain ⟨us, h1, h2⟩ := h
  exact ⟨us, h1.imp (fun _ _ q => RD.mono hw hX q), h2⟩
theorem EntR.mono {w w' : World} {X X' : Nat → Nat → Prop} (hw : ∀ b o, X b o → w'.cell? ⟨b, o, none⟩ = w.cell? ⟨b, o, none⟩) (hX : ∀ b o, X b o → X' b o) {k v : Ty} {e : Nat × den T.S k × den T.S v} {me : MapEntry} (h : EntR T w X k v e me) : EntR T w' X' k v e me :=
  ⟨h.1, RD.mono hw hX h.2.1, h.2.2.mono hw hX⟩
theorem RD.one {w : World} {X : Nat → Nat → Prop} {t : Ty} {x : den T.S t} {v : Value} (h : RD T w X t x v) : v.oneCell' = true := by
  cases h <;> rfl
/-- A slice's reading, put together. -/
theorem RD.mk {w : World} {X : Nat → Nat → Prop} {e : TypeId} {t : Ty} {xs : List (den T.S t)} {A : Option Addr} {c : Nat} (hc : xs.length ≤ c)
    (h : xs.length = 0 ∨ ∃ b o, A = some ⟨b, o, none⟩ ∧ ∃ vs : Nat → Nat → Value, (∀ (i : Nat) x (j : Nat) d, xs[i]? = some x → (lv T t x)[j]? = some d → w.cell? ⟨b, o + (i * (flat T t).length + j), none⟩ = some (vs i j) ∧ X b (o + (i * (flat T t).length + j)) ∧ RD T w X d.1 d.2 (vs i j))) :
    RD T w X (.sl e t) xs (.slice A xs.length c) := by
  rcases h with h | ⟨b, o, rfl, vs, h⟩
  · obtain rfl : xs = [] := List.eq_nil_of_length_eq_zero h
    exact .nil e t A c
  · exact .sl e t xs b o c vs hc (fun i x j d hi hj => (h i x j d hi hj).1) (fun i x j d hi hj => (h i x j d hi hj).2.1) (fun i x j d hi hj => (h i x j d hi hj).2.2)

/-- A place in a slice whose elements' rows are one's own: mv holds its head, and the rows' heads. -/
def YR (mv : Value) : YK → Value → Prop
  | .hd, v => ∃ hs : Array Value, mv = .tuple hs ∧ hs[0]? = some v ∧ ∃ A l c, v = .slice A l c
  | .el sz x off, v => ∃ hs : Array Value, mv = .tuple hs ∧ ∃ (b l c : Nat), hs[0]? = some (.slice (some ⟨b, 0, none⟩) l c) ∧ 0 ≤ x ∧ x < (l : Int) ∧ v = .pointer (some ⟨b, x.toNat * sz + off, none⟩)
  | .row x, v => ∃ hs : Array Value, mv = .tuple hs ∧ 0 ≤ x ∧ hs[x.toNat + 1]? = some v ∧ ∃ A l c, v = .slice A l c
  | .cell x sz y off, v => ∃ hs : Array Value, mv = .tuple hs ∧ 0 ≤ x ∧ ∃ (b l c : Nat), hs[x.toNat + 1]? = some (.slice (some ⟨b, 0, none⟩) l c) ∧ 0 ≤ y ∧ y < (l : Int) ∧ v = .pointer (some ⟨b, y.toNat * sz + off, none⟩)
theorem YR.one {mv : Value} {k : YK} {v : Value} (h : YR mv k v) : v.oneCell' = true := by
  cases k with
  | hd => obtain ⟨hs, _, _, A, l, c, rfl⟩ := h; rfl
  | el sz x off => obtain ⟨hs, _, b, l, c, _, _, _, rfl⟩ := h; rfl
  | row x => obtain ⟨hs, _, _, _, A, l, c, rfl⟩ := h; rfl
  | cell x sz y off => obtain ⟨hs, _, _, b, l, c, _, _, _, rfl⟩ := h; rfl
/-! ### leaves, values -/
variable (m : Nat → Value) (X : Nat → Nat → Prop) (n : Nat) (w : World)
def LfR : Lf T → Value → Prop
  | .d t x, v => RD T w X t x v
  | .b p i, v => v = .bool (@decide p i)
  | .n, v => v = .slice none 0 0
  | .g i, v => i < n ∧ v = m i ∧ ∃ A l c, v = .slice A l c
  | .m i, v => i < n ∧ v = m i ∧ ∃ r, v = .map (some r)
  | .p i off, v => i < n ∧ ∃ b, m i = .pointer (some ⟨b, 0, none⟩) ∧ v = .pointer (some ⟨b, off, none⟩)
  | .e i sz x off, v => i < n ∧ ∃ b l c, m i = .slice (some ⟨b, 0, none⟩) l c ∧ 0 ≤ x ∧ x < (l : Int) ∧ v = .pointer (some ⟨b, x.toNat * sz + off, none⟩)
  | .q ds, v => ∃ b o, v = .pointer (some ⟨b, o, none⟩) ∧ ∀ (j : Nat) d, ds[j]? = some d → ∃ u, w.cell? ⟨b, o + j, none⟩ = some u ∧ X b (o + j) ∧ RD T w X d.1 d.2 u
  | .pn, v => v = .pointer none
  | .f f cs, v => ∃ us : List Value, v = .func (.func f) #[] us.toArray ∧ All2 (fun c u => c.1 < n ∧ ∃ b, m c.1 = .pointer (some ⟨b, 0, none⟩) ∧ u = .pointer (some ⟨b, c.2, none⟩)) cs us
  | .u, v => v.oneCell' = true
  | .w p _ s, v => ∃ b, v = .bool b ∧ (b = s → p)
  | .y i k, v => i < n ∧ YR (m i) k v
def VR (a : V T) (v : Value) : Prop := ∃ us : List Value, All2 (LfR m X n w) a.2 us ∧ (if a.1 = true then v = .agg us.toArray else us = [v])
def AR : AV T → Value → Prop
  | .v a, v => VR m X n w a v
  | .t vs, v => ∃ us : List Value, All2 (VR m X n w) vs us ∧ v = .tuple us.toArray
variable {m X n w}
theorem LfR.one {l : Lf T} {v : Value} (h : LfR m X n w l v) : v.oneCell' = true := by
  cases l with
  | d t x => exact RD.one h
  | b p i => rw [show v = _ from h]; rfl
  | n => rw [show v = _ from h]; rfl
  | g i => obtain ⟨_, _, A, l, c, rfl⟩ := h; rfl
  | m i => obtain ⟨_, _, r, rfl⟩ := h; rfl
  | p i off => obtain ⟨_, b, _, rfl⟩ := h; rfl
  | e i sz x off => obtain ⟨_, b, l, c, _, _, _, rfl⟩ := h; rfl
  | q ds => obtain ⟨b, o, rfl, _⟩ := h; rfl
  | pn => rw [show v = _ from h]; rfl
  | f f cs => obtain ⟨us, rfl, _⟩ := h; rfl
  | u => exact h
  | w p i s => obtain ⟨b, rfl, _⟩ := h; rfl
  | y i k => exact h.2.one
/-- Memory goes on: what is named keeps its place, what is seen as data its cells. -/
structure On (m : Nat → Value) (X : Nat → Nat → Prop) (n : Nat) (w : World) (m' : Nat → Value) (X' : Nat → Nat → Prop) (n' : Nat) (w' : World) : Prop where
  nn : n ≤ n'
  mm : ∀ i, i < n → m' i = m i
  xx : ∀ b o, X b o → X' b o
  ww : ∀ b o, X b o → w'.cell? ⟨b, o, none⟩ = w.cell? ⟨b, o, none⟩
theorem On.refl : On m X n w m X n w := ⟨Nat.le_refl _, fun _ _ => rfl, fun _ _ h => h, fun _ _ _ => rfl⟩
variable {m' m'' : Nat → Value} {X' X'' : Nat → Nat → Prop} {n' n'' : Nat} {w' w'' : World}
theorem On.trans (h : On m X n w m' X' n' w') (k : On m' X' n' w' m'' X'' n'' w'') : On m X n w m'' X'' n'' w'' :=
  ⟨Nat.le_trans h.nn k.nn, fun i hi => (k.mm i (Nat.lt_of_lt_of_le hi h.nn)).trans (h.mm i hi), fun b o hx => k.xx b o (h.xx b o hx), fun b o hx => (k.ww b o (h.xx b o hx)).trans (h.ww b o hx)⟩
theorem LfR.on (ho : On m X n w m' X' n' w') {l : Lf T} {v : Value} (h : LfR m X n w l v) : LfR m' X' n' w' l v := by
  cases l with
  | d t x => exact RD.mono ho.ww ho.xx h
  | b p i => exact h
  | n => exact h
  | g i => exact ⟨Nat.lt_of_lt_of_le h.1 ho.nn, h.2.1.trans (ho.mm i h.1).symm, h.2.2⟩
  | m i => exact ⟨Nat.lt_of_lt_of_le h.1 ho.nn, h.2.1.trans (ho.mm i h.1).symm, h.2.2⟩
  | p i off => obtain ⟨h1, b, h2, h3⟩ := h; exact ⟨Nat.lt_of_lt_of_le h1 ho.nn, b, (ho.mm i h1).trans h2, h3⟩
  | e i sz x off => obtain ⟨h1, b, l, c, h2, h3⟩ := h; exact ⟨Nat.lt_of_lt_of_le h1 ho.nn, b, l, c, (ho.mm i h1).trans h2, h3⟩
  | q ds =>
    obtain ⟨b, o, rfl, h2⟩ := h
    refine ⟨b, o, rfl, fun j d hj => ?_⟩
    obtain ⟨u, h3, h4, h5⟩ := h2 j d hj
    exact ⟨u, (ho.ww _ _ h4).trans h3, ho.xx _ _ h4, RD.mono ho.ww ho.xx h5⟩
  | pn => exact h
  | f f cs =>
    obtain ⟨us, rfl, h2⟩ := h
    refine ⟨us, rfl, h2.imp (fun c u hc => ?_)⟩
    obtain ⟨h1, b, h2, h3⟩ := hc
    exact ⟨Nat.lt_of_lt_of_le h1 ho.nn, b, (ho.mm _ h1).trans h2, h3⟩
  | u => exact h
  | w p i s => exact h
  | y i k => exact ⟨Nat.lt_of_lt_of_le h.1 ho.nn, by rw [ho.mm i h.1]; exact h.2⟩
theorem VR.on (ho : On m X n w m' X' n' w') {a : V T} {v : Value} (h : VR m X n w a v) : VR m' X' n' w' a v := by
  obtain ⟨us, h1, h2⟩ := h
  exact ⟨us, h1.imp (fun _ _ h => h.on ho), h2⟩
theorem AR.on (ho : On m X n w m' X' n' w') {a : AV T} {v : Value} (h : AR m X n w a v) : AR m' X' n' w' a v := by
  cases a with
  | v a => exact VR.on ho h
  | t vs => obtain ⟨us, h1, h2⟩ := h; exact ⟨us, h1.imp (fun _ _ h => h.on ho), h2⟩

/-! ### objects -/
def blk : Value → Option Nat
  | .pointer (some a) => some a.block
  | .slice (some a) _ _ => some a.block
  | .map (some r) => some r
  | _ => none
/-- The place of a key's entry. -/
def idxE {K V : Type} (q : K → K → Bool) (k : K) : List (Nat × K × V) → Option Nat
  | [] => none | e :: r => bif q k e.2.1 then some 0 else (idxE q k r).map (· + 1)
/-- The place of the entry whose row was taken out. -/
def holeAt (T : Tab) (k v : Ty) (x : MapD (den T.S k) (den T.S v)) : Option (den T.S k) → Option Nat
  | none => none | some k0 => idxE (keqT k) k0 x.es
/-- The rows of a map's values are a pool's; each is there once. -/
def PoolOk (T : Tab) (m : Nat → Value) (n : Nat) (k v : Ty) (x : MapD (den T.S k) (den T.S v)) (es : List MapEntry) : Option (Nat × Option (den T.S k)) → Prop
  | none => True
  | some (j, hole) => j < n ∧ ∃ hs : Array Value, m j = .tuple hs ∧
      (∀ (q : Nat) me, es[q]? = some me → holeAt T k v x hole ≠ some q → me.val = .slice none 0 0 ∨ me.val ∈ hs.toList) ∧
      (∀ (q q' : Nat) me me', q ≠ q' → es[q]? = some me → es[q']? = some me' → holeAt T k v x hole ≠ some q → holeAt T k v x hole ≠ some q' → ∀ b, blk me.val = some b → blk me'.val ≠ some b)
/-- A row of one's own: its values. -/
def RowR (T : Tab) (w : World) (X : Nat → Nat → Prop) (e : TypeId) (t : Ty) (xs : List (den T.S t)) (v : Value) : Prop :=
  ∃ vs : List Value, w.ownsRow 0 e (flat T t).length v xs.length vs ∧ (∀ (k : Nat) x (j : Nat) d, xs[k]? = some x → (lv T t x)[j]? = some d → ∃ u, vs[k * (flat T t).length + j]? = some u ∧ RD T w X d.1 d.2 u)
/-- An element's cell: its row is one's own, with this head. -/
def CellY (T : Tab) (w : World) (X : Nat → Nat → Prop) (hd : Option Value) : DL T → Value → Prop
  | ⟨.sl e t, xs⟩, v => hd = some v ∧ RowR T w X e t xs v
  | ⟨t, x⟩, v => RD T w X t x v
/-- The head's memory: at least so long as told. -/
def HeadR (w : World) (e : TypeId) (size : Nat) (fx : Bool) (v : Value) (n : Nat) (xs : List Value) : Prop :=
  match fx with
  | false => w.ownsRow 0 e size v n xs
  | true => xs.length = n * size ∧ ((v = .slice none 0 0 ∧ n = 0) ∨ ∃ g cap cur, v = .slice (some ⟨g, 0, none⟩) n cap ∧ w.heap[g]? = some (.cells cur e (0, 0)) ∧ n ≤ cap ∧ cap * size ≤ cur.size ∧ cur.toList.take (n * size) = xs)
def ObR (m : Nat → Value) (X : Nat → Nat → Prop) (n : Nat) (w : World) (i : Nat) : Ob T → Prop
  | .box tid ls => ∃ b vs, m i = .pointer (some ⟨b, 0, none⟩) ∧ w.heap[b]? = some (.cells vs.toArray tid (0, 0)) ∧ All2 (LfR m X n w) ls vs
  | .gr e t xs sh => ∃ vs : List Value, w.ownsRow 0 e (flat T t).length (m i) xs.length vs ∧ (∀ (k : Nat) x (j : Nat) d, xs[k]? = some x → (lv T t x)[j]? = some d → ∃ v, vs[k * (flat T t).length + j]? = some v ∧ RD T w X d.1 d.2 v)
  | .mp mt k v x po => ∃ r es, m i = .map (some r) ∧ w.heap[r]? = some (.map es x.ck) ∧ All2 (EntR T w X k v) x.es es.toList ∧ PoolOk T m n k v x es.toList po
  | .po e t => ∃ hs : Array Value, m i = .tuple hs ∧ (∀ u ∈ hs.toList, ∃ b len cap cur, u = .slice (some ⟨b, 0, none⟩) len cap ∧ w.heap[b]? = some (.cells cur e (0, 0)) ∧ len ≤ cap ∧ cap ≤ maxLen ∧ cur.size = cap * (flat T t).length) ∧ hs.toList.Pairwise fun u u' => ∀ b, blk u = some b → blk u' ≠ some b
  | .it j y => ∃ b r, m i = .pointer (some ⟨b, 0, none⟩) ∧ w.heap[b]? = some (.mapIter (some r) y.since y.seen.toArray y.since) ∧ j < n ∧ m j = .map (some r)
  | .no => True
  | .dg e t xs fx => ∃ (hd : Value) (hs vs : List Value), m i = .tuple (hd :: hs).toArray ∧ HeadR w e (flat T t).length fx hd xs.length vs ∧ hs.length = xs.length ∧ oneS (flat T t) = true ∧
      (∀ (k : Nat) x (j : Nat) d, xs[k]? = some x → (lv T t x)[j]? = some d → ∃ v, vs[k * (flat T t).length + j]? = some v ∧ CellY T w X hs[k]? d v) ∧ (hd :: hs).Pairwise fun u u' => ∀ b, blk u = some b → blk u' ≠ some b
/-- The blocks that a value stands for. -/
def Blk : Value → Nat → Prop
  | .tuple cs, b => ∃ u ∈ cs.toList, blk u = some b
  | v, b => blk v = some b
def Ob.live : Ob T → Bool
  | .no => false | _ => true
/-- No data reaches there. -/
def Ob.priv : Ob T → Bool
  | .box _ _ => true | .dg _ _ _ _ => true | _ => false
/-- The state's memory. -/
structure Rel (T : Tab) (m : Nat → Value) (X : Nat → Nat → Prop) (h : Hp T) (w : World) : Prop where
  ob : ∀ (i : Nat) o, h[i]? = some o → ObR m X h.length w i o
  sep : ∀ (i j : Nat) o o', h[i]? = some o → h[j]? = some o' → i ≠ j → o.live = true → o'.live = true → ∀ b, Blk (m i) b → ¬ Blk (m j) b
  lt : ∀ b o, X b o → b < w.heap.size
  pv : ∀ (i : Nat) o, h[i]? = some o → o.priv = true → ∀ b, Blk (m i) b → ∀ p, ¬ X b p
  gr : ∀ (i : Nat) e t xs sh, h[i]? = some (.gr e t xs sh) → ∀ b, Blk (m i) b → ∀ o, X b o → sh = true ∧ o < xs.length * (flat T t).length
  po : ∀ (i : Nat) e t, h[i]? = some (.po e t) → ∀ hs : Array Value, m i = .tuple hs → ∀ u ∈ hs.toList, ∀ A len cap, u = .slice (some A) len cap → ∀ p, X A.block p → p < len * (flat T t).length
theorem Rel.box {m : Nat → Value} {X : Nat → Nat → Prop} {h : Hp T} {w : World} (hr : Rel T m X h w) (i : Nat) (tid : TypeId) (ls : List (Lf T)) (ho : h[i]? = some (.box tid ls)) (b : Nat) (hb : Blk (m i) b) (p : Nat) : ¬ X b p := hr.pv i _ ho rfl b hb p
/-- Is this block one of the state's objects? -/
def Mine (m : Nat → Value) (h : Hp T) (b : Nat) : Prop := ∃ i o, h[i]? = some o ∧ o.live = true ∧ Blk (m i) b
/-- From one state's memory to another's: nothing but what is the state's own has turned. -/
structure Fr (T : Tab) (m : Nat → Value) (X : Nat → Nat → Prop) (h : Hp T) (w : World) (m' : Nat → Value) (X' : Nat → Nat → Prop) (h' : Hp T) (w' : World) : Prop where
  on : On m X h.length w m' X' h'.length w'
  size : w.heap.size ≤ w'.heap.size
  os : w'.os = w.os
  tape : w'.tape = w.tape
  output : w'.output = w.output
  old : ∀ b, b < w.heap.size → ¬ Mine m h b → w'.heap[b]? = w.heap[b]?
  mine : ∀ b, Mine m' h' b → Mine m h b ∨ w.heap.size ≤ b
  new : ∀ b o, X' b o → X b o ∨ Mine m h b ∨ w.heap.size ≤ b
theorem Fr.refl {h : Hp T} : Fr T m X h w m X h w := ⟨On.refl, Nat.le_refl _, rfl, rfl, rfl, fun _ _ _ => rfl, fun _ h => .inl h, fun _ _ h => .inl h⟩
theorem Fr.trans {h h' h'' : Hp T} (f : Fr T m X h w m' X' h' w') (g : Fr T m' X' h' w' m'' X'' h'' w'') : Fr T m X h w m'' X'' h'' w'' where
  on := f.on.trans g.on
  size := Nat.le_trans f.size g.size
  os := g.os.trans f.os
  tape := g.tape.trans f.tape
  output := g.output.trans f.output
  old := fun b hb hm => (g.old b (Nat.lt_of_lt_of_le hb f.size) (fun k => (f.mine b k).elim hm (fun k => by omega))).trans (f.old b hb hm)
  mine := fun b hb => (g.mine b hb).elim (f.mine b) (fun k => .inr (Nat.le_trans f.size k))
  new := fun b o hb => (g.new b o hb).elim (f.new b o) (fun k => k.elim (fun k => .inr (f.mine b k)) (fun k => .inr (.inr (Nat.le_trans f.size k))))
end
end Go.Proofs.Ytfojcadooepgpaa.Rx
