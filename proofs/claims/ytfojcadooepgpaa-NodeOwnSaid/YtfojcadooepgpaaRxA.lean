/- A plain evaluator over the translated code, on typed values: definitions. Under no condition. -/
import Derived.RowKit
import Derived.RowKit3
import Derived.Below
import Derived.OwnWalk
import Derived.Calls
import Derived.Tactics
set_option linter.unusedVariables false
namespace Go.Proofs.Ytfojcadooepgpaa.Rx
open Go Go.RowKit

/-! ### maps -/
/-- A map's entries as they came: stamp, key, value; and its clock. -/
structure MapD (K V : Type) where
  es : List (Nat × K × V)
  ck : Nat
/-- How far a map is gone over: its clock at the beginning, the stamps that were seen. -/
structure ItD where
  since : Nat
  seen : List Nat
section
variable {K V : Type}
def MapD.nil : MapD K V := ⟨[], 0⟩
def getE (q : K → K → Bool) (k : K) : List (Nat × K × V) → Option V
  | [] => none
  | e :: r => bif q k e.2.1 then some e.2.2 else getE q k r
def setE (q : K → K → Bool) (k : K) (v : V) (c : Nat) : List (Nat × K × V) → List (Nat × K × V)
  | [] => [(c, k, v)]
  | e :: r => bif q k e.2.1 then (e.1, k, v) :: r else e :: setE q k v c r
def delE (q : K → K → Bool) (k : K) : List (Nat × K × V) → List (Nat × K × V)
  | [] => []
  | e :: r => bif q k e.2.1 then r else e :: delE q k r
def mget (q : K → K → Bool) (z : V) (x : MapD K V) (k : K) : V := (getE q k x.es).getD z
def mhas (q : K → K → Bool) (x : MapD K V) (k : K) : Bool := (getE q k x.es).isSome
def mset (q : K → K → Bool) (x : MapD K V) (k : K) (v : V) : MapD K V := ⟨setE q k v x.ck x.es, bif (getE q k x.es).isSome then x.ck else x.ck + 1⟩
def mdel (q : K → K → Bool) (x : MapD K V) (k : K) : MapD K V := ⟨delE q k x.es, x.ck⟩
def mlen (x : MapD K V) : Nat := x.es.length
def mbeg (x : MapD K V) : ItD := ⟨x.ck, []⟩
/-- What is left to be seen. -/
def mleft (x : MapD K V) (y : ItD) : List (Nat × K × V) := x.es.filter fun e => !(y.seen.contains e.1)
/-- Nothing came since the beginning. -/
def mcalm (x : MapD K V) (y : ItD) : Prop := x.ck = y.since ∧ ∀ e ∈ x.es, e.1 < y.since
instance decM (x : MapD K V) (y : ItD) : Decidable (mcalm x y) := inferInstanceAs (Decidable (_ ∧ _))
def lkey (z : K) (l : List (Nat × K × V)) (i : Nat) : K := match l[i]? with | some e => e.2.1 | none => z
def lval (z : V) (l : List (Nat × K × V)) (i : Nat) : V := match l[i]? with | some e => e.2.2 | none => z
/-- The entry that was seen last. -/
def curE (x : MapD K V) (y : ItD) : Option (Nat × K × V) := match y.seen.getLast? with | some s => x.es.find? (fun e => e.1 == s) | none => none
def mat (x : MapD K V) (y : ItD) : Prop := x.ck = y.since ∧ (curE x y).isSome = true
instance decAt (x : MapD K V) (y : ItD) : Decidable (mat x y) := inferInstanceAs (Decidable (_ ∧ _))
def ckey (z : K) (x : MapD K V) (y : ItD) : K := match curE x y with | some e => e.2.1 | none => z
def cval (z : V) (x : MapD K V) (y : ItD) : V := match curE x y with | some e => e.2.2 | none => z
def msee (y : ItD) (l : List (Nat × K × V)) (i : Nat) : ItD := ⟨y.since, y.seen ++ [match l[i]? with | some e => e.1 | none => 0]⟩
end

/-! ### values -/
inductive Ty where
  | int (k : IntKind) | bool | str | sl (e : TypeId) (t : Ty) | st (n : TypeId) | mp (k v : Ty) | it
  deriving DecidableEq
def den (S : TypeId → Type) : Ty → Type
  | .int _ => Int | .bool => Bool | .str => ByteArray | .sl _ t => List (den S t) | .st n => S n | .mp k v => MapD (den S k) (den S v) | .it => ItD
def HL (S : TypeId → Type) : List Ty → Type
  | [] => Unit | t :: ts => den S t × HL S ts
structure Tab where
  S : TypeId → Type
  fs : TypeId → List Ty
  out : (n : TypeId) → S n → HL S (fs n)
  pk : (n : TypeId) → HL S (fs n) → S n
  z : (n : TypeId) → S n
  out_pk : ∀ n h, out n (pk n h) = h
  pk_out : ∀ n x, pk n (out n x) = x

/-- A typed datum. -/
abbrev DL (T : Tab) := (t : Ty) × den T.S t
/-- A place in a slice of one's own whose elements' rows are one's own: its head; a cell of an element; an element's row; a cell of an element of such a row. -/
inductive YK where
  | hd | el (sz : Nat) (x : Int) (off : Nat) | row (x : Int) | cell (x : Int) (sz : Nat) (y : Int) (off : Nat)
/-- What a leaf (a cell's value) is told as. -/
inductive Lf (T : Tab) : Type where
  | d (t : Ty) (x : den T.S t)          -- data
  | b (p : Prop) (i : Decidable p)      -- a bool that a test gave
  | n                                   -- a nil slice
  | g (i : Nat)                         -- the slice of object i
  | m (i : Nat)                         -- the map of object i
  | p (i off : Nat)                     -- a pointer into object i (a box)
  | e (i sz : Nat) (x : Int) (off : Nat)   -- a pointer to a cell of element x (of so many cells) of object i (a slice of the call's own)
  | q (ls : List (DL T))                -- a pointer to cells that do not change
  | pn                                  -- a nil pointer
  | f (f : FuncId) (cs : List (Nat × Nat)) -- a function, with captured pointers
  | u                                   -- anything
  | w (p : Prop) (i : Decidable p) (s : Bool) -- a bool that is s only if p
  | y (i : Nat) (k : YK)              -- a place in object i (a slice whose elements' rows are one's own)
/-- A value that is no tuple: is it an aggregate? its leaves. -/
abbrev V (T : Tab) := Bool × List (Lf T)
inductive AV (T : Tab) where
  | v (a : V T) | t (vs : List (V T))
/-- Objects: a box; a slice of one's own (is it seen by data, too?); none. -/
inductive Ob (T : Tab) where
  | box (tid : TypeId) (ls : List (Lf T))
  | gr (e : TypeId) (t : Ty) (xs : List (den T.S t)) (sh : Bool)
  | mp (mt : TypeId) (k v : Ty) (x : MapD (den T.S k) (den T.S v)) (po : Option (Nat × Option (den T.S k)))   -- a map; the pool that its values' rows are in, and the key whose row was taken out
  | po (e : TypeId) (t : Ty)   -- rows that belong to a map's values
  | it (i : Nat) (y : ItD)   -- map i is gone over
  | no
  | dg (e : TypeId) (t : Ty) (xs : List (den T.S t)) (fx : Bool)   -- a slice of one's own, as are its elements' rows; does it end where its memory does not?
abbrev Hp (T : Tab) := List (Ob T)
abbrev Env (T : Tab) := List (Nat × AV T)

def dz (T : Tab) : (t : Ty) → den T.S t
  | .int _ => (0 : Int) | .bool => false | .str => ByteArray.empty | .sl _ _ => [] | .st n => T.z n | .mp _ _ => MapD.nil | .it => ⟨0, []⟩
def rd {α : Type} (z : α) (xs : List α) (i : Int) : α := xs.getD i.toNat z
def toDL (T : Tab) : (ts : List Ty) → HL T.S ts → List (DL T)
  | [], _ => [] | t :: ts, x => ⟨t, x.1⟩ :: toDL T ts x.2
/-- The types of an element's cells; its cells. -/
def flat (T : Tab) : Ty → List Ty
  | .st n => T.fs n | t => [t]
def lv (T : Tab) : (t : Ty) → den T.S t → List (DL T)
  | .st n, x => toDL T (T.fs n) (T.out n x)
  | .int k, x => [⟨.int k, x⟩] | .bool, x => [⟨.bool, x⟩] | .str, x => [⟨.str, x⟩] | .sl e t, x => [⟨.sl e t, x⟩] | .mp k v, x => [⟨.mp k v, x⟩] | .it, x => [⟨.it, x⟩]
def castD {T : Tab} {t t' : Ty} (h : t = t') (x : den T.S t) : den T.S t' := h ▸ x
def asT {T : Tab} (d : DL T) (t : Ty) : Option (den T.S t) :=
  match decEq d.1 t with | isTrue h => some (castD h d.2) | isFalse _ => none
def asRow {T : Tab} (d : DL T) (e : TypeId) (t : Ty) : Option (List (den T.S t)) := asT d (.sl e t)
def toHL {T : Tab} : (ts : List Ty) → List (DL T) → Option (HL T.S ts)
  | [], [] => some ()
  | t :: ts, d :: ds => match asT d t with
    | some x => match toHL ts ds with | some r => some (x, r) | none => none
    | none => none
  | _, _ => none
/-- An element out of its cells. -/
def unlv {T : Tab} : (t : Ty) → List (DL T) → Option (den T.S t)
  | .st n, ds => match toHL (T.fs n) ds with | some h => some (T.pk n h) | none => none
  | .int k, [d] => asT d (.int k) | .bool, [d] => asT d .bool | .str, [d] => asT d .str | .sl e t, [d] => asT d (.sl e t) | .mp k v, [d] => asT d (.mp k v) | .it, [d] => asT d .it
  | _, _ => none

/-! ### the tree of what may come -/
inductive It where
  | c (c : Code) | bl (id : Nat) | lp (b : Code)
structure St (T : Tab) where
  todo : List It
  env : Env T
  h : Hp T
inductive Tr (T : Tab) where
  | fail
  | done (v : AV T) (h : Hp T)
  | cut (s : St T)
  | ite (p : Prop) (i : Decidable p) (a b : Tr T)
  | call (key : Nat) (as : List (AV T)) (h : Hp T) (k : AV T → Hp T → Tr T)
  | any (a b : Tr T)   -- either may come: both must answer alike
  | pick (n : Nat) (k : Nat → Tr T)   -- any of so many may come: all must answer alike

/-- What a callee does: an answer in passing on. -/
abbrev Ent (T : Tab) := ∀ {R : Type}, List (AV T) → Hp T → (AV T → Hp T → Option R) → Option R
open Classical in
noncomputable def anyO {R : Type} (a b : Option R) : Option R := if a = b then a else none
theorem anyO_some {R : Type} {a b : Option R} {r : R} : anyO a b = some r ↔ a = some r ∧ b = some r := by
  unfold anyO
  constructor
  · intro h
    split at h
    · rename_i e; exact ⟨h, e ▸ h⟩
    · cases h
  · rintro ⟨h1, h2⟩
    rw [h1, h2, if_pos rfl]
open Classical in
noncomputable def allO {R : Type} (n : Nat) (f : Nat → Option R) : Option R := if h : ∃ r, 0 < n ∧ ∀ i, i < n → f i = some r then some h.choose else none
theorem allO_some {R : Type} {n : Nat} {f : Nat → Option R} {r : R} : allO n f = some r ↔ 0 < n ∧ ∀ i, i < n → f i = some r := by
  unfold allO
  constructor
  · intro h
    split at h
    · rename_i e
      have h2 := e.choose_spec
      simp only [Option.some.injEq] at h
      rw [h] at h2
      exact h2
    · cases h
  · rintro ⟨h0, h1⟩
    have e : ∃ r, 0 < n ∧ ∀ i, i < n → f i = some r := ⟨r, h0, h1⟩
    rw [dif_pos e]
    have h2 := e.choose_spec
    have h3 := h2.2 0 h0
    rw [h1 0 h0] at h3
    exact h3.symm
theorem anyO_self {R : Type} (a : Option R) : anyO a a = a := by unfold anyO; rw [if_pos rfl]
noncomputable def dn {T : Tab} {R : Type} (I : Nat → Ent T) (fin : AV T → Hp T → Option R) (Φ : St T → Option R) : Tr T → Option R
  | .fail => none
  | .done v h => fin v h
  | .cut s => Φ s
  | .ite p i a b => @_root_.ite _ p i (dn I fin Φ a) (dn I fin Φ b)
  | .call key as h k => I key as h (fun v h' => dn I fin Φ (k v h'))
  | .any a b => anyO (dn I fin Φ a) (dn I fin Φ b)
  | .pick n k => allO n (fun i => dn I fin Φ (k i))

/-! ### shapes of what is handed over -/
inductive Ls where
  | d (t : Ty) | g (i : Nat) (e : TypeId) (t : Ty) | m (i : Nat) | p (i off : Nat) | pn | f (f : FuncId) (cs : List (Nat × Nat)) | y (i : Nat) (e : TypeId) (t : Ty)
inductive OS where
  | box (tid : TypeId) (ls : List Ls) | gr (e : TypeId) (t : Ty) (sh : Bool) | mp (mt : TypeId) (k v : Ty) (po : Option Nat) | po (e : TypeId) (t : Ty) | it (i : Nat) | no | dg (e : TypeId) (t : Ty) (fx : Bool)
/-- How a leaf is turned at a cut or a call: kept; made data of a type; made a slice of one's own. -/
inductive Sp where
  | k | d (t : Ty) | o (e : TypeId) (t : Ty) | oo (e : TypeId) (t : Ty)
structure Cut where
  tmps : List (Nat × List Sp)
  obs : List (List Sp)
structure Fx where
  ins : List (Bool × List Ls)
  hin : List OS
  out : List (Bool × List Ls)
  hout : List OS
  cuts : List (Nat × Cut)
  alt : Option (List (Bool × List Ls) × List OS)   -- another shape of the answer

section
variable {T : Tab}
def flatL : List Ls → List (Lf T) → Option (List (DL T))
  | [], [] => some []
  | .d t :: s, .d t' x :: r => match decEq t' t with
    | isTrue _ => match flatL s r with | some l => some (⟨t', x⟩ :: l) | none => none
    | isFalse _ => none
  | .g i _ _ :: s, .g j :: r => bif Nat.beq i j then flatL s r else none
  | .m i :: s, .m j :: r => bif Nat.beq i j then flatL s r else none
  | .p i o :: s, .p j o' :: r => bif Nat.beq i j && Nat.beq o o' then flatL s r else none
  | .pn :: s, .pn :: r => flatL s r
  | .f f cs :: s, .f g cs' :: r => bif Nat.beq f g then (match decEq cs cs' with | isTrue _ => flatL s r | isFalse _ => none) else none
  | .y i _ _ :: s, .y j .hd :: r => bif Nat.beq i j then flatL s r else none
  | _, _ => none
def fillL : List Ls → List (DL T) → Option (List (Lf T) × List (DL T))
  | [], xs => some ([], xs)
  | .d t :: s, x :: r => match decEq x.1 t with
    | isTrue _ => match fillL s r with | some z => some (.d x.1 x.2 :: z.1, z.2) | none => none
    | isFalse _ => none
  | .g i _ _ :: s, r => match fillL s r with | some z => some (.g i :: z.1, z.2) | none => none
  | .m i :: s, r => match fillL s r with | some z => some (.m i :: z.1, z.2) | none => none
  | .p i o :: s, r => match fillL s r with | some z => some (.p i o :: z.1, z.2) | none => none
  | .pn :: s, r => match fillL s r with | some z => some (.pn :: z.1, z.2) | none => none
  | .f f cs :: s, r => match fillL s r with | some z => some (.f f cs :: z.1, z.2) | none => none
  | .y i _ _ :: s, r => match fillL s r with | some z => some (.y i .hd :: z.1, z.2) | none => none
  | _, _ => none
def flatV : List (Bool × List Ls) → List (V T) → Option (List (DL T))
  | [], [] => some []
  | s :: ss, v :: vs => match decEq s.1 v.1 with
    | isTrue _ => match flatL s.2 v.2 with
      | some l => match flatV ss vs with | some l' => some (l ++ l') | none => none
      | none => none
    | isFalse _ => none
  | _, _ => none
def fillV : List (Bool × List Ls) → List (DL T) → Option (List (V T) × List (DL T))
  | [], xs => some ([], xs)
  | s :: ss, xs => match fillL s.2 xs with
    | some z => match fillV ss z.2 with | some z' => some ((s.1, z.1) :: z'.1, z'.2) | none => none
    | none => none
def eqPo {A : Type} : Option Nat → Option (Nat × Option A) → Bool
  | none, none => true | some i, some (j, none) => Nat.beq i j | _, _ => false
def flatO : List OS → Hp T → Option (List (DL T))
  | [], [] => some []
  | .box tid s :: ss, .box tid' ls :: h => bif Nat.beq tid tid' then
      (match flatL s ls with
      | some l => match flatO ss h with | some l' => some (l ++ l') | none => none
      | none => none) else none
  | .gr e t sh :: ss, .gr e' t' xs sh' :: h => match decEq t' t with
    | isTrue _ => bif Nat.beq e e' && (sh == sh') then (match flatO ss h with | some l' => some (⟨.sl e' t', xs⟩ :: l') | none => none) else none
    | isFalse _ => none
  | .po e t :: ss, .po e' t' :: h => match decEq t' t with
    | isTrue _ => bif Nat.beq e e' then flatO ss h else none
    | isFalse _ => none
  | .mp mt k v po :: ss, .mp mt' k' v' x po' :: h => match decEq (Ty.mp k' v') (Ty.mp k v) with
    | isTrue _ => bif Nat.beq mt mt' && eqPo po po' then (match flatO ss h with | some l' => some (⟨.mp k' v', x⟩ :: l') | none => none) else none
    | isFalse _ => none
  | .it i :: ss, .it j y :: h => bif Nat.beq i j then (match flatO ss h with | some l' => some (⟨.it, y⟩ :: l') | none => none) else none
  | .no :: ss, .no :: h => flatO ss h
  | .dg e t fx :: ss, .dg e' t' xs fx' :: h => match decEq t' t with
    | isTrue _ => bif Nat.beq e e' && (fx == fx') then (match flatO ss h with | some l' => some (⟨.sl e' t', xs⟩ :: l') | none => none) else none
    | isFalse _ => none
  | _, _ => none
def fillO : List OS → List (DL T) → Option (Hp T × List (DL T))
  | [], xs => some ([], xs)
  | .box tid s :: ss, xs => match fillL s xs with
    | some z => match fillO ss z.2 with | some z' => some (.box tid z.1 :: z'.1, z'.2) | none => none
    | none => none
  | .gr e t sh :: ss, x :: xs => match asT x (.sl e t) with
    | some l => match fillO ss xs with | some z => some (.gr e t l sh :: z.1, z.2) | none => none
    | none => none
  | .po e t :: ss, xs => match fillO ss xs with | some z => some (.po e t :: z.1, z.2) | none => none
  | .mp mt k v po :: ss, x :: xs => match asT x (.mp k v) with
    | some l => match fillO ss xs with | some z => some (.mp mt k v l (po.map fun j => (j, none)) :: z.1, z.2) | none => none
    | none => none
  | .it i :: ss, x :: xs => match asT x .it with
    | some l => match fillO ss xs with | some z => some (.it i l :: z.1, z.2) | none => none
    | none => none
  | .no :: ss, xs => match fillO ss xs with | some z => some (.no :: z.1, z.2) | none => none
  | .dg e t fx :: ss, x :: xs => match asT x (.sl e t) with
    | some l => match fillO ss xs with | some z => some (.dg e t l fx :: z.1, z.2) | none => none
    | none => none
  | _, _ => none
def avs : List (AV T) → Option (List (V T))
  | [] => some []
  | .v a :: r => match avs r with | some l => some (a :: l) | none => none
  | _ => none
def avOut : List (V T) → AV T
  | [v] => .v v
  | vs => .t vs
def avIn : AV T → Option (List (V T))
  | .v a => some [a]
  | .t [_] => none
  | .t vs => some vs
end
def tysL : List Ls → List Ty
  | [] => [] | .d t :: s => t :: tysL s | _ :: s => tysL s
def tysV : List (Bool × List Ls) → List Ty
  | [] => [] | s :: ss => tysL s.2 ++ tysV ss
def tysO : List OS → List Ty
  | [] => [] | .box _ s :: ss => tysL s ++ tysO ss | .gr e t _ :: ss => .sl e t :: tysO ss | .mp _ k v _ :: ss => .mp k v :: tysO ss | .po _ _ :: ss => tysO ss | .it _ :: ss => .it :: tysO ss | .no :: ss => tysO ss | .dg e t _ :: ss => .sl e t :: tysO ss
def Fx.t1 (x : Fx) : List Ty := tysV x.out ++ tysO x.hout
def Fx.tout (x : Fx) : List Ty := match x.alt with | none => x.t1 | some a => .bool :: (x.t1 ++ (tysV a.1 ++ tysO a.2))
section
variable {T : Tab}
/-- What comes in, as data; and back. -/
def Fx.take (x : Fx) (as : List (AV T)) (h : Hp T) : Option (List (DL T)) :=
  match avs as with
  | some vs => match flatV x.ins vs with
    | some l => match flatO x.hin h with | some l' => some (l ++ l') | none => none
    | none => none
  | none => none
def Fx.give (x : Fx) (ds : List (DL T)) : Option (List (AV T) × Hp T) :=
  match fillV x.ins ds with
  | some z => match fillO x.hin z.2 with
    | some (h, []) => some (z.1.map .v, h)
    | _ => none
  | none => none
/-- What is answered, as data; and back. (Of two shapes: which one, and the data of both; that of the other is nothing.) -/
def finL (out : List (Bool × List Ls)) (hout : List OS) (v : AV T) (h : Hp T) : Option (List (DL T)) :=
  match avIn v with
  | some vs => match flatV out vs with
    | some l => match flatO hout h with | some l' => some (l ++ l') | none => none
    | none => none
  | none => none
def backL (out : List (Bool × List Ls)) (hout : List OS) (ds : List (DL T)) : Option (AV T × Hp T) :=
  match fillV out ds with
  | some z => match fillO hout z.2 with
    | some z' => some (avOut z.1, z'.1)
    | none => none
  | none => none
def zeros (ts : List Ty) : List (DL T) := ts.map fun t => ⟨t, dz T t⟩
def Fx.fin (x : Fx) (v : AV T) (h : Hp T) : Option (HL T.S x.tout) :=
  match x.alt with
  | none => match finL x.out x.hout v h with | some l => toHL x.tout l | none => none
  | some a => match finL x.out x.hout v h with
    | some l => toHL x.tout (⟨.bool, true⟩ :: (l ++ zeros (tysV a.1 ++ tysO a.2)))
    | none => match finL a.1 a.2 v h with
      | some l => toHL x.tout (⟨.bool, false⟩ :: (zeros x.t1 ++ l))
      | none => none
def goO {R : Type} (K : AV T → Hp T → Option R) : Option (AV T × Hp T) → Option R
  | some z => K z.1 z.2 | none => none
def pickB {R : Type} (t : Bool) (a b : Option R) : Option R := @ite _ (t = true) (instDecidableEqBool t true) a b
def Fx.backK {R : Type} (x : Fx) (y : HL T.S x.tout) (K : AV T → Hp T → Option R) : Option R :=
  match x.alt with
  | none => goO K (backL x.out x.hout (toDL T x.tout y))
  | some a => match toDL T x.tout y with
    | ⟨.bool, t⟩ :: ds => pickB t (goO K (backL x.out x.hout ds)) (goO K (backL a.1 a.2 (ds.drop x.t1.length)))
    | _ => none
def Fx.back (x : Fx) (y : HL T.S x.tout) : Option (AV T × Hp T) := x.backK y (fun v h => some (v, h))
theorem goO_eq {R : Type} (K : AV T → Hp T → Option R) (o : Option (AV T × Hp T)) : goO K o = match goO (fun v h => some (v, h)) o with | some z => K z.1 z.2 | none => none := by cases o <;> rfl
theorem pick_go {R : Type} (K : AV T → Hp T → Option R) (t : Bool) (a b : Option (AV T × Hp T)) : pickB t (goO K a) (goO K b) = match pickB t (goO (fun v h => some (v, h)) a) (goO (fun v h => some (v, h)) b) with | some z => K z.1 z.2 | none => none := by
  cases t
  · exact goO_eq K b
  · exact goO_eq K a
theorem back_K {R : Type} (x : Fx) (y : HL T.S x.tout) (K : AV T → Hp T → Option R) : x.backK y K = match x.back y with | some z => K z.1 z.2 | none => none := by
  unfold Fx.back Fx.backK
  split
  · exact goO_eq K _
  · split
    · exact pick_go K _ _ _
    · rfl
def Fx.ent (x : Fx) (F : List (DL T) → Option (HL T.S x.tout)) : Ent T := fun as h K =>
  match x.take as h with
  | some ds => (F ds).bind fun y => x.backK y K
  | none => none
theorem ent_eq {R : Type} (x : Fx) (F : List (DL T) → Option (HL T.S x.tout)) (as : List (AV T)) (h : Hp T) (K : AV T → Hp T → Option R) : x.ent F as h K = match x.take as h with | some ds => (F ds).bind fun y => (match x.back y with | some z => K z.1 z.2 | none => none) | none => none := by
  unfold Fx.ent
  split
  · congr 1; funext y; exact back_K x y K
  · rfl
end
end Go.Proofs.Ytfojcadooepgpaa.Rx
