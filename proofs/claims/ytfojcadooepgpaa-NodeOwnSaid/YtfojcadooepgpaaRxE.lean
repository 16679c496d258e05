/- A plain evaluator over the translated code: the evaluator. Under no condition. -/
import Derived.Test.YtfojcadooepgpaaRxA
set_option linter.unusedVariables false
namespace Go.Proofs.Ytfojcadooepgpaa.Rx
open Go Go.RowKit

/-! ### bytes, strings -/
def bt (s : ByteArray) (i : Int) : Int := if h : i.toNat < s.size then ((s[i.toNat]'h).toNat : Int) else 0
def bytesOf (s : ByteArray) : List Int := s.data.toList.map fun b => (b.toNat : Int)
def strB (xs : List Int) : ByteArray := ⟨(xs.map fun n => UInt8.ofNat n.toNat).toArray⟩
def sLt (x y : ByteArray) : Bool := Op.bytesLess x.toList y.toList
def mx (a b : Int) : Int := if b > a then b else a
def mn (a b : Int) : Int := if b < a then b else a
def bitsR (op : BinOp) (k : IntKind) (x y : Int) : Int :=
  match op with
  | .and => k.wrap (BitVec.ofInt k.bits x &&& BitVec.ofInt k.bits y).toNat
  | .or => k.wrap (BitVec.ofInt k.bits x ||| BitVec.ofInt k.bits y).toNat
  | .xor => k.wrap (BitVec.ofInt k.bits x ^^^ BitVec.ofInt k.bits y).toNat
  | _ => k.wrap (BitVec.ofInt k.bits x &&& ~~~ BitVec.ofInt k.bits y).toNat
def shlR (k : IntKind) (x y : Int) : Int := k.wrap (x * 2 ^ min y.toNat k.bits)
def shrR (k : IntKind) (x y : Int) : Int := x.fdiv (2 ^ min y.toNat k.bits)
def negR (k : IntKind) (n : Int) : Int := k.wrap (0 - n)
def LIM : Nat := 140737488355328

section
variable {T : Tab}

/-! ### slots and operands -/
def look : Env T → Nat → Option (AV T)
  | [], _ => none
  | x :: r, i => bif Nat.beq x.1 i then some x.2 else look r i
def nth {α : Type} : List α → Nat → Option α
  | [], _ => none
  | x :: _, 0 => some x
  | _ :: r, n + 1 => nth r n
def ofLf : Value → Option (Lf T)
  | .int k n => some (.d (.int k) n)
  | .bool b => some (.d .bool b)
  | .string s => some (.d .str s)
  | .slice none 0 0 => some .n
  | .pointer none => some .pn
  | v => bif v.oneCell' then some .u else none
def ofLfs : List Value → Option (List (Lf T))
  | [] => some []
  | v :: r => match ofLf v with
    | some l => match ofLfs r with | some ls => some (l :: ls) | none => none
    | none => none
def ofVal : Value → Option (V T)
  | .agg cs => match ofLfs cs.toList with | some ls => some (true, ls) | none => none
  | v => match ofLf v with | some l => some (false, [l]) | none => none
def opd (env : Env T) : Operand → Option (AV T)
  | .tmp t => look env t
  | .const v => match ofVal v with | some a => some (.v a) | none => none
  | .func f => some (.v (false, [.f f []]))
  | .global _ => none
def opV (env : Env T) (x : Operand) : Option (V T) := match opd env x with | some (.v a) => some a | _ => none
def op1 (env : Env T) (x : Operand) : Option (Lf T) := match opd env x with | some (.v (false, [l])) => some l | _ => none
def one (l : Lf T) : AV T := .v (false, [l])
def int (k : IntKind) (n : Int) : Lf T := .d (.int k) n
def put (env : Env T) (dst : Option Tmp) (v : AV T) : Env T := match dst with | some d => (d, v) :: env | none => env
def iteL (l : Lf T) (a b : Tr T) : Tr T :=
  match l with
  | .b p i => .ite p i a b
  | .d .bool x => .ite (x = true) (instDecidableEqBool x true) a b
  | _ => .fail

/-- A condition in the code. -/
def condL (l : Lf T) (a b : Tr T) : Tr T :=
  match l with
  | .w p i s => .ite p i (.any a b) (bif s then b else a)
  | l => iteL l a b

/-! ### types -/
def aggOf (P : Program) (t : TypeId) : Option Bool := match P.underlying t with | some (.struct _) => some true | some (.array _ _) => some true | some _ => some false | none => none
def sizeOf (P : Program) (t : TypeId) : Option Nat := match P.info? t with | some i => some i.size | none => none
def bytesOfT (P : Program) (t : TypeId) : Option Nat := match P.info? t with | some i => some i.bytes | none => none
/-- Size and bytes of a slice's elements, if all is as it should be. -/
def rowI (P : Program) (e : TypeId) : Option (Nat × Nat) :=
  match P.info? e with
  | some i => match i.zero with
    | some z => bif Nat.beq z.cells.size i.size && (Nat.ble 1 i.size && Nat.ble 1 i.bytes) then some (i.size, i.bytes) else none
    | none => none
  | none => none
def zeroOf (P : Program) (t : TypeId) : Option (V T) := match P.info? t with | some i => (match i.zero with | some v => ofVal v | none => none) | none => none
def tyOf (P : Program) : Nat → TypeId → Option Ty
  | 0, _ => none
  | n + 1, t => match P.underlying t with
    | some (.int k) => some (.int k)
    | some .bool => some .bool
    | some .string => some .str
    | some (.slice e) => match tyOf P n e with | some ty => some (.sl e ty) | none => none
    | some (.struct _) => some (.st t)
    | _ => none
def fieldOf (P : Program) (s : TypeId) (f : Nat) : Option (Nat × TypeId) :=
  match P.underlying s with
  | some (.struct fs) => match fs[f]? with | some fd => some (fd.offset, fd.type) | none => none
  | _ => none
/-- Cells of a type's value, from a place on. -/
def partL (P : Program) (t : TypeId) (ls : List (Lf T)) (off : Nat) : Option (V T) :=
  match sizeOf P t, aggOf P t with
  | some n, some b => bif Nat.ble (off + n) ls.length && (b || Nat.beq n 1) then some (b, (ls.drop off).take n) else none
  | _, _ => none
def lvL (ds : List (DL T)) : List (Lf T) := ds.map fun d => .d d.1 d.2
def setL : List (Lf T) → Nat → List (Lf T) → List (Lf T)
  | ls, off, new => ls.take off ++ new ++ ls.drop (off + new.length)

/-- Just one of the cells is a slice, the others are scalars. -/
def slN : List Ty → Option Nat
  | [] => some 0
  | .sl _ _ :: r => (match slN r with | some n => some (n + 1) | none => none)
  | .int _ :: r => slN r
  | .bool :: r => slN r
  | .str :: r => slN r
  | _ => none
def oneS (ts : List Ty) : Bool := match slN ts with | some 1 => true | _ => false
def scT : Ty → Bool
  | .int _ => true | .bool => true | .str => true | _ => false
def allSc : List Ty → Bool
  | [] => true | t :: r => scT t && allSc r
/-- The row among an element's cells; another one in its place. -/
def rowD : List (DL T) → Option (DL T)
  | [] => none
  | ⟨.sl e t, xs⟩ :: _ => some ⟨.sl e t, xs⟩
  | _ :: r => rowD r
def setD (y : DL T) : List (DL T) → List (DL T)
  | [] => []
  | ⟨.sl _ _, _⟩ :: r => y :: r
  | d :: r => d :: setD y r
/-! ### turning leaves -/
def setO (h : Hp T) (i : Nat) (o : Ob T) : Hp T := h.set i o
def coL (s : Sp) (l : Lf T) (h : Hp T) : Option (Lf T × Hp T) :=
  match s with
  | .k => some (l, h)
  | .d t => match l with
    | .d t' x => match decEq t' t with | isTrue _ => some (.d t' x, h) | isFalse _ => none
    | .b p i => match t with | .bool => some (.d .bool (@decide p i), h) | _ => none
    | .n => match t with | .sl e t' => some (.d (.sl e t') [], h) | _ => none
    | .g i => match nth h i with
      | some (.gr e t' xs sh) => match decEq (.sl e t') t with | isTrue _ => some (.d (.sl e t') xs, setO h i (.gr e t' xs true)) | isFalse _ => none
      | _ => none
    | .y i .hd => match nth h i with
      | some (.dg e t' xs _) => match decEq (.sl e t') t with | isTrue _ => some (.d (.sl e t') xs, setO h i .no) | isFalse _ => none
      | _ => none
    | .y i (.row x) => match nth h i with
      | some (.dg _ t' xs _) => (match rowD (lv T t' (rd (dz T t') xs x)) with
        | some ⟨.sl e2 t2, ys⟩ => (match decEq (.sl e2 t2) t with | isTrue _ => some (.d (.sl e2 t2) ys, setO h i .no) | isFalse _ => none)
        | _ => none)
      | _ => none
    | _ => none
  | .o e t => match l with
    | .n => some (.g h.length, h ++ [.gr e t [] false])
    | .g i => some (.g i, h)
    | _ => none
  | .oo e t => match l with
    | .n => bif oneS (flat T t) then some (.y h.length .hd, h ++ [.dg e t [] false]) else none
    | .y i .hd => some (.y i .hd, h)
    | _ => none
def coLs : List Sp → List (Lf T) → Hp T → Option (List (Lf T) × Hp T)
  | [], [], h => some ([], h)
  | s :: ss, l :: ls, h => match coL s l h with
    | some z => match coLs ss ls z.2 with | some z' => some (z.1 :: z'.1, z'.2) | none => none
    | none => none
  | _, _, _ => none
def spOf : Ls → Sp
  | .d t => .d t | .g _ e t => .o e t | .y _ e t => .oo e t | _ => .k
def coVs : List (Bool × List Ls) → List (V T) → Hp T → Option (List (V T) × Hp T)
  | [], [], h => some ([], h)
  | s :: ss, v :: vs, h => match coLs (s.2.map spOf) v.2 h with
    | some z => match coVs ss vs z.2 with | some z' => some ((v.1, z.1) :: z'.1, z'.2) | none => none
    | none => none
  | _, _, _ => none
/-- All leaves are made data (a slice of one's own is shared from then on). -/
def datL (l : Lf T) (h : Hp T) : Option (DL T × Hp T) :=
  match l with
  | .d t x => some (⟨t, x⟩, h)
  | .b p i => some (⟨.bool, @decide p i⟩, h)
  | .g i => match nth h i with
    | some (.gr e t xs sh) => some (⟨.sl e t, xs⟩, setO h i (.gr e t xs true))
    | _ => none
  | _ => none
def datLs : List Ty → List (Lf T) → Hp T → Option (List (DL T) × Hp T)
  | [], [], h => some ([], h)
  | t :: ts, l :: ls, h => match coL (.d t) l h with
    | some (.d t' x, h') => match datLs ts ls h' with | some z => some (⟨t', x⟩ :: z.1, z.2) | none => none
    | _ => none
  | _, _, _ => none
/-- An element out of leaves. -/
def eltOf (t : Ty) (ls : List (Lf T)) (h : Hp T) : Option (den T.S t × Hp T) :=
  match datLs (flat T t) ls h with
  | some z => match unlv t z.1 with | some x => some (x, z.2) | none => none
  | none => none
def eltsOf (t : Ty) : List (List (Lf T)) → Hp T → Option (List (den T.S t) × Hp T)
  | [], h => some ([], h)
  | ls :: r, h => match eltOf t ls h with
    | some z => match eltsOf t r z.2 with | some z' => some (z.1 :: z'.1, z'.2) | none => none
    | none => none

/-! ### which objects; other numbers -/
def refs : Lf T → List Nat
  | .g i => [i] | .m i => [i] | .p i _ => [i] | .e i _ _ _ => [i] | .f _ cs => cs.map (·.1) | .y i _ => [i] | _ => []
def memN : List Nat → Nat → Bool
  | [], _ => false | x :: r, i => Nat.beq x i || memN r i
def idxN : List Nat → Nat → Nat
  | [], _ => 0 | x :: r, i => bif Nat.beq x i then 0 else idxN r i + 1
def obL : Ob T → List (Lf T)
  | .box _ ls => ls | .it i _ => [.m i] | .mp _ _ _ _ (some po) => [.g po.1] | _ => []
def reach (h : Hp T) : Nat → List Nat → List Nat → List Nat
  | 0, _, acc => acc
  | _ + 1, [], acc => acc
  | n + 1, i :: r, acc => bif memN acc i then reach h n r acc
    else reach h n (r ++ (match nth h i with | some o => (obL o).flatMap refs | none => [])) (acc ++ [i])
def renL (f : Nat → Nat) : Lf T → Lf T
  | .g i => .g (f i) | .m i => .m (f i) | .p i o => .p (f i) o | .e i s x o => .e (f i) s x o | .f g cs => .f g (cs.map fun c => (f c.1, c.2))
  | .d t x => .d t x | .b p i => .b p i | .n => .n | .q ls => .q ls | .pn => .pn | .u => .u | .w p i s => .w p i s | .y i k => .y (f i) k
def renV (f : Nat → Nat) (v : V T) : V T := (v.1, v.2.map (renL f))
def renA (f : Nat → Nat) : AV T → AV T
  | .v a => .v (renV f a) | .t vs => .t (vs.map (renV f))
def renO (f : Nat → Nat) : Ob T → Ob T
  | .box t ls => .box t (ls.map (renL f)) | .gr e t xs sh => .gr e t xs sh | .mp mt k v x po => .mp mt k v x (po.map fun p => (f p.1, p.2)) | .po e t => .po e t | .it i y => .it (f i) y | .no => .no | .dg e t xs fx => .dg e t xs fx
def getO (h : Hp T) (i : Nat) : Ob T := match nth h i with | some o => o | none => .no
def sub (h : Hp T) (ids : List Nat) : Hp T := ids.map fun i => renO (idxN ids) (getO h i)
def backN (n : Nat) (ids : List Nat) (j : Nat) : Nat := match nth ids j with | some i => i | none => n + (j - ids.length)
def mergeO (n : Nat) (ids : List Nat) : List Nat → Hp T → Hp T → Hp T
  | i :: r, o :: h', h => mergeO n ids r h' (setO h i (renO (backN n ids) o))
  | _, h', h => h ++ h'.map (renO (backN n ids))
def allN (f : Nat → Bool) : List Nat → Bool
  | [] => true | x :: r => f x && allN f r
def nodupN : List Nat → Bool
  | [] => true | x :: r => !(memN r x) && nodupN r
/-- The first so many are themselves. -/
def preN : Nat → List Nat → Bool
  | 0, _ => true
  | n + 1, ids => preN n ids && (match nth ids n with | some i => Nat.beq i n | none => false)
/-- These objects name none but these; none is named twice. -/
def okIds (m0 : Nat) (h : Hp T) (ids roots : List Nat) : Bool :=
  nodupN ids && (preN m0 ids && (allN (memN ids) roots && allN (fun i => match nth h i with | some o => allN (memN ids) ((obL o).flatMap refs) | none => false) ids))
def rng : Nat → List Nat
  | 0 => [] | n + 1 => rng n ++ [n]

/-! ### operations -/
/-- What an operation gives, if a test holds. -/
structure Res (T : Tab) where
  p : Prop
  i : Decidable p
  v : AV T
  h : Hp T
structure CL (T : Tab) where
  p : Prop
  i : Decidable p
  l : Lf T
def sure (v : AV T) (h : Hp T) : Option (Res T) := some ⟨True, instDecidableTrue, v, h⟩
def cl (l : Lf T) : Option (CL T) := some ⟨True, instDecidableTrue, l⟩
def cmpI (op : BinOp) (a b : Int) : Option (CL T) :=
  match op with
  | .eql => cl (.b (a = b) (Int.instDecidableEq a b))
  | .neq => cl (.b (¬ a = b) (@instDecidableNot _ (Int.instDecidableEq a b)))
  | .lss => cl (.b (a < b) (Int.decLt a b))
  | .leq => cl (.b (a ≤ b) (Int.decLe a b))
  | .gtr => cl (.b (b < a) (Int.decLt b a))
  | .geq => cl (.b (b ≤ a) (Int.decLe b a))
  | _ => none
def binI (op : BinOp) (k : IntKind) (a b : Int) : Option (CL T) :=
  match op with
  | .add => cl (int k (k.wrap (a + b)))
  | .sub => cl (int k (k.wrap (a - b)))
  | .mul => cl (int k (k.wrap (a * b)))
  | .quo => some ⟨¬ b = 0, @instDecidableNot _ (Int.instDecidableEq b 0), int k (k.wrap (a.tdiv b))⟩
  | .rem => some ⟨¬ b = 0, @instDecidableNot _ (Int.instDecidableEq b 0), int k (a.tmod b)⟩
  | .and => cl (int k (bitsR .and k a b))
  | .or => cl (int k (bitsR .or k a b))
  | .xor => cl (int k (bitsR .xor k a b))
  | .andNot => cl (int k (bitsR .andNot k a b))
  | op => cmpI op a b
def shI (op : BinOp) (k : IntKind) (a b : Int) : Option (CL T) :=
  match op with
  | .shl => some ⟨0 ≤ b, Int.decLe 0 b, int k (shlR k a b)⟩
  | _ => some ⟨0 ≤ b, Int.decLe 0 b, int k (shrR k a b)⟩
def binS (op : BinOp) (a b : ByteArray) : Option (CL T) :=
  match op with
  | .add => some ⟨a.size + b.size ≤ 9223372036854775807, Nat.decLe _ _, .d .str (a ++ b)⟩
  | .eql => cl (.b (a = b) (ByteArray.instDecidableEq a b))
  | .neq => cl (.b (¬ a = b) (@instDecidableNot _ (ByteArray.instDecidableEq a b)))
  | .lss => cl (.b (sLt a b = true) (instDecidableEqBool _ _))
  | .leq => cl (.b (sLt b a = false) (instDecidableEqBool _ _))
  | .gtr => cl (.b (sLt b a = true) (instDecidableEqBool _ _))
  | .geq => cl (.b (sLt a b = false) (instDecidableEqBool _ _))
  | _ => none
def asB : Lf T → Option Bool
  | .d .bool x => some x | .b p i => some (@decide p i) | _ => none
/-- Pointers and nil. -/
def isNil : Lf T → Option Bool
  | .pn => some true | .p _ _ => some false | .e _ _ _ _ => some false | .q _ => some false | _ => none
def binN (op : BinOp) (l r : Lf T) : Option (CL T) :=
  match isNil l, isNil r with
  | some true, some b => (match op with | .eql => cl (.d .bool b) | .neq => cl (.d .bool (!b)) | _ => none)
  | some false, some true => (match op with | .eql => cl (.d .bool false) | .neq => cl (.d .bool true) | _ => none)
  | _, _ => none
def binB (op : BinOp) (l r : Lf T) : Option (CL T) :=
  match asB l, asB r with
  | some a, some b => (match op with | .eql => cl (.d .bool (a == b)) | .neq => cl (.d .bool (!(a == b))) | _ => none)
  | _, _ => none
/-- Slices and nil. -/
def slLen (l : Lf T) (h : Hp T) : Option Nat :=
  match l with
  | .d (.sl _ _) xs => some xs.length
  | .n => some 0
  | .g i => (match nth h i with | some (.gr _ _ xs _) => some xs.length | _ => none)
  | _ => none
def binW (op : BinOp) (l r : Lf T) (h : Hp T) : Option (CL T) :=
  match r, slLen l h with
  | .n, some k => (match op with | .eql => cl (.w (k = 0) (Nat.decEq k 0) true) | .neq => cl (.w (k = 0) (Nat.decEq k 0) false) | _ => none)
  | _, _ => none
def binE (d : Option TypeDesc) (op : BinOp) (l r : Lf T) (h : Hp T) : Option (CL T) :=
  match d with
  | some .bool => binB op l r
  | some (.pointer _) => binN op l r
  | some (.slice _) => binW op l r h
  | _ => none
def isInt : Lf T → Option (IntKind × Int)
  | .d (.int k) n => some (k, n) | _ => none
def isStr : Lf T → Option ByteArray
  | .d .str s => some s | _ => none
def isSh : BinOp → Bool
  | .shl | .shr => true | _ => false
def binF (d : Option TypeDesc) (op : BinOp) (l r : Lf T) (h : Hp T) : Option (CL T) :=
  match isInt l, isInt r with
  | some a, some b => bif isSh op then shI op a.1 a.2 b.2 else (match decEq a.1 b.1 with | isTrue _ => binI op a.1 a.2 b.2 | isFalse _ => none)
  | _, _ => match isStr l, isStr r with
    | some a, some b => binS op a b
    | _, _ => binE d op l r h
def unF (op : UnOp) (l : Lf T) : Option (Lf T) :=
  match op with
  | .not => (match l with | .b p i => some (.b (¬ p) (@instDecidableNot p i)) | .d .bool x => some (.d .bool (!x)) | _ => none)
  | .neg => (match isInt l with | some a => some (int a.1 (negR a.1 a.2)) | none => none)
  | .xor => (match isInt l with | some a => some (int a.1 (bitsR .xor a.1 (if a.1.signed then -1 else a.1.max) a.2)) | none => none)
  | _ => none
def inR (i : Int) (n : Nat) : Prop := 0 ≤ i ∧ i < (n : Int)
def decR (i : Int) (n : Nat) : Decidable (inR i n) := @instDecidableAnd _ _ (Int.decLe 0 i) (Int.decLt i n)
def cutR (l u n : Int) : Prop := 0 ≤ l ∧ l ≤ u ∧ u ≤ n
def decC (l u n : Int) : Decidable (cutR l u n) := @instDecidableAnd _ _ (Int.decLe 0 l) (@instDecidableAnd _ _ (Int.decLe l u) (Int.decLe u n))
def cut3R (l u q n : Int) : Prop := 0 ≤ l ∧ l ≤ u ∧ u ≤ q ∧ q ≤ n
def dec3C (l u q n : Int) : Decidable (cut3R l u q n) := @instDecidableAnd _ _ (Int.decLe 0 l) (@instDecidableAnd _ _ (Int.decLe l u) (@instDecidableAnd _ _ (Int.decLe u q) (Int.decLe q n)))
/-- A slice, as data or of one's own. -/
def rowOf (e : TypeId) (t : Ty) (l : Lf T) (h : Hp T) : Option (List (den T.S t)) :=
  match l with
  | .d t' x => asRow ⟨t', x⟩ e t
  | .n => some []
  | .g i => match nth h i with
    | some (.gr e' t' xs _) => asRow ⟨.sl e' t', xs⟩ e t
    | _ => none
  | _ => none
def lenOf (P : Program) (t : TypeId) (l : V T) (h : Hp T) : Option Int :=
  match P.underlying t with
  | some (.array n _) => some n
  | some (.slice _) => match l with
    | (false, [.d (.sl _ _) xs]) => some xs.length
    | (false, [.n]) => some 0
    | (false, [.g i]) => (match nth h i with | some (.gr _ _ xs _) => some xs.length | _ => none)
    | (false, [.y i .hd]) => (match nth h i with | some (.dg _ _ xs _) => some xs.length | _ => none)
    | (false, [.y i (.row x)]) => (match nth h i with | some (.dg _ ty xs _) => (match rowD (lv T ty (rd (dz T ty) xs x)) with | some ⟨.sl _ _, ys⟩ => some ys.length | _ => none) | _ => none)
    | _ => none
  | some (.map _ _) => match l with
    | (false, [.m i]) => (match nth h i with | some (.mp _ _ _ x _) => some (mlen x) | _ => none)
    | _ => none
  | some .string => match l with
    | (false, [.d .str s]) => some s.size
    | _ => none
  | _ => none
def foldI (f : Int → Int → Int) (k : IntKind) : Int → List (Option (Lf T)) → Option Int
  | a, [] => some a
  | a, some l :: r => match isInt l with
    | some b => (match decEq k b.1 with | isTrue _ => foldI f k (f a b.2) r | isFalse _ => none)
    | none => none
  | _, none :: _ => none
def indexF (P : Program) (t : TypeId) (l : Lf T) (i : Int) (h : Hp T) : Option (Res T) :=
  match P.underlying t with
  | some (.slice e) => match sizeOf P e with
    | some sz => match l with
      | .d (.sl e' ty) xs => bif Nat.beq sz (flat T ty).length then some ⟨inR i xs.length, decR i xs.length, one (.q (lv T ty (rd (dz T ty) xs i))), h⟩ else none
      | .g j => match nth h j with
        | some (.gr e' ty xs sh) => bif Nat.beq sz (flat T ty).length then some ⟨inR i xs.length, decR i xs.length, one (.e j sz i 0), h⟩ else none
        | _ => none
      | .y j .hd => match nth h j with
        | some (.dg e' ty xs _) => bif Nat.beq sz (flat T ty).length then some ⟨inR i xs.length, decR i xs.length, one (.y j (.el sz i 0)), h⟩ else none
        | _ => none
      | .y j (.row x) => match nth h j with
        | some (.dg e' ty xs _) => (match rowD (lv T ty (rd (dz T ty) xs x)) with
          | some ⟨.sl _ t2, ys⟩ => bif Nat.beq sz (flat T t2).length then some ⟨inR i ys.length, decR i ys.length, one (.y j (.cell x sz i 0)), h⟩ else none
          | _ => none)
        | _ => none
      | _ => none
    | none => none
  | some (.array n e) => match sizeOf P e, l, i with
    | some sz, .p j off, .ofNat k => bif Nat.blt k n then sure (one (.p j (off + k * sz))) h else none
    | _, _, _ => none
  | _ => none
/-- An element's cell: its row stays one's own. -/
def yL (i : Nat) (x : Int) : DL T → Lf T
  | ⟨.sl _ _, _⟩ => .y i (.row x)
  | ⟨t, v⟩ => .d t v
def loadF (P : Program) (t : TypeId) (l : Lf T) (h : Hp T) : Option (V T) :=
  match l with
  | .p i off => match nth h i with
    | some (.box _ ls) => partL P t ls off
    | _ => none
  | .q ds => partL P t (lvL ds) 0
  | .e i sz x off => match nth h i with
    | some (.gr _ ty xs _) => bif Nat.beq sz (flat T ty).length then partL P t (lvL (lv T ty (rd (dz T ty) xs x))) off else none
    | _ => none
  | .y i (.el sz x off) => match nth h i with
    | some (.dg _ ty xs _) => bif Nat.beq sz (flat T ty).length then partL P t ((lv T ty (rd (dz T ty) xs x)).map (yL i x)) off else none
    | _ => none
  | .y i (.cell x sz y off) => match nth h i with
    | some (.dg _ ty xs _) => (match rowD (lv T ty (rd (dz T ty) xs x)) with
      | some ⟨.sl _ t2, ys⟩ => bif Nat.beq sz (flat T t2).length then partL P t (lvL (lv T t2 (rd (dz T t2) ys y))) off else none
      | _ => none)
    | _ => none
  | _ => none
/-- A test's outcome is kept as a bool. -/
def nbL : Lf T → Lf T
  | .b p i => .d .bool (@decide p i) | l => l
def storeF (P : Program) (t : TypeId) (l : Lf T) (v : V T) (h : Hp T) : Option (Hp T) :=
  match sizeOf P t with
  | some n => bif Nat.beq v.2.length n then
    (match l with
    | .p i off => match nth h i with
      | some (.box tid ls) => bif Nat.ble (off + n) ls.length then some (setO h i (.box tid (setL ls off (v.2.map nbL)))) else none
      | _ => none
    | .e i sz x off => match nth h i with
      | some (.gr e ty xs false) => bif Nat.ble (off + n) (flat T ty).length && Nat.beq sz (flat T ty).length then
          (match eltOf ty (setL (lvL (lv T ty (rd (dz T ty) xs x))) off v.2) h with
          | some z => (match nth z.2 i with
            | some (.gr e' ty' xs' false) => (match asRow ⟨.sl e' ty', xs'⟩ e ty with
              | some ys => some (setO z.2 i (.gr e ty (ys.set x.toNat z.1) false))
              | none => none)
            | _ => none)
          | none => none) else none
      | _ => none
    | .y i (.el sz x off) => match nth h i with
      | some (.dg e ty xs fx) => bif Nat.ble (off + n) (flat T ty).length && (Nat.beq sz (flat T ty).length && allSc (((flat T ty).drop off).take n)) then
          (match eltOf ty (setL (lvL (lv T ty (rd (dz T ty) xs x))) off v.2) ([] : Hp T) with
          | some z => some (setO h i (.dg e ty (xs.set x.toNat z.1) fx))
          | none => none) else none
      | _ => none
    | .y i (.cell x sz y off) => match nth h i with
      | some (.dg e ty xs fx) => (match rowD (lv T ty (rd (dz T ty) xs x)) with
        | some ⟨.sl e2 t2, ys⟩ => bif Nat.ble (off + n) (flat T t2).length && Nat.beq sz (flat T t2).length then
            (match eltOf t2 (setL (lvL (lv T t2 (rd (dz T t2) ys y))) off v.2) ([] : Hp T) with
            | some z => (match unlv ty (setD ⟨.sl e2 t2, ys.set y.toNat z.1⟩ (lv T ty (rd (dz T ty) xs x))) with
              | some x' => some (setO h i (.dg e ty (xs.set x.toNat x') fx))
              | none => none)
            | none => none) else none
        | _ => none)
      | _ => none
    | _ => none) else none
  | none => none
def fieldAF (P : Program) (s : TypeId) (l : Lf T) (f : Nat) : Option (Lf T) :=
  match fieldOf P s f with
  | some (off, ft) => match sizeOf P ft with
    | some (_ + 1) => (match l with
      | .p i o => some (.p i (o + off))
      | .e i s x o => some (.e i s x (o + off))
      | .q ds => some (.q (ds.drop off))
      | .y i (.el sz x o) => some (.y i (.el sz x (o + off)))
      | .y i (.cell x sz y o) => some (.y i (.cell x sz y (o + off)))
      | _ => none)
    | _ => none
  | none => none
def partsOf (env : Env T) : List (Nat × Operand) → Option (List (Nat × V T))
  | [] => some []
  | x :: r => match opV env x.2 with
    | some v => match partsOf env r with | some l => some ((x.1, v) :: l) | none => none
    | none => none
def placesOf (P : Program) (t : TypeId) : Option (List (Nat × Nat)) :=
  match P.underlying t with
  | some (.struct fs) => fs.toList.mapM fun f => (P.info? f.type).map fun i => (f.offset, i.size)
  | _ => none
def fillP (pl : List (Nat × Nat)) : List (Nat × V T) → List (Lf T) → Option (List (Lf T))
  | [], ls => some ls
  | x :: r, ls => match pl[x.1]? with
    | some q => bif Nat.beq x.2.2.length q.2 && Nat.ble (q.1 + q.2) ls.length then fillP pl r (setL ls q.1 x.2.2) else none
    | none => none
/-- Elements of a literal, in their order: all are there. -/
def elts : Nat → List (Nat × V T) → Option (List (List (Lf T)))
  | _, [] => some []
  | n, x :: r => bif Nat.beq x.1 n then (match elts (n + 1) r with | some l => some (x.2.2 :: l) | none => none) else none
def allLen (n : Nat) : List (List (Lf T)) → Bool
  | [] => true | l :: r => Nat.beq l.length n && allLen n r
def boundS (v : Option (Option (Lf T))) (dflt : Int) : Option Int :=
  match v with
  | none => some dflt
  | some (some l) => (match isInt l with | some a => some a.2 | none => none)
  | _ => none
def subS (s : ByteArray) (l u : Int) : ByteArray := s.extract l.toNat u.toNat
def subL {α : Type} (xs : List α) (l u : Int) : List α := (xs.take u.toNat).drop l.toNat
def sliceF (P : Program) (t : TypeId) (x : Lf T) (lo hi : Option (Option (Lf T))) (h : Hp T) : Option (Res T) :=
  match P.underlying t with
  | some .string => match isStr x with
    | some s => (match boundS lo 0, boundS hi s.size with
      | some l, some u => some ⟨cutR l u s.size, decC l u s.size, one (.d .str (subS s l u)), h⟩
      | _, _ => none)
    | none => none
  | some (.slice e) => match tyOf P 4 e, sizeOf P e with
    | some ty, some sz => bif Nat.beq sz (flat T ty).length then
      (match coL (.d (.sl e ty)) x h with
      | some (.d t' xs, h') => (match asRow ⟨t', xs⟩ e ty with
        | some ys => (match boundS lo 0, boundS hi (ys.length) with
          | some l, some u => some ⟨cutR l u (ys.length), decC l u (ys.length), one (.d (.sl e ty) (subL ys l u)), h'⟩
          | _, _ => none)
        | none => none)
      | _ => none) else none
    | _, _ => none
  | _ => none
/-- With three bounds (the last one no more than the length). -/
def sliceYF (P : Program) (t : TypeId) (i : Nat) (lo : Option (Option (Lf T))) (hi mx : Option (Lf T)) (h : Hp T) : Option (Res T) :=
  match P.underlying t, nth h i with
  | some (.slice e), some (.dg e' ty xs _) => match lo, boundS (some hi) 0, boundS (some mx) 0, sizeOf P e with
    | none, some u, some q, some sz => bif Nat.beq e e' && Nat.beq sz (flat T ty).length then
        some ⟨u = (xs.length : Int) ∧ q = (xs.length : Int), @instDecidableAnd _ _ (Int.instDecidableEq _ _) (Int.instDecidableEq _ _), one (.y h.length .hd), setO h i .no ++ [.dg e' ty xs true]⟩ else none
    | _, _, _, _ => none
  | _, _ => none
def slice3F (P : Program) (t : TypeId) (x : Lf T) (lo : Option (Option (Lf T))) (hi mx : Option (Lf T)) (h : Hp T) : Option (Res T) :=
  match x with
  | .y i .hd => sliceYF P t i lo hi mx h
  | _ =>
  match P.underlying t with
  | some (.slice e) => match tyOf P 4 e, sizeOf P e with
    | some ty, some sz => bif Nat.beq sz (flat T ty).length then
      (match coL (.d (.sl e ty)) x h with
      | some (.d t' xs, h') => (match asRow ⟨t', xs⟩ e ty with
        | some ys => (match boundS lo 0, boundS (some hi) 0, boundS (some mx) 0 with
          | some l, some u, some q => some ⟨cut3R l u q (ys.length), dec3C l u q (ys.length), one (.d (.sl e ty) (subL ys l u)), h'⟩
          | _, _, _ => none)
        | none => none)
      | _ => none) else none
    | _, _ => none
  | _ => none
/-- What is appended: a slice's elements, or a string's bytes. -/
def strY (x : Lf T) : (ty : Ty) → Option (List (den T.S ty))
  | .int .u8 => match isStr x with | some s => some (bytesOf s) | none => none
  | _ => none
def appY (P : Program) (e : TypeId) (ty : Ty) (t t2 : TypeId) (x : Lf T) (h : Hp T) : Option (List (den T.S ty)) :=
  bif Nat.beq t t2 then rowOf e ty x h else
  match P.underlying t2 with
  | some .string => strY x ty
  | _ => none
/-- Rows become data: a slice of one's own is left. -/
def demote (h : Hp T) (i : Nat) : Option (Nat × Hp T) :=
  match nth h i with
  | some (.dg e t xs false) => some (h.length, setO h i .no ++ [.gr e t xs false])
  | _ => none
def appYF (P : Program) (e : TypeId) (ty : Ty) (by_ : Nat) (i j : Nat) (h : Hp T) : Option (Res T) :=
  match nth h i, nth h j with
  | some (.dg e1 t1 xs false), some (.dg e2 t2 ys false) => match decEq t1 ty, asRow (⟨.sl e2 t2, ys⟩ : DL T) e1 t1 with
    | isTrue _, some ys' => bif Nat.beq e1 e && !(Nat.beq i j) then
        some ⟨(xs.length + ys.length) * by_ ≤ LIM, Nat.decLe _ _, one (.y h.length .hd), setO (setO h i .no) j .no ++ [.dg e1 t1 (xs ++ ys') false]⟩ else none
    | _, _ => none
  | _, _ => none
def appG (P : Program) (t t2 : TypeId) (s x : Lf T) (h : Hp T) : Option (Res T) :=
  match P.underlying t with
  | some (.slice e) => match tyOf P 4 e, rowI P e with
    | some ty, some si =>
      bif Nat.beq si.1 (flat T ty).length then
      (match appY P e ty t t2 x h with
      | some ys => (match s with
        | .n => some ⟨ys.length * si.2 ≤ LIM, Nat.decLe _ _, one (.g h.length), h ++ [.gr e ty ys false]⟩
        | .g i => match nth h i with
          | some (.gr e' t' xs sh) => (match asRow ⟨.sl e' t', xs⟩ e ty with
            | some xs' => some ⟨(xs'.length + ys.length) * si.2 ≤ LIM, Nat.decLe _ _, one (.g h.length), setO h i .no ++ [.gr e ty (xs' ++ ys) sh]⟩
            | none => none)
          | _ => none
        | _ => none)
      | none => none) else none
    | _, _ => none
  | _ => none
def appF (P : Program) (t t2 : TypeId) (s x : Lf T) (h : Hp T) : Option (Res T) :=
  match s, x with
  | .y i .hd, .y j .hd => (match P.underlying t with
    | some (.slice e) => (match tyOf P 4 e, rowI P e with
      | some ty, some si => bif Nat.beq si.1 (flat T ty).length && Nat.beq t t2 then appYF P e ty si.2 i j h else none
      | _, _ => none)
    | _ => none)
  | .y i .hd, x => (match demote h i with | some z => appG P t t2 (.g z.1) x z.2 | none => none)
  | s, .y j .hd => (match demote h j with | some z => appG P t t2 s (.g z.1) z.2 | none => none)
  | s, x => appG P t t2 s x h
/-- An element whose row is one's own. -/
def splitOwn (h : Hp T) : List (Lf T) → Option (Nat × List (Lf T))
  | [] => none
  | .g k :: r => (match nth h k with | some (.gr e t ys false) => some (k, .d (.sl e t) ys :: r) | _ => none)
  | l :: r => (match splitOwn h r with | some z => some (z.1, l :: z.2) | none => none)
def demoteL (h : Hp T) : List (Lf T) → Option (List (Lf T) × Hp T)
  | [] => none
  | .y k .hd :: r => (match demote h k with | some z => some (.g z.1 :: r, z.2) | none => none)
  | l :: r => (match demoteL h r with | some z => some (l :: z.1, z.2) | none => none)
def buildYF (e : TypeId) (ty : Ty) (l : List (Lf T)) (h : Hp T) : Option (Res T) :=
  let z := match demoteL h l with | some z => z | none => (l, h)
  match splitOwn z.2 z.1 with
  | some q => (match eltOf ty q.2 ([] : Hp T) with
    | some x => bif oneS (flat T ty) then sure (one (.y z.2.length .hd)) (setO z.2 q.1 .no ++ [.dg e ty [x.1] false]) else none
    | none => none)
  | none => none
def makeF (P : Program) (t : TypeId) (len cap : Int) (h : Hp T) : Option (Res T) :=
  match P.underlying t with
  | some (.slice e) => match tyOf P 4 e, rowI P e, (zeroOf P e : Option (V T)) with
    | some ty, some si, some zv => bif Nat.beq si.1 (flat T ty).length then
      (match eltOf ty zv.2 ([] : Hp T) with
      | some z => some ⟨0 ≤ len ∧ len ≤ cap ∧ cap * (si.2 : Int) ≤ (LIM : Int), @instDecidableAnd _ _ (Int.decLe _ _) (@instDecidableAnd _ _ (Int.decLe _ _) (Int.decLe _ _)),
          one (.g h.length), h ++ [.gr e ty (List.replicate len.toNat z.1) false]⟩
      | none => none) else none
    | _, _, _ => none
  | _ => none
def convF (P : Program) (src dst : TypeId) (l : Lf T) (h : Hp T) : Option (Lf T) :=
  match P.underlying dst with
  | some (.int k) => (match isInt l, P.underlying src with | some a, some _ => some (int k (k.wrap a.2)) | _, _ => none)
  | some .string => (match P.underlying src with
    | some .string => (match isStr l with | some s => some (.d .str s) | none => none)
    | some (.slice e) => (match P.underlying e with
      | some (.int .u8) => (match rowOf e (.int .u8) l h with | some xs => some (.d .str (strB xs)) | none => none)
      | _ => none)
    | _ => none)
  | _ => none
/-- Structs are compared. -/
structure PD where
  p : Prop
  i : Decidable p
def eqLf (l r : Lf T) : Option PD :=
  match isInt l, isInt r with
  | some a, some b => (match decEq a.1 b.1 with | isTrue _ => some ⟨a.2 = b.2, Int.instDecidableEq a.2 b.2⟩ | isFalse _ => none)
  | _, _ => match isStr l, isStr r with
    | some a, some b => some ⟨a = b, ByteArray.instDecidableEq a b⟩
    | _, _ => match asB l, asB r with
      | some a, some b => some ⟨a = b, instDecidableEqBool a b⟩
      | _, _ => none
def eqFs (P : Program) (f : TypeId → V T → V T → Option PD) (ls rs : List (Lf T)) : List Field → Option PD
  | [] => some ⟨True, instDecidableTrue⟩
  | fd :: r => bif fd.name == "_" then none else
    match partL P fd.type ls fd.offset, partL P fd.type rs fd.offset with
    | some a, some b => (match f fd.type a b, eqFs P f ls rs r with
      | some p, some q => some ⟨p.p ∧ q.p, @instDecidableAnd _ _ p.i q.i⟩
      | _, _ => none)
    | _, _ => none
def eqV (P : Program) : Nat → TypeId → V T → V T → Option PD
  | 0, _, _, _ => none
  | d + 1, t, x, y => match P.underlying t with
    | some (.struct fs) => bif (!(P.stoodInHeld t)) && (x.1 && y.1) then eqFs P (eqV P d) x.2 y.2 fs.toList else none
    | some (.int _) => (match x, y with | (false, [l]), (false, [r]) => (match isInt l, isInt r with | some _, some _ => eqLf l r | _, _ => none) | _, _ => none)
    | some .string => (match x, y with | (false, [l]), (false, [r]) => (match isStr l, isStr r with | some _, some _ => eqLf l r | _, _ => none) | _, _ => none)
    | some .bool => (match x, y with | (false, [l]), (false, [r]) => (match asB l, asB r with | some _, some _ => eqLf l r | _, _ => none) | _, _ => none)
    | _ => none
def eqF (P : Program) (op : BinOp) (t : TypeId) (x y : V T) : Option (CL T) :=
  bif P.eqGuardType P.depth t || !(x.1 && y.1) then none else
  match eqV P 10000 t x y with
  | some q => (match op with | .eql => cl (.b q.p q.i) | .neq => cl (.b (¬ q.p) (@instDecidableNot _ q.i)) | _ => none)
  | none => none
def opts (env : Env T) : List Operand → List (Option (Lf T))
  | [] => [] | x :: r => op1 env x :: opts env r
def opVs (env : Env T) : List Operand → Option (List (V T))
  | [] => some []
  | x :: r => match opV env x with
    | some v => match opVs env r with | some l => some (v :: l) | none => none
    | none => none
def fitsL : List Ls → List (Lf T) → Bool
  | .f f _ :: s, .f g _ :: r => Nat.beq f g && fitsL s r
  | _ :: s, _ :: r => fitsL s r
  | _, _ => true
def fitsV : List (Bool × List Ls) → List (V T) → Bool
  | s :: ss, v :: vs => fitsL s.2 v.2 && fitsV ss vs
  | _, _ => true
def findFx (f : FuncId) (vs : List (V T)) : Nat → List (FuncId × Fx) → Option (Nat × Fx)
  | _, [] => none
  | n, x :: r => bif Nat.beq x.1 f && fitsV x.2.ins vs then some (n, x.2) else findFx f vs (n + 1) r
def capV : List (Nat × Nat) → List (V T)
  | [] => [] | c :: r => (false, [.p c.1 c.2]) :: capV r
def capP (env : Env T) : List Operand → Option (List (Nat × Nat))
  | [] => some []
  | x :: r => match op1 env x with
    | some (.p i o) => (match capP env r with | some l => some ((i, o) :: l) | none => none)
    | _ => none
/-- A call, made ready: whom, with what (in its own numbers), out of which memory. -/
structure Cal (T : Tab) where
  key : Nat
  vs : List (V T)
  h : Hp T
  ids : List Nat
/-- It gets no object, and answers no data but scalars: what it is shown is lent. -/
def scalL : List Ls → Bool
  | [] => true
  | .d (.int _) :: r => scalL r
  | .d .bool :: r => scalL r
  | .d .str :: r => scalL r
  | _ => false
def scalV : List (Bool × List Ls) → Bool
  | [] => true | s :: r => scalL s.2 && scalV r
def lent (fx : Fx) (ids : List Nat) : Bool :=
  match ids, fx.alt, fx.hout with
  | [], none, [] => scalV fx.out
  | _, _, _ => false
def callF (tb : List (FuncId × Fx)) (f : FuncId) (vs : List (V T)) (h : Hp T) : Option (Cal T) :=
  match findFx f vs 0 tb with
  | some (key, fx) => match coVs fx.ins vs h with
    | some (vs', h') =>
      let roots := vs'.flatMap fun v => v.2.flatMap refs
      let ids := reach h' 1000 roots []
      bif okIds 0 h' ids roots then some ⟨key, vs', bif lent fx ids then h else h', ids⟩ else none
    | none => none
  | none => none
/-! ### maps -/
def keyS (a b : ByteArray) : Bool := @decide (a = b) (ByteArray.instDecidableEq a b)
def keyI (a b : Int) : Bool := @decide (a = b) (Int.instDecidableEq a b)
def kOk : Ty → Bool
  | .int _ => true | .str => true | _ => false
def keqT : (t : Ty) → den T.S t → den T.S t → Bool
  | .int _ => keyI | .str => keyS | _ => fun _ _ => false
def isSt : Ty → Bool
  | .st _ => true | _ => false
def mapTy (P : Program) (t : TypeId) : Option (Ty × Ty × TypeId) :=
  match P.underlying t with
  | some (.map kt vt) => match tyOf P 4 kt, tyOf P 4 vt with
    | some k, some v => bif kOk k then some (k, v, vt) else none
    | _, _ => none
  | _ => none
def keyOfL (k : Ty) (l : Lf T) : Option (den T.S k) :=
  match l with | .d t x => asT ⟨t, x⟩ k | _ => none
def asMap (d : DL T) (k v : Ty) : Option (MapD (den T.S k) (den T.S v)) := asT d (.mp k v)
def mapOf (h : Hp T) (l : Lf T) (k v : Ty) : Option (Nat × MapD (den T.S k) (den T.S v)) :=
  match l with
  | .m i => match nth h i with
    | some (.mp _ k' v' x _) => (match asMap ⟨.mp k' v', x⟩ k v with | some y => some (i, y) | none => none)
    | _ => none
  | _ => none
def noPool (h : Hp T) (i : Nat) : Bool := match nth h i with | some (.mp _ _ _ _ none) => true | _ => false
def mval (v : Ty) (y : den T.S v) : V T := (isSt v, lvL (lv T v y))
def lookF (P : Program) (t : TypeId) (l ix : Lf T) (ok : Bool) (h : Hp T) : Option (AV T) :=
  match mapTy P t with
  | some q => match mapOf h l q.1 q.2.1, keyOfL q.1 ix, (zeroOf P q.2.2 : Option (V T)) with
    | some x, some key, some zv => bif zv.1 == isSt q.2.1 then
      (match eltOf q.2.1 zv.2 ([] : Hp T) with
      | some z => some (bif ok then .t [mval q.2.1 (mget (keqT q.1) z.1 x.2 key), (false, [.d .bool (mhas (keqT q.1) x.2 key)])] else .v (mval q.2.1 (mget (keqT q.1) z.1 x.2 key)))
      | none => none) else none
    | _, _, _ => none
  | none => none
def updF (P : Program) (t : TypeId) (l ix : Lf T) (y : V T) (h : Hp T) : Option (Hp T) :=
  match mapTy P t with
  | some q => match keyOfL q.1 ix with
    | some key => bif y.1 == isSt q.2.1 then
      (match eltOf q.2.1 y.2 h with
      | some z => (match mapOf z.2 l q.1 q.2.1 with
        | some x => bif noPool z.2 x.1 then some (setO z.2 x.1 (.mp t q.1 q.2.1 (mset (keqT q.1) x.2 key z.1) none)) else none
        | none => none)
      | none => none) else none
    | none => none
  | none => none
def delF (P : Program) (t : TypeId) (l ix : Lf T) (h : Hp T) : Option (Hp T) :=
  match mapTy P t with
  | some q => match mapOf h l q.1 q.2.1, keyOfL q.1 ix with
    | some x, some key => bif noPool h x.1 then some (setO h x.1 (.mp t q.1 q.2.1 (mdel (keqT q.1) x.2 key) none)) else none
    | _, _ => none
  | none => none
/-- A map whose values' rows are a pool's. -/
structure PM (T : Tab) (k v : Ty) where
  i : Nat
  x : MapD (den T.S k) (den T.S v)
  j : Nat
  hole : Option (den T.S k)
def asKey (k' k : Ty) : Option (den T.S k') → Option (Option (den T.S k))
  | none => some none
  | some y => match asT (⟨k', y⟩ : DL T) k with | some z => some (some z) | none => none
def mapP (h : Hp T) (l : Lf T) (k v : Ty) : Option (PM T k v) :=
  match l with
  | .m i => match nth h i with
    | some (.mp _ k' v' x (some po)) => (match asMap ⟨.mp k' v', x⟩ k v, asKey k' k po.2 with | some y, some z => some ⟨i, y, po.1, z⟩ | _, _ => none)
    | _ => none
  | _ => none
def pooled (l : Lf T) (h : Hp T) : Bool := match l with | .m i => !(noPool h i) | _ => false
/-- A value is looked up: its row is taken out of the pool. -/
def lookPF (P : Program) (t : TypeId) (l ix : Lf T) (h : Hp T) : Option (Res T) :=
  match mapTy P t with
  | some q => match mapP h l q.1 q.2.1, keyOfL q.1 ix, (zeroOf P q.2.2 : Option (V T)) with
    | some p, some key, some (false, [.n]) => (match p.hole, nth h p.j with
      | none, some (.po e ty) => (match asRow ⟨q.2.1, mget (keqT q.1) (dz T q.2.1) p.x key⟩ e ty with
        | some xs => sure (one (.g (h.length + 1))) (setO (setO h p.i (.mp t q.1 q.2.1 p.x (some (h.length, some key)))) p.j .no ++ [.po e ty, .gr e ty xs true])
        | none => none)
      | _, _ => none)
    | _, _, _ => none
  | none => none
/-- It is put back. -/
def updPF (P : Program) (t : TypeId) (l ix : Lf T) (y : V T) (h : Hp T) : Option (Res T) :=
  match mapTy P t with
  | some q => match mapP h l q.1 q.2.1, keyOfL q.1 ix, y with
    | some p, some key, (false, [.g g]) => (match p.hole, nth h p.j, nth h g with
      | some k0, some (.po e ty), some (.gr e' ty' xs sh) => (match decEq (Ty.sl e ty) q.2.1, asT (⟨.sl e' ty', xs⟩ : DL T) q.2.1 with
        | isTrue _, some z => some ⟨keqT q.1 k0 key = true, instDecidableEqBool _ _, .t [],
            setO (setO (setO h p.i (.mp t q.1 q.2.1 (mset (keqT q.1) p.x key z) (some (h.length, none)))) p.j .no) g .no ++ [.po e ty]⟩
        | _, _ => none)
      | _, _, _ => none)
    | _, _, _ => none
  | none => none
def delPF (P : Program) (t : TypeId) (l ix : Lf T) (h : Hp T) : Option (Res T) :=
  match mapTy P t with
  | some q => match mapP h l q.1 q.2.1, keyOfL q.1 ix with
    | some p, some key => (match p.hole with
      | some k0 => some ⟨keqT q.1 k0 key = true, instDecidableEqBool _ _, .t [], setO h p.i (.mp t q.1 q.2.1 (mdel (keqT q.1) p.x key) (some (p.j, none)))⟩
      | none => none)
    | _, _ => none
  | none => none
def madeF (P : Program) (t : TypeId) (h : Hp T) : Option (Res T) :=
  match mapTy P t with
  | some q => match q.2.1 with
    | .sl e ty => sure (one (.m (h.length + 1))) (h ++ [.po e ty, .mp t q.1 q.2.1 MapD.nil (some (h.length, none))])
    | _ => sure (one (.m h.length)) (h ++ [.mp t q.1 q.2.1 MapD.nil none])
  | none => none
def rangeF (P : Program) (t : TypeId) (l : Lf T) (h : Hp T) : Option (Res T) :=
  match P.underlying t with
  | some (.map _ _) => match l with
    | .m i => match nth h i with
      | some (.mp _ _ _ x _) => sure (one (.p h.length 0)) (h ++ [.it i (mbeg x)])
      | _ => none
    | _ => none
  | _ => none
def entryF (l : Lf T) (h : Hp T) : Option (Res T) :=
  match l with
  | .p j 0 => match nth h j with
    | some (.it i y) => match nth h i with
      | some (.mp _ k v x _) => some ⟨mat x y, decAt x y, .t [(false, [.d k (ckey (dz T k) x y)]), mval v (cval (dz T v) x y)], h⟩
      | _ => none
    | _ => none
  | _ => none
/-- A step over a map: what is left, in whatever order. -/
def isNext : Op → Option Operand
  | .next x false => some x | _ => none
def nextTr (l : Lf T) (h : Hp T) (K : AV T → Hp T → Tr T) : Tr T :=
  match l with
  | .p j 0 => match nth h j with
    | some (.it i y) => match nth h i with
      | some (.mp _ k v x _) => .ite (mcalm x y) (decM x y) (.ite (List.length (mleft x y) = 0) (Nat.decEq _ 0) (K (.t [(false, [.d .bool false])]) h)
          (.pick (List.length (mleft x y)) fun n => K (.t [(false, [.d .bool true]), (false, [.d k (lkey (dz T k) (mleft x y) n)]), mval v (lval (dz T v) (mleft x y) n)]) (setO h j (.it i (msee y (mleft x y) n))))) .fail
      | _ => .fail
    | _ => .fail
  | _ => .fail
def builtF (P : Program) (b : Builtin) (ts : List TypeId) (env : Env T) (as : List Operand) (h : Hp T) : Option (Res T) :=
  match b, ts, as with
  | .len, [t], [x] => (match opV env x with
    | some v => (match lenOf P t v h with | some n => sure (one (int .i64 n)) h | none => none)
    | none => none)
  | .append, [t, t2], [s, x] => (match op1 env s, op1 env x with
    | some l, some r => appF P t t2 l r h
    | _, _ => none)
  | .delete, t :: _, [x, k] => (match op1 env x, op1 env k with
    | some l, some r => bif pooled l h then delPF P t l r h else (match delF P t l r h with | some h' => sure (.t []) h' | none => none)
    | _, _ => none)
  | .max, _, x :: r => (match op1 env x with
    | some l => (match isInt l with
      | some a => (match foldI mx a.1 a.2 (opts env r) with | some n => sure (one (int a.1 n)) h | none => none)
      | none => none)
    | none => none)
  | .min, _, x :: r => (match op1 env x with
    | some l => (match isInt l with
      | some a => (match foldI mn a.1 a.2 (opts env r) with | some n => sure (one (int a.1 n)) h | none => none)
      | none => none)
    | none => none)
  | _, _, _ => none
def fnOf : Lf T → Option (FuncId × List (Nat × Nat))
  | .f g cs => some (g, cs) | _ => none
def litY (e : TypeId) (ty : Ty) (ls : List (List (Lf T))) (h : Hp T) : Option (Res T) :=
  match ls with
  | [l] => bif oneS (flat T ty) then buildYF e ty l h else none
  | _ => none
/-- All operations but calls of functions, and choices. -/
def opF (P : Program) (op : Op) (env : Env T) (h : Hp T) : Option (Res T) :=
  match op with
  | .move x => (match opd env x with | some v => sure v h | none => none)
  | .assign x => (match opd env x with | some v => sure v h | none => none)
  | .alloc e => (match (zeroOf P e : Option (V T)) with | some v => sure (one (.p h.length 0)) (h ++ [.box e v.2]) | none => none)
  | .box e x => (match opV env x with | some v => sure (one (.p h.length 0)) (h ++ [.box e (v.2.map nbL)]) | none => none)
  | .build t parts => (match placesOf P t, (zeroOf P t : Option (V T)), partsOf env parts.toList with
    | some pl, some zv, some l => (match fillP pl l zv.2 with | some ls => sure (.v (true, ls)) h | none => none)
    | _, _, _ => none)
  | .buildSlice t len parts => (match P.underlying t with
    | some (.slice e) => (match tyOf P 4 e, rowI P e, partsOf env parts.toList with
      | some ty, some si, some l => bif Nat.beq si.1 (flat T ty).length && (Nat.beq l.length len && Nat.ble (len * si.1) 65536) then
        (match elts 0 l with
        | some ls => bif allLen si.1 ls then
          (match litY e ty ls h with
          | some z => some z
          | none => (match eltsOf ty ls h with
            | some z => sure (one (.g z.2.length)) (z.2 ++ [.gr e ty z.1 false])
            | none => none)) else none
        | none => none) else none
      | _, _, _ => none)
    | _ => none)
  | .load t a => (match op1 env a with | some l => (match loadF P t l h with | some v => sure (.v v) h | none => none) | none => none)
  | .store t a x => (match op1 env a, opV env x with | some l, some v => (match storeF P t l v h with | some h' => sure (.t []) h' | none => none) | _, _ => none)
  | .nilCheck x => (match op1 env x with
    | some l => (match isNil l with | some false => sure (one l) h | _ => none)
    | none => none)
  | .binOp op t x y _ => (match op1 env x, op1 env y with
    | some l, some r => (match binF (P.underlying t) op l r h with | some c => some ⟨c.p, c.i, one c.l, h⟩ | none => none)
    | _, _ => (match opV env x, opV env y with
      | some a, some b => (match eqF P op t a b with | some c => some ⟨c.p, c.i, one c.l, h⟩ | none => none)
      | _, _ => none))
  | .unOp op _ x => (match op1 env x with | some l => (match unF op l with | some r => sure (one r) h | none => none) | none => none)
  | .convert s d x => (match op1 env x with | some l => (match convF P s d l h with | some r => sure (one r) h | none => none) | none => none)
  | .makeFunc (.func f) first caps => (match first.toList, capP env caps.toList with
    | [], some cs => sure (one (.f f cs)) h
    | _, _ => none)
  | .makeSlice t l c => (match op1 env l, op1 env c with
    | some x, some y => (match isInt x, isInt y with | some a, some b => (match a.1, b.1 with | .i64, .i64 => makeF P t a.2 b.2 h | _, _ => none) | _, _ => none)
    | _, _ => none)
  | .slice t x lo hi none => (match op1 env x with | some l => sliceF P t l (lo.map (op1 env)) (hi.map (op1 env)) h | none => none)
  | .slice t x lo (some hi) (some mx) => (match op1 env x with | some l => slice3F P t l (lo.map (op1 env)) (op1 env hi) (op1 env mx) h | none => none)
  | .fieldAddr s x f => (match op1 env x with | some l => (match fieldAF P s l f with | some r => sure (one r) h | none => none) | none => none)
  | .field s x f => (match opV env x, fieldOf P s f with
    | some (true, ls), some (off, ft) => (match partL P ft ls off with | some v => sure (.v v) h | none => none)
    | _, _ => none)
  | .indexAddr t x i => (match op1 env x, op1 env i with | some l, some j => (match isInt j with | some n => indexF P t l n.2 h | none => none) | _, _ => none)
  | .index t x i => (match P.underlying t with
    | some .string => (match op1 env x, op1 env i with
      | some l, some j => (match isStr l, isInt j with
        | some s, some n => some ⟨inR n.2 s.size, decR n.2 s.size, one (int .u8 (bt s n.2)), h⟩
        | _, _ => none)
      | _, _ => none)
    | some (.array n e) => (match opV env x, op1 env i with
      | some (true, ls), some j => (match isInt j with
        | some q => (match q.2, sizeOf P e with
          | .ofNat k, some sz => bif Nat.blt k n then (match partL P e ls (k * sz) with | some v => sure (.v v) h | none => none) else none
          | _, _ => none)
        | none => none)
      | _, _ => none)
    | _ => none)
  | .makeMap t none => madeF P t h
  | .makeMap t (some y) => (match op1 env y with | some l => (match isInt l with | some _ => madeF P t h | none => none) | none => none)
  | .lookup t x i ok => (match op1 env x, op1 env i with | some l, some j => bif pooled l h then (bif ok then none else lookPF P t l j h) else (match lookF P t l j ok h with | some v => sure v h | none => none) | _, _ => none)
  | .mapUpdate t x k y => (match op1 env x, op1 env k, opV env y with | some l, some j, some v => bif pooled l h then updPF P t l j v h else (match updF P t l j v h with | some h' => sure (.t []) h' | none => none) | _, _, _ => none)
  | .entry x => (match op1 env x with | some l => entryF l h | none => none)
  | .range t x => (match op1 env x with | some l => rangeF P t l h | none => none)
  | .extract x i => (match opd env x with
    | some (.t vs) => (match nth vs i with | some v => sure (.v v) h | none => none)
    | _ => none)
  | .call c => (match c.callee with
    | .builtin b => builtF P b c.argTypes.toList env c.args.toList h
    | _ => none)
  | _ => none
def calF (tb : List (FuncId × Fx)) (c : Call) (env : Env T) (h : Hp T) : Option (Cal T) :=
  match c.callee with
  | .value f => (match op1 env f, opVs env c.args.toList with
    | some l, some vs => (match fnOf l with | some g => callF tb g.1 (vs ++ capV g.2) h | none => none)
    | _, _ => none)
  | _ => none
def Cal.tr (c : Cal T) (K : AV T → Hp T → Tr T) : Tr T :=
  .call c.key (c.vs.map fun v => .v (renV (idxN c.ids) v)) (sub c.h c.ids) (fun v g => K (renA (backN c.h.length c.ids) v) (mergeO c.h.length c.ids c.ids g c.h))
def isCal : Op → Option Call
  | .call c => (match c.callee with | .value _ => some c | _ => none)
  | _ => none
def isPick : Op → Option (Operand × Operand × Operand)
  | .pick c a b => some (c, a, b) | _ => none
/-- An index into an array that is not known: all that there are are gone through. -/
def splitOn (P : Program) (env : Env T) : Op → Option (Tmp × IntKind × Int × Nat)
  | .indexAddr t _ (.tmp i) => (match P.underlying t, op1 env (.tmp i) with
    | some (.array n _), some l => (match isInt l with | some q => bif Nat.ble n 16 then some (i, q.1, q.2, n) else none | none => none)
    | _, _ => none)
  | .index t _ (.tmp i) => (match P.underlying t, op1 env (.tmp i) with
    | some (.array n _), some l => (match isInt l with | some q => bif Nat.ble n 16 then some (i, q.1, q.2, n) else none | none => none)
    | _, _ => none)
  | _ => none
def opTr (P : Program) (o : Oper) (env : Env T) (h : Hp T) (K : AV T → Hp T → Tr T) : Tr T :=
  match opF P o.op env h with
  | some z => .ite z.p z.i (K z.v z.h) .fail
  | none => .fail
def splitTr (P : Program) (o : Oper) (env : Env T) (h : Hp T) (K : AV T → Hp T → Tr T) (i : Tmp) (k : IntKind) (x : Int) : Nat → Nat → Tr T
  | _, 0 => .fail
  | s, m + 1 => .ite (x = (s : Int)) (Int.instDecidableEq x s) (opTr P o ((i, one (int k (s : Int))) :: env) h K) (splitTr P o env h K i k x (s + 1) m)
def evOp (P : Program) (tb : List (FuncId × Fx)) (o : Oper) (env : Env T) (h : Hp T) (K : AV T → Hp T → Tr T) : Tr T :=
  match isPick o.op with
  | some x => (match op1 env x.1, opd env x.2.1, opd env x.2.2 with
    | some l, some a, some b => iteL l (K a h) (K b h)
    | _, _, _ => .fail)
  | none => match isCal o.op with
    | some c => (match calF tb c env h with | some z => z.tr K | none => .fail)
    | none => match splitOn P env o.op with
      | some q => splitTr P o env h K q.1 q.2.1 q.2.2.1 0 q.2.2.2
      | none => opTr P o env h K
def evOpN (P : Program) (tb : List (FuncId × Fx)) (o : Oper) (env : Env T) (h : Hp T) (K : AV T → Hp T → Tr T) : Tr T :=
  match isNext o.op with
  | some x => (match op1 env x with | some l => nextTr l h K | none => .fail)
  | none => evOp P tb o env h K
def yieldOf (ops : Array Oper) (env : Env T) (j : Nat) : Option (Tmp × Lf T) :=
  match nth ops.toList j with
  | some o => match o.dst with
    | some d => (match look env d with | some (.v (false, [l])) => some (d, l) | _ => none)
    | none => none
  | none => none
def leftOf (ops : Array Oper) (env : Env T) (j : Nat) : Bool :=
  match nth ops.toList j with
  | some o => match o.dst with
    | some d => (match look env d with | some (.t []) => true | _ => false)
    | none => false
  | none => false
def boolA (b : Bool) : AV T := .v (false, [.d .bool b])
def okDst (N : Nat) (dst : Option Tmp) : Bool := match dst with | some d => Nat.blt d N | none => true
def evOps (P : Program) (tb : List (FuncId × Fx)) (N : Nat) (ops : Array Oper) : List Oper → Env T → Hp T → (Env T → Hp T → Tr T) → Tr T
  | [], env, h, K => K env h
  | o :: r, env, h, K => bif okDst N o.dst then
    (match o.guard with
    | none => evOpN P tb o env h (fun v h' => evOps P tb N ops r (put env o.dst v) h' K)
    | some (j, want) => match yieldOf ops env j with
      | some (d, l) => bif want
        then iteL l (evOpN P tb o ((d, boolA true) :: env) h (fun v h' => evOps P tb N ops r (put ((d, boolA true) :: env) o.dst v) h' K))
          (evOps P tb N ops r (put ((d, boolA false) :: env) o.dst (.t [])) h K)
        else iteL l (evOps P tb N ops r (put ((d, boolA true) :: env) o.dst (.t [])) h K)
          (evOpN P tb o ((d, boolA false) :: env) h (fun v h' => evOps P tb N ops r (put ((d, boolA false) :: env) o.dst v) h' K))
      | none => bif leftOf ops env j then evOps P tb N ops r (put env o.dst (.t [])) h K else .fail) else .fail

/-! ### regions that draw their order -/
/-- What is noted of an operation: what it writes, reads, is bound behind; whether it was done, and loudly; the objects that it may meet. -/
structure Lg where
  dst : Option Tmp
  reads : List Nat
  anc : List Nat
  kind : Option Bool
  ids : List Nat
  all : List Nat
  len : Nat
def tmpsOf (op : Op) : List Nat := op.operands.toList.filterMap fun x => match x with | .tmp t => some t | _ => none
def gslot (ops : Array Oper) (g : Option (Nat × Bool)) : List Nat :=
  match g with
  | some (j, _) => (match nth ops.toList j with | some o => (match o.dst with | some d => [d] | none => []) | none => [])
  | none => []
def readsOf (ops : Array Oper) (o : Oper) : List Nat := gslot ops o.guard ++ tmpsOf o.op
/-- It looks at no object. -/
def pureOp : Op → Bool
  | .move _ | .assign _ | .pick .. | .fieldAddr .. | .field .. | .index .. | .extract .. | .binOp .. | .unOp .. | .nilCheck _ | .build .. | .makeFunc .. => true
  | .call c => (match c.callee with | .builtin .max => true | .builtin .min => true | _ => false)
  | _ => false
/-- It looks, and turns nothing. -/
def readOp (ids : List Nat) : Op → Bool
  | .load .. | .indexAddr .. | .convert .. => true
  | .slice .. => (match ids with | [] => true | _ => false)
  | .lookup .. => (match ids with | _ :: _ :: _ => false | _ => true)
  | .call c => (match c.callee with | .builtin .len => true | _ => false)
  | _ => false
def quietOp (ids : List Nat) (op : Op) : Bool := pureOp op || readOp ids op
def disN (l r : List Nat) : Bool := allN (fun i => !(memN r i)) l
def eqO (a b : Option Tmp) : Bool := match a, b with | some x, some y => Nat.beq x y | _, _ => false
def inO (a : Option Tmp) (l : List Nat) : Bool := match a with | some x => memN l x | none => false
/-- Two operations, the first at place i: their order is bound, or does not matter. -/
def okKinds (i : Nat) (x y : Lg) : Bool :=
  match x.kind, y.kind with
  | some true, some true => memN y.anc i
  | some true, some false => memN y.anc i || (disN x.ids y.ids && allN (fun k => Nat.blt k x.len) y.all)
  | some false, some true => memN y.anc i || disN x.ids y.ids
  | _, _ => true
def okPair (i : Nat) (x y : Lg) : Bool :=
  !(eqO x.dst y.dst) && ((!(inO x.dst y.reads) || memN y.anc i) && ((!(inO y.dst x.reads) || memN y.anc i) && okKinds i x y))
def okPairs (y : Lg) : Nat → List Lg → Bool
  | _, [] => true | i, x :: r => okPair i x y && okPairs y (i + 1) r
def ancA (lg : List Lg) (i : Nat) : List Nat := match nth lg i with | some x => x.anc | none => []
def addN : List Nat → List Nat → List Nat
  | [], acc => acc | x :: r, acc => bif memN acc x then addN r acc else addN r (x :: acc)
def ancOf (lg : List Lg) : List Edge → List Nat → List Nat
  | [], acc => acc
  | e :: r, acc => bif Region.binds .any e then ancOf lg r (addN (e.on :: ancA lg e.on) acc) else ancOf lg r acc
def edgesLt (j : Nat) : List Edge → Bool
  | [] => true | e :: r => (!(Region.binds .any e) || Nat.blt e.on j) && edgesLt j r
def pickE (env : Env T) : List Nat → Env T
  | [] => []
  | t :: r => match look env t with | some v => (t, v) :: pickE env r | none => pickE env r
def lgOf (ops : Array Oper) (o : Oper) (lg : List Lg) (kind : Option Bool) (ids all : List Nat) (len : Nat) : Lg := ⟨o.dst, readsOf ops o, ancOf lg o.after.toList [], kind, ids, all, len⟩
def envL (env : Env T) : List (Lf T) := env.flatMap fun x => match x.2 with | .v v => v.2 | .t vs => vs.flatMap (·.2)
def rootsD (env : Env T) (o : Oper) : List Nat := (envL (pickE env (tmpsOf o.op))).flatMap refs
def maskH (h : Hp T) : Hp T := h.map fun _ => .no
def maskB (rts : List Nat) : Nat → Hp T → Hp T
  | _, [] => []
  | i, x :: r => (bif memN rts i then x else .no) :: maskB rts (i + 1) r
/-- It looks just at what its operand stands for. -/
def loadOp : Op → Bool
  | .load .. => true | _ => false
def hD (o : Oper) (rts : List Nat) (h : Hp T) : Hp T := bif pureOp o.op then maskH h else bif loadOp o.op then maskB rts 0 h else h
def idsD (env : Env T) (h : Hp T) (o : Oper) : List Nat := reach (hD o (rootsD env o) h) 1000 (rootsD env o) []
def lidD (o : Oper) (rts ids : List Nat) : List Nat := bif pureOp o.op then [] else bif loadOp o.op then rts else ids
def renE (f : Nat → Nat) (e : Env T) : Env T := e.map fun x => (x.1, renA f x.2)
/-- Is the slot appended to in this region? -/
def usedOwn (d : Nat) : List Oper → Bool
  | [] => false
  | o :: r => (match o.op with
    | .call c => (match c.callee, c.args.toList with | .builtin .append, .tmp t :: _ => Nat.beq t d | _, _ => false)
    | .assign (.tmp t) => Nat.beq t d
    | _ => false) || usedOwn d r
/-- A slice is made of data, and handed on as data. -/
def softOp (ops : Array Oper) (o : Oper) (ids : List Nat) : Bool :=
  match ids with
  | [] => (match o.op, o.dst with | .buildSlice .., some d => !(usedOwn d ops.toList) | _, _ => false)
  | _ => false
def softV (v : AV T) (g : Hp T) : Option (AV T) :=
  match v with
  | .v (false, [.g i]) => (match nth g i with
    | some (.gr e t _ _) => (match coL (.d (.sl e t)) (.g i) g with | some z => some (one z.1) | none => none)
    | _ => none)
  | _ => none
def lgD (ops : Array Oper) (o : Oper) (lg : List Lg) (rts ids : List Nat) (len : Nat) : Lg := lgOf ops o lg (some (!(softOp ops o ids || quietOp ids o.op))) (lidD o rts ids) ids len
def inE (o : Oper) (env : Env T) (ids : List Nat) : Env T := renE (idxN ids) (pickE env (tmpsOf o.op))
/-- Allocs that nothing binds, in a region that calls: their boxes are numbered ahead of it. -/
def unbound : List Edge → Bool
  | [] => true | e :: r => !(Region.binds .any e) && unbound r
def anyCall : List Oper → Bool
  | [] => false
  | o :: r => (match o.op with | .call c => (match c.callee with | .builtin .len => false | .builtin .max => false | .builtin .min => false | _ => true) | .buildSlice .. => true | _ => false) || anyCall r
def faB (P : Program) (o : Oper) : Option (Ob T) :=
  match o.guard with
  | none => (match o.op with
    | .alloc e => bif unbound o.after.toList then (match (zeroOf P e : Option (V T)) with | some v => some (.box e v.2) | none => none) else none
    | _ => none)
  | some _ => none
def faL (P : Program) : Nat → List Oper → List (Option (Ob T) × Nat)
  | _, [] => []
  | n, o :: r => match (faB P o : Option (Ob T)) with | some b => (some b, n) :: faL P (n + 1) r | none => (none, 0) :: faL P n r
def faOf (P : Program) (ops : Array Oper) (n : Nat) : List (Option (Ob T) × Nat) := bif anyCall ops.toList then faL P n ops.toList else []
def faH : List (Option (Ob T) × Nat) → Hp T
  | [] => [] | (some b, _) :: r => b :: faH r | (none, _) :: r => faH r
def faAt (fas : List (Option (Ob T) × Nat)) (i : Nat) : Option Nat := match nth fas i with | some (some _, id) => some id | _ => none
def faOk (ids anc : List Nat) : Nat → List (Option (Ob T) × Nat) → Bool
  | _, [] => true
  | j, (some _, id) :: r => (!(memN ids id) || memN anc j) && faOk ids anc (j + 1) r
  | j, (none, _) :: r => faOk ids anc (j + 1) r
def doD (P : Program) (tb : List (FuncId × Fx)) (ops : Array Oper) (fas : List (Option (Ob T) × Nat)) (o : Oper) (lg : List Lg) (env : Env T) (h : Hp T) (K : AV T → Hp T → Lg → Tr T) : Tr T :=
  bif okIds 0 (hD o (rootsD env o) h) (idsD env h o) (rootsD env o) && (okPairs (lgD ops o lg (rootsD env o) (idsD env h o) h.length) 0 lg && faOk (idsD env h o) (ancOf lg o.after.toList []) 0 fas) then
    bif softOp ops o (idsD env h o) then evOp P tb o (inE o env (idsD env h o)) (sub (hD o (rootsD env o) h) (idsD env h o)) (fun v g => match softV v g with | some v2 => K v2 h (lgD ops o lg (rootsD env o) (idsD env h o) h.length) | none => .fail)
    else evOp P tb o (inE o env (idsD env h o)) (sub (hD o (rootsD env o) h) (idsD env h o)) (fun v g =>
      K (renA (backN h.length (idsD env h o)) v) (bif quietOp (idsD env h o) o.op then h else mergeO h.length (idsD env h o) (idsD env h o) g h) (lgD ops o lg (rootsD env o) (idsD env h o) h.length))
  else .fail
def faD (ops : Array Oper) (id : Nat) (o : Oper) (lg : List Lg) (h : Hp T) (K : AV T → Hp T → Lg → Tr T) : Tr T :=
  bif okPairs (lgOf ops o lg (some false) [] [] 0) 0 lg then K (one (.p id 0)) h (lgOf ops o lg (some false) [] [] 0) else .fail
def leftD (ops : Array Oper) (o : Oper) (lg : List Lg) (K : Lg → Tr T) : Tr T :=
  bif okPairs (lgOf ops o lg none [] [] 0) 0 lg then K (lgOf ops o lg none [] [] 0) else .fail
def evD (P : Program) (tb : List (FuncId × Fx)) (N : Nat) (ops : Array Oper) (fas : List (Option (Ob T) × Nat)) : List Oper → Env T → Hp T → List Lg → (Env T → Hp T → Tr T) → Tr T
  | [], env, h, _, K => K env h
  | o :: r, env, h, lg, K => bif okDst N o.dst && edgesLt lg.length o.after.toList then
    (match o.guard with
    | none => (match faAt fas lg.length with
      | some id => faD ops id o lg h (fun v h' y => evD P tb N ops fas r (put env o.dst v) h' (lg ++ [y]) K)
      | none => doD P tb ops fas o lg env h (fun v h' y => evD P tb N ops fas r (put env o.dst v) h' (lg ++ [y]) K))
    | some (j, want) => match yieldOf ops env j with
      | some (d, l) => bif want
        then iteL l (doD P tb ops fas o lg ((d, boolA true) :: env) h (fun v h' y => evD P tb N ops fas r (put ((d, boolA true) :: env) o.dst v) h' (lg ++ [y]) K))
          (leftD ops o lg (fun y => evD P tb N ops fas r (put ((d, boolA false) :: env) o.dst (.t [])) h (lg ++ [y]) K))
        else iteL l (leftD ops o lg (fun y => evD P tb N ops fas r (put ((d, boolA true) :: env) o.dst (.t [])) h (lg ++ [y]) K))
          (doD P tb ops fas o lg ((d, boolA false) :: env) h (fun v h' y => evD P tb N ops fas r (put ((d, boolA false) :: env) o.dst v) h' (lg ++ [y]) K))
      | none => bif leftOf ops env j then leftD ops o lg (fun y => evD P tb N ops fas r (put env o.dst (.t [])) h (lg ++ [y]) K) else .fail) else .fail

/-- Slots whose slices are cut in the region: they are made data ahead of it. -/
def movesTo (a : Nat) : List Oper → List Nat
  | [] => []
  | o :: r => (match o.op, o.dst with | .move (.tmp b), some d => (bif Nat.beq d a then [b] else []) | _, _ => []) ++ movesTo a r
def preT (all : List Oper) : List Oper → List Nat
  | [] => []
  | o :: r => (match o.op with | .slice _ (.tmp a) _ _ _ => a :: movesTo a all | _ => []) ++ preT all r
def preD (env : Env T) (h : Hp T) : List Nat → Env T × Hp T
  | [] => (env, h)
  | t :: r => match look env t with
    | some (.v (false, [.g i])) => (match nth h i with
      | some (.gr e ty _ _) => (match coL (.d (.sl e ty)) (.g i) h with
        | some z => preD ((t, one z.1) :: env) z.2 r
        | none => preD env h r)
      | _ => preD env h r)
    | _ => preD env h r
/-- Slots that stay slices of one's own: named at a key of their own among the cuts. -/
def keptT : List (Nat × Cut) → List Nat
  | [] => []
  | x :: r => bif Nat.beq x.1 2000000 then x.2.tmps.map (·.1) else keptT r
def preK (fx : Fx) (ops : Array Oper) : List Nat := (preT ops.toList ops.toList).filter fun t => !(memN (keptT fx.cuts) t)
def drawT (P : Program) (tb : List (FuncId × Fx)) (N : Nat) (fx : Fx) (ops : Array Oper) (env : Env T) (h : Hp T) (K : Env T → Hp T → Tr T) : Tr T :=
  bif P.follows .mixedOrders then evD P tb N ops (faOf P ops (preD env h (preK fx ops)).2.length) ops.toList (preD env h (preK fx ops)).1 ((preD env h (preK fx ops)).2 ++ faH (faOf P ops (preD env h (preK fx ops)).2.length)) [] K else .fail

/-- Pools that came in are numbered anew: their old numbers are no one's. -/
def retP (i n : Nat) : Ob T → Ob T
  | .mp mt k v x (some po) => bif Nat.beq po.1 i then .mp mt k v x (some (n, po.2)) else .mp mt k v x (some po)
  | o => o
def moveP1 (h : Hp T) (i : Nat) : Hp T := match nth h i with | some (.po e t) => (setO h i .no).map (retP i h.length) ++ [.po e t] | _ => h
def moveP : Nat → Hp T → Hp T
  | 0, h => h | n + 1, h => moveP1 (moveP n h) n

/-! ### cuts and ends -/
def coEnv (env : Env T) : List (Nat × List Sp) → Hp T → Option (Env T × Hp T)
  | [], h => some ([], h)
  | x :: r, h => match look env x.1 with
    | some (.v v) => match coLs x.2 v.2 h with
      | some z => match coEnv env r z.2 with | some z' => some ((x.1, .v (v.1, z.1)) :: z'.1, z'.2) | none => none
      | none => none
    | _ => none
def coObs : Nat → List (List Sp) → Hp T → Option (Hp T)
  | _, [], h => some h
  | n, s :: r, h => match nth h n with
    | some (.box tid ls) => match coLs s ls h with
      | some z => (match nth z.2 n with
        | some (.box _ _) => coObs (n + 1) r (setO z.2 n (.box tid z.1))
        | _ => none)
      | none => none
    | some _ => coObs (n + 1) r h
    | none => some h
def restrict (m0 : Nat) (c : Cut) (env : Env T) (h : Hp T) : Option (Env T × Hp T) :=
  match coEnv env c.tmps h with
  | some (env1, h0) =>
    let h1 := moveP m0 h0
    let roots := rng m0 ++ (envL env1).flatMap refs
    let ids := reach h1 1000 roots []
    bif okIds m0 h1 ids roots then
      (match coObs 0 c.obs (sub h1 ids) with
      | some h2 => some (env1.map (fun x => (x.1, renA (idxN ids) x.2)), h2)
      | none => none) else none
  | none => none
def firstId : Code → Nat
  | .region id _ _ => id
  | .seq a _ => firstId a
  | .block _ c => firstId c
  | .loop c => firstId c
  | .scope c => firstId c
  | _ => 0
def cutOf (cuts : List (Nat × Cut)) (k : Nat) : Option Cut :=
  match cuts with
  | [] => none
  | x :: r => bif Nat.beq x.1 k then some x.2 else cutOf r k
def popTo (id : Nat) : List It → Option (List It)
  | .bl id' :: k => bif Nat.beq id' id then some k else popTo id k
  | _ :: k => popTo id k
  | [] => none
def resV (P : Program) (env : Env T) (h : Hp T) : List ResultVar → Option (List (V T))
  | [] => some []
  | .tmp t :: r => match look env t with
    | some (.v v) => (match resV P env h r with | some l => some (v :: l) | none => none)
    | _ => none
  | .cell a t :: r => match look env a with
    | some (.v (false, [.p i off])) => (match nth h i with
      | some (.box _ ls) => (match partL P t ls off with
        | some v => (match resV P env h r with | some l => some (v :: l) | none => none)
        | none => none)
      | _ => none)
    | _ => none
/-- Objects that came in and are of no shape as they go out. -/
def forget : List OS → Hp T → Hp T
  | [], h => h
  | _ :: _, [] => []
  | .no :: ss, _ :: h => .no :: forget ss h
  | _ :: ss, o :: h => o :: forget ss h
/-- What is answered is not forgotten. -/
def keepS (used : List Nat) : Nat → List OS → List OS
  | _, [] => []
  | i, s :: r => (bif used.any (Nat.beq i) then .box 0 [] else s) :: keepS used (i + 1) r
def evEnd (P : Program) (fn : Func) (fx : Fx) (env : Env T) (h : Hp T) : Tr T :=
  match resV P env h fn.results.toList with
  | some vs => match coVs fx.out vs h with
    | some (vs', h1) =>
      let h' := forget (keepS (vs'.flatMap fun v => v.2.flatMap refs) 0 (fx.hout.take fx.hin.length)) (moveP fx.hin.length h1)
      let roots := rng fx.hin.length ++ vs'.flatMap fun v => v.2.flatMap refs
      let ids := reach h' 1000 roots []
      bif okIds fx.hin.length h' ids roots then
        .done (avOut (vs'.map (renV (idxN ids)))) (sub h' ids) else .fail
    | none => .fail
  | none => .fail
def cutTr (fx : Fx) (key : Nat) (todo : List It) (env : Env T) (h : Hp T) : Tr T :=
  match cutOf fx.cuts key with
  | some c => match restrict fx.hin.length c env h with
    | some (env', h') => .cut ⟨todo, env', h'⟩
    | none => .fail
  | none => .fail
/-- How many loops begin there. -/
def firstL : Code → Nat
  | .seq a _ => firstL a
  | .block _ c => firstL c
  | .loop c => firstL c + 1
  | .scope c => firstL c
  | _ => 0
def loopKey (c : Code) : Nat := 1000000 + 100000 * firstL c + firstId c
def evT (P : Program) (tb : List (FuncId × Fx)) (fn : Func) (fx : Fx) : Nat → List It → Env T → Hp T → Tr T
  | 0, _, _, _ => .fail
  | _ + 1, [], env, h => evEnd P fn fx env h
  | n + 1, .bl _ :: k, env, h => evT P tb fn fx n k env h
  | _ + 1, .lp b :: k, env, h => cutTr fx (loopKey b) (.c b :: .lp b :: k) env h
  | n + 1, .c c :: k, env, h => match c with
    | .skip => evT P tb fn fx n k env h
    | .seq a b => evT P tb fn fx n (.c a :: .c b :: k) env h
    | .cond x a b => match op1 env x with
      | some l => condL l (evT P tb fn fx n (.c a :: k) env h) (evT P tb fn fx n (.c b :: k) env h)
      | none => .fail
    | .block id b => evT P tb fn fx n (.c b :: .bl id :: k) env h
    | .loop b => cutTr fx (loopKey b) (.c b :: .lp b :: k) env h
    | .exit id => match popTo id k with | some k' => evT P tb fn fx n k' env h | none => .fail
    | .ret => evEnd P fn fx env h
    | .region id ops draw => match cutOf fx.cuts id with
      | some _ => cutTr fx id (.c (.region id ops draw) :: k) env h
      | none => bif draw then drawT P tb fn.ntmps fx ops env h (fun env' h' => evT P tb fn fx n k env' h')
        else evOps P tb fn.ntmps ops ops.toList env h (fun env' h' => evT P tb fn fx n k env' h')
    | _ => .fail
/-- A state's own step: its first item is not cut. -/
def ev (P : Program) (tb : List (FuncId × Fx)) (fn : Func) (fx : Fx) (s : St T) : Tr T :=
  match s.todo with
  | .c (.region id ops draw) :: k => bif draw then drawT P tb fn.ntmps fx ops s.env s.h (fun env' h' => evT P tb fn fx 10000 k env' h')
    else evOps P tb fn.ntmps ops ops.toList s.env s.h (fun env' h' => evT P tb fn fx 10000 k env' h')
  | k => evT P tb fn fx 10000 k s.env s.h
end
end Go.Proofs.Ytfojcadooepgpaa.Rx
