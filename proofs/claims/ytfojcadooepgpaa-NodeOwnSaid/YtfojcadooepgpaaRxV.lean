/- A plain evaluator over the translated code: the operations on values. Under no condition. -/
import Derived.Test.YtfojcadooepgpaaRxU
import Derived.Laws.StructEq
import Derived.Laws.BytesString
import Derived.Laws.Bits
set_option linter.unusedVariables false
set_option linter.unusedSimpArgs false
namespace Go.Proofs.Ytfojcadooepgpaa.Rx
open Go Go.RowKit

section
variable {T : Tab} {m m' : Nat → Value} {X X' : Nat → Nat → Prop} {n n' : Nat} {w w' : World} {P : Program} {h h' : Hp T}

theorem isInt_some {l : Lf T} {a : IntKind × Int} (hl : isInt l = some a) : l = .d (.int a.1) a.2 := by
  unfold isInt at hl
  split at hl
  · cases hl; rfl
  · cases hl
theorem isStr_some {l : Lf T} {s : ByteArray} (hl : isStr l = some s) : l = .d .str s := by
  unfold isStr at hl
  split at hl
  · cases hl; rfl
  · cases hl
theorem lf_int {k : IntKind} {a : Int} {v : Value} (hl : LfR m X n w (.d (.int k) a : Lf T) v) : v = .int k a := RD.inv hl
theorem lf_str {s : ByteArray} {v : Value} (hl : LfR m X n w (.d .str s : Lf T) v) : v = .string s := RD.inv hl
theorem lf_mkInt (k : IntKind) (a : Int) : LfR m X n w (int k a : Lf T) (.int k a) := RD.int k a
theorem asB_some {l : Lf T} {b : Bool} (hl : asB l = some b) {v : Value} (hv : LfR m X n w l v) : v = .bool b := by
  unfold asB at hl
  split at hl
  · cases hl; exact RD.inv hv
  · cases hl; exact hv
  · cases hl
theorem bytesLess_or (x y : List UInt8) : (Op.bytesLess x y || (x == y)) = !(Op.bytesLess y x) := by
  induction x generalizing y with
  | nil => cases y with
    | nil => rfl
    | cons b y => simp [Op.bytesLess]
  | cons a x ih => cases y with
    | nil => simp [Op.bytesLess]
    | cons b y =>
      simp only [Op.bytesLess, List.cons_beq_cons]
      have := ih y
      by_cases h1 : a < b
      · have h2 : ¬ b < a := by simp only [UInt8.lt_iff_toNat_lt] at *; omega
        have h3 : ¬ b = a := by rintro rfl; exact h2 h1
        simp [h1, h2, h3]
      · by_cases h2 : b < a
        · have h3 : ¬ a = b := by rintro rfl; exact h1 h2
          simp [h1, h2, h3]
        · have h3 : a = b := by
            apply UInt8.toNat_inj.1
            simp only [UInt8.lt_iff_toNat_lt] at *
            omega
          subst h3
          simpa [h1] using this
theorem beqL (a b : ByteArray) : (a.toList == b.toList) = decide (a = b) := by
  rw [← beq_toListBytes]
  rw [Bool.eq_iff_iff]
  simp only [decide_eq_true_eq]
  obtain ⟨⟨x⟩⟩ := a
  obtain ⟨⟨y⟩⟩ := b
  show ((⟨x⟩ : Array UInt8) == ⟨y⟩) = true ↔ _
  simp
theorem run_eq_nil (d : Nat) (t e : TypeId) (hu : P.underlying t = some (.pointer e)) (B : Option Addr) (w : World) : (Op.equalIn (d + 1) t (.pointer none) (.pointer B)).run P w = .ok B.isNone w := by
  simp [Op.equalIn, run_underlying hu]
theorem run_eq_nil2 (d : Nat) (t e : TypeId) (hu : P.underlying t = some (.pointer e)) (A : Addr) (w : World) : (Op.equalIn (d + 1) t (.pointer (some A)) (.pointer none)).run P w = .ok false w := by
  simp [Op.equalIn, run_underlying hu]
theorem decT (b : Bool) : @decide (b = true) (instDecidableEqBool b true) = b := by cases b <;> rfl
theorem decF (b : Bool) : @decide (b = false) (instDecidableEqBool b false) = !b := by cases b <;> rfl
theorem run_eq_sl (d : Nat) (t e : TypeId) (hu : P.underlying t = some (.slice e)) (A : Option Addr) (k c : Nat) (w : World) : (Op.equalIn (d + 1) t (.slice A k c) (.slice none 0 0)).run P w = .ok A.isNone w := by
  cases A <;> simp [Op.equalIn, run_underlying hu]
theorem slLen_ok {h : Hp T} (hr : Rel T m X h w) {l : Lf T} {k : Nat} {v : Value} (hk : slLen l h = some k) (hv : LfR m X h.length w l v) : ∃ A c, v = .slice A k c ∧ (A = none → k = 0) := by
  unfold slLen at hk
  split at hk
  · rename_i e t xs
    cases hk
    have hsl : SlInv T w X t xs v := RD.inv hv
    obtain ⟨A, c, h1, _, h3⟩ := hsl
    refine ⟨A, c, h1, fun h4 => ?_⟩
    rcases h3 with h3 | ⟨b, o, h3, _⟩
    · exact h3
    · rw [h3] at h4; cases h4
  · cases hk
    exact ⟨none, 0, hv, fun _ => rfl⟩
  · rename_i i
    split at hk
    · rename_i e t xs sh ho
      rw [nth_eq] at ho
      cases hk
      obtain ⟨vs, hown, _⟩ := gr_cells hr ho
      have h1 := hv.2.1
      rcases hown.2 with ⟨h2, h3⟩ | ⟨g, cap, cur, h2, _⟩
      · exact ⟨none, 0, by rw [h1, h2, h3], fun _ => h3⟩
      · exact ⟨_, _, by rw [h1, h2], fun h4 => by cases h4⟩
    · cases hk
  · cases hk
set_option maxHeartbeats 1000000 in
theorem bin_ok {h : Hp T} (hr : Rel T m X h w) {t : TypeId} {op : BinOp} {l r : Lf T} {c : CL T} (hb : binF (P.underlying t) op l r h = some c) (hp : c.p) {x y : Value} (hx : LfR m X h.length w l x) (hy : LfR m X h.length w r y) (xo yo : Operand) :
    ∃ rv, (do eqGuard op t xo yo x y; binOp op t x y : Sem Value).run P w = .ok rv w ∧ LfR m X h.length w c.l rv := by
  unfold binF at hb
  split at hb
  · rename_i a b ha hb'
    have := isInt_some ha
    subst this
    have := isInt_some hb'
    subst this
    rw [lf_int hx, lf_int hy]
    obtain ⟨k, a⟩ := a
    obtain ⟨k', b⟩ := b
    have hg : (eqGuard op t xo yo (.int k a) (.int k' b)).run P w = .ok () w := by cases op <;> simp [eqGuard]
    simp only [Sem.run_bind, hg, Result.andThen_ok]
    cases hsh : isSh op with
    | true =>
      rw [hsh] at hb
      simp only [cond_true] at hb
      cases op <;> simp only [isSh] at hsh <;> first | (cases hsh; done) | skip
      · simp only [shI, Option.some.injEq] at hb
        subst hb
        have hp' : 0 ≤ b := hp
        refine ⟨_, ?_, lf_mkInt _ _⟩
        simp [binOp, Op.shift, show ¬ b < 0 by omega, shlR]
      · simp only [shI, Option.some.injEq] at hb
        subst hb
        have hp' : 0 ≤ b := hp
        refine ⟨_, ?_, lf_mkInt _ _⟩
        simp [binOp, Op.shift, show ¬ b < 0 by omega, shrR]
    | false =>
      rw [hsh] at hb
      simp only [cond_false] at hb
      split at hb
      · rename_i hk _
        simp only at hk
        subst hk
        cases op <;> simp only [isSh] at hsh <;> first | (cases hsh; done) | skip
        all_goals simp only [binI, cmpI, cl, Option.some.injEq] at hb
        all_goals first | (cases hb; done) | skip
        all_goals subst hb
        all_goals first
          | (refine ⟨_, ?_, lf_mkInt _ _⟩; simp [binOp, Op.intArith, Op.intBits, bitsR]; done)
          | (refine ⟨_, ?_, lf_mkInt _ _⟩; simp [binOp, Op.intDiv, show ¬ b = 0 from hp]; done)
          | (refine ⟨_, ?_, rfl⟩; simp [binOp, Op.intCmp]; done)
          | (refine ⟨_, ?_, rfl⟩; simp [binOp, Op.intCmp]; rw [Bool.eq_iff_iff]; simp; done)
      · cases hb
  · split at hb
    · rename_i a b ha hb'
      have := isStr_some ha
      subst this
      have := isStr_some hb'
      subst this
      rw [lf_str hx, lf_str hy]
      have hg : (eqGuard op t xo yo (.string a) (.string b)).run P w = .ok () w := by cases op <;> simp [eqGuard]
      simp only [Sem.run_bind, hg, Result.andThen_ok]
      have h1 := bytesLess_or a.toList b.toList
      have h2 := beqL a b
      cases op
      all_goals simp only [binS, cl, Option.some.injEq] at hb
      all_goals first | (cases hb; done) | skip
      all_goals subst hb
      · have hp' : a.size + b.size ≤ 9223372036854775807 := hp
        refine ⟨_, ?_, RD.str _⟩
        have : ¬ (IntKind.i64.max < ((a.size : Int) + (b.size : Int))) := by
          have : IntKind.i64.max = 9223372036854775807 := by decide
          omega
        simp [binOp, Op.stringOp, this]
        omega
      · refine ⟨_, ?_, rfl⟩; simp [binOp, Op.stringOp, h2]
      · refine ⟨_, ?_, rfl⟩; simp [binOp, Op.stringOp, h2]
      · refine ⟨.bool (sLt a b), by simp [binOp, Op.stringOp, sLt], ?_⟩; show Value.bool _ = Value.bool _; rw [decT]
      · refine ⟨.bool (!(sLt b a)), by simp [binOp, Op.stringOp, sLt, h1], ?_⟩; show Value.bool _ = Value.bool _; rw [decF]
      · refine ⟨.bool (sLt b a), by simp [binOp, Op.stringOp, sLt, h1], ?_⟩; show Value.bool _ = Value.bool _; rw [decT]
      · refine ⟨.bool (!(sLt a b)), by simp [binOp, Op.stringOp, sLt], ?_⟩; show Value.bool _ = Value.bool _; rw [decF]
    · unfold binE at hb
      split at hb
      · rename_i hu
        unfold binB at hb
        split at hb
        · rename_i a b ha hb'
          rw [asB_some ha hx, asB_some hb' hy]
          have hg : (eqGuard op t xo yo (.bool a) (.bool b)).run P w = .ok () w := by cases op <;> simp [eqGuard]
          simp only [Sem.run_bind, hg, Result.andThen_ok]
          cases op <;> simp only [cl, Option.some.injEq] at hb <;> first | (cases hb; done) | skip
          all_goals subst hb
          all_goals refine ⟨_, ?_, RD.bool _⟩
          all_goals simp [binOp, Op.equal, Op.maxDepth, run_equalIn_bool' (P := P) w 9999 t a b hu]
        · cases hb
      · rename_i e hu
        have hnil : ∀ {l : Lf T} {b : Bool} {v : Value}, isNil l = some b → LfR m X h.length w l v → ∃ A, v = .pointer A ∧ A.isNone = b := by
          intro l b v hl hv
          unfold isNil at hl
          split at hl <;> cases hl
          · exact ⟨none, hv, rfl⟩
          · obtain ⟨_, q, _, rfl⟩ := hv; exact ⟨_, rfl, rfl⟩
          · obtain ⟨_, q, _, _, _, _, _, rfl⟩ := hv; exact ⟨_, rfl, rfl⟩
          · obtain ⟨q, p, rfl, _⟩ := hv; exact ⟨_, rfl, rfl⟩
        unfold binN at hb
        split at hb
        · rename_i b h1 h2
          obtain ⟨A, rfl, hA⟩ := hnil h1 hx
          obtain ⟨B, rfl, hB⟩ := hnil h2 hy
          have hA' : A = none := by cases A <;> first | rfl | cases hA
          subst hA'
          have hg : (eqGuard op t xo yo (.pointer none) (.pointer B)).run P w = .ok () w := by cases op <;> simp [eqGuard]
          simp only [Sem.run_bind, hg, Result.andThen_ok]
          cases op <;> simp only [cl, Option.some.injEq] at hb <;> first | (cases hb; done) | skip
          all_goals subst hb
          all_goals refine ⟨_, ?_, RD.bool _⟩
          all_goals simp [binOp, Op.equal, Op.maxDepth, run_eq_nil 9999 t e hu B w, hB]
        · rename_i h1 h2
          obtain ⟨A, rfl, hA⟩ := hnil h1 hx
          obtain ⟨B, rfl, hB⟩ := hnil h2 hy
          have hB' : B = none := by cases B <;> first | rfl | cases hB
          subst hB'
          obtain ⟨A, rfl⟩ : ∃ A', A = some A' := by cases A <;> first | exact ⟨_, rfl⟩ | cases hA
          have hg : (eqGuard op t xo yo (.pointer (some A)) (.pointer none)).run P w = .ok () w := by cases op <;> simp [eqGuard]
          simp only [Sem.run_bind, hg, Result.andThen_ok]
          cases op <;> simp only [cl, Option.some.injEq] at hb <;> first | (cases hb; done) | skip
          all_goals subst hb
          all_goals refine ⟨_, ?_, RD.bool _⟩
          all_goals simp [binOp, Op.equal, Op.maxDepth, run_eq_nil2 9999 t e hu A w]
        · cases hb
      · rename_i e hu
        unfold binW at hb
        split at hb
        · rename_i k hk _ _
          obtain ⟨A, cc, rfl, hA⟩ := slLen_ok hr hk hx
          rw [show y = .slice none 0 0 from hy]
          have hg : (eqGuard op t xo yo (.slice A k cc) (.slice none 0 0)).run P w = .ok () w := by cases op <;> simp [eqGuard]
          simp only [Sem.run_bind, hg, Result.andThen_ok]
          cases op <;> simp only [cl, Option.some.injEq] at hb <;> first | (cases hb; done) | skip
          · subst hb
            refine ⟨.bool A.isNone, ?_, A.isNone, rfl, fun h1 => hA (by simpa using h1)⟩
            simp [binOp, Op.equal, Op.maxDepth, run_eq_sl 9999 t e hu A k cc w]
          · subst hb
            refine ⟨.bool (!A.isNone), ?_, !A.isNone, rfl, fun h1 => hA (by simpa using h1)⟩
            simp [binOp, Op.equal, Op.maxDepth, run_eq_sl 9999 t e hu A k cc w]
        · cases hb
      · cases hb
theorem un_ok {op : UnOp} {l r : Lf T} (hb : unF op l = some r) {x : Value} (hx : LfR m X n w l x) : ∃ rv, (Op.unary op x).run P w = .ok rv w ∧ LfR m X n w r rv := by
  unfold unF at hb
  split at hb
  · split at hb
    · rename_i p i
      cases hb
      rw [show x = _ from hx]
      refine ⟨.bool (!(@decide p i)), by simp [Op.unary], ?_⟩
      show Value.bool _ = Value.bool _
      simp
    · rename_i b
      cases hb
      rw [show x = Value.bool b from RD.inv hx]
      exact ⟨.bool (!b), by simp [Op.unary], RD.bool _⟩
    · cases hb
  · split at hb
    · rename_i a ha
      cases hb
      have := isInt_some ha
      subst this
      rw [lf_int hx]
      exact ⟨.int a.1 (negR a.1 a.2), by simp [Op.unary, Op.intArith, negR], lf_mkInt _ _⟩
    · cases hb
  · split at hb
    · rename_i a ha
      cases hb
      have := isInt_some ha
      subst this
      rw [lf_int hx]
      exact ⟨.int a.1 (bitsR .xor a.1 (if a.1.signed then -1 else a.1.max) a.2), by simp [Op.unary, Op.intBits, bitsR], lf_mkInt _ _⟩
    · cases hb
  · cases hb
end
end Go.Proofs.Ytfojcadooepgpaa.Rx
