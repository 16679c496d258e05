/- Whether a term may be: how many parts, how deep, its shape. Under no condition. -/
import Derived.Test.YtopfdggagijdkaaTreeS
set_option linter.unusedVariables false
set_option linter.unusedSimpArgs false
namespace Go.Proofs.Ytopfdggagijdkaa.Pure
open Go.RowKit Go.Proofs.Ytopfdggagijdkaa.F Go.Proofs.Ytopfdggagijdkaa.Open Go.Proofs.Ytopfdggagijdkaa.Aid Go.Proofs.YtopfdggagijdkaaW.PrintWords Go.Proofs.YtopfdggagijdkaaW.PrintLast Go.Proofs.YtopfdggagijdkaaW.PrintMore

mutual
def parts : S25 → Nat
  | ⟨_, _, _, l⟩ => 1 + partsL l
def partsL : List S25 → Nat
  | [] => 0
  | x :: t => parts x + partsL t
end
mutual
def depth : S25 → Nat
  | ⟨_, _, _, l⟩ => 1 + depthL l
def depthL : List S25 → Nat
  | [] => 0
  | x :: t => max (depth x) (depthL t)
end
/-- The shape of a term by itself. -/
def one (n f : Int) (s : ByteArray) (len : Nat) : Bool :=
  if n = 1 ∨ n = 3 then decide (bytesOf s = [] ∧ len = 0) else if n = 2 then decide (f = 0 ∧ s.size ≤ 4000 ∧ len = 0) else if n = 4 then decide (bytesOf s = [] ∧ len = 1) else if n = 5 then decide (f = 0 ∧ bytesOf s = []) else false
mutual
def shp : S25 → Bool
  | ⟨n, f, s, l⟩ => one n f s l.length && shpL l
def shpL : List S25 → Bool
  | [] => true
  | x :: t => shp x && shpL t
end
theorem beqd (a b : Int) : (a == b) = decide (a = b) := by rw [Bool.eq_iff_iff, beq_iff_eq, decide_eq_true_eq]
theorem parts_eq (x : S25) : parts x = 1 + partsL x.f3 := by cases x; rw [parts]
theorem depth_eq (x : S25) : depth x = 1 + depthL x.f3 := by cases x; rw [depth]
theorem shp_eq (x : S25) : shp x = (one x.f0 x.f1 x.f2 x.f3.length && shpL x.f3) := by cases x; rw [shp]
theorem parts_pos (x : S25) : 1 ≤ parts x := by rw [parts_eq]; omega
theorem depth_pos (x : S25) : 1 ≤ depth x := by rw [depth_eq]; omega
def rightT (x : S25) : Int := if 4000 < parts x then 23 else if 12 < depth x then 22 else if shp x = true then 0 else 25

theorem right_is {x : S25} (hr : rightT x = 0) : parts x ≤ 4000 ∧ depth x ≤ 12 ∧ shp x = true := by
  unfold rightT at hr
  split at hr
  · simp at hr
  · split at hr
    · simp at hr
    · split at hr
      · rename_i c1 c2 c3
        exact ⟨by omega, by omega, c3⟩
      · simp at hr

end Go.Proofs.Ytopfdggagijdkaa.Pure
