/- The bytes of a term. Under no condition. -/
import Derived.Test.YtopfdggagijdkaaNum2
import Derived.Test.YtopfdggagijdkaaRightS
set_option linter.unusedVariables false
set_option linter.unusedSimpArgs false
namespace Go.Proofs.Ytopfdggagijdkaa.Pure
open Go.RowKit Go.Proofs.Ytopfdggagijdkaa.F Go.Proofs.Ytopfdggagijdkaa.Open Go.Proofs.Ytopfdggagijdkaa.Aid Go.Proofs.YtopfdggagijdkaaW.PrintWords Go.Proofs.YtopfdggagijdkaaW.PrintLast Go.Proofs.YtopfdggagijdkaaW.PrintMore

/-- The first bytes of a term: its sort, and the number behind it, and an atom's own bytes. -/
def hd (n f : Int) (s : ByteArray) (len : Nat) : List Int :=
  (n % 256) :: (if n = 1 ∨ n = 3 ∨ n = 4 then putN f.toNat else if n = 2 then putN s.size ++ bytesOf s else if n = 5 then putN len else [])
mutual
def encT : S25 → List Int
  | ⟨n, f, s, l⟩ => hd n f s l.length ++ encL l
def encL : List S25 → List Int
  | [] => []
  | x :: t => encT x ++ encL t
end
theorem encT_eq (x : S25) : encT x = hd x.f0 x.f1 x.f2 x.f3.length ++ encL x.f3 := by cases x; rw [encT]
theorem hd_B (n f : Int) (s : ByteArray) (len : Nat) : AllB (hd n f s len) := by
  unfold hd
  refine AllB.cons (by omega) ?_
  split
  · exact putN_B _
  · split
    · exact (putN_B _).app (AllB.of_bytes s)
    · split
      · exact putN_B _
      · exact AllB.nil
theorem encL_B (l : List S25) (ih : ∀ y ∈ l, AllB (encT y)) : AllB (encL l) := by
  induction l with
  | nil => rw [encL]; exact AllB.nil
  | cons x t iht =>
    rw [encL]
    exact (ih x (by simp)).app (iht (fun y hy => ih y (by simp [hy])))
theorem encT_B {x : S25} (h : ok25 x) : AllB (encT x) := by
  induction h with
  | @mk x h0 h1 h2 h3 h4 h5 ih =>
    rw [encT_eq]
    exact (hd_B _ _ _ _).app (encL_B _ ih)
theorem hd_len {n f : Int} {s : ByteArray} {len : Nat} (h0 : 0 ≤ f ∧ f < 18446744073709551616) (h1 : len ≤ 2513169434843) (h : one n f s len = true) : (hd n f s len).length ≤ 4011 := by
  unfold hd
  unfold one at h
  rw [List.length_cons]
  have e1 : (putN f.toNat).length ≤ 10 := putN_len10 (by omega)
  have e2 : (putN len).length ≤ 10 := putN_len10 (by omega)
  split
  · omega
  · rename_i c
    split
    · rename_i c2
      rw [if_neg (by omega), if_pos c2, decide_eq_true_eq] at h
      have e3 : (putN s.size).length ≤ 10 := putN_len10 (by omega)
      rw [List.length_append, bytesOf_length]
      omega
    · split
      · omega
      · simp
theorem encL_len (l : List S25) (ih : ∀ y ∈ l, shp y = true → (encT y).length ≤ parts y * 4011) (h : shpL l = true) : (encL l).length ≤ partsL l * 4011 := by
  induction l with
  | nil => rw [encL]; simp
  | cons x t iht =>
    rw [shpL, Bool.and_eq_true] at h
    rw [encL, partsL, List.length_append]
    have a := ih x (by simp) h.1
    have b := iht (fun y hy => ih y (by simp [hy])) h.2
    omega
theorem encT_len {x : S25} (h : ok25 x) (hs : shp x = true) : (encT x).length ≤ parts x * 4011 := by
  revert hs
  induction h with
  | @mk x h0 h1 h2 h3 h4 h5 ih =>
    intro hs
    rw [shp_eq, Bool.and_eq_true] at hs
    rw [encT_eq, parts_eq, List.length_append]
    have a := hd_len (wf_u64 h1) (by omega) hs.1
    have b := encL_len _ ih hs.2
    omega
theorem right_len {x : S25} (h : ok25 x) (hr : rightT x = 0) : (encT x).length ≤ 16044000 := by
  unfold rightT at hr
  split at hr
  · simp at hr
  · split at hr
    · simp at hr
    · split at hr
      · rename_i c1 c2 c3
        have := encT_len h c3
        omega
      · simp at hr
/-- The bytes of a term, and why there are none. -/
def encode (x : S25) : ByteArray × Int := if rightT x = 0 then (strOfNums (encT x), 0) else (⟨#[]⟩, rightT x)

end Go.Proofs.Ytopfdggagijdkaa.Pure
