/- Strings as lists of numbers: plain facts. Under no condition. -/
import Derived.Test.YtopfdggagijdkaaAid
set_option linter.unusedVariables false
set_option linter.unusedSimpArgs false
namespace Go.Proofs.Ytopfdggagijdkaa.Pure
open Go.RowKit Go.Proofs.Ytopfdggagijdkaa.F Go.Proofs.Ytopfdggagijdkaa.Open Go.Proofs.Ytopfdggagijdkaa.Aid Go.Proofs.YtopfdggagijdkaaW.PrintWords Go.Proofs.YtopfdggagijdkaaW.PrintLast Go.Proofs.YtopfdggagijdkaaW.PrintMore

/-- A list of bytes. -/
def AllB (l : List Int) : Prop := ∀ c ∈ l, 0 ≤ c ∧ c ≤ 255
theorem AllB.nil : AllB [] := fun _ h => by simp at h
theorem AllB.cons {c : Int} {l : List Int} (h : 0 ≤ c ∧ c ≤ 255) (hl : AllB l) : AllB (c :: l) := fun x hx => by
  rcases List.mem_cons.1 hx with rfl | hx
  · exact h
  · exact hl x hx
theorem AllB.app {a b : List Int} (ha : AllB a) (hb : AllB b) : AllB (a ++ b) := fun x hx => by
  rcases List.mem_append.1 hx with hx | hx
  · exact ha x hx
  · exact hb x hx
theorem AllB.take {a : List Int} (ha : AllB a) (n : Nat) : AllB (a.take n) := fun x hx => ha x (List.mem_of_mem_take hx)
theorem AllB.drop {a : List Int} (ha : AllB a) (n : Nat) : AllB (a.drop n) := fun x hx => ha x (List.mem_of_mem_drop hx)
theorem AllB.of_bytes (s : ByteArray) : AllB (bytesOf s) := fun x hx => by
  obtain ⟨b, _, rfl⟩ := List.mem_map.1 hx
  have := b.toNat_lt
  omega
theorem bytesOf_str {l : List Int} (h : AllB l) : bytesOf (strOfNums l) = l := by
  unfold bytesOf strOfNums
  simp only [List.map_map]
  rw [show (List.map ((fun b : UInt8 => (b.toNat : Int)) ∘ fun n : Int => UInt8.ofNat n.toNat) l) = List.map id l from List.map_congr_left (fun x hx => by
    have := h x hx
    simp only [Function.comp, id, UInt8.toNat_ofNat']
    omega)]
  simp
theorem str_bytesOf (s : ByteArray) : strOfNums (bytesOf s) = s := by
  unfold bytesOf strOfNums
  simp only [List.map_map]
  rw [show (List.map ((fun n : Int => UInt8.ofNat n.toNat) ∘ fun b : UInt8 => (b.toNat : Int)) s.data.toList) = List.map id s.data.toList from List.map_congr_left (fun x hx => by
    simp [Function.comp])]
  simp
theorem bytesOf_inj {a b : ByteArray} (h : bytesOf a = bytesOf b) : a = b := by rw [← str_bytesOf a, ← str_bytesOf b, h]
theorem bytesOf_append (a b : ByteArray) : bytesOf (a ++ b) = bytesOf a ++ bytesOf b := by simp [bytesOf]
theorem bytesOf_extract (a : ByteArray) (i j : Nat) : bytesOf (a.extract i j) = ((bytesOf a).take j).drop i := by
  simp [bytesOf, List.extract_eq_take_drop, List.map_take, List.map_drop, List.drop_take]
theorem bytesOf_empty : bytesOf (⟨#[]⟩ : ByteArray) = [] := rfl
theorem size_bytesOf (s : ByteArray) : s.size = (bytesOf s).length := (bytesOf_length s).symm
theorem size_str (l : List Int) : (strOfNums l).size = l.length := by simp [strOfNums, ByteArray.size]
theorem toList_iff {a b : ByteArray} : a.toList = b.toList ↔ bytesOf a = bytesOf b := ⟨fun h => by rw [bytes_eq h], fun h => by rw [bytesOf_inj h]⟩
theorem toList_str {a b : List Int} (ha : AllB a) (hb : AllB b) : (strOfNums a).toList = (strOfNums b).toList ↔ a = b := by rw [toList_iff, bytesOf_str ha, bytesOf_str hb]
theorem str_append (a b : List Int) : strOfNums (a ++ b) = strOfNums a ++ strOfNums b := by
  apply ByteArray.ext
  simp [strOfNums]
theorem toList_nil_iff {a : ByteArray} : a.toList = ([] : List UInt8) ↔ bytesOf a = [] := by
  rw [toList_data]
  simp [bytesOf]
theorem str_take (l : List Int) (j : Nat) : (strOfNums l).extract 0 j = strOfNums (l.take j) := by
  apply ByteArray.ext
  simp [strOfNums, List.map_take]

end Go.Proofs.Ytopfdggagijdkaa.Pure
