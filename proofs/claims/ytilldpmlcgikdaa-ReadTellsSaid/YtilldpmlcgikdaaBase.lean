/- Small lemmas that the hand-written contracts use. -/
import Derived.Test.YtilldpmlcgikdaaWWords
import Derived.Lib.Strings
import Derived.Laws.Strings
set_option linter.unusedVariables false
set_option linter.unusedSimpArgs false
namespace Go.Proofs.Ytilldpmlcgikdaa.Base
open Go.RowKit Go.Proofs.YtilldpmlcgikdaaW.PrintWords
theorem ret_bool {a b : Bool} (h : a = b) : Ending.returned (.bool a) = .returned (.bool b) := by rw [h]
theorem ret_int {k : IntKind} {a b : Int} (h : a = b) : Ending.returned (.int k a) = .returned (.int k b) := by rw [h]
theorem beq_cast (a b : Nat) : ((a : Int) == (b : Int)) = (a == b) := by rw [Bool.eq_iff_iff]; simp only [beq_iff_eq]; omega
theorem bytesOf_getD (s : ByteArray) (n : Nat) (h : n < s.size) : (bytesOf s).getD n 0 = ((s[n]'h).toNat : Int) := by
  have h' : n < s.data.toList.length := by rw [data_length]; exact h
  unfold bytesOf
  simp [List.getD_eq_getElem?_getD, List.getElem?_eq_getElem h']
  rfl
theorem bytesOf_extract (s : ByteArray) (a b : Nat) : bytesOf (s.extract a b) = ((bytesOf s).drop a).take (b - a) := by
  unfold bytesOf
  rw [Lib.extract_data, List.map_take, List.map_drop]
theorem bytesOf_tail (s : ByteArray) (a : Nat) : bytesOf (s.extract a s.size) = (bytesOf s).drop a := by
  rw [bytesOf_extract, List.take_of_length_le (by rw [List.length_drop, bytesOf_length]; omega)]
theorem bytesOf_head (s : ByteArray) (b : Nat) : bytesOf (s.extract 0 b) = (bytesOf s).take b := by
  rw [bytesOf_extract, List.drop_zero, Nat.sub_zero]
theorem size_tail (s : ByteArray) (a : Nat) : (s.extract a s.size).size = s.size - a := by
  rw [← bytesOf_length, bytesOf_tail, List.length_drop, bytesOf_length]
theorem size_extract (s : ByteArray) (a b : Nat) (h : b ≤ s.size) : (s.extract a b).size = b - a := by
  rw [← bytesOf_length, bytesOf_extract, List.length_take, List.length_drop, bytesOf_length]; omega
theorem bytesOf_inj {s t : ByteArray} (h : bytesOf s = bytesOf t) : s = t := by
  have h2 : s.data.toList = t.data.toList := by
    unfold bytesOf at h
    refine List.map_inj_right (f := fun b : UInt8 => (b.toNat : Int)) (fun x y e => ?_) |>.1 h
    have : x.toNat = y.toNat := by have e2 : ((x.toNat : Nat) : Int) = ((y.toNat : Nat) : Int) := e; omega
    exact UInt8.toNat_inj.1 this
  cases s; cases t
  simp at h2
  simp [h2]
theorem bytesOf_range (s : ByteArray) (c : Int) (h : c ∈ bytesOf s) : 0 ≤ c ∧ c ≤ 255 := by
  unfold bytesOf at h
  obtain ⟨b, _, rfl⟩ := List.mem_map.1 h
  have := b.toNat_lt
  omega
theorem extract_extract (s : ByteArray) (i a b : Nat) (hi : i ≤ s.size) (hb : i + b ≤ s.size) : (s.extract i s.size).extract a b = s.extract (i + a) (i + b) := by
  apply bytesOf_inj
  rw [bytesOf_extract, bytesOf_tail, bytesOf_extract, List.drop_drop]
  congr 1
  omega
theorem toList_data (s : ByteArray) : s.toList = s.data.toList := ByteArray.toList_eq s
theorem bytesOf_toList (s : ByteArray) : bytesOf s = s.toList.map fun b => (b.toNat : Int) := by rw [toList_data]; rfl
theorem toList_inj {s t : ByteArray} (h : s.toList = t.toList) : s = t := bytesOf_inj (by rw [bytesOf_toList, bytesOf_toList, h])
theorem toList_of (s : ByteArray) (l : List UInt8) (h : bytesOf s = l.map fun b => (b.toNat : Int)) : s.toList = l := by
  have e : bytesOf (⟨l.toArray⟩ : ByteArray) = l.map fun b => (b.toNat : Int) := by simp [bytesOf]
  rw [bytesOf_inj (h.trans e.symm), toList_data]
end Go.Proofs.Ytilldpmlcgikdaa.Base
