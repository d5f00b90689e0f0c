/- Texts as lists of bytes. -/
import Derived.Test.YtmbbjdkcanoklaaWWords
import Derived.Test.YtmbbjdkcanoklaaEv
namespace Go.Proofs.Ytmbbjdkcanoklaa.E
open Go.RowKit Go.Proofs.YtmbbjdkcanoklaaW.PrintWords
theorem bytesOf_append (x y : ByteArray) : bytesOf (x ++ y) = bytesOf x ++ bytesOf y := by
  simp [bytesOf, ByteArray.data_append]
theorem bytesOf_extract (x : ByteArray) (a b : Nat) : bytesOf (x.extract a b) = ((bytesOf x).take b).drop a := by
  unfold bytesOf
  rw [ByteArray.data_extract, Array.toList_extract]
  apply List.ext_getElem?
  intro i
  simp only [List.extract_eq_take_drop, List.getElem?_map, List.getElem?_take, List.getElem?_drop]
  by_cases h : a + i < b
  · rw [if_pos (by omega), if_pos h]
  · rw [if_neg (by omega), if_neg h]
    rfl
theorem bytesOf_lit (l : List UInt8) : bytesOf ⟨l.toArray⟩ = l.map fun b => (b.toNat : Int) := by simp [bytesOf]
theorem bytesOf_nums (l : List Int) (h : ∀ x ∈ l, 0 ≤ x ∧ x ≤ 255) : bytesOf (strOfNums l) = l := by
  unfold bytesOf strOfNums
  simp only [List.map_map]
  have : ∀ x ∈ l, ((fun b : UInt8 => (b.toNat : Int)) ∘ fun n : Int => UInt8.ofNat n.toNat) x = x := by
    intro x hx
    have := h x hx
    simp
    omega
  rw [List.map_congr_left this, List.map_id']
theorem bytesOf_inj {x y : ByteArray} (h : bytesOf x = bytesOf y) : x = y := by
  apply ByteArray.ext
  have : x.data.toList = y.data.toList := by
    unfold bytesOf at h
    refine List.map_inj_right ?_ |>.1 h
    intro a b hab
    exact UInt8.toNat_inj.1 (by omega)
  exact Array.toList_inj.1 this
theorem bytesOf_range (s : ByteArray) : ∀ x ∈ bytesOf s, 0 ≤ x ∧ x ≤ 255 := by
  intro x hx
  unfold bytesOf at hx
  obtain ⟨b, _, rfl⟩ := List.mem_map.1 hx
  have := b.toNat_lt
  omega
theorem nums_bytesOf (s : ByteArray) : strOfNums (bytesOf s) = s := bytesOf_inj (bytesOf_nums _ (bytesOf_range s))
theorem size_bytesOf (s : ByteArray) : s.size = (bytesOf s).length := (bytesOf_length s).symm
theorem bt_get (s : ByteArray) (i : Int) : bt s i = (bytesOf s).getD i.toNat 0 := by
  rw [← rd_bytesOf]; rfl
theorem bt_nat (s : ByteArray) (i : Nat) : bt s i = (bytesOf s).getD i 0 := by rw [bt_get]; rfl
theorem bt_append (x y : ByteArray) (i : Int) (h0 : 0 ≤ i) : bt (x ++ y) i = if i < x.size then bt x i else bt y (i - x.size) := by
  rw [bt_get, bytesOf_append]
  have hx := size_bytesOf x
  split
  · rw [bt_get, List.getD_eq_getElem?_getD, List.getD_eq_getElem?_getD, List.getElem?_append_left (by omega)]
  · rw [bt_get, List.getD_eq_getElem?_getD, List.getD_eq_getElem?_getD, List.getElem?_append_right (by omega)]
    congr 2
    omega
theorem bt_extract (s : ByteArray) (a b : Nat) (i : Int) (h0 : 0 ≤ i) (h : a + i < b) : bt (s.extract a b) i = bt s (a + i) := by
  rw [bt_get, bytesOf_extract, bt_get]
  simp only [List.getD_eq_getElem?_getD, List.getElem?_drop, List.getElem?_take]
  rw [if_pos (by omega)]
  congr 2
  omega
theorem bt_out (s : ByteArray) (i : Int) (h : (s.size : Int) ≤ i) : bt s i = 0 := by
  rw [bt_get]
  have := size_bytesOf s
  rw [List.getD_eq_getElem?_getD, List.getElem?_eq_none (by omega)]
  rfl
theorem strOfNums_size (l : List Int) : (strOfNums l).size = l.length := by simp [strOfNums, ByteArray.size]
end Go.Proofs.Ytmbbjdkcanoklaa.E
