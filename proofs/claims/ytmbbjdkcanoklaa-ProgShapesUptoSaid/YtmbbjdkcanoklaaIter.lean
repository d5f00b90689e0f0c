/- What the given functions want beside the words: string iterators, the library's byte search. -/
import Derived.Test.YtmbbjdkcanoklaaWWords
import Derived.Lib.OthersKept
import Derived.Laws.RangeAny
import Derived.Lib.Bytealg
import Derived.Laws.StandIn
import Derived.Lib.RuneCount
import Derived.Lib.DecodeN
namespace Go.Proofs.YtmbbjdkcanoklaaW.XConv
open Go.RowKit
theorem decodeN_le (n b0 b1 b2 b3 : Nat) (hn : 1 ≤ n) : (Lib.decodeN n b0 b1 b2 b3).2 ≤ n := by
  unfold Lib.decodeN
  repeat' split
  all_goals (simp only; omega)
theorem decode_pos (s : ByteArray) (p : Nat) (h : p < s.size) : 1 ≤ (Utf8.decode s p).2 := Lib.decode_width_pos s p h
theorem decode_fits (s : ByteArray) (p : Nat) (h : p < s.size) : p + (Utf8.decode s p).2 ≤ s.size := by
  have := decodeN_le (s.size - p) (s.get! p).toNat (s.get! (p + 1)).toNat (s.get! (p + 2)).toNat (s.get! (p + 3)).toNat (by omega)
  rw [← Lib.decode_at] at this
  omega
theorem isEmpty_size (s : ByteArray) : s.toList.isEmpty = decide (s.size = 0) := by
  rw [Lib.toList_data]
  show s.data.toList.isEmpty = decide (s.data.size = 0)
  rw [← Array.length_toList]
  cases s.data.toList <;> simp
theorem it_keeps {W w4 : World} (hb : Below W.heap.size W w4) {j : Nat} {o : Obj} (hi : W.heap[j]? = some o) : w4.heap[j]? = some o := by
  have hlt : j < W.heap.size := (Array.getElem?_eq_some_iff.1 hi).1
  rw [hb.block j hlt]; exact hi
end Go.Proofs.YtmbbjdkcanoklaaW.XConv
