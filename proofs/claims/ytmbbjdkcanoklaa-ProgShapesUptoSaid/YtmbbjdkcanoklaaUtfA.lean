/- What utf.Rune computes, in plain Lean; small facts on its bits. -/
import Derived.Test.YtmbbjdkcanoklaaWWords
import Derived.Laws.BitsLemmas
namespace Go.Proofs.Ytmbbjdkcanoklaa.Utf
open Go.RowKit Go.Proofs.YtmbbjdkcanoklaaW.PrintWords
def cls (b : Int) : Nat := if b < 128 then 0 else if b < 192 then 4 else if b < 224 then 1 else if b < 240 then 2 else if b < 248 then 3 else 4
def msk : Nat → Int
  | 0 => 128 | 1 => 224 | 2 => 240 | _ => 248
def mrk : Nat → Int
  | 0 => 0 | 1 => 192 | 2 => 224 | _ => 240
def lst : Nat → Int
  | 0 => 0 | 1 => 128 | 2 => 2048 | _ => 65536
def rTail (s : ByteArray) (p : Int) : Nat → Int → Int → Int × Int
  | 0, v, h => (v, h)
  | k + 1, v, h => if p + h < (s.size : Int) ∧ 128 ≤ bt s (p + h) ∧ bt s (p + h) < 192 then rTail s p k (v * 64 + bt s (p + h) % 64) (h + 1) else (v, h)
def rEnd (s : ByteArray) (p : Int) (n : Nat) (v h : Int) : Int × Int × Int :=
  if v * 64 ^ (n + 1 - h).toNat + (64 ^ (n + 1 - h).toNat - 1) < lst n then (0, 0, 2)
  else if v * 64 ^ (n + 1 - h).toNat > 1114111 then (0, 0, 2)
  else if v * 64 ^ (n + 1 - h).toNat ≥ 55296 ∧ v * 64 ^ (n + 1 - h).toNat + (64 ^ (n + 1 - h).toNat - 1) ≤ 57343 then (0, 0, 2)
  else if h = n + 1 then (v, h, 0)
  else if p + h = s.size then (0, 0, 7)
  else (0, 0, 2)
def rune (s : ByteArray) (p : Int) : Int × Int × Int :=
  if p < 0 ∨ (s.size : Int) ≤ p then (0, 0, 7)
  else if cls (bt s p) ≤ 3 then rEnd s p (cls (bt s p)) (rTail s p (cls (bt s p)) (bt s p - mrk (cls (bt s p))) 1).1 (rTail s p (cls (bt s p)) (bt s p - mrk (cls (bt s p))) 1).2
  else (0, 0, 2)

theorem cls_le (b : Int) : cls b ≤ 4 := by
  unfold cls
  split
  · omega
  · split
    · omega
    · split
      · omega
      · split
        · omega
        · split <;> omega
theorem i32_or0 (x : Int) (h0 : 0 ≤ x) (h1 : x < 2147483648) : bits .or .i32 x 0 = x := by
  have := bits_join .i32 31 (by decide) wraps_i32 0 x 0 h0 (by omega) (by omega) (by omega) (by omega) (by omega)
  omega
theorem and_fin : ∀ b : Fin 256, ∀ n : Fin 4, (bits .and .u8 (b.val : Int) (msk n.val) != mrk n.val) = !decide (cls b.val = n.val) := by decide +kernel
theorem and_ne (b : Int) (h0 : 0 ≤ b) (h1 : b ≤ 255) (n : Nat) (hn : n ≤ 3) (h : cls b ≠ n) : (bits .and .u8 b (msk n) != mrk n) = true := by
  obtain ⟨b, rfl⟩ := Int.eq_ofNat_of_zero_le h0
  rw [and_fin ⟨b, by omega⟩ ⟨n, by omega⟩]; simpa using h
theorem and_eq (b : Int) (h0 : 0 ≤ b) (h1 : b ≤ 255) (n : Nat) (hn : n ≤ 3) (h : cls b = n) : (bits .and .u8 b (msk n) != mrk n) = false := by
  obtain ⟨b, rfl⟩ := Int.eq_ofNat_of_zero_le h0
  rw [and_fin ⟨b, by omega⟩ ⟨n, by omega⟩]; simpa using h
theorem not_fin : ∀ b : Fin 256, ∀ n : Fin 4, cls b.val = n.val → bits .andNot .u8 (b.val : Int) (msk n.val) = b.val - mrk n.val := by decide +kernel
theorem andNot_eq (b : Int) (h0 : 0 ≤ b) (h1 : b ≤ 255) (n : Nat) (hn : n ≤ 3) (h : cls b = n) : bits .andNot .u8 b (msk n) = b - mrk n := by
  obtain ⟨b, rfl⟩ := Int.eq_ofNat_of_zero_le h0
  exact not_fin ⟨b, by omega⟩ ⟨n, by omega⟩ h
theorem tail_fin : ∀ b : Fin 256, (bits .and .u8 (b.val : Int) 192 == 128) = decide (128 ≤ b.val ∧ b.val < 192) := by decide +kernel
theorem tail_yes (b : Int) (h : 128 ≤ b ∧ b < 192) : (bits .and .u8 b 192 == 128) = true := by
  obtain ⟨b, rfl⟩ := Int.eq_ofNat_of_zero_le (a := b) (by omega)
  rw [tail_fin ⟨b, by omega⟩]; simp; omega
theorem tail_no (b : Int) (h0 : 0 ≤ b) (h1 : b ≤ 255) (h : ¬ (128 ≤ b ∧ b < 192)) : (bits .and .u8 b 192 == 128) = false := by
  obtain ⟨b, rfl⟩ := Int.eq_ofNat_of_zero_le (a := b) (by omega)
  rw [tail_fin ⟨b, by omega⟩]; simp; omega
theorem cls_lo (b : Int) (h0 : 0 ≤ b) (h1 : b ≤ 255) (h : cls b ≤ 3) : 0 ≤ b - mrk (cls b) ∧ b - mrk (cls b) < 128 ∧ (cls b ≤ 2 ∧ 1 ≤ cls b → b - mrk (cls b) < 32) ∧ (cls b = 2 → b - mrk (cls b) < 16) ∧ (cls b = 3 → b - mrk (cls b) < 8) := by
  unfold cls at *
  repeat' split at h <;> simp [*, mrk] <;> try omega
  all_goals (simp [*, mrk]; try omega)
end Go.Proofs.Ytmbbjdkcanoklaa.Utf
