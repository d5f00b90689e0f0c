/- What decoding a rune comes to, byte by byte: utf.Rune is just this. -/
import Derived.Test.YtblofllbbcpeiaaUtfA
namespace Go.Proofs.Ytblofllbbcpeiaa.Utf
open Go.RowKit Go.Proofs.YtblofllbbcpeiaaW.PrintWords
/-- the rune (or why there is none) of the bytes that stand there; n: how many there are -/
def R (b0 b1 b2 b3 n : Int) : Int × Int × Int :=
  if b0 < 128 then (b0, 1, 0)
  else if b0 < 194 then (0, 0, 2)
  else if b0 < 224 then
    if n = 1 then (0, 0, 7) else if 128 ≤ b1 ∧ b1 < 192 then ((b0 - 192) * 64 + (b1 - 128), 2, 0) else (0, 0, 2)
  else if b0 < 240 then
    if n = 1 then (0, 0, 7) else if ¬ (128 ≤ b1 ∧ b1 < 192) then (0, 0, 2)
    else if b0 = 224 ∧ b1 < 160 ∨ b0 = 237 ∧ 160 ≤ b1 then (0, 0, 2)
    else if n = 2 then (0, 0, 7) else if 128 ≤ b2 ∧ b2 < 192 then ((b0 - 224) * 4096 + (b1 - 128) * 64 + (b2 - 128), 3, 0) else (0, 0, 2)
  else if b0 < 245 then
    if n = 1 then (0, 0, 7) else if ¬ (128 ≤ b1 ∧ b1 < 192) then (0, 0, 2)
    else if b0 = 240 ∧ b1 < 144 ∨ b0 = 244 ∧ 144 ≤ b1 then (0, 0, 2)
    else if n = 2 then (0, 0, 7) else if ¬ (128 ≤ b2 ∧ b2 < 192) then (0, 0, 2)
    else if n = 3 then (0, 0, 7) else if 128 ≤ b3 ∧ b3 < 192 then ((b0 - 240) * 262144 + (b1 - 128) * 4096 + (b2 - 128) * 64 + (b3 - 128), 4, 0) else (0, 0, 2)
  else (0, 0, 2)
def runeAt (s : ByteArray) (p : Int) : Int × Int × Int :=
  if p < 0 ∨ (s.size : Int) ≤ p then (0, 0, 7) else R (bt s p) (bt s (p + 1)) (bt s (p + 2)) (bt s (p + 3)) (s.size - p)
theorem rEnd_at (s : ByteArray) (p : Int) (n : Nat) (v h : Int) (t : Nat) (L H : Int) (ht : ((n : Int) + 1 - h).toNat = t) (hL : v * 64 ^ t = L) (hH : L + (64 ^ t - 1) = H) :
    rEnd s p n v h = if H < lst n then (0, 0, 2) else if L > 1114111 then (0, 0, 2) else if L ≥ 55296 ∧ H ≤ 57343 then (0, 0, 2) else if h = n + 1 then (v, h, 0) else if p + h = s.size then (0, 0, 7) else (0, 0, 2) := by
  unfold rEnd
  rw [ht, hL, hH]
theorem rune_eq (s : ByteArray) (p : Int) : rune s p = runeAt s p := by
  unfold rune runeAt
  split
  · rfl
  rename_i hp
  have r0 := bt_range s p
  have r1 := bt_range s (p + 1)
  have r2 := bt_range s (p + 2)
  have r3 := bt_range s (p + 3)
  have e2 : p + (1 + 1) = p + 2 := by omega
  have e3 : p + (1 + 1 + 1) = p + 3 := by omega
  generalize hb0 : bt s p = b0 at *
  generalize hb1 : bt s (p + 1) = b1 at *
  generalize hb2 : bt s (p + 2) = b2 at *
  generalize hb3 : bt s (p + 3) = b3 at *
  have hc : (b0 < 128 ∧ cls b0 = 0) ∨ (128 ≤ b0 ∧ b0 < 192 ∧ cls b0 = 4) ∨ (192 ≤ b0 ∧ b0 < 224 ∧ cls b0 = 1) ∨ (224 ≤ b0 ∧ b0 < 240 ∧ cls b0 = 2) ∨ (240 ≤ b0 ∧ b0 < 248 ∧ cls b0 = 3) ∨ (248 ≤ b0 ∧ cls b0 = 4) := by
    unfold cls
    by_cases h1 : b0 < 128
    · simp [h1]
    by_cases h2 : b0 < 192
    · simp [h1, h2]; omega
    by_cases h3 : b0 < 224
    · simp [h1, h2, h3]; omega
    by_cases h4 : b0 < 240
    · simp [h1, h2, h3, h4]; omega
    by_cases h5 : b0 < 248
    · simp [h1, h2, h3, h4, h5]; omega
    · simp [h1, h2, h3, h4, h5]; omega
  rcases hc with ⟨h, hc⟩ | ⟨h, h', hc⟩ | ⟨h, h', hc⟩ | ⟨h, h', hc⟩ | ⟨h, h', hc⟩ | ⟨h, hc⟩
  · rw [hc, if_pos (by omega)]
    simp only [rTail, mrk]
    rw [rEnd_at s p 0 (b0 - 0) 1 0 (b0 - 0) (b0 - 0) (by decide) (by simp) (by simp)]
    simp only [lst, R]
    rw [if_neg (by omega), if_neg (by omega), if_neg (by omega), if_pos (by decide), if_pos h]
    simp
  · rw [hc, if_neg (by omega)]
    simp only [R]
    rw [if_neg (by omega), if_pos (by omega)]
  · rw [hc, if_pos (by omega)]
    simp only [rTail, mrk]
    by_cases ht : p + 1 < (s.size : Int) ∧ 128 ≤ b1 ∧ b1 < 192
    · rw [hb1, if_pos ht]
      simp only
      rw [rEnd_at s p 1 _ (1 + 1) 0 _ _ (by decide) (Int.mul_one _) (by simp; rfl)]
      simp only [lst, R]
      rw [if_neg (show ¬ b0 < 128 by omega)]
      by_cases hl : b0 < 194
      · rw [if_pos (by omega), if_pos hl]
      · rw [if_neg (by omega), if_neg (by omega), if_neg (by omega), if_pos (by decide), if_neg hl, if_pos h', if_neg (by omega), if_pos ht.2]
        simp only [Prod.mk.injEq, and_true]
        omega
    · rw [hb1, if_neg ht]
      simp only
      rw [rEnd_at s p 1 _ 1 1 _ _ (by decide) rfl rfl]
      simp only [lst, R]
      rw [if_neg (show ¬ b0 < 128 by omega)]
      by_cases hl : b0 < 194
      · rw [if_pos (by omega), if_pos hl]
      · rw [if_neg (by omega), if_neg (by omega), if_neg (by omega), if_neg (by decide), if_neg hl, if_pos h']
        by_cases hn : p + 1 = s.size
        · rw [if_pos hn, if_pos (by omega)]
        · rw [if_neg hn, if_neg (by omega), if_neg (by omega)]
  · rw [hc, if_pos (by omega)]
    simp only [rTail, mrk]
    simp only [R]
    rw [if_neg (show ¬ b0 < 128 by omega), if_neg (show ¬ b0 < 194 by omega), if_neg (show ¬ b0 < 224 by omega), if_pos h']
    by_cases t1 : p + 1 < (s.size : Int) ∧ 128 ≤ b1 ∧ b1 < 192
    · rw [hb1, if_pos t1, e2, hb2]
      by_cases t2 : p + 2 < (s.size : Int) ∧ 128 ≤ b2 ∧ b2 < 192
      · rw [if_pos t2, if_neg (by omega), if_neg (by omega)]
        simp only
        rw [rEnd_at s p 2 _ (1 + 1 + 1) 0 _ _ (by decide) (Int.mul_one _) (by simp; rfl)]
        simp only [lst]
        by_cases bad : b0 = 224 ∧ b1 < 160 ∨ b0 = 237 ∧ 160 ≤ b1
        · rw [if_pos bad]
          by_cases z : b0 = 224
          · rw [if_pos (by omega)]
          · rw [if_neg (by omega), if_neg (by omega), if_pos (by omega)]
        · rw [if_neg bad, if_neg (show ¬ (s.size : Int) - p = 2 by omega), if_pos t2.2, if_neg (by omega), if_neg (by omega), if_neg (by omega), if_pos (by decide)]
          simp only [Prod.mk.injEq, and_true]
          omega
      · rw [if_neg t2, if_neg (by omega), if_neg (by omega)]
        simp only
        rw [rEnd_at s p 2 _ (1 + 1) 1 _ _ (by decide) rfl rfl]
        simp only [lst]
        by_cases bad : b0 = 224 ∧ b1 < 160 ∨ b0 = 237 ∧ 160 ≤ b1
        · rw [if_pos bad]
          by_cases z : b0 = 224
          · rw [if_pos (by omega)]
          · rw [if_neg (by omega), if_neg (by omega), if_pos (by omega)]
        · rw [if_neg bad, if_neg (by omega), if_neg (by omega), if_neg (by omega), if_neg (by decide)]
          by_cases hn : p + 2 = s.size
          · rw [if_pos (by omega), if_pos (by omega)]
          · rw [if_neg (by omega), if_neg (by omega), if_neg (by omega)]
    · rw [hb1, if_neg t1]
      simp only
      rw [rEnd_at s p 2 _ 1 2 _ _ (by decide) rfl rfl]
      simp only [lst]
      rw [if_neg (by omega), if_neg (by omega), if_neg (by omega), if_neg (by decide)]
      by_cases hn : p + 1 = s.size
      · rw [if_pos hn, if_pos (by omega)]
      · rw [if_neg hn, if_neg (by omega), if_pos (by omega)]
  · rw [hc, if_pos (by omega)]
    simp only [rTail, mrk]
    simp only [R]
    rw [if_neg (show ¬ b0 < 128 by omega), if_neg (show ¬ b0 < 194 by omega), if_neg (show ¬ b0 < 224 by omega), if_neg (show ¬ b0 < 240 by omega)]
    by_cases big : b0 < 245
    · rw [if_pos big]
      by_cases t1 : p + 1 < (s.size : Int) ∧ 128 ≤ b1 ∧ b1 < 192
      · rw [hb1, if_pos t1, e2, hb2]
        by_cases t2 : p + 2 < (s.size : Int) ∧ 128 ≤ b2 ∧ b2 < 192
        · rw [if_pos t2, e3, hb3]
          by_cases t3 : p + 3 < (s.size : Int) ∧ 128 ≤ b3 ∧ b3 < 192
          · rw [if_pos t3, if_neg (by omega), if_neg (by omega)]
            simp only
            rw [rEnd_at s p 3 _ (1 + 1 + 1 + 1) 0 _ _ (by decide) (Int.mul_one _) (by simp; rfl)]
            simp only [lst]
            by_cases bad : b0 = 240 ∧ b1 < 144 ∨ b0 = 244 ∧ 144 ≤ b1
            · rw [if_pos bad]
              by_cases z : b0 = 240
              · rw [if_pos (by omega)]
              · rw [if_neg (by omega), if_pos (by omega)]
            · rw [if_neg bad, if_neg (show ¬ (s.size : Int) - p = 2 by omega), if_neg (show ¬ ¬ (128 ≤ b2 ∧ b2 < 192) by omega), if_neg (show ¬ (s.size : Int) - p = 3 by omega), if_pos t3.2, if_neg (by omega), if_neg (by omega), if_neg (by omega), if_pos (by decide)]
              simp only [Prod.mk.injEq, and_true]
              omega
          · rw [if_neg t3, if_neg (by omega), if_neg (by omega)]
            simp only
            rw [rEnd_at s p 3 _ (1 + 1 + 1) 1 _ _ (by decide) rfl rfl]
            simp only [lst]
            by_cases bad : b0 = 240 ∧ b1 < 144 ∨ b0 = 244 ∧ 144 ≤ b1
            · rw [if_pos bad]
              by_cases z : b0 = 240
              · rw [if_pos (by omega)]
              · rw [if_neg (by omega), if_pos (by omega)]
            · rw [if_neg bad, if_neg (show ¬ (s.size : Int) - p = 2 by omega), if_neg (show ¬ ¬ (128 ≤ b2 ∧ b2 < 192) by omega), if_neg (by omega), if_neg (by omega), if_neg (by omega), if_neg (by decide)]
              by_cases hn : p + 3 = s.size
              · rw [if_pos (by omega), if_pos (by omega)]
              · rw [if_neg (by omega), if_neg (by omega), if_neg (by omega)]
        · rw [if_neg t2, if_neg (by omega), if_neg (by omega)]
          simp only
          rw [rEnd_at s p 3 _ (1 + 1) 2 _ _ (by decide) rfl rfl]
          simp only [lst]
          by_cases bad : b0 = 240 ∧ b1 < 144 ∨ b0 = 244 ∧ 144 ≤ b1
          · rw [if_pos bad]
            by_cases z : b0 = 240
            · rw [if_pos (by omega)]
            · rw [if_neg (by omega), if_pos (by omega)]
          · rw [if_neg bad, if_neg (by omega), if_neg (by omega), if_neg (by omega), if_neg (by decide)]
            by_cases hn : p + 2 = s.size
            · rw [if_pos (by omega), if_pos (by omega)]
            · rw [if_neg (by omega), if_neg (by omega), if_pos (by omega)]
      · rw [hb1, if_neg t1]
        simp only
        rw [rEnd_at s p 3 _ 1 3 _ _ (by decide) rfl rfl]
        simp only [lst]
        rw [if_neg (by omega), if_neg (by omega), if_neg (by omega), if_neg (by decide)]
        by_cases hn : p + 1 = s.size
        · rw [if_pos hn, if_pos (by omega)]
        · rw [if_neg hn, if_neg (by omega), if_pos (by omega)]
    · rw [if_neg big]
      by_cases t1 : p + 1 < (s.size : Int) ∧ 128 ≤ b1 ∧ b1 < 192
      · rw [hb1, if_pos t1, e2, hb2]
        by_cases t2 : p + 2 < (s.size : Int) ∧ 128 ≤ b2 ∧ b2 < 192
        · rw [if_pos t2, e3, hb3]
          by_cases t3 : p + 3 < (s.size : Int) ∧ 128 ≤ b3 ∧ b3 < 192
          · rw [if_pos t3]
            simp only
            rw [rEnd_at s p 3 _ (1 + 1 + 1 + 1) 0 _ _ (by decide) (Int.mul_one _) (by simp; rfl)]
            simp only [lst]
            rw [if_neg (by omega), if_pos (by omega)]
          · rw [if_neg t3]
            simp only
            rw [rEnd_at s p 3 _ (1 + 1 + 1) 1 _ _ (by decide) rfl rfl]
            simp only [lst]
            rw [if_neg (by omega), if_pos (by omega)]
        · rw [if_neg t2]
          simp only
          rw [rEnd_at s p 3 _ (1 + 1) 2 _ _ (by decide) rfl rfl]
          simp only [lst]
          rw [if_neg (by omega), if_pos (by omega)]
      · rw [hb1, if_neg t1]
        simp only
        rw [rEnd_at s p 3 _ 1 3 _ _ (by decide) rfl rfl]
        simp only [lst]
        rw [if_neg (by omega), if_pos (by omega)]
  · rw [hc, if_neg (by omega)]
    simp only [R]
    rw [if_neg (by omega), if_neg (by omega), if_neg (by omega), if_neg (by omega), if_neg (by omega)]
end Go.Proofs.Ytblofllbbcpeiaa.Utf
