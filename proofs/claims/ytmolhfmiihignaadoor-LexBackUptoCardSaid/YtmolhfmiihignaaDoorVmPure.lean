/- The plain law. -/
import Derived.Laws.BitsLemmas
import Derived.Lib.RuneCountTail
import Derived.Test.YtmolhfmiihignaaDoorVmEq
import Derived.Laws.RangeAny
import Derived.Lib.IndexMore
/- Runes of bytes, in plain Lean: what decoding comes to, byte by byte. (The walks' own texts of oriellaw01, turned to rows.) -/
set_option linter.unusedVariables false
set_option linter.unusedSimpArgs false
namespace Go.Vm.T
open Go Go.Vm Go.Proofs
/-- byte p, 0 behind the end -/
def byt (s : ByteArray) (p : Int) : Int := ((s.data.getD p.toNat 0).toNat : Int)
theorem bt_range (s : ByteArray) (p : Int) : 0 ≤ byt s p ∧ byt s p ≤ 255 := by
  have := (s.data.getD p.toNat 0).toNat_lt
  unfold byt
  omega
def cls (b : Int) : Nat := if b < 128 then 0 else if b < 192 then 4 else if b < 224 then 1 else if b < 240 then 2 else if b < 248 then 3 else 4
def msk : Nat → Int
  | 0 => 128 | 1 => 224 | 2 => 240 | _ => 248
def mrk : Nat → Int
  | 0 => 0 | 1 => 192 | 2 => 224 | _ => 240
def lst : Nat → Int
  | 0 => 0 | 1 => 128 | 2 => 2048 | _ => 65536
def rTail (s : ByteArray) (p : Int) : Nat → Int → Int → Int × Int
  | 0, v, h => (v, h)
  | k + 1, v, h => if p + h < (s.size : Int) ∧ 128 ≤ byt s (p + h) ∧ byt s (p + h) < 192 then rTail s p k (v * 64 + byt s (p + h) % 64) (h + 1) else (v, h)
def rEnd (s : ByteArray) (p : Int) (n : Nat) (v h : Int) : Int × Int × Int :=
  if v * 64 ^ (n + 1 - h).toNat + (64 ^ (n + 1 - h).toNat - 1) < lst n then (0, 0, 2)
  else if v * 64 ^ (n + 1 - h).toNat > 1114111 then (0, 0, 2)
  else if v * 64 ^ (n + 1 - h).toNat ≥ 55296 ∧ v * 64 ^ (n + 1 - h).toNat + (64 ^ (n + 1 - h).toNat - 1) ≤ 57343 then (0, 0, 2)
  else if h = n + 1 then (v, h, 0)
  else if p + h = s.size then (0, 0, 7)
  else (0, 0, 2)
def runeP (s : ByteArray) (p : Int) : Int × Int × Int :=
  if p < 0 ∨ (s.size : Int) ≤ p then (0, 0, 7)
  else if cls (byt s p) ≤ 3 then rEnd s p (cls (byt s p)) (rTail s p (cls (byt s p)) (byt s p - mrk (cls (byt s p))) 1).1 (rTail s p (cls (byt s p)) (byt s p - mrk (cls (byt s p))) 1).2
  else (0, 0, 2)

theorem and_fin : ∀ b : Fin 256, ∀ n : Fin 4, (bits .and .u8 (b.val : Int) (msk n.val) != mrk n.val) = !decide (cls b.val = n.val) := by decide +kernel
theorem and_ne (b : Int) (h0 : 0 ≤ b) (h1 : b ≤ 255) (n : Nat) (hn : n ≤ 3) (h : cls b ≠ n) : (bits .and .u8 b (msk n) != mrk n) = true := by
  obtain ⟨b, rfl⟩ := Int.eq_ofNat_of_zero_le h0
  rw [and_fin ⟨b, by omega⟩ ⟨n, by omega⟩]; simpa using h
theorem and_eq (b : Int) (h0 : 0 ≤ b) (h1 : b ≤ 255) (n : Nat) (hn : n ≤ 3) (h : cls b = n) : (bits .and .u8 b (msk n) != mrk n) = false := by
  obtain ⟨b, rfl⟩ := Int.eq_ofNat_of_zero_le h0
  rw [and_fin ⟨b, by omega⟩ ⟨n, by omega⟩]; simpa using h
theorem not_fin : ∀ b : Fin 256, ∀ n : Fin 4, cls b.val = n.val → bits .andNot .u8 (b.val : Int) (msk n.val) = b.val - mrk n.val := by decide +kernel
theorem andNot_eq (b : Int) (h0 : 0 ≤ b) (h1 : b ≤ 255) (n : Nat) (hn : n ≤ 3) (h : cls b = n) : bits .andNot .u8 b (msk n) = b - mrk n := by
  obtain ⟨b, rfl⟩ := Int.eq_ofNat_of_zero_le h0
  exact not_fin ⟨b, by omega⟩ ⟨n, by omega⟩ h
theorem tail_fin : ∀ b : Fin 256, (bits .and .u8 (b.val : Int) 192 == 128) = decide (128 ≤ b.val ∧ b.val < 192) := by decide +kernel
theorem tail_yes (b : Int) (h : 128 ≤ b ∧ b < 192) : (bits .and .u8 b 192 == 128) = true := by
  obtain ⟨b, rfl⟩ := Int.eq_ofNat_of_zero_le (a := b) (by omega)
  rw [tail_fin ⟨b, by omega⟩]; simp; omega
theorem tail_no (b : Int) (h0 : 0 ≤ b) (h1 : b ≤ 255) (h : ¬ (128 ≤ b ∧ b < 192)) : (bits .and .u8 b 192 == 128) = false := by
  obtain ⟨b, rfl⟩ := Int.eq_ofNat_of_zero_le (a := b) (by omega)
  rw [tail_fin ⟨b, by omega⟩]; simp; omega
theorem cls_lo (b : Int) (h0 : 0 ≤ b) (h1 : b ≤ 255) (h : cls b ≤ 3) : 0 ≤ b - mrk (cls b) ∧ b - mrk (cls b) < 128 ∧ (cls b ≤ 2 ∧ 1 ≤ cls b → b - mrk (cls b) < 32) ∧ (cls b = 2 → b - mrk (cls b) < 16) ∧ (cls b = 3 → b - mrk (cls b) < 8) := by
  unfold cls at *
  repeat' split at h <;> simp [*, mrk] <;> try omega
  all_goals (simp [*, mrk]; try omega)
/-- the runeP (or why there is none) of the bytes that stand there; n: how many there are -/
def Rn (b0 b1 b2 b3 n : Int) : Int × Int × Int :=
  if b0 < 128 then (b0, 1, 0)
  else if b0 < 194 then (0, 0, 2)
  else if b0 < 224 then
    if n = 1 then (0, 0, 7) else if 128 ≤ b1 ∧ b1 < 192 then ((b0 - 192) * 64 + (b1 - 128), 2, 0) else (0, 0, 2)
  else if b0 < 240 then
    if n = 1 then (0, 0, 7) else if ¬ (128 ≤ b1 ∧ b1 < 192) then (0, 0, 2)
    else if b0 = 224 ∧ b1 < 160 ∨ b0 = 237 ∧ 160 ≤ b1 then (0, 0, 2)
    else if n = 2 then (0, 0, 7) else if 128 ≤ b2 ∧ b2 < 192 then ((b0 - 224) * 4096 + (b1 - 128) * 64 + (b2 - 128), 3, 0) else (0, 0, 2)
  else if b0 < 245 then
    if n = 1 then (0, 0, 7) else if ¬ (128 ≤ b1 ∧ b1 < 192) then (0, 0, 2)
    else if b0 = 240 ∧ b1 < 144 ∨ b0 = 244 ∧ 144 ≤ b1 then (0, 0, 2)
    else if n = 2 then (0, 0, 7) else if ¬ (128 ≤ b2 ∧ b2 < 192) then (0, 0, 2)
    else if n = 3 then (0, 0, 7) else if 128 ≤ b3 ∧ b3 < 192 then ((b0 - 240) * 262144 + (b1 - 128) * 4096 + (b2 - 128) * 64 + (b3 - 128), 4, 0) else (0, 0, 2)
  else (0, 0, 2)
def runeAt (s : ByteArray) (p : Int) : Int × Int × Int :=
  if p < 0 ∨ (s.size : Int) ≤ p then (0, 0, 7) else Rn (byt s p) (byt s (p + 1)) (byt s (p + 2)) (byt s (p + 3)) (s.size - p)
theorem rEnd_at (s : ByteArray) (p : Int) (n : Nat) (v h : Int) (t : Nat) (L H : Int) (ht : ((n : Int) + 1 - h).toNat = t) (hL : v * 64 ^ t = L) (hH : L + (64 ^ t - 1) = H) :
    rEnd s p n v h = if H < lst n then (0, 0, 2) else if L > 1114111 then (0, 0, 2) else if L ≥ 55296 ∧ H ≤ 57343 then (0, 0, 2) else if h = n + 1 then (v, h, 0) else if p + h = s.size then (0, 0, 7) else (0, 0, 2) := by
  unfold rEnd
  rw [ht, hL, hH]
theorem runeP_eq (s : ByteArray) (p : Int) : runeP s p = runeAt s p := by
  unfold runeP runeAt
  split
  · rfl
  rename_i hp
  have r0 := bt_range s p
  have r1 := bt_range s (p + 1)
  have r2 := bt_range s (p + 2)
  have r3 := bt_range s (p + 3)
  have e2 : p + (1 + 1) = p + 2 := by omega
  have e3 : p + (1 + 1 + 1) = p + 3 := by omega
  generalize hb0 : byt s p = b0 at *
  generalize hb1 : byt s (p + 1) = b1 at *
  generalize hb2 : byt s (p + 2) = b2 at *
  generalize hb3 : byt s (p + 3) = b3 at *
  have hc : (b0 < 128 ∧ cls b0 = 0) ∨ (128 ≤ b0 ∧ b0 < 192 ∧ cls b0 = 4) ∨ (192 ≤ b0 ∧ b0 < 224 ∧ cls b0 = 1) ∨ (224 ≤ b0 ∧ b0 < 240 ∧ cls b0 = 2) ∨ (240 ≤ b0 ∧ b0 < 248 ∧ cls b0 = 3) ∨ (248 ≤ b0 ∧ cls b0 = 4) := by
    unfold cls
    by_cases h1 : b0 < 128
    · simp [h1]
    by_cases h2 : b0 < 192
    · simp [h1, h2]; omega
    by_cases h3 : b0 < 224
    · simp [h1, h2, h3]; omega
    by_cases h4 : b0 < 240
    · simp [h1, h2, h3, h4]; omega
    by_cases h5 : b0 < 248
    · simp [h1, h2, h3, h4, h5]; omega
    · simp [h1, h2, h3, h4, h5]; omega
  rcases hc with ⟨h, hc⟩ | ⟨h, h', hc⟩ | ⟨h, h', hc⟩ | ⟨h, h', hc⟩ | ⟨h, h', hc⟩ | ⟨h, hc⟩
  · rw [hc, if_pos (by omega)]
    simp only [rTail, mrk]
    rw [rEnd_at s p 0 (b0 - 0) 1 0 (b0 - 0) (b0 - 0) (by decide) (by simp) (by simp)]
    simp only [lst, Rn]
    rw [if_neg (by omega), if_neg (by omega), if_neg (by omega), if_pos (by decide), if_pos h]
    simp
  · rw [hc, if_neg (by omega)]
    simp only [Rn]
    rw [if_neg (by omega), if_pos (by omega)]
  · rw [hc, if_pos (by omega)]
    simp only [rTail, mrk]
    by_cases ht : p + 1 < (s.size : Int) ∧ 128 ≤ b1 ∧ b1 < 192
    · rw [hb1, if_pos ht]
      simp only
      rw [rEnd_at s p 1 _ (1 + 1) 0 _ _ (by decide) (Int.mul_one _) (by simp; rfl)]
      simp only [lst, Rn]
      rw [if_neg (show ¬ b0 < 128 by omega)]
      by_cases hl : b0 < 194
      · rw [if_pos (by omega), if_pos hl]
      · rw [if_neg (by omega), if_neg (by omega), if_neg (by omega), if_pos (by decide), if_neg hl, if_pos h', if_neg (by omega), if_pos ht.2]
        simp only [Prod.mk.injEq, and_true]
        omega
    · rw [hb1, if_neg ht]
      simp only
      rw [rEnd_at s p 1 _ 1 1 _ _ (by decide) rfl rfl]
      simp only [lst, Rn]
      rw [if_neg (show ¬ b0 < 128 by omega)]
      by_cases hl : b0 < 194
      · rw [if_pos (by omega), if_pos hl]
      · rw [if_neg (by omega), if_neg (by omega), if_neg (by omega), if_neg (by decide), if_neg hl, if_pos h']
        by_cases hn : p + 1 = s.size
        · rw [if_pos hn, if_pos (by omega)]
        · rw [if_neg hn, if_neg (by omega), if_neg (by omega)]
  · rw [hc, if_pos (by omega)]
    simp only [rTail, mrk]
    simp only [Rn]
    rw [if_neg (show ¬ b0 < 128 by omega), if_neg (show ¬ b0 < 194 by omega), if_neg (show ¬ b0 < 224 by omega), if_pos h']
    by_cases t1 : p + 1 < (s.size : Int) ∧ 128 ≤ b1 ∧ b1 < 192
    · rw [hb1, if_pos t1, e2, hb2]
      by_cases t2 : p + 2 < (s.size : Int) ∧ 128 ≤ b2 ∧ b2 < 192
      · rw [if_pos t2, if_neg (by omega), if_neg (by omega)]
        simp only
        rw [rEnd_at s p 2 _ (1 + 1 + 1) 0 _ _ (by decide) (Int.mul_one _) (by simp; rfl)]
        simp only [lst]
        by_cases bad : b0 = 224 ∧ b1 < 160 ∨ b0 = 237 ∧ 160 ≤ b1
        · rw [if_pos bad]
          by_cases z : b0 = 224
          · rw [if_pos (by omega)]
          · rw [if_neg (by omega), if_neg (by omega), if_pos (by omega)]
        · rw [if_neg bad, if_neg (show ¬ (s.size : Int) - p = 2 by omega), if_pos t2.2, if_neg (by omega), if_neg (by omega), if_neg (by omega), if_pos (by decide)]
          simp only [Prod.mk.injEq, and_true]
          omega
      · rw [if_neg t2, if_neg (by omega), if_neg (by omega)]
        simp only
        rw [rEnd_at s p 2 _ (1 + 1) 1 _ _ (by decide) rfl rfl]
        simp only [lst]
        by_cases bad : b0 = 224 ∧ b1 < 160 ∨ b0 = 237 ∧ 160 ≤ b1
        · rw [if_pos bad]
          by_cases z : b0 = 224
          · rw [if_pos (by omega)]
          · rw [if_neg (by omega), if_neg (by omega), if_pos (by omega)]
        · rw [if_neg bad, if_neg (by omega), if_neg (by omega), if_neg (by omega), if_neg (by decide)]
          by_cases hn : p + 2 = s.size
          · rw [if_pos (by omega), if_pos (by omega)]
          · rw [if_neg (by omega), if_neg (by omega), if_neg (by omega)]
    · rw [hb1, if_neg t1]
      simp only
      rw [rEnd_at s p 2 _ 1 2 _ _ (by decide) rfl rfl]
      simp only [lst]
      rw [if_neg (by omega), if_neg (by omega), if_neg (by omega), if_neg (by decide)]
      by_cases hn : p + 1 = s.size
      · rw [if_pos hn, if_pos (by omega)]
      · rw [if_neg hn, if_neg (by omega), if_pos (by omega)]
  · rw [hc, if_pos (by omega)]
    simp only [rTail, mrk]
    simp only [Rn]
    rw [if_neg (show ¬ b0 < 128 by omega), if_neg (show ¬ b0 < 194 by omega), if_neg (show ¬ b0 < 224 by omega), if_neg (show ¬ b0 < 240 by omega)]
    by_cases big : b0 < 245
    · rw [if_pos big]
      by_cases t1 : p + 1 < (s.size : Int) ∧ 128 ≤ b1 ∧ b1 < 192
      · rw [hb1, if_pos t1, e2, hb2]
        by_cases t2 : p + 2 < (s.size : Int) ∧ 128 ≤ b2 ∧ b2 < 192
        · rw [if_pos t2, e3, hb3]
          by_cases t3 : p + 3 < (s.size : Int) ∧ 128 ≤ b3 ∧ b3 < 192
          · rw [if_pos t3, if_neg (by omega), if_neg (by omega)]
            simp only
            rw [rEnd_at s p 3 _ (1 + 1 + 1 + 1) 0 _ _ (by decide) (Int.mul_one _) (by simp; rfl)]
            simp only [lst]
            by_cases bad : b0 = 240 ∧ b1 < 144 ∨ b0 = 244 ∧ 144 ≤ b1
            · rw [if_pos bad]
              by_cases z : b0 = 240
              · rw [if_pos (by omega)]
              · rw [if_neg (by omega), if_pos (by omega)]
            · rw [if_neg bad, if_neg (show ¬ (s.size : Int) - p = 2 by omega), if_neg (show ¬ ¬ (128 ≤ b2 ∧ b2 < 192) by omega), if_neg (show ¬ (s.size : Int) - p = 3 by omega), if_pos t3.2, if_neg (by omega), if_neg (by omega), if_neg (by omega), if_pos (by decide)]
              simp only [Prod.mk.injEq, and_true]
              omega
          · rw [if_neg t3, if_neg (by omega), if_neg (by omega)]
            simp only
            rw [rEnd_at s p 3 _ (1 + 1 + 1) 1 _ _ (by decide) rfl rfl]
            simp only [lst]
            by_cases bad : b0 = 240 ∧ b1 < 144 ∨ b0 = 244 ∧ 144 ≤ b1
            · rw [if_pos bad]
              by_cases z : b0 = 240
              · rw [if_pos (by omega)]
              · rw [if_neg (by omega), if_pos (by omega)]
            · rw [if_neg bad, if_neg (show ¬ (s.size : Int) - p = 2 by omega), if_neg (show ¬ ¬ (128 ≤ b2 ∧ b2 < 192) by omega), if_neg (by omega), if_neg (by omega), if_neg (by omega), if_neg (by decide)]
              by_cases hn : p + 3 = s.size
              · rw [if_pos (by omega), if_pos (by omega)]
              · rw [if_neg (by omega), if_neg (by omega), if_neg (by omega)]
        · rw [if_neg t2, if_neg (by omega), if_neg (by omega)]
          simp only
          rw [rEnd_at s p 3 _ (1 + 1) 2 _ _ (by decide) rfl rfl]
          simp only [lst]
          by_cases bad : b0 = 240 ∧ b1 < 144 ∨ b0 = 244 ∧ 144 ≤ b1
          · rw [if_pos bad]
            by_cases z : b0 = 240
            · rw [if_pos (by omega)]
            · rw [if_neg (by omega), if_pos (by omega)]
          · rw [if_neg bad, if_neg (by omega), if_neg (by omega), if_neg (by omega), if_neg (by decide)]
            by_cases hn : p + 2 = s.size
            · rw [if_pos (by omega), if_pos (by omega)]
            · rw [if_neg (by omega), if_neg (by omega), if_pos (by omega)]
      · rw [hb1, if_neg t1]
        simp only
        rw [rEnd_at s p 3 _ 1 3 _ _ (by decide) rfl rfl]
        simp only [lst]
        rw [if_neg (by omega), if_neg (by omega), if_neg (by omega), if_neg (by decide)]
        by_cases hn : p + 1 = s.size
        · rw [if_pos hn, if_pos (by omega)]
        · rw [if_neg hn, if_neg (by omega), if_pos (by omega)]
    · rw [if_neg big]
      by_cases t1 : p + 1 < (s.size : Int) ∧ 128 ≤ b1 ∧ b1 < 192
      · rw [hb1, if_pos t1, e2, hb2]
        by_cases t2 : p + 2 < (s.size : Int) ∧ 128 ≤ b2 ∧ b2 < 192
        · rw [if_pos t2, e3, hb3]
          by_cases t3 : p + 3 < (s.size : Int) ∧ 128 ≤ b3 ∧ b3 < 192
          · rw [if_pos t3]
            simp only
            rw [rEnd_at s p 3 _ (1 + 1 + 1 + 1) 0 _ _ (by decide) (Int.mul_one _) (by simp; rfl)]
            simp only [lst]
            rw [if_neg (by omega), if_pos (by omega)]
          · rw [if_neg t3]
            simp only
            rw [rEnd_at s p 3 _ (1 + 1 + 1) 1 _ _ (by decide) rfl rfl]
            simp only [lst]
            rw [if_neg (by omega), if_pos (by omega)]
        · rw [if_neg t2]
          simp only
          rw [rEnd_at s p 3 _ (1 + 1) 2 _ _ (by decide) rfl rfl]
          simp only [lst]
          rw [if_neg (by omega), if_pos (by omega)]
      · rw [hb1, if_neg t1]
        simp only
        rw [rEnd_at s p 3 _ 1 3 _ _ (by decide) rfl rfl]
        simp only [lst]
        rw [if_neg (by omega), if_pos (by omega)]
  · rw [hc, if_neg (by omega)]
    simp only [Rn]
    rw [if_neg (by omega), if_neg (by omega), if_neg (by omega), if_neg (by omega), if_neg (by omega)]
def cutS (b0 b1 b2 n : Int) : Bool :=
  if n = 1 then decide (194 ≤ b0 ∧ b0 < 245)
  else if n = 2 then decide ((128 ≤ b1 ∧ b1 < 192) ∧ ((224 ≤ b0 ∧ b0 < 240 ∧ ¬ (b0 = 224 ∧ b1 < 160) ∧ ¬ (b0 = 237 ∧ 160 ≤ b1)) ∨ (240 ≤ b0 ∧ b0 < 245 ∧ ¬ (b0 = 240 ∧ b1 < 144) ∧ ¬ (b0 = 244 ∧ 144 ≤ b1))))
  else if n = 3 then decide ((128 ≤ b1 ∧ b1 < 192) ∧ (128 ≤ b2 ∧ b2 < 192) ∧ (240 ≤ b0 ∧ b0 < 245 ∧ ¬ (b0 = 240 ∧ b1 < 144) ∧ ¬ (b0 = 244 ∧ 144 ≤ b1)))
  else false
theorem Rn_ref (b0 b1 b2 b3 n : Int) (h0 : 0 ≤ b0) (h0' : b0 ≤ 255) (hn : 1 ≤ n) : Rn b0 b1 b2 b3 n =
    if b0 < 128 then (b0, 1, 0) else if 2 ≤ n ∧ 194 ≤ b0 ∧ b0 < 224 ∧ 128 ≤ b1 ∧ b1 < 192 then ((b0 - 192) * 64 + (b1 - 128), 2, 0)
    else if 3 ≤ n ∧ 224 ≤ b0 ∧ b0 < 240 ∧ (128 ≤ b1 ∧ b1 < 192) ∧ ¬ (b0 = 224 ∧ b1 < 160 ∨ b0 = 237 ∧ 160 ≤ b1) ∧ 128 ≤ b2 ∧ b2 < 192 then (((b0 - 224) * 64 + (b1 - 128)) * 64 + (b2 - 128), 3, 0)
    else if 4 ≤ n ∧ 240 ≤ b0 ∧ b0 < 245 ∧ (128 ≤ b1 ∧ b1 < 192) ∧ ¬ (b0 = 240 ∧ b1 < 144 ∨ b0 = 244 ∧ 144 ≤ b1) ∧ (128 ≤ b2 ∧ b2 < 192) ∧ 128 ≤ b3 ∧ b3 < 192 then ((((b0 - 240) * 64 + (b1 - 128)) * 64 + (b2 - 128)) * 64 + (b3 - 128), 4, 0)
    else if cutS b0 b1 b2 n = true then (0, 0, 7) else (0, 0, 2) := by
  have hc : cutS b0 b1 b2 n = true ↔ (n = 1 ∧ 194 ≤ b0 ∧ b0 < 245) ∨ (n = 2 ∧ (128 ≤ b1 ∧ b1 < 192) ∧ ((224 ≤ b0 ∧ b0 < 240 ∧ ¬ (b0 = 224 ∧ b1 < 160) ∧ ¬ (b0 = 237 ∧ 160 ≤ b1)) ∨ (240 ≤ b0 ∧ b0 < 245 ∧ ¬ (b0 = 240 ∧ b1 < 144) ∧ ¬ (b0 = 244 ∧ 144 ≤ b1))))
      ∨ (n = 3 ∧ (128 ≤ b1 ∧ b1 < 192) ∧ (128 ≤ b2 ∧ b2 < 192) ∧ (240 ≤ b0 ∧ b0 < 245 ∧ ¬ (b0 = 240 ∧ b1 < 144) ∧ ¬ (b0 = 244 ∧ 144 ≤ b1))) := by
    unfold cutS
    by_cases h1 : n = 1
    · rw [if_pos h1, decide_eq_true_eq]; omega
    by_cases h2 : n = 2
    · rw [if_neg h1, if_pos h2, decide_eq_true_eq]; omega
    by_cases h3 : n = 3
    · rw [if_neg h1, if_neg h2, if_pos h3, decide_eq_true_eq]; omega
    · rw [if_neg h1, if_neg h2, if_neg h3]; simp [h1, h2, h3]
  unfold Rn
  by_cases a1 : b0 < 128
  · rw [if_pos a1, if_pos a1]
  rw [if_neg a1, if_neg a1]
  by_cases a2 : b0 < 194
  · rw [if_pos a2, if_neg (by omega), if_neg (by omega), if_neg (by omega), if_neg (by rw [hc]; omega)]
  rw [if_neg a2]
  by_cases a3 : b0 < 224
  · rw [if_pos a3]
    by_cases hn1 : n = 1
    · rw [if_pos hn1, if_neg (by omega), if_neg (by omega), if_neg (by omega), if_pos (by rw [hc]; omega)]
    rw [if_neg hn1]
    by_cases t1 : 128 ≤ b1 ∧ b1 < 192
    · rw [if_pos t1, if_pos (by omega)]
    · rw [if_neg t1, if_neg (by omega), if_neg (by omega), if_neg (by omega), if_neg (by rw [hc]; omega)]
  rw [if_neg a3]
  by_cases a4 : b0 < 240
  · rw [if_pos a4]
    by_cases hn1 : n = 1
    · rw [if_pos hn1, if_neg (by omega), if_neg (by omega), if_neg (by omega), if_pos (by rw [hc]; omega)]
    rw [if_neg hn1]
    by_cases t1 : 128 ≤ b1 ∧ b1 < 192
    · rw [if_neg (by omega)]
      by_cases bad : b0 = 224 ∧ b1 < 160 ∨ b0 = 237 ∧ 160 ≤ b1
      · rw [if_pos bad, if_neg (by omega), if_neg (by omega), if_neg (by omega), if_neg (by rw [hc]; omega)]
      rw [if_neg bad]
      by_cases hn2 : n = 2
      · rw [if_pos hn2, if_neg (by omega), if_neg (by omega), if_neg (by omega), if_pos (by rw [hc]; omega)]
      rw [if_neg hn2]
      by_cases t2 : 128 ≤ b2 ∧ b2 < 192
      · rw [if_pos t2, if_neg (by omega), if_pos (by omega)]
        simp only [Prod.mk.injEq, and_true]
        omega
      · rw [if_neg t2, if_neg (by omega), if_neg (by omega), if_neg (by omega), if_neg (by rw [hc]; omega)]
    · rw [if_pos t1, if_neg (by omega), if_neg (by omega), if_neg (by omega), if_neg (by rw [hc]; omega)]
  rw [if_neg a4]
  by_cases a5 : b0 < 245
  · rw [if_pos a5]
    by_cases hn1 : n = 1
    · rw [if_pos hn1, if_neg (by omega), if_neg (by omega), if_neg (by omega), if_pos (by rw [hc]; omega)]
    rw [if_neg hn1]
    by_cases t1 : 128 ≤ b1 ∧ b1 < 192
    · rw [if_neg (by omega)]
      by_cases bad : b0 = 240 ∧ b1 < 144 ∨ b0 = 244 ∧ 144 ≤ b1
      · rw [if_pos bad, if_neg (by omega), if_neg (by omega), if_neg (by omega), if_neg (by rw [hc]; omega)]
      rw [if_neg bad]
      by_cases hn2 : n = 2
      · rw [if_pos hn2, if_neg (by omega), if_neg (by omega), if_neg (by omega), if_pos (by rw [hc]; omega)]
      rw [if_neg hn2]
      by_cases t2 : 128 ≤ b2 ∧ b2 < 192
      · rw [if_neg (by omega)]
        by_cases hn3 : n = 3
        · rw [if_pos hn3, if_neg (by omega), if_neg (by omega), if_neg (by omega), if_pos (by rw [hc]; omega)]
        rw [if_neg hn3]
        by_cases t3 : 128 ≤ b3 ∧ b3 < 192
        · rw [if_pos t3, if_neg (by omega), if_neg (by omega), if_pos (by omega)]
          simp only [Prod.mk.injEq, and_true]
          omega
        · rw [if_neg t3, if_neg (by omega), if_neg (by omega), if_neg (by omega), if_neg (by rw [hc]; omega)]
      · rw [if_pos t2, if_neg (by omega), if_neg (by omega), if_neg (by omega), if_neg (by rw [hc]; omega)]
    · rw [if_pos t1, if_neg (by omega), if_neg (by omega), if_neg (by omega), if_neg (by rw [hc]; omega)]
  · rw [if_neg a5, if_neg (by omega), if_neg (by omega), if_neg (by omega), if_neg (by rw [hc]; omega)]
end Go.Vm.T
/- The program's Rune comes to what the bytes say. -/
set_option linter.unusedVariables false
set_option linter.unusedSimpArgs false
namespace Go.Vm.T
open Go Go.Vm Go.Proofs
attribute [local irreducible] lv oriellaw13_LexBack_b oriellaw13_LexBack_l0 oriellaw13_LexBack_l1 oriellaw13_awake_b lex_All_b lex_All_l0 lex_All_l1 utf_All_b utf_All_l0 utf_All_l1 utf_Rune_b utf_Rune_l0 utf_Rune_l1 utf_Rune_l2 utf_Rune_l3 utf_forms_b lex_Right_b lex_Right_l0 char_All_b char_All_l0 char_All_l1 utf_span_b lex_may_b char_Char_b char_Blank_b lex_Write_b lex_one_b name_Split_b name_Plain_b name_Plain_l0 char_in_b char_in_l0 lex_clark_b lex_quoted_b lex_quoted_l0 strings_HasPrefix_b char_Start_b lex_plain_b lex_plain_l0 stringslite_HasPrefix_b char_Part_b lex_word_b strings_CutPrefix_b stringslite_CutPrefix_b
theorem i32_id {x : Int} (h0 : 0 ≤ x) (h1 : x < 2147483648) : IntKind.i32.wrap x = x := wraps_i32 x h0 (by omega)
theorem span_tot (v t L : Int) (P : Int) (ht : (t = 0 ∧ P = 1) ∨ (t = 1 ∧ P = 64) ∨ (t = 2 ∧ P = 4096) ∨ (t = 3 ∧ P = 262144)) (hv : 0 ≤ v) (hb : (v + 1) * P ≤ 2097152) (hL : v * P = L) : Tot (fun k _ _ => (lv k).utf_span v t) (fun r => r = (L, L + (P - 1))) := by
  refine utf_span_up _ _ (Tot.congr ?_ (fun k _ _ => utf_span_q (lv k) k v t))
  have hm : ∀ (i : Nat), (2 : Int) ^ i = P → i ≤ 18 → IntKind.i32.wrap (v * 2 ^ i) = L ∧ IntKind.i32.wrap ((BitVec.ofInt IntKind.i32.bits (IntKind.i32.wrap (v * 2 ^ i)) ||| BitVec.ofInt IntKind.i32.bits (P - 1)).toNat : Int) = L + (P - 1) := fun i hP hi => by
    have hPp : 1 ≤ P := by rcases ht with h | h | h | h <;> omega
    have hmul : (v + 1) * P = v * P + P := by rw [Int.add_mul, Int.one_mul]
    have hL0 : 0 ≤ v * P := Int.mul_nonneg hv (by omega)
    have e1 : IntKind.i32.wrap (v * 2 ^ i) = L := by rw [hP, hL]; exact i32_id (by omega) (by omega)
    refine ⟨e1, ?_⟩
    rw [e1]
    exact bits_join .i32 31 (by decide) wraps_i32 i L (P - 1) (by omega) (by rw [hP, ← hL]; exact Int.mul_emod_left _ _) (by omega) (by omega) (by rw [hP]; omega) (by omega)
  rcases ht with ⟨rfl, hP⟩ | ⟨rfl, hP⟩ | ⟨rfl, hP⟩ | ⟨rfl, hP⟩
  · obtain ⟨a, b⟩ := hm 0 (by rw [hP]; rfl) (by omega)
    subst hP
    refine Tot.f (by rfl) (Tot.f (by rfl) (Tot.ret ?_))
    exact Prod.ext a b
  · obtain ⟨a, b⟩ := hm 6 (by rw [hP]; rfl) (by omega)
    subst hP
    refine Tot.f (by rfl) (Tot.f (by rfl) (Tot.ret ?_))
    exact Prod.ext a b
  · obtain ⟨a, b⟩ := hm 12 (by rw [hP]; rfl) (by omega)
    subst hP
    refine Tot.f (by rfl) (Tot.f (by rfl) (Tot.ret ?_))
    exact Prod.ext a b
  · obtain ⟨a, b⟩ := hm 18 (by rw [hP]; rfl) (by omega)
    subst hP
    refine Tot.f (by rfl) (Tot.f (by rfl) (Tot.ret ?_))
    exact Prod.ext a b
theorem and63 : ∀ b : Fin 256, bits .and .u8 (b.val : Int) 63 = (b.val : Int) % 64 := by decide +kernel
theorem pow_cases (t : Nat) (h : t ≤ 3) : ((t : Int) = 0 ∧ (64 : Int) ^ t = 1) ∨ ((t : Int) = 1 ∧ (64 : Int) ^ t = 64) ∨ ((t : Int) = 2 ∧ (64 : Int) ^ t = 4096) ∨ ((t : Int) = 3 ∧ (64 : Int) ^ t = 262144) := by
  rcases (show t = 0 ∨ t = 1 ∨ t = 2 ∨ t = 3 by omega) with rfl | rfl | rfl | rfl
  · exact .inl ⟨rfl, rfl⟩
  · exact .inr (.inl ⟨rfl, rfl⟩)
  · exact .inr (.inr (.inl ⟨rfl, rfl⟩))
  · exact .inr (.inr (.inr ⟨rfl, rfl⟩))
theorem forms_tot : Tot (fun k _ _ => (lv k).utf_forms) (fun r => r = (128, 0, 0, 224, 192, 128, 240, 224, 2048, 248, 240, 65536)) := by
  refine utf_forms_up (Tot.congr ?_ (fun k _ _ => utf_forms_q (lv k) k ))
  exact Tot.ret rfl
section
variable (s : ByteArray) (p : Int) (h0 : 0 ≤ p) (hp : p < s.size) (hz : s.size ≤ 1000000000)
include h0 hp hz
theorem rEnd_tot (j : Nat) (hj : j ≤ 3) (v h a b : Int) (t P : Int) (ht : (j : Int) + 1 - h = t) (hP : (t = 0 ∧ P = 1) ∨ (t = 1 ∧ P = 64) ∨ (t = 2 ∧ P = 4096) ∨ (t = 3 ∧ P = 262144)) (hv : 0 ≤ v) (hb : (v + 1) * P ≤ 2097152) (h1 : 1 ≤ h) (hh : p + h ≤ s.size) : Tot (fun k m m' => utf_Rune_l3 (lv k) k s p m (j : Int) v h a b (lst j)) (fun r => r = rEnd s p j v h) := by
  refine Tot.congr ?_ (fun k p_ q_ => utf_Rune_l3_q (lv k) k s p p_ (j : Int) v h a b (lst j))
  rw [wrap_id (x := (j : Int) + 1) (by omega) (by omega), wrap_id (x := (j : Int) + 1 - h) (by omega) (by omega), wrap_id (x := p + h) (by omega) (by omega), ht]
  refine Tot.bind (span_tot v t (v * P) P hP hv hb rfl) fun r hr => ?_
  subst hr
  have hpow : (64 : Int) ^ t.toNat = P := by rcases hP with ⟨rfl, rfl⟩ | ⟨rfl, rfl⟩ | ⟨rfl, rfl⟩ | ⟨rfl, rfl⟩ <;> rfl
  rw [rEnd_at s p j v h t.toNat (v * P) (v * P + (P - 1)) (by rw [ht]) (by rw [hpow]) (by rw [hpow])]
  have tail : Tot (fun _ _ _ => cond (h == (j : Int) + 1) (some (v, h, (0 : Int))) (cond (p + h == (s.size : Int)) (some (0, 0, 7)) (some (0, 0, 2)))) (fun r => r = if h = (j : Int) + 1 then (v, h, 0) else if p + h = s.size then (0, 0, 7) else (0, 0, 2)) := by
    refine Tot.cond (fun c => Tot.ret ?_) (fun c => Tot.cond (fun c' => Tot.ret ?_) (fun c' => Tot.ret ?_))
    · rw [if_pos (eq_of_beq c)]
    · rw [if_neg (ne_of_beq_false c), if_pos (eq_of_beq c')]
    · rw [if_neg (ne_of_beq_false c), if_neg (ne_of_beq_false c')]
  refine Tot.cond (fun c1 => Tot.ret ?_) (fun c1 => Tot.cond (fun c2 => Tot.ret ?_) (fun c2 => Tot.cond (fun c3 => Tot.cond (fun c4 => Tot.ret ?_) (fun c4 => ?_)) (fun c3 => ?_)))
  · rw [if_pos (of_decide_eq_true c1)]
  · rw [if_neg (of_decide_eq_false c1), if_pos (of_decide_eq_true c2)]
  · rw [if_neg (of_decide_eq_false c1), if_neg (of_decide_eq_false c2), if_pos ⟨of_decide_eq_true c3, of_decide_eq_true c4⟩]
  · rw [if_neg (of_decide_eq_false c1), if_neg (of_decide_eq_false c2), if_neg (fun h => of_decide_eq_false c4 h.2)]
    exact tail
  · rw [if_neg (of_decide_eq_false c1), if_neg (of_decide_eq_false c2), if_neg (fun h => of_decide_eq_false c3 h.1)]
    exact tail
theorem rTail_tot (j : Nat) (hj : j ≤ 3) (a b : Int) : ∀ (d : Nat) (v h : Int), (j : Int) + 1 - h = d → 0 ≤ v → (v + 1) * 64 ^ d ≤ 2097152 → 1 ≤ h → p + h ≤ s.size → Tot (fun k m m' => utf_Rune_l2 (lv k) k s p m m' (j : Int) v h a b (lst j)) (fun r => r = rEnd s p j (rTail s p d v h).1 (rTail s p d v h).2) := by
  intro d
  induction d with
  | zero =>
    intro v h hd hv hb h1 hh
    refine Tot.step1 (fun k p_ q_ => utf_Rune_l2_q (lv k) k s p p_ q_ (j : Int) v h a b (lst j)) ?_
    refine Tot.f (decide_eq_false (by omega)) ?_
    exact rEnd_tot s p h0 hp hz j hj v h a b 0 1 (by omega) (.inl ⟨rfl, rfl⟩) hv (by simpa using hb) h1 hh
  | succ d ih =>
    intro v h hd hv hb h1 hh
    have hd3 : d ≤ 2 := by omega
    have hend : Tot (fun k m m' => utf_Rune_l3 (lv k) k s p m (j : Int) v h a b (lst j)) (fun r => r = rEnd s p j v h) :=
      rEnd_tot s p h0 hp hz j hj v h a b ((d + 1 : Nat) : Int) (64 ^ (d + 1)) (by omega) (pow_cases (d + 1) (by omega)) hv hb h1 hh
    refine Tot.step1 (fun k p_ q_ => utf_Rune_l2_q (lv k) k s p p_ q_ (j : Int) v h a b (lst j)) ?_
    rw [wrap_id (x := p + h) (by omega) (by omega), wrap_id (x := h + 1) (by omega) (by omega)]
    rw [rTail]
    refine Tot.t (decide_eq_true (by omega)) (Tot.cond (fun c1 => ?_) (fun c1 => ?_))
    · have c1 := of_decide_eq_true c1
      have hr := bt_range s (p + h)
      have hbt : ((s.data.getD (p + h).toNat 0).toNat : Int) = byt s (p + h) := rfl
      rw [hbt]
      refine Tot.t (decide_eq_true (by omega)) (Tot.t (decide_eq_true (by omega)) ?_)
      by_cases ht : 128 ≤ byt s (p + h) ∧ byt s (p + h) < 192
      · refine Tot.t (tail_yes _ ht) (Tot.t (decide_eq_true (by omega)) (Tot.t (decide_eq_true (by omega)) ?_))
        rw [if_pos ⟨c1, ht⟩]
        have hx : IntKind.u8.wrap ((BitVec.ofInt IntKind.u8.bits (byt s (p + h)) &&& BitVec.ofInt IntKind.u8.bits 63).toNat : Int) = byt s (p + h) % 64 := by
          obtain ⟨n, hn⟩ := Int.eq_ofNat_of_zero_le hr.1
          rw [hn]
          exact and63 ⟨n, by omega⟩
        have hpow : (64 : Int) ^ (d + 1) = 64 * 64 ^ d := by rw [Int.pow_succ, Int.mul_comm]
        have hd1 : (1 : Int) ≤ 64 ^ d := by rcases pow_cases d (by omega) with ⟨_, e⟩ | ⟨_, e⟩ | ⟨_, e⟩ | ⟨_, e⟩ <;> rw [e] <;> omega
        have hvb : (v + 1) * 64 ≤ 2097152 := by
          have h2 : (v + 1) * 64 * 1 ≤ (v + 1) * 64 * 64 ^ d := Int.mul_le_mul_of_nonneg_left hd1 (by omega)
          rw [hpow, ← Int.mul_assoc] at hb
          omega
        have hsh : IntKind.i32.wrap (v * 2 ^ 6) = v * 64 := i32_id (x := v * 64) (by omega) (by omega)
        rw [hx, i32_id (x := byt s (p + h) % 64) (by omega) (by omega), hsh]
        have hj : IntKind.i32.wrap ((BitVec.ofInt IntKind.i32.bits (v * 64) ||| BitVec.ofInt IntKind.i32.bits (byt s (p + h) % 64)).toNat : Int) = v * 64 + byt s (p + h) % 64 :=
          bits_join .i32 31 (by decide) wraps_i32 6 (v * 64) (byt s (p + h) % 64) (by omega) (by omega) (by omega) (by omega) (by omega) (by omega)
        rw [hj]
        refine ih (v * 64 + byt s (p + h) % 64) (h + 1) (by omega) (by omega) ?_ (by omega) (by omega)
        have h2 : (v * 64 + byt s (p + h) % 64 + 1) * 64 ^ d ≤ ((v + 1) * 64) * 64 ^ d := Int.mul_le_mul_of_nonneg_right (by omega) (by omega)
        rw [hpow, ← Int.mul_assoc] at hb
        omega
      · refine Tot.f (tail_no _ hr.1 hr.2 ht) ?_
        rw [if_neg (fun h => ht h.2)]
        exact hend
    · have c1 := of_decide_eq_false c1
      rw [if_neg (fun h => c1 h.1)]
      exact hend
theorem rune_in : Tot (fun k _ _ => (lv k).utf_Rune s p) (fun r => r = runeAt s p) := by
  rw [← runeP_eq]
  have hr := bt_range s p
  have hbt : ((s.data.getD p.toNat 0).toNat : Int) = byt s p := rfl
  refine utf_Rune_up _ _ (Tot.congr ?_ (fun k _ _ => utf_Rune_q (lv k) k s p))
  refine Tot.f (decide_eq_false (by omega)) (Tot.f (decide_eq_false (by omega)) ?_)
  have e : runeP s p = if cls (byt s p) ≤ 3 then rEnd s p (cls (byt s p)) (rTail s p (cls (byt s p)) (byt s p - mrk (cls (byt s p))) 1).1 (rTail s p (cls (byt s p)) (byt s p - mrk (cls (byt s p))) 1).2 else (0, 0, 2) := by
    rw [runeP, if_neg (by omega)]
  rw [e]
  refine Tot.bind forms_tot fun f hf => ?_
  subst hf
  -- one round: the form j
  have l1 : ∀ (j : Nat), j ≤ 3 → (cls (byt s p) ≠ j → Tot (fun k m m' => utf_Rune_l0 (lv k) k s p m 128 0 0 224 192 128 240 224 2048 248 240 65536 ((j : Int) + 1)) (fun r => r = if cls (byt s p) ≤ 3 then rEnd s p (cls (byt s p)) (rTail s p (cls (byt s p)) (byt s p - mrk (cls (byt s p))) 1).1 (rTail s p (cls (byt s p)) (byt s p - mrk (cls (byt s p))) 1).2 else (0, 0, 2))) →
      Tot (fun k m m' => utf_Rune_l1 (lv k) k s p m (j : Int) 128 0 0 224 192 128 240 224 2048 248 240 65536 (j : Int) (msk j) (mrk j) (lst j)) (fun r => r = if cls (byt s p) ≤ 3 then rEnd s p (cls (byt s p)) (rTail s p (cls (byt s p)) (byt s p - mrk (cls (byt s p))) 1).1 (rTail s p (cls (byt s p)) (byt s p - mrk (cls (byt s p))) 1).2 else (0, 0, 2)) := fun j hj next => by
    refine Tot.congr ?_ (fun k p_ q_ => utf_Rune_l1_q (lv k) k s p p_ (j : Int) 128 0 0 224 192 128 240 224 2048 248 240 65536 (j : Int) (msk j) (mrk j) (lst j))
    rw [hbt, wrap_id (x := (j : Int) + 1) (by omega) (by omega)]
    refine Tot.t (decide_eq_true (by omega)) (Tot.t (decide_eq_true (by omega)) ?_)
    by_cases hc : cls (byt s p) = j
    · refine Tot.f (and_eq _ hr.1 hr.2 j hj hc) (Tot.t (decide_eq_true (by omega)) (Tot.t (decide_eq_true (by omega)) ?_))
      have hx : IntKind.u8.wrap ((BitVec.ofInt IntKind.u8.bits (byt s p) &&& ~~~ BitVec.ofInt IntKind.u8.bits (msk j)).toNat : Int) = byt s p - mrk j := andNot_eq _ hr.1 hr.2 j hj hc
      have lo := cls_lo _ hr.1 hr.2 (by omega : cls (byt s p) ≤ 3)
      rw [hc] at lo
      rw [hx, i32_id (x := byt s p - mrk j) (by omega) (by omega), hc, if_pos hj]
      refine Tot.in1 (rTail_tot s p h0 hp hz j hj (msk j) (mrk j) j (byt s p - mrk j) 1 (by omega) (by omega) ?_ (by omega) (by omega))
      rcases pow_cases j hj with ⟨ej, e⟩ | ⟨ej, e⟩ | ⟨ej, e⟩ | ⟨ej, e⟩ <;> rw [e]
      · omega
      · have := lo.2.2.1 ⟨by omega, by omega⟩; omega
      · have := lo.2.2.2.1 (by omega); omega
      · have := lo.2.2.2.2 (by omega); omega
    · refine Tot.t (and_ne _ hr.1 hr.2 j hj hc) (next hc)
  refine Tot.in0 (g := fun k m m' => utf_Rune_l0 (lv k) k s p m 128 0 0 224 192 128 240 224 2048 248 240 65536 0) ?_
  refine Tot.step0 (fun k p_ q_ => utf_Rune_l0_q (lv k) k s p p_ 128 0 0 224 192 128 240 224 2048 248 240 65536 0) ?_
  refine Tot.t (by rfl) (Tot.t (by rfl) (l1 0 (by omega) fun n0 => ?_))
  refine Tot.step0 (fun k p_ q_ => utf_Rune_l0_q (lv k) k s p p_ 128 0 0 224 192 128 240 224 2048 248 240 65536 (((0 : Nat) : Int) + 1)) ?_
  refine Tot.t (by rfl) (Tot.f (by rfl) (Tot.t (by rfl) (l1 1 (by omega) fun n1 => ?_)))
  refine Tot.step0 (fun k p_ q_ => utf_Rune_l0_q (lv k) k s p p_ 128 0 0 224 192 128 240 224 2048 248 240 65536 (((1 : Nat) : Int) + 1)) ?_
  refine Tot.t (by rfl) (Tot.f (by rfl) (Tot.f (by rfl) (Tot.t (by rfl) (l1 2 (by omega) fun n2 => ?_))))
  refine Tot.step0 (fun k p_ q_ => utf_Rune_l0_q (lv k) k s p p_ 128 0 0 224 192 128 240 224 2048 248 240 65536 (((2 : Nat) : Int) + 1)) ?_
  refine Tot.t (by rfl) (Tot.f (by rfl) (Tot.f (by rfl) (Tot.f (by rfl) (Tot.t (by rfl) (l1 3 (by omega) fun n3 => ?_)))))
  refine Tot.step0 (fun k p_ q_ => utf_Rune_l0_q (lv k) k s p p_ 128 0 0 224 192 128 240 224 2048 248 240 65536 (((3 : Nat) : Int) + 1)) ?_
  refine Tot.f (by rfl) (Tot.ret ?_)
  rw [if_neg (by omega)]
end
-- v
theorem bt_get (s : ByteArray) (j : Nat) : byt s (j : Int) = ((s.get! j).toNat : Int) := by
  unfold byt
  rw [Int.toNat_natCast]
  show _ = (((s.data[j]!).toNat : Nat) : Int)
  rw [getElem!_def, Array.getD_eq_getD_getElem?]
  cases s.data[j]? <;> rfl
theorem Rn_dec (n b0 b1 b2 b3 : Nat) (hn : 1 ≤ n) (h0 : b0 ≤ 255) (h1 : b1 ≤ 255) (h2 : b2 ≤ 255) (h3 : b3 ≤ 255) (h : (Rn b0 b1 b2 b3 n).2.2 = 0) :
    Lib.decodeN n b0 b1 b2 b3 = ((Rn b0 b1 b2 b3 n).1.toNat, (Rn b0 b1 b2 b3 n).2.1.toNat) ∧ 1 ≤ (Rn b0 b1 b2 b3 n).2.1 ∧ (Rn b0 b1 b2 b3 n).2.1 ≤ n ∧ 0 ≤ (Rn b0 b1 b2 b3 n).1 ∧ (Rn b0 b1 b2 b3 n).1 ≤ 1114111 := by
  rw [Rn_ref _ _ _ _ _ (by omega) (by omega) (by omega)] at h ⊢
  by_cases c1 : (b0 : Int) < 128
  · rw [if_pos c1]
    simp only
    rw [Lib.decodeN, if_pos (by omega)]
    exact ⟨Prod.ext (by simp) (by simp), by omega, by omega, by omega, by omega⟩
  rw [if_neg c1] at h ⊢
  by_cases c2 : 2 ≤ (n : Int) ∧ 194 ≤ (b0 : Int) ∧ (b0 : Int) < 224 ∧ 128 ≤ (b1 : Int) ∧ (b1 : Int) < 192
  · rw [if_pos c2]
    simp only
    rw [Lib.decodeN, if_neg (by omega), if_pos (by omega), if_pos (by omega)]
    exact ⟨Prod.ext (by simp only; omega) (by simp), by omega, by omega, by omega, by omega⟩
  rw [if_neg c2] at h ⊢
  by_cases c3 : 3 ≤ (n : Int) ∧ 224 ≤ (b0 : Int) ∧ (b0 : Int) < 240 ∧ (128 ≤ (b1 : Int) ∧ (b1 : Int) < 192) ∧ ¬ ((b0 : Int) = 224 ∧ (b1 : Int) < 160 ∨ (b0 : Int) = 237 ∧ 160 ≤ (b1 : Int)) ∧ 128 ≤ (b2 : Int) ∧ (b2 : Int) < 192
  · rw [if_pos c3]
    simp only
    rw [Lib.decodeN, if_neg (by omega), if_neg (by omega), if_pos (by omega), if_pos (by omega)]
    exact ⟨Prod.ext (by simp only; omega) (by simp), by omega, by omega, by omega, by omega⟩
  rw [if_neg c3] at h ⊢
  by_cases c4 : 4 ≤ (n : Int) ∧ 240 ≤ (b0 : Int) ∧ (b0 : Int) < 245 ∧ (128 ≤ (b1 : Int) ∧ (b1 : Int) < 192) ∧ ¬ ((b0 : Int) = 240 ∧ (b1 : Int) < 144 ∨ (b0 : Int) = 244 ∧ 144 ≤ (b1 : Int)) ∧ (128 ≤ (b2 : Int) ∧ (b2 : Int) < 192) ∧ 128 ≤ (b3 : Int) ∧ (b3 : Int) < 192
  · rw [if_pos c4]
    simp only
    rw [Lib.decodeN, if_neg (by omega), if_neg (by omega), if_neg (by omega), if_pos (by omega), if_pos (by omega)]
    exact ⟨Prod.ext (by simp only; omega) (by simp), by omega, by omega, by omega, by omega⟩
  rw [if_neg c4] at h
  exfalso
  split at h <;> simp at h
/-- a rune that stands there is what Go's own loop over a text finds -/
theorem rune_dec (s : ByteArray) (i : Nat) (hi : i < s.size) (h : (runeAt s i).2.2 = 0) : Utf8.decode s i = ((runeAt s i).1.toNat, (runeAt s i).2.1.toNat) ∧ 1 ≤ (runeAt s i).2.1 ∧ (i : Int) + (runeAt s i).2.1 ≤ s.size ∧ 0 ≤ (runeAt s i).1 ∧ (runeAt s i).1 ≤ 1114111 := by
  have hb : ∀ j : Nat, (s.get! j).toNat ≤ 255 := fun j => by have := (s.get! j).toNat_lt; omega
  have e : runeAt s i = Rn ((s.get! i).toNat : Nat) ((s.get! (i + 1)).toNat : Nat) ((s.get! (i + 2)).toNat : Nat) ((s.get! (i + 3)).toNat : Nat) ((s.size - i : Nat) : Int) := by
    rw [runeAt, if_neg (by omega), bt_get, show (i : Int) + 1 = ((i + 1 : Nat) : Int) by omega, show (i : Int) + 2 = ((i + 2 : Nat) : Int) by omega, show (i : Int) + 3 = ((i + 3 : Nat) : Int) by omega, bt_get, bt_get, bt_get, show (s.size : Int) - i = ((s.size - i : Nat) : Int) by omega]
  rw [e] at h ⊢
  obtain ⟨r1, r2, r3, r4, r5⟩ := Rn_dec _ _ _ _ _ (by omega) (hb _) (hb _) (hb _) (hb _) h
  exact ⟨(Lib.decode_at s i).trans r1, r2, by omega, r4, r5⟩
/-- all runes of a text, from a place on; none: some bytes are no rune's -/
def runes (s : ByteArray) : Nat → Nat → Option (List Int)
  | 0, _ => some []
  | b + 1, i => if i < s.size then (if (runeAt s i).2.2 = 0 then (runes s b (i + (runeAt s i).2.1.toNat)).map ((runeAt s i).1 :: ·) else none) else some []
def charP (r : Int) : Prop := r = 9 ∨ r = 10 ∨ r = 13 ∨ (32 ≤ r ∧ r < 55296) ∨ (57344 ≤ r ∧ r ≤ 65533) ∨ (65536 ≤ r ∧ r ≤ 1114111)
/-- a text that may be -/
def okV (s : ByteArray) : Prop := ∃ l, runes s s.size 0 = some l ∧ ∀ x, x ∈ l → charP x
theorem in_tot (r : Int) (l : LL) (hl : l.length ≤ 100) : Tot (fun k _ _ => (lv k).char_in r l) (fun b => b = true ↔ ∃ i, i < l.length ∧ gi (l.getD i []) 0 ≤ r ∧ r ≤ gi (l.getD i []) 1) := by
  refine char_in_up _ _ (Tot.congr ?_ (fun k _ _ => char_in_q (lv k) k r l))
  refine Tot.in0 (Tot.loop (H := fun k x y v (_ : Unit) => char_in_l0 (lv k) k r l x v) (n := l.length) (fun i _ => ∀ j, j < i → ¬ (gi (l.getD j []) 0 ≤ r ∧ r ≤ gi (l.getD j []) 1)) (by omega) (fun _ h => ?_) (fun i _ hi h next => ?_) _ 0 () rfl (by omega) (fun j hj => by omega))
  · refine Tot.step0 (fun k p_ q_ => char_in_l0_q (lv k) k r l p_ _) ?_
    exact Tot.f (decide_eq_false (by omega)) (Tot.ret ⟨fun e => (by cases e), fun ⟨i, hi, hx⟩ => absurd hx (h i hi)⟩)
  · refine Tot.step0 (fun k p_ q_ => char_in_l0_q (lv k) k r l p_ _) ?_
    rw [Int.toNat_natCast]
    repeat (refine Tot.t (decide_eq_true (by omega)) ?_)
    refine Tot.cond (fun c => Tot.cond (fun c' => Tot.ret ⟨fun _ => ⟨i, hi, of_decide_eq_true c, of_decide_eq_true c'⟩, fun _ => rfl⟩) (fun c' => next () (fun j hj => ?_))) (fun c => next () (fun j hj => ?_))
    · rcases Nat.lt_or_ge j i with h2 | h2
      · exact h j h2
      · rw [show j = i by omega]; exact fun e => of_decide_eq_false c' e.2
    · rcases Nat.lt_or_ge j i with h2 | h2
      · exact h j h2
      · rw [show j = i by omega]; exact fun e => of_decide_eq_false c e.1
theorem char_tot' (r : Int) : Tot (fun k _ _ => (lv k).char_Char r) (fun b => b = true ↔ charP r) := by
  have bl : Tot (fun k _ _ => (lv k).char_Blank r) (fun b => b = true ↔ r = 9 ∨ r = 10 ∨ r = 13 ∨ r = 32) := by
    refine char_Blank_up _ (Tot.congr ?_ (fun k _ _ => char_Blank_q (lv k) k r))
    refine Tot.cond (fun c => Tot.t c (Tot.ret ?_)) (fun c => Tot.cond (fun c' => Tot.t c' (Tot.ret ?_)) (fun c' => Tot.cond (fun c'' => Tot.t c'' (Tot.ret ?_)) (fun c'' => Tot.cond (fun d => Tot.ret ?_) (fun d => Tot.ret ?_))))
    · have := eq_of_beq c; simp [this]
    · have := eq_of_beq c'; simp [this]
    · have := eq_of_beq c''; simp [this]
    · have := eq_of_beq d; simp [this]
    · have h1 := ne_of_beq_false c; have h2 := ne_of_beq_false c'; have h3 := ne_of_beq_false c''; have h4 := ne_of_beq_false d
      exact ⟨fun e => (by cases e), fun e => by omega⟩
  refine char_Char_up _ (Tot.congr ?_ (fun k _ _ => char_Char_q (lv k) k r))
  refine Tot.bind bl fun b hb => Tot.cond (fun c => Tot.ret ⟨fun _ => ?_, fun _ => rfl⟩) (fun c => Tot.bind (in_tot r _ (by decide)) fun b2 hb2 => Tot.ret ?_)
  · have := hb.1 c
    unfold charP; omega
  · have hn : ¬ (r = 9 ∨ r = 10 ∨ r = 13 ∨ r = 32) := fun h => by rw [hb.2 h] at c; cases c
    rw [hb2]
    constructor
    · rintro ⟨i, hi, h1, h2⟩
      rcases (show i = 0 ∨ i = 1 ∨ i = 2 by simp at hi; omega) with rfl | rfl | rfl
      · have h1 : (32 : Int) ≤ r := h1; have h2 : r ≤ (55295 : Int) := h2; unfold charP; omega
      · have h1 : (57344 : Int) ≤ r := h1; have h2 : r ≤ (65533 : Int) := h2; unfold charP; omega
      · have h1 : (65536 : Int) ≤ r := h1; have h2 : r ≤ (1114111 : Int) := h2; unfold charP; omega
    · intro h
      unfold charP at h
      rcases (show (32 ≤ r ∧ r ≤ 55295) ∨ (57344 ≤ r ∧ r ≤ 65533) ∨ (65536 ≤ r ∧ r ≤ 1114111) by omega) with h | h | h
      · exact ⟨0, by decide, h⟩
      · exact ⟨1, by decide, h⟩
      · exact ⟨2, by decide, h⟩
section
variable (s : ByteArray) (hz : s.size ≤ 1048576)
include hz
theorem utfAll_tot : Tot (fun k _ _ => (lv k).utf_All s) (fun r => r.2.2 = 0 ↔ ∃ l, runes s s.size 0 = some l) := by
  have loop : ∀ (b i : Nat) (v : LL), s.size - i ≤ b → i ≤ s.size → v.length ≤ i → Tot (fun k m m' => utf_All_l1 (lv k) k s m (i : Int) v) (fun r => r.2.2 = 0 ↔ ∃ l, runes s b i = some l) := by
    intro b
    induction b with
    | zero =>
      intro i v hb hi hv
      refine Tot.step0 (fun k p_ q_ => utf_All_l1_q (lv k) k s p_ (i : Int) v) ?_
      exact Tot.f (decide_eq_false (by omega)) (Tot.ret ⟨fun _ => ⟨_, rfl⟩, fun _ => rfl⟩)
    | succ b ih =>
      intro i v hb hi hv
      refine Tot.step0 (fun k p_ q_ => utf_All_l1_q (lv k) k s p_ (i : Int) v) ?_
      rw [runes]
      refine Tot.cond (fun c => ?_) (fun c => Tot.ret ?_)
      · have c := of_decide_eq_true c
        rw [if_pos (by omega)]
        refine Tot.bind (rune_in s i (by omega) c (by omega)) fun r hr => ?_
        subst hr
        refine Tot.cond (fun d => Tot.ret ?_) (fun d => ?_)
        · have d : (runeAt s i).2.2 ≠ 0 := by simpa using d
          rw [if_neg d]
          exact ⟨fun e => absurd e d, fun ⟨l, hl⟩ => by cases hl⟩
        · have d : (runeAt s i).2.2 = 0 := by simpa using d
          obtain ⟨_, r2, r3, _, _⟩ := rune_dec s i (by omega) d
          rw [if_pos d, wrap_id (x := (i : Int) + (runeAt s i).2.1) (by omega) (by omega), show (i : Int) + (runeAt s i).2.1 = ((i + (runeAt s i).2.1.toNat : Nat) : Int) by omega]
          refine Tot.t (roomy_of (of_decide_eq_true (by kernel_rfl)) (by omega)) ((ih _ _ (by omega) (by omega) (by rw [List.length_append]; simp; omega)).mono fun r hr => hr.trans ?_)
          cases runes s b (i + (runeAt s i).2.1.toNat) with
          | none => exact ⟨fun ⟨_, e⟩ => (by cases e), fun ⟨_, e⟩ => by cases e⟩
          | some l => exact ⟨fun _ => ⟨_, rfl⟩, fun _ => ⟨_, rfl⟩⟩
      · rw [if_neg (by have := of_decide_eq_false c; omega)]
        exact ⟨fun _ => ⟨_, rfl⟩, fun _ => rfl⟩
  refine utf_All_up _ (Tot.congr ?_ (fun k _ _ => utf_All_q (lv k) k s))
  refine Tot.in0 (g := fun k m m' => utf_All_l0 (lv k) k s m) ?_
  refine Tot.step0 (fun k p_ q_ => utf_All_l0_q (lv k) k s p_ ) ?_
  have first := loop s.size 0 [] (by omega) (by omega) (by simp)
  refine Tot.cond (fun c => ?_) (fun c => Tot.ret ?_)
  · have c := of_decide_eq_true c
    obtain ⟨n, hn⟩ : ∃ n, s.size = n + 1 := ⟨s.size - 1, by omega⟩
    rw [hn, runes, if_pos (by omega)]
    refine Tot.bind (rune_in s 0 (by omega) c (by omega)) fun r hr => ?_
    subst hr
    refine Tot.cond (fun d => Tot.ret ?_) (fun d => ?_)
    · have d : (runeAt s ((0 : Nat) : Int)).2.2 ≠ 0 := by simpa using d
      rw [if_neg d]
      exact ⟨fun e => absurd e d, fun ⟨l, hl⟩ => by cases hl⟩
    · have d : (runeAt s ((0 : Nat) : Int)).2.2 = 0 := by simpa using d
      obtain ⟨_, r2, r3, _, _⟩ := rune_dec s 0 (by omega) d
      rw [if_pos d]
      have e0 : IntKind.i64.wrap (0 + (runeAt s 0).2.1) = ((0 + (runeAt s ((0 : Nat) : Int)).2.1.toNat : Nat) : Int) := by
        have r2' : 1 ≤ (runeAt s 0).2.1 := r2
        have r3' : (0 : Int) + (runeAt s 0).2.1 ≤ s.size := r3
        show IntKind.i64.wrap (0 + (runeAt s 0).2.1) = ((0 + (runeAt s 0).2.1.toNat : Nat) : Int)
        rw [wrap_id (by omega) (by omega)]; omega
      rw [e0]
      refine (loop n _ _ (by omega) (by omega) (by show 1 ≤ _; omega)).mono fun r hr => hr.trans ?_
      cases runes s n (0 + (runeAt s ((0 : Nat) : Int)).2.1.toNat) with
      | none => exact ⟨fun ⟨_, e⟩ => (by cases e), fun ⟨_, e⟩ => by cases e⟩
      | some l => exact ⟨fun _ => ⟨_, rfl⟩, fun _ => ⟨_, rfl⟩⟩
  · have c := of_decide_eq_false c
    rw [show s.size = 0 by omega]
    exact ⟨fun _ => ⟨_, rfl⟩, fun _ => rfl⟩
end
-- n
theorem bl_inj' {s : ByteArray} (h : s.size = 0) : s = ⟨#[]⟩ := by
  obtain ⟨d⟩ := s
  have h : d.size = 0 := h
  rw [Array.eq_empty_of_size_eq_zero h]
def inP (r : Int) : LL → Prop
  | [] => False
  | x :: l => (gi x 0 ≤ r ∧ r ≤ gi x 1) ∨ inP r l
theorem ex_inP (r : Int) : ∀ l : LL, (∃ i, i < l.length ∧ gi (l.getD i []) 0 ≤ r ∧ r ≤ gi (l.getD i []) 1) ↔ inP r l := by
  intro l
  induction l with
  | nil => exact ⟨fun ⟨i, h, _⟩ => absurd h (Nat.not_lt_zero _), fun h => h.elim⟩
  | cons x l ih =>
    constructor
    · rintro ⟨i, hi, h⟩
      cases i with
      | zero => exact .inl h
      | succ i => exact .inr (ih.1 ⟨i, by simpa using hi, h⟩)
    · rintro (h | h)
      · exact ⟨0, by simp, h⟩
      · obtain ⟨i, hi, h⟩ := ih.2 h
        exact ⟨i + 1, by simpa using hi, h⟩
def startP (r : Int) : Prop := (65 ≤ r ∧ r ≤ 90) ∨ (97 ≤ r ∧ r ≤ 122) ∨ (95 ≤ r ∧ r ≤ 95) ∨ (192 ≤ r ∧ r ≤ 214) ∨ (216 ≤ r ∧ r ≤ 246) ∨ (248 ≤ r ∧ r ≤ 767) ∨ (880 ≤ r ∧ r ≤ 893) ∨ (895 ≤ r ∧ r ≤ 8191) ∨ (8204 ≤ r ∧ r ≤ 8205) ∨ (8304 ≤ r ∧ r ≤ 8591) ∨ (11264 ≤ r ∧ r ≤ 12271) ∨ (12289 ≤ r ∧ r ≤ 55295) ∨ (63744 ≤ r ∧ r ≤ 64975) ∨ (65008 ≤ r ∧ r ≤ 65533) ∨ (65536 ≤ r ∧ r ≤ 983039)
def partP (r : Int) : Prop := startP r ∨ (45 ≤ r ∧ r ≤ 46) ∨ (48 ≤ r ∧ r ≤ 57) ∨ (183 ≤ r ∧ r ≤ 183) ∨ (768 ≤ r ∧ r ≤ 879) ∨ (8255 ≤ r ∧ r ≤ 8256)
theorem pstart_tot (r : Int) : Tot (fun k _ _ => (lv k).char_Start r) (fun b => b = true ↔ startP r) := by
  refine char_Start_up _ (Tot.congr ?_ (fun k _ _ => char_Start_q (lv k) k r))
  refine Tot.bind (in_tot r _ (by decide)) fun b hb => Tot.ret ?_
  rw [hb, ex_inP]
  simp only [inP, or_false]
  exact Iff.rfl
theorem ppart_tot (r : Int) : Tot (fun k _ _ => (lv k).char_Part r) (fun b => b = true ↔ partP r) := by
  refine char_Part_up _ (Tot.congr ?_ (fun k _ _ => char_Part_q (lv k) k r))
  refine Tot.bind (pstart_tot r) fun b hb => Tot.cond (fun c => Tot.ret ⟨fun _ => .inl (hb.1 c), fun _ => rfl⟩) (fun c => Tot.bind (in_tot r _ (by decide)) fun b2 hb2 => Tot.ret ?_)
  have hn : ¬ startP r := fun h => by rw [hb.2 h] at c; cases c
  rw [hb2, ex_inP]
  simp only [inP, or_false]
  exact ⟨fun h => .inr h, fun h => h.resolve_left hn⟩
set_option maxRecDepth 100000 in
set_option maxRecDepth 100000 in
section
variable (s : ByteArray) (hz : s.size ≤ 1048576)
include hz
omit hz in
theorem charAll_tot : ∀ (b i : Nat) (l : List Int), runes s b i = some l → s.size - i ≤ b → Tot (fun k m m' => char_All_l0 (lv k) k s m i) (fun r => r = true ↔ ∀ x, x ∈ l → charP x) := by
  intro b
  induction b with
  | zero =>
    intro i l h hb
    cases h
    refine Tot.step0 (fun k p_ q_ => char_All_l0_q (lv k) k s p_ i) ?_
    exact Tot.f (decide_eq_false (by omega)) (Tot.ret ⟨fun _ x hx => (by cases hx), fun _ => rfl⟩)
  | succ b ih =>
    intro i l h hb
    rw [runes] at h
    refine Tot.step0 (fun k p_ q_ => char_All_l0_q (lv k) k s p_ i) ?_
    refine Tot.cond (fun c => ?_) (fun c => ?_)
    · have c := of_decide_eq_true c
      rw [if_pos c] at h
      by_cases d : (runeAt s i).2.2 = 0
      · rw [if_pos d] at h
        obtain ⟨l', h1, rfl⟩ := Option.map_eq_some_iff.1 h
        obtain ⟨e, r2, r3, r4, r5⟩ := rune_dec s i c d
        rw [e]
        have er : (((runeAt s i).1.toNat : Nat) : Int) = (runeAt s i).1 := by omega
        show Tot (fun k m m' => char_All_l1 (lv k) k s m k (((runeAt s i).1.toNat : Nat) : Int) false 0 (i + (runeAt s i).2.1.toNat)) _
        rw [er]
        refine Tot.in1 (g := fun k m m' => char_All_l1 (lv k) k s m m' (runeAt s i).1 false 0 (i + (runeAt s i).2.1.toNat)) ?_
        refine Tot.step1 (fun k p_ q_ => char_All_l1_q (lv k) k s p_ q_ (runeAt s i).1 false 0 (i + (runeAt s i).2.1.toNat)) ?_
        refine Tot.t (by rfl) (Tot.t (by rfl) (Tot.f (by rfl) (Tot.bind (char_tot' _) fun r1 hr1 => ?_)))
        rw [show IntKind.i64.wrap ((0 : Int) + 1) = 1 from rfl]
        refine Tot.step1 (fun k p_ q_ => char_All_l1_q (lv k) k s p_ q_ (runeAt s i).1 r1 1 (i + (runeAt s i).2.1.toNat)) ?_
        refine Tot.f (by rfl) (Tot.cond (fun c1 => Tot.ret ⟨fun e => (by cases e), fun e => ?_⟩) (fun c1 => ?_))
        · rw [hr1.2 (e _ (List.mem_cons_self ..))] at c1; cases c1
        · have c1 : r1 = true := by simpa using c1
          refine (ih _ _ h1 (by omega)).mono fun r hr => hr.trans ⟨fun e x hx => ?_, fun e x hx => e x (List.mem_cons_of_mem _ hx)⟩
          rcases List.mem_cons.1 hx with rfl | hx
          · exact hr1.1 c1
          · exact e x hx
      · rw [if_neg d] at h; cases h
    · rw [if_neg (of_decide_eq_false c)] at h
      cases h
      exact Tot.ret ⟨fun _ x hx => (by cases hx), fun _ => rfl⟩
theorem value_tot' : Tot (fun k _ _ => (lv k).lex_may s) (fun r => r = true ↔ okV s) := by
  refine lex_may_up _ (Tot.congr ?_ (fun k _ _ => lex_may_q (lv k) k s))
  refine Tot.bind (utfAll_tot s hz) fun r hr => Tot.cond (fun c => ?_) (fun c => Tot.ret ⟨fun e => (by cases e), fun ⟨l, hl, _⟩ => ?_⟩)
  · obtain ⟨l, hl⟩ := hr.1 (eq_of_beq c)
    refine Tot.bind (R := fun r => r = true ↔ ∀ x, x ∈ l → charP x) ?_ fun r2 hr2 => Tot.ret (hr2.trans ⟨fun e => ⟨l, hl, e⟩, fun ⟨l', hl', e⟩ => by rw [hl] at hl'; cases hl'; exact e⟩)
    refine char_All_up _ (Tot.congr ?_ (fun k _ _ => char_All_q (lv k) k s))
    exact Tot.in0 (charAll_tot s _ _ _ hl (by omega))
  · exact absurd (hr.2 ⟨l, hl⟩) (ne_of_beq_false c)
/-- a plain name -/
def plainP (s : ByteArray) : Prop := s.size ≠ 0 ∧ startP ((runesAux s s.size 0).getD 0 0) ∧ ∀ x, x ∈ runesAux s s.size 0 → partP x
theorem pplain_loop : ∀ (b i : Nat), 0 < i → s.size - i ≤ b → Tot (fun k m m' => name_Plain_l0 (lv k) k s m i) (fun r => r = true ↔ s.size ≠ 0 ∧ ∀ x, x ∈ runesAux s b i → partP x) := by
  have fin : Tot (fun _ _ _ => some (!(s.toList == (⟨#[]⟩ : ByteArray).toList))) (fun r => r = true ↔ s.size ≠ 0) := by
    refine Tot.ret ?_
    rw [Bool.not_eq_true', Bool.eq_false_iff, ne_eq, str_eq]
    constructor
    · intro h e
      apply h
      apply bl_inj'
      exact e
    · intro h e
      rw [e] at h
      exact h rfl
  intro b
  induction b with
  | zero =>
    intro i hi hb
    refine Tot.step0 (fun k p_ q_ => name_Plain_l0_q (lv k) k s p_ i) ?_
    exact Tot.f (decide_eq_false (by omega)) (fin.mono fun r hr => hr.trans ⟨fun e => ⟨e, fun x hx => (by cases hx)⟩, fun e => e.1⟩)
  | succ b ih =>
    intro i hi hb
    refine Tot.step0 (fun k p_ q_ => name_Plain_l0_q (lv k) k s p_ i) ?_
    rw [runesAux]
    refine Tot.cond (fun c => ?_) (fun c => ?_)
    · have c := of_decide_eq_true c
      have hw := Lib.decode_width_pos s i c
      rw [if_pos c]
      refine Tot.f (by rw [beq_eq_false_iff_ne]; omega) (Tot.bind (ppart_tot _) fun r3 hr3 => Tot.cond (fun d => Tot.ret ⟨fun e => (by cases e), fun e => ?_⟩) (fun d => ?_))
      · rw [hr3.2 (e.2 _ (List.mem_cons_self ..))] at d; cases d
      · have d : r3 = true := by simpa using d
        refine (ih _ (by omega) (by omega)).mono fun r hr => hr.trans ⟨fun e => ⟨e.1, fun x hx => ?_⟩, fun e => ⟨e.1, fun x hx => e.2 x (List.mem_cons_of_mem _ hx)⟩⟩
        rcases List.mem_cons.1 hx with rfl | hx
        · exact hr3.1 d
        · exact e.2 x hx
    · rw [if_neg (of_decide_eq_false c)]
      exact fin.mono fun r hr => hr.trans ⟨fun e => ⟨e, fun x hx => (by cases hx)⟩, fun e => e.1⟩
theorem pplain_tot : Tot (fun k _ _ => (lv k).name_Plain s) (fun r => r = true ↔ plainP s) := by
  refine name_Plain_up _ (Tot.congr ?_ (fun k _ _ => name_Plain_q (lv k) k s))
  refine Tot.in0 (g := fun k m m' => name_Plain_l0 (lv k) k s m 0) ?_
  refine Tot.step0 (fun k p_ q_ => name_Plain_l0_q (lv k) k s p_ 0) ?_
  unfold plainP
  refine Tot.cond (fun c => ?_) (fun c => ?_)
  · have c := of_decide_eq_true c
    have hw := Lib.decode_width_pos s 0 c
    obtain ⟨n, hn⟩ : ∃ n, s.size = n + 1 := ⟨s.size - 1, by omega⟩
    have er : runesAux s s.size 0 = ((Utf8.decode s 0).1 : Int) :: runesAux s n (0 + (Utf8.decode s 0).2) := by rw [hn, runesAux, if_pos c]
    rw [er]
    refine Tot.t (by rfl) (Tot.bind (pstart_tot _) fun r1 hr1 => Tot.cond (fun d => Tot.ret ⟨fun e => (by cases e), fun e => ?_⟩) (fun d => Tot.bind (ppart_tot _) fun r2 hr2 => Tot.cond (fun d2 => Tot.ret ⟨fun e => (by cases e), fun e => ?_⟩) (fun d2 => ?_)))
    · rw [hr1.2 e.2.1] at d; cases d
    · rw [hr2.2 (e.2.2 _ (List.mem_cons_self ..))] at d2; cases d2
    · have d : r1 = true := by simpa using d
      have d2 : r2 = true := by simpa using d2
      refine (pplain_loop s hz n _ (by omega) (by omega)).mono fun r hr => hr.trans ⟨fun e => ⟨e.1, hr1.1 d, fun x hx => ?_⟩, fun e => ⟨e.1, fun x hx => e.2.2 x (List.mem_cons_of_mem _ hx)⟩⟩
      rcases List.mem_cons.1 hx with rfl | hx
      · exact hr2.1 d2
      · exact e.2 x hx
  · have c := of_decide_eq_false c
    have e0 : s.size = 0 := by omega
    have es : s = ⟨#[]⟩ := bl_inj' e0
    refine Tot.ret ⟨fun e => ?_, fun e => absurd e0 e.1⟩
    rw [es, str_eq.2 rfl] at e
    cases e
end
-- x
abbrev BL := List UInt8
theorem bl_list (s : ByteArray) : bl s.data.toList = s := by
  obtain ⟨d⟩ := s
  simp [bl]
theorem bl_data (l : BL) : (bl l).data.toList = l := by simp [bl]
theorem bl_size (l : BL) : (bl l).size = l.length := by simp [bl, ByteArray.size]
theorem bl_app (a b : BL) : bl a ++ bl b = bl (a ++ b) := by
  apply ByteArray.ext
  rw [ByteArray.data_append]
  simp [bl]
theorem bl_ext (l : BL) (i j : Nat) : (bl l).extract i j = bl ((l.drop i).take (j - i)) := Lib.extract_mk l i j
theorem bl_inj {a b : BL} (h : bl a = bl b) : a = b := by rw [← bl_data a, h, bl_data]
theorem byt_bl (l : BL) (p : Nat) : byt (bl l) p = ((l.getD p 0).toNat : Int) := by
  unfold byt
  rw [Int.toNat_natCast]
  simp [bl, List.getD_eq_getElem?_getD, Array.getD_eq_getD_getElem?]
/-- bytes that are one rune's, whatever stands around them -/
structure Ch (c : BL) (r : Int) : Prop where
  ne : c ≠ []
  here : ∀ p t : BL, runeAt (bl (p ++ (c ++ t))) p.length = (r, (c.length : Int), 0)
  lo : r < 128 → ∃ b : UInt8, c = [b] ∧ (b.toNat : Int) = r
  hi : 128 ≤ r → ∀ b, b ∈ c → 128 ≤ b.toNat
theorem Rn_same (b0 b1 b2 b3 n : Int) (h0 : 0 ≤ b0) (h0' : b0 ≤ 255) (hn : 1 ≤ n) (h : (Rn b0 b1 b2 b3 n).2.2 = 0) :
    (1 ≤ (Rn b0 b1 b2 b3 n).2.1 ∧ (Rn b0 b1 b2 b3 n).2.1 ≤ n ∧ (Rn b0 b1 b2 b3 n).2.1 ≤ 4) ∧
    (∀ c1 c2 c3 m, (Rn b0 b1 b2 b3 n).2.1 ≤ m → (2 ≤ (Rn b0 b1 b2 b3 n).2.1 → c1 = b1) → (3 ≤ (Rn b0 b1 b2 b3 n).2.1 → c2 = b2) → (4 ≤ (Rn b0 b1 b2 b3 n).2.1 → c3 = b3) → Rn b0 c1 c2 c3 m = Rn b0 b1 b2 b3 n) ∧
    ((Rn b0 b1 b2 b3 n).1 < 128 → (Rn b0 b1 b2 b3 n).2.1 = 1 ∧ b0 = (Rn b0 b1 b2 b3 n).1) ∧
    (128 ≤ (Rn b0 b1 b2 b3 n).1 → 128 ≤ b0 ∧ (2 ≤ (Rn b0 b1 b2 b3 n).2.1 → 128 ≤ b1) ∧ (3 ≤ (Rn b0 b1 b2 b3 n).2.1 → 128 ≤ b2) ∧ (4 ≤ (Rn b0 b1 b2 b3 n).2.1 → 128 ≤ b3)) := by
  rw [Rn_ref _ _ _ _ _ h0 h0' hn] at h ⊢
  by_cases c1 : b0 < 128
  · rw [if_pos c1]
    simp only
    refine ⟨by omega, fun d1 d2 d3 m hm _ _ _ => ?_, fun _ => ⟨trivial, trivial⟩, fun h => by omega⟩
    rw [Rn_ref _ _ _ _ _ h0 h0' hm, if_pos c1]
  rw [if_neg c1] at h ⊢
  by_cases c2 : 2 ≤ n ∧ 194 ≤ b0 ∧ b0 < 224 ∧ 128 ≤ b1 ∧ b1 < 192
  · rw [if_pos c2]
    simp only
    refine ⟨by omega, fun d1 d2 d3 m hm e1 _ _ => ?_, fun h => by omega, fun h => by omega⟩
    have e1 := e1 (by omega)
    subst e1
    rw [Rn_ref _ _ _ _ _ h0 h0' (by omega), if_neg c1, if_pos (by omega)]
  rw [if_neg c2] at h ⊢
  by_cases c3 : 3 ≤ n ∧ 224 ≤ b0 ∧ b0 < 240 ∧ (128 ≤ b1 ∧ b1 < 192) ∧ ¬ (b0 = 224 ∧ b1 < 160 ∨ b0 = 237 ∧ 160 ≤ b1) ∧ 128 ≤ b2 ∧ b2 < 192
  · rw [if_pos c3]
    simp only
    refine ⟨by omega, fun d1 d2 d3 m hm e1 e2 _ => ?_, fun h => by omega, fun h => by omega⟩
    have e1 := e1 (by omega)
    have e2 := e2 (by omega)
    subst e1 e2
    rw [Rn_ref _ _ _ _ _ h0 h0' (by omega), if_neg c1, if_neg (by omega), if_pos (by omega)]
  rw [if_neg c3] at h ⊢
  by_cases c4 : 4 ≤ n ∧ 240 ≤ b0 ∧ b0 < 245 ∧ (128 ≤ b1 ∧ b1 < 192) ∧ ¬ (b0 = 240 ∧ b1 < 144 ∨ b0 = 244 ∧ 144 ≤ b1) ∧ (128 ≤ b2 ∧ b2 < 192) ∧ 128 ≤ b3 ∧ b3 < 192
  · rw [if_pos c4]
    simp only
    refine ⟨by omega, fun d1 d2 d3 m hm e1 e2 e3 => ?_, fun h => by omega, fun h => by omega⟩
    have e1 := e1 (by omega)
    have e2 := e2 (by omega)
    have e3 := e3 (by omega)
    subst e1 e2 e3
    rw [Rn_ref _ _ _ _ _ h0 h0' (by omega), if_neg c1, if_neg (by omega), if_neg (by omega), if_pos (by omega)]
  rw [if_neg c4] at h
  exfalso
  split at h <;> simp at h
theorem getD_mid (p c t : BL) (j : Nat) (h : j < c.length) : (p ++ (c ++ t)).getD (p.length + j) 0 = c.getD j 0 := by
  rw [List.getD_eq_getElem?_getD, List.getElem?_append_right (by omega), Nat.add_sub_cancel_left, List.getElem?_append_left h, ← List.getD_eq_getElem?_getD]
/-- the rune at a place is a chunk -/
theorem ch_of (s : ByteArray) (i : Nat) (hi : i < s.size) (h : (runeAt s i).2.2 = 0) : ∃ c, Ch c (runeAt s i).1 ∧ (c.length : Int) = (runeAt s i).2.1 ∧ s.data.toList.drop i = c ++ s.data.toList.drop (i + c.length) := by
  have hsz : s.size = s.data.toList.length := Lib.size_eq s
  have e : runeAt s i = Rn (byt s i) (byt s (i + 1)) (byt s (i + 2)) (byt s (i + 3)) (s.size - i) := by rw [runeAt, if_neg (by omega)]
  have hb := bt_range s i
  rw [e] at h ⊢
  obtain ⟨h1, h2, h3, h4⟩ := Rn_same _ _ _ _ _ hb.1 hb.2 (by omega) h
  generalize hr : Rn (byt s i) (byt s (i + 1)) (byt s (i + 2)) (byt s (i + 3)) (s.size - i) = r at *
  obtain ⟨w, hw⟩ : ∃ w : Nat, r.2.1 = w := ⟨r.2.1.toNat, by omega⟩
  have hc : ((s.data.toList.drop i).take w).length = w := by rw [List.length_take, List.length_drop]; omega
  have bs : ∀ j : Nat, j < w → byt s ((i : Int) + j) = ((((s.data.toList.drop i).take w).getD j 0).toNat : Int) := fun j hj => by
    rw [List.getD_eq_getElem?_getD, List.getElem?_take_of_lt hj, List.getElem?_drop, ← List.getD_eq_getElem?_getD, ← byt_bl, bl_list]
    rfl
  refine ⟨(s.data.toList.drop i).take w, ⟨fun e0 => ?_, fun p t => ?_, fun hlo => ?_, fun hhi b hbm => ?_⟩, by rw [hc, hw], ?_⟩
  · rw [e0] at hc
    have : w = 0 := hc.symm
    omega
  · generalize hcc : (s.data.toList.drop i).take w = c at hc bs ⊢
    have g : ∀ j : Nat, j < w → byt (bl (p ++ (c ++ t))) ((p.length : Int) + j) = byt s ((i : Int) + j) := fun j hj => by
      rw [bs j hj, show (p.length : Int) + j = ((p.length + j : Nat) : Int) by omega, byt_bl, getD_mid p c t j (by omega)]
    have g0 := g 0 (by omega)
    rw [show (p.length : Int) + ((0 : Nat) : Int) = p.length by omega, show (i : Int) + ((0 : Nat) : Int) = i by omega] at g0
    rw [runeAt, if_neg (by rw [bl_size, List.length_append, List.length_append]; omega), g0]
    rw [h2 (byt (bl (p ++ (c ++ t))) (p.length + 1)) (byt (bl (p ++ (c ++ t))) (p.length + 2)) (byt (bl (p ++ (c ++ t))) (p.length + 3)) _ (by rw [bl_size, List.length_append, List.length_append]; omega) (fun hh => g 1 (by omega)) (fun hh => g 2 (by omega)) (fun hh => g 3 (by omega))]
    rw [hc]
    exact Prod.ext rfl (Prod.ext hw h)
  · obtain ⟨a, b⟩ := h3 hlo
    have w1 : w = 1 := by omega
    subst w1
    have b0 := bs 0 (by omega)
    rw [show (i : Int) + ((0 : Nat) : Int) = i by omega] at b0
    match hm : (s.data.toList.drop i).take 1, hc, b0 with
    | [x], _, b0 => exact ⟨x, rfl, by rw [← b, b0]; rfl⟩
  · obtain ⟨j, hj, rfl⟩ := List.getElem_of_mem hbm
    rw [hc] at hj
    have hbj := bs j hj
    rw [List.getD_eq_getElem?_getD, List.getElem?_eq_getElem (by omega)] at hbj
    have hbj : byt s ((i : Int) + j) = ((((s.data.toList.drop i).take w)[j]'(by omega)).toNat : Int) := hbj
    obtain ⟨a0, a1, a2, a3⟩ := h4 hhi
    rcases (show j = 0 ∨ j = 1 ∨ j = 2 ∨ j = 3 by omega) with rfl | rfl | rfl | rfl
    · rw [show (i : Int) + ((0 : Nat) : Int) = i by omega] at hbj; omega
    · have := a1 (by omega); have e1 : (i : Int) + ((1 : Nat) : Int) = i + 1 := rfl; rw [e1] at hbj; omega
    · have := a2 (by omega); have e1 : (i : Int) + ((2 : Nat) : Int) = i + 2 := rfl; rw [e1] at hbj; omega
    · have := a3 (by omega); have e1 : (i : Int) + ((3 : Nat) : Int) = i + 3 := rfl; rw [e1] at hbj; omega
  · rw [hc, ← List.drop_drop, List.take_append_drop]
/-- a byte below 128 is a chunk -/
theorem ch_ascii (b : UInt8) (h : b.toNat < 128) : Ch [b] b.toNat := by
  refine ⟨by simp, fun p t => ?_, fun _ => ⟨b, rfl, rfl⟩, fun h2 => by omega⟩
  rw [runeAt, if_neg (by rw [bl_size, List.length_append]; simp; omega)]
  have e : byt (bl (p ++ ([b] ++ t))) p.length = b.toNat := by
    rw [byt_bl]
    have := getD_mid p [b] t 0 (by simp)
    rw [Nat.add_zero] at this
    rw [this]; rfl
  rw [e, Rn, if_pos (by omega)]
  rfl
/-! rows of runes -/
abbrev RT := List (BL × Int)
def flat (t : RT) : BL := t.flatMap (·.1)
theorem flat_nil : flat [] = [] := rfl
theorem flat_cons (x : BL × Int) (t : RT) : flat (x :: t) = x.1 ++ flat t := rfl
theorem flat_app (a b : RT) : flat (a ++ b) = flat a ++ flat b := List.flatMap_append ..
def Vt (t : RT) : Prop := ∀ x, x ∈ t → Ch x.1 x.2
theorem Vt.tail {x : BL × Int} {t : RT} (h : Vt (x :: t)) : Vt t := fun y hy => h y (List.mem_cons_of_mem _ hy)
theorem Vt.head {x : BL × Int} {t : RT} (h : Vt (x :: t)) : Ch x.1 x.2 := h x (List.mem_cons_self ..)
theorem Vt.app {a b : RT} (h : Vt a) (h' : Vt b) : Vt (a ++ b) := fun x hx => (List.mem_append.1 hx).elim (h x) (h' x)
theorem Vt.left {a b : RT} (h : Vt (a ++ b)) : Vt a := fun x hx => h x (List.mem_append_left _ hx)
theorem Vt.right {a b : RT} (h : Vt (a ++ b)) : Vt b := fun x hx => h x (List.mem_append_right _ hx)
theorem Ch.pos {c : BL} {r : Int} (h : Ch c r) : 0 < c.length := by
  cases c with
  | nil => exact absurd rfl h.ne
  | cons _ _ => exact Nat.succ_pos _
theorem flat_len {t : RT} (h : Vt t) : t.length ≤ (flat t).length := by
  induction t with
  | nil => exact Nat.le_refl _
  | cons x t ih =>
    have := h.head.pos
    have := ih h.tail
    rw [flat_cons, List.length_append, List.length_cons]
    omega
theorem rune_T (p : BL) {x : BL × Int} {t : RT} (h : Ch x.1 x.2) : runeAt (bl (p ++ flat (x :: t))) p.length = (x.2, (x.1.length : Int), 0) := by
  rw [flat_cons]
  exact h.here p (flat t)
theorem dec_T (p : BL) {x : BL × Int} {t : RT} (h : Ch x.1 x.2) : (Utf8.decode (bl (p ++ flat (x :: t))) p.length).2 = x.1.length ∧ ((Utf8.decode (bl (p ++ flat (x :: t))) p.length).1 : Int) = x.2 := by
  have e := rune_T p (t := t) h
  have hp := h.pos
  obtain ⟨a, b, c, d, f⟩ := rune_dec (bl (p ++ flat (x :: t))) p.length (by rw [bl_size, List.length_append, flat_cons, List.length_append]; omega) (by rw [e])
  rw [e] at a d
  rw [a]
  simp only at d ⊢
  omega
theorem runes_of_T {t : RT} (h : Vt t) : ∀ (p : BL) (b : Nat), (flat t).length ≤ b → runes (bl (p ++ flat t)) b p.length = some (t.map (·.2)) := by
  induction t with
  | nil =>
    intro p b _
    cases b with
    | zero => rfl
    | succ b => rw [runes, if_neg (by rw [bl_size, flat_nil, List.append_nil]; omega)]; rfl
  | cons x t ih =>
    intro p b hb
    have hp := h.head.pos
    rw [flat_cons, List.length_append] at hb
    obtain ⟨b, rfl⟩ : ∃ c, b = c + 1 := ⟨b - 1, by omega⟩
    rw [runes, if_pos (by rw [bl_size, List.length_append, flat_cons, List.length_append]; omega), rune_T p h.head, if_pos rfl]
    simp only
    have := ih h.tail (p ++ x.1) b (by omega)
    rw [List.append_assoc, List.length_append] at this
    rw [flat_cons, Int.toNat_natCast, this]
    rfl
theorem T_of_runes (s : ByteArray) : ∀ (b i : Nat) (l : List Int), runes s b i = some l → s.size - i ≤ b → ∃ t, Vt t ∧ t.map (·.2) = l ∧ s.data.toList.drop i = flat t := by
  have hsz : s.size = s.data.toList.length := Lib.size_eq s
  intro b
  induction b with
  | zero =>
    intro i l h hb
    cases h
    exact ⟨[], fun x hx => (by cases hx), rfl, List.drop_eq_nil_of_le (by omega)⟩
  | succ b ih =>
    intro i l h hb
    rw [runes] at h
    by_cases c : i < s.size
    · rw [if_pos c] at h
      by_cases d : (runeAt s i).2.2 = 0
      · rw [if_pos d] at h
        obtain ⟨l', h1, rfl⟩ := Option.map_eq_some_iff.1 h
        obtain ⟨cc, hc, hcl, hd⟩ := ch_of s i c d
        have hp := hc.pos
        obtain ⟨t, t1, t2, t3⟩ := ih _ _ h1 (by omega)
        refine ⟨(cc, (runeAt s i).1) :: t, fun x hx => ?_, by rw [List.map_cons, t2], ?_⟩
        · rcases List.mem_cons.1 hx with rfl | hx
          · exact hc
          · exact t1 x hx
        · rw [hd, flat_cons, show i + cc.length = i + (runeAt s i).2.1.toNat by omega, t3]
      · rw [if_neg d] at h; cases h
    · rw [if_neg c] at h
      cases h
      exact ⟨[], fun x hx => (by cases hx), rfl, List.drop_eq_nil_of_le (by omega)⟩
/-- a text that may be, rune by rune -/
def Tx (t : RT) : Prop := Vt t ∧ ∀ x, x ∈ t → charP x.2
theorem okV_T {s : ByteArray} (h : okV s) : ∃ t, Tx t ∧ s = bl (flat t) := by
  obtain ⟨l, h1, h2⟩ := h
  obtain ⟨t, t1, t2, t3⟩ := T_of_runes s _ _ _ h1 (by omega)
  refine ⟨t, ⟨t1, fun x hx => h2 _ (by rw [← t2]; exact List.mem_map_of_mem hx)⟩, ?_⟩
  rw [← t3, List.drop_zero, bl_list]
theorem T_okV {t : RT} (h : Tx t) : okV (bl (flat t)) := by
  have := runes_of_T h.1 [] (flat t).length (Nat.le_refl _)
  rw [List.nil_append] at this
  refine ⟨_, by rw [bl_size]; exact this, fun x hx => ?_⟩
  obtain ⟨y, hy, rfl⟩ := List.mem_map.1 hx
  exact h.2 y hy
theorem Tx.app {a b : RT} (h : Tx a) (h' : Tx b) : Tx (a ++ b) := ⟨h.1.app h'.1, fun x hx => (List.mem_append.1 hx).elim (h.2 x) (h'.2 x)⟩
theorem Tx.left {a b : RT} (h : Tx (a ++ b)) : Tx a := ⟨h.1.left, fun x hx => h.2 x (List.mem_append_left _ hx)⟩
theorem Tx.right {a b : RT} (h : Tx (a ++ b)) : Tx b := ⟨h.1.right, fun x hx => h.2 x (List.mem_append_right _ hx)⟩
/-! bytes below 128 in such a row -/
theorem first_byte {x : BL × Int} (h : Ch x.1 x.2) : ∃ b c, x.1 = b :: c ∧ (x.2 < 128 → c = [] ∧ (b.toNat : Int) = x.2) ∧ (128 ≤ x.2 → 128 ≤ b.toNat) := by
  cases hx : x.1 with
  | nil => exact absurd hx h.ne
  | cons b c =>
    refine ⟨b, c, rfl, fun hl => ?_, fun hh => h.hi hh b (by rw [hx]; exact List.mem_cons_self ..)⟩
    obtain ⟨b', h1, h2⟩ := h.lo hl
    rw [hx] at h1
    cases h1
    exact ⟨rfl, h2⟩
theorem byte_is {x : BL × Int} (h : Ch x.1 x.2) {b : UInt8} (hb : b.toNat < 128) : (b ∈ x.1 ↔ x.2 = b.toNat) ∧ (x.2 = b.toNat → x.1 = [b]) := by
  have k : x.2 = b.toNat → x.1 = [b] := fun e => by
    obtain ⟨b', h1, h2⟩ := h.lo (by omega)
    have : b' = b := UInt8.toNat_inj.1 (by omega)
    rw [h1, this]
  refine ⟨⟨fun hm => ?_, fun e => by rw [k e]; exact List.mem_singleton.2 rfl⟩, k⟩
  by_cases hl : x.2 < 128
  · obtain ⟨b', h1, h2⟩ := h.lo hl
    rw [h1] at hm
    rw [List.mem_singleton.1 hm]; omega
  · have := h.hi (by omega) b hm
    omega
theorem mem_flat {t : RT} (h : Vt t) {b : UInt8} (hb : b.toNat < 128) : b ∈ flat t ↔ ∃ x, x ∈ t ∧ x.2 = b.toNat := by
  unfold flat
  rw [List.mem_flatMap]
  constructor
  · rintro ⟨x, hx, hm⟩
    exact ⟨x, hx, (byte_is (h x hx) hb).1.1 hm⟩
  · rintro ⟨x, hx, e⟩
    exact ⟨x, hx, (byte_is (h x hx) hb).1.2 e⟩
/-- the first rune that is a: what stands ahead, what stands behind -/
def spl (a : Int) : RT → Option (RT × RT)
  | [] => none
  | x :: t => if x.2 = a then some ([], t) else (spl a t).map fun p => (x :: p.1, p.2)
theorem spl_none {a : Int} {t : RT} (h : spl a t = none) : ∀ x, x ∈ t → x.2 ≠ a := by
  induction t with
  | nil => intro x hx; cases hx
  | cons y t ih =>
    rw [spl] at h
    by_cases e : y.2 = a
    · rw [if_pos e] at h; cases h
    · rw [if_neg e, Option.map_eq_none_iff] at h
      intro x hx
      rcases List.mem_cons.1 hx with rfl | hx
      · exact e
      · exact ih h x hx
theorem spl_some {a : Int} {t p q : RT} (h : spl a t = some (p, q)) : ∃ x, t = p ++ x :: q ∧ x.2 = a ∧ ∀ y, y ∈ p → y.2 ≠ a := by
  induction t generalizing p with
  | nil => cases h
  | cons y t ih =>
    rw [spl] at h
    by_cases e : y.2 = a
    · rw [if_pos e] at h
      cases h
      exact ⟨y, rfl, e, fun y hy => by cases hy⟩
    · rw [if_neg e, Option.map_eq_some_iff] at h
      obtain ⟨⟨p', q'⟩, h1, h2⟩ := h
      cases h2
      obtain ⟨x, h3, h4, h5⟩ := ih h1
      refine ⟨x, by rw [h3]; rfl, h4, fun z hz => ?_⟩
      rcases List.mem_cons.1 hz with rfl | hz
      · exact e
      · exact h5 z hz
theorem spl_app {a : Int} {p : RT} (h : ∀ y, y ∈ p → y.2 ≠ a) {x : BL × Int} (hx : x.2 = a) (q : RT) : spl a (p ++ x :: q) = some (p, q) := by
  induction p with
  | nil => show spl a (x :: q) = _; rw [spl, if_pos hx]
  | cons y p ih =>
    show spl a (y :: (p ++ x :: q)) = _
    rw [spl, if_neg (h y (List.mem_cons_self ..)), ih fun z hz => h z (List.mem_cons_of_mem _ hz)]
    rfl
theorem idx_none {b : UInt8} : ∀ {l : BL}, b ∉ l → Lib.index l [b] = -1 := by
  intro l
  induction l with
  | nil => intro _; rfl
  | cons c l ih =>
    intro h
    rw [Lib.index, ih fun hm => h (List.mem_cons_of_mem _ hm)]
    rw [if_neg (by simp; intro e; exact h (by rw [e]; exact List.mem_cons_self ..))]
    rfl
theorem idx_some {b : UInt8} : ∀ {p q : BL}, b ∉ p → Lib.index (p ++ b :: q) [b] = p.length := by
  intro p
  induction p with
  | nil => intro q _; show Lib.index (b :: q) [b] = _; rw [Lib.index, if_pos (by simp)]; rfl
  | cons c p ih =>
    intro q h
    have := ih (q := q) fun hm => h (List.mem_cons_of_mem _ hm)
    show Lib.index (c :: (p ++ b :: q)) [b] = _
    rw [Lib.index, this, if_neg (by simp; intro e; exact h (by rw [e]; exact List.mem_cons_self ..)), if_neg (by rw [beq_iff_eq]; omega)]
    simp
theorem cut_none {b : UInt8} {l : BL} (h : b ∉ l) : Lib.cut l [b] = (l, [], false) := by
  unfold Lib.cut
  rw [idx_none h, if_neg (by omega)]
theorem cut_some {b : UInt8} {p q : BL} (h : b ∉ p) : Lib.cut (p ++ b :: q) [b] = (p, q, true) := by
  unfold Lib.cut
  rw [idx_some h, if_pos (by omega), Int.toNat_natCast]
  simp
theorem cut_T {t : RT} (h : Vt t) (b : UInt8) (hb : b.toNat < 128) : Lib.cut (flat t) [b] = match spl b.toNat t with
    | none => (flat t, [], false)
    | some (p, q) => (flat p, flat q, true) := by
  cases e : spl b.toNat t with
  | none =>
    refine cut_none fun hm => ?_
    obtain ⟨x, hx, he⟩ := (mem_flat h hb).1 hm
    exact spl_none e x hx he
  | some r =>
    obtain ⟨p, q⟩ := r
    obtain ⟨x, h1, h2, h3⟩ := spl_some e
    subst h1
    have hx := h x (List.mem_append_right _ (List.mem_cons_self ..))
    rw [flat_app, flat_cons, (byte_is hx hb).2 h2]
    refine cut_some fun hm => ?_
    obtain ⟨y, hy, he⟩ := (mem_flat h.left hb).1 hm
    exact h3 y hy he
theorem split_at (b : UInt8) : ∀ {l : BL}, b ∈ l → ∃ p q, l = p ++ b :: q ∧ b ∉ p := by
  intro l
  induction l with
  | nil => intro h; cases h
  | cons c l ih =>
    intro h
    by_cases e : c = b
    · exact ⟨[], l, by rw [e]; rfl, by simp⟩
    · obtain ⟨p, q, h1, h2⟩ := ih ((List.mem_cons.1 h).resolve_left (fun e' => e e'.symm))
      exact ⟨c :: p, q, by rw [h1]; rfl, fun hm => (List.mem_cons.1 hm).elim (fun e' => e e'.symm) h2⟩
theorem contains_one (l : BL) (b : UInt8) : Lib.contains l [b] = decide (b ∈ l) := by
  unfold Lib.contains
  by_cases h : b ∈ l
  · obtain ⟨p, q, rfl, hp⟩ := split_at b h
    rw [idx_some hp, decide_eq_true h]
    exact decide_eq_true (by omega)
  · rw [idx_none h, decide_eq_false h]
    rfl
-- l
open Classical in
noncomputable def isStart (r : Int) : Bool := decide (startP r)
open Classical in
noncomputable def isPart (r : Int) : Bool := decide (partP r)
open Classical in
theorem isStart_iff {r : Int} : isStart r = true ↔ startP r := by unfold isStart; exact decide_eq_true_iff
open Classical in
theorem isPart_iff {r : Int} : isPart r = true ↔ partP r := by unfold isPart; exact decide_eq_true_iff
/-- the longest plain name that a text begins with -/
noncomputable def plT : RT → RT
  | [] => []
  | x :: t => if isStart x.2 = true then x :: t.takeWhile (fun y => isPart y.2) else []
theorem plT_pre (t : RT) : t = plT t ++ t.drop (plT t).length := by
  have h : plT t <+: t := by
    cases t with
    | nil => exact List.prefix_refl _
    | cons x t =>
      rw [plT]
      split
      · exact List.cons_prefix_cons.2 ⟨rfl, List.takeWhile_prefix _⟩
      · exact List.nil_prefix
  obtain ⟨u, hu⟩ := h
  generalize plT t = p at *
  subst hu
  rw [List.drop_left]
theorem flat_nil_iff {t : RT} (h : Vt t) : flat t = [] ↔ t = [] := by
  constructor
  · intro e
    have := flat_len h
    rw [e] at this
    exact List.length_eq_zero_iff.1 (by simpa using this)
  · rintro rfl; rfl
theorem bl_empty {l : BL} : ((bl l).toList == (⟨#[]⟩ : ByteArray).toList) = true ↔ l = [] := by
  rw [str_eq]
  constructor
  · intro h; exact bl_inj (b := []) h
  · rintro rfl; rfl
theorem plain_loop : ∀ (B A : RT), Vt (A ++ B) → 0 < (flat A).length → (flat (A ++ B)).length ≤ 1048576 → Tot (fun k m m' => lex_plain_l0 (lv k) k (bl (flat (A ++ B))) m (flat A).length) (fun r => r = bl (flat (A ++ B.takeWhile (fun y => isPart y.2)))) := by
  intro B
  induction B with
  | nil =>
    intro A hv hp hl
    refine Tot.step0 (fun k p_ q_ => lex_plain_l0_q (lv k) k (bl (flat (A ++ []))) p_ (flat A).length) ?_
    refine Tot.f (decide_eq_false (by rw [bl_size, List.append_nil]; omega)) (Tot.ret rfl)
  | cons x B ih =>
    intro A hv hp hl
    have hx : Ch x.1 x.2 := hv x (List.mem_append_right _ (List.mem_cons_self ..))
    have hxp := hx.pos
    have e := dec_T (flat A) (t := B) hx
    rw [← flat_app] at e
    have hlen : (flat (A ++ x :: B)).length = (flat A).length + (x.1.length + (flat B).length) := by rw [flat_app, flat_cons, List.length_append, List.length_append]
    refine Tot.step0 (fun k p_ q_ => lex_plain_l0_q (lv k) k (bl (flat (A ++ x :: B))) p_ (flat A).length) ?_
    rw [e.1, e.2, bl_size]
    refine Tot.t (decide_eq_true (by omega)) (Tot.f (by rw [beq_eq_false_iff_ne]; omega) (Tot.bind (ppart_tot _) fun r3 hr3 => Tot.cond (fun c => ?_) (fun c => ?_)))
    · have np : ¬ isPart x.2 = true := fun h => by rw [hr3.2 (isPart_iff.1 h)] at c; cases c
      refine Tot.t (decide_eq_true (by omega)) (Tot.t (decide_eq_true (by omega)) (Tot.t (decide_eq_true (by omega)) (Tot.ret ?_)))
      rw [List.takeWhile_cons, if_neg np, Int.toNat_natCast, bl_ext, List.append_nil, flat_app]
      simp
    · have yp : isPart x.2 = true := isPart_iff.2 (hr3.1 (by simpa using c))
      have := ih (A ++ [x]) (by rw [List.append_assoc]; exact hv) (by rw [flat_app, List.length_append]; omega) (by rw [List.append_assoc]; exact hl)
      rw [List.append_assoc, List.append_assoc, show (flat (A ++ [x])).length = (flat A).length + x.1.length by rw [flat_app, List.length_append]; simp [flat]] at this
      rw [List.takeWhile_cons, if_pos yp]
      exact this
theorem plain_tot {T : RT} (h : Vt T) (hl : (flat T).length ≤ 1048576) : Tot (fun k _ _ => (lv k).lex_plain (bl (flat T))) (fun r => r = bl (flat (plT T))) := by
  refine lex_plain_up _ (Tot.congr ?_ (fun k _ _ => lex_plain_q (lv k) k (bl (flat T))))
  refine Tot.in0 (g := fun k m m' => lex_plain_l0 (lv k) k (bl (flat T)) m 0) ?_
  refine Tot.step0 (fun k p_ q_ => lex_plain_l0_q (lv k) k (bl (flat T)) p_ 0) ?_
  cases T with
  | nil => exact Tot.f (decide_eq_false (by rw [bl_size]; exact Nat.lt_irrefl 0)) (Tot.ret rfl)
  | cons x T =>
    have hx := h.head
    have hxp := hx.pos
    have e := dec_T [] (t := T) hx
    rw [List.nil_append, List.length_nil] at e
    have hlen : (flat (x :: T)).length = x.1.length + (flat T).length := by rw [flat_cons, List.length_append]
    rw [e.1, e.2, bl_size]
    have stop : Tot (fun _ _ _ => cond (decide ((0 : Int) ≤ ((0 : Nat) : Int))) (cond (decide (((0 : Nat) : Int) ≤ ((flat (x :: T)).length : Int))) (cond (decide ((0 : Int) ≤ ((0 : Nat) : Int))) (some ((bl (flat (x :: T))).extract 0 (((0 : Nat) : Int).toNat))) none) none) none) (fun r => r = bl []) := by
      refine Tot.t (decide_eq_true (by omega)) (Tot.t (decide_eq_true (by omega)) (Tot.t (decide_eq_true (by omega)) (Tot.ret ?_)))
      rw [bl_ext]; rfl
    refine Tot.t (decide_eq_true (by omega)) (Tot.t (by rfl) (Tot.bind (pstart_tot _) fun r1 hr1 => Tot.cond (fun c => ?_) (fun c => ?_)))
    · have ns : ¬ isStart x.2 = true := fun h => by rw [hr1.2 (isStart_iff.1 h)] at c; cases c
      rw [plT, if_neg ns]
      exact stop
    · have ys : startP x.2 := hr1.1 (by simpa using c)
      rw [plT, if_pos (isStart_iff.2 ys)]
      refine Tot.bind (ppart_tot _) fun r2 hr2 => Tot.f (by rw [hr2.2 (.inl ys)]; rfl) ?_
      have := plain_loop T [x] h (by show 0 < (flat [x]).length; simp [flat]; omega) hl
      rw [show (flat [x]).length = 0 + x.1.length by simp [flat]] at this
      exact this
/-! prefixes -/
theorem hp_tot (u v : BL) : Tot (fun k _ _ => (lv k).stringslite_HasPrefix (bl u) (bl v)) (fun r => r = decide (u.take v.length = v)) := by
  refine stringslite_HasPrefix_up _ _ (Tot.congr ?_ (fun k _ _ => stringslite_HasPrefix_q (lv k) k (bl u) (bl v)))
  rw [bl_size, bl_size, Int.toNat_natCast]
  refine Tot.cond (fun c => ?_) (fun c => Tot.ret ?_)
  · have c := of_decide_eq_true c
    refine Tot.t (decide_eq_true (by omega)) (Tot.t (decide_eq_true (by omega)) (Tot.t (decide_eq_true (by omega)) (Tot.ret ?_)))
    rw [bl_ext, List.drop_zero, Nat.sub_zero, Bool.eq_iff_iff, str_eq, decide_eq_true_eq]
    exact ⟨bl_inj, fun h => by rw [h]⟩
  · have c := of_decide_eq_false c
    refine (decide_eq_false fun h => ?_).symm
    have := congrArg List.length h
    rw [List.length_take] at this
    omega
theorem has_tot (u v : BL) : Tot (fun k _ _ => (lv k).strings_HasPrefix (bl u) (bl v)) (fun r => r = decide (u.take v.length = v)) := by
  refine strings_HasPrefix_up _ _ (Tot.congr ?_ (fun k _ _ => strings_HasPrefix_q (lv k) k (bl u) (bl v)))
  exact Tot.bind (hp_tot u v) fun r hr => Tot.ret hr
theorem cpre_tot (u v : BL) : Tot (fun k _ _ => (lv k).strings_CutPrefix (bl u) (bl v)) (fun r => r = if u.take v.length = v then (bl (u.drop v.length), true) else (bl u, false)) := by
  refine strings_CutPrefix_up _ _ (Tot.congr ?_ (fun k _ _ => strings_CutPrefix_q (lv k) k (bl u) (bl v)))
  refine Tot.bind (R := fun r => r = if u.take v.length = v then (bl (u.drop v.length), true) else (bl u, false)) ?_ fun r hr => Tot.ret hr
  refine stringslite_CutPrefix_up _ _ (Tot.congr ?_ (fun k _ _ => stringslite_CutPrefix_q (lv k) k (bl u) (bl v)))
  refine Tot.bind (hp_tot u v) fun r hr => ?_
  subst hr
  rw [bl_size, bl_size, Int.toNat_natCast, Int.toNat_natCast]
  refine Tot.cond (fun c => Tot.ret ?_) (fun c => ?_)
  · rw [if_neg (by simpa using c)]
  · have c : u.take v.length = v := by simpa using c
    have hl : v.length ≤ u.length := by
      have := congrArg List.length c
      rw [List.length_take] at this
      omega
    refine Tot.t (decide_eq_true (by omega)) (Tot.t (decide_eq_true (by omega)) (Tot.t (decide_eq_true (by omega)) (Tot.t (decide_eq_true (by omega)) (Tot.ret ?_))))
    rw [if_pos c, bl_ext, List.take_of_length_le (by rw [List.length_drop]; omega)]
theorem take1 {T : RT} (h : Vt T) (b : UInt8) (hb : b.toNat < 128) : (flat T).take [b].length = [b] ↔ ∃ x t, T = x :: t ∧ x.2 = b.toNat := by
  cases T with
  | nil => exact ⟨fun e => (by cases e), fun ⟨x, t, e, _⟩ => by cases e⟩
  | cons x t =>
    obtain ⟨b', c, h1, h2, h3⟩ := first_byte h.head
    rw [flat_cons, h1]
    have e : ((b' :: c) ++ flat t).take [b].length = [b'] := rfl
    rw [e]
    constructor
    · intro e
      cases e
      refine ⟨x, t, rfl, ?_⟩
      by_cases hl : x.2 < 128
      · exact (h2 hl).2.symm
      · have := h3 (by omega); omega
    · rintro ⟨y, t', e, he⟩
      cases e
      have := (h2 (by omega)).2
      rw [show b' = b from UInt8.toNat_inj.1 (by omega)]
/-! a word -/
noncomputable def tlT : RT → RT
  | [] => []
  | x :: R => if x.2 = 58 then (match plT R with | [] => [] | y :: w => x :: y :: w) else []
/-- a word that a text begins with -/
noncomputable def wdT (T : RT) : Option RT := match plT T with
  | [] => none
  | y :: w => some ((y :: w) ++ tlT (T.drop (y :: w).length))
theorem Vt.pl {T : RT} (h : Vt T) : Vt (plT T) := by
  have e := plT_pre T
  rw [e] at h
  exact h.left
theorem Vt.drop {T : RT} (h : Vt T) (n : Nat) : Vt (T.drop n) := fun x hx => h x (List.mem_of_mem_drop hx)
theorem len_pl (T : RT) : (flat (plT T)).length + (flat (T.drop (plT T).length)).length = (flat T).length := by
  have e := congrArg (fun t => (flat t).length) (plT_pre T)
  simp only [flat_app, List.length_append] at e
  omega
theorem drop_pl (T : RT) : (flat T).drop (flat (plT T)).length = flat (T.drop (plT T).length) := by
  have e := plT_pre T
  generalize plT T = p at *
  generalize T.drop p.length = u at *
  subst e
  rw [flat_app, List.drop_left]
theorem word_tot {T : RT} (h : Vt T) (hl : (flat T).length ≤ 1048576) : Tot (fun k _ _ => (lv k).lex_word (bl (flat T))) (fun r => match wdT T with
    | none => r.2.2.2.2 = 0
    | some w => r = (1, bl (flat w), bl [], 0, ((flat w).length : Int))) := by
  have hp := h.pl
  have hln := len_pl T
  have hdr := drop_pl T
  have hd := h.drop (plT T).length
  refine lex_word_up _ (Tot.congr ?_ (fun k _ _ => lex_word_q (lv k) k (bl (flat T))))
  refine Tot.bind (plain_tot h hl) fun r1 hr1 => ?_
  subst hr1
  unfold wdT
  cases hw : plT T with
  | nil => exact Tot.t (bl_empty.2 rfl) (Tot.ret rfl)
  | cons y w =>
    show Tot _ (fun r => r = (1, bl (flat ((y :: w) ++ tlT (T.drop (y :: w).length))), bl [], 0, ((flat ((y :: w) ++ tlT (T.drop (y :: w).length))).length : Int)))
    rw [hw] at hp hln hdr hd
    refine Tot.f (Bool.eq_false_iff.2 fun e => ?_) ?_
    · have := (flat_nil_iff hp).1 (bl_empty.1 e)
      cases this
    rw [bl_size, bl_size]
    repeat (refine Tot.t (decide_eq_true (by omega)) ?_)
    rw [Int.toNat_natCast, Int.toNat_natCast, bl_ext, List.take_of_length_le (by rw [List.length_drop]; omega), hdr]
    generalize T.drop (y :: w).length = R at *
    refine Tot.bind (cpre_tot (flat R) [58]) fun r2 hr2 => ?_
    have none_ : tlT R = [] → Tot (fun _ _ _ => some ((1 : Int), bl (flat (y :: w)), (⟨#[]⟩ : ByteArray), (0 : Int), ((flat (y :: w)).length : Int))) (fun r => r = (1, bl (flat ((y :: w) ++ tlT R)), bl [], 0, ((flat ((y :: w) ++ tlT R)).length : Int))) := fun e => Tot.ret (by rw [e, List.append_nil]; rfl)
    by_cases hc : (flat R).take [(58 : UInt8)].length = [58]
    · rw [if_pos hc] at hr2
      subst hr2
      obtain ⟨x, R', e, hx⟩ := (take1 hd 58 (by decide)).1 hc
      subst e
      have hx : x.2 = 58 := hx
      have hb : x.1 = [58] := (byte_is hd.head (b := 58) (by decide)).2 hx
      have e1 : (flat (x :: R')).drop [(58 : UInt8)].length = flat R' := by rw [flat_cons, hb]; rfl
      have hl2 : (flat (x :: R')).length = 1 + (flat R').length := by rw [flat_cons, hb, List.length_append]; rfl
      rw [e1]
      refine Tot.t rfl (Tot.bind (plain_tot hd.tail (by omega)) fun r3 hr3 => ?_)
      subst hr3
      have hln2 := len_pl R'
      cases hw2 : plT R' with
      | nil =>
        refine Tot.f (by rw [show flat [] = [] from rfl, bl_empty.2 rfl]; rfl) (none_ ?_)
        rw [tlT, if_pos hx, hw2]
      | cons z w2 =>
        rw [hw2] at hln2
        refine Tot.t ?_ ?_
        · have : ((bl (flat (z :: w2))).toList == (⟨#[]⟩ : ByteArray).toList) = false := Bool.eq_false_iff.2 fun e => by
            have hv := hd.tail.pl
            rw [hw2] at hv
            have := (flat_nil_iff hv).1 (bl_empty.1 e)
            cases this
          rw [this]; rfl
        have ea : (⟨#[58]⟩ : ByteArray) ++ bl (flat (z :: w2)) = bl (58 :: flat (z :: w2)) := bl_app [58] _
        rw [ea, bl_app, bl_size, bl_size, bl_size]
        have e2 : (⟨#[58]⟩ : ByteArray).size = 1 := rfl
        rw [e2, List.length_append, List.length_cons]
        have el : tlT (x :: R') = x :: z :: w2 := by rw [tlT, if_pos hx, hw2]
        have ef : flat ((y :: w) ++ (x :: z :: w2)) = flat (y :: w) ++ (58 :: flat (z :: w2)) := by rw [flat_app, flat_cons x, hb]; rfl
        rw [el, ef]
        refine Tot.t (decide_eq_true (by omega)) (Tot.t (decide_eq_true (by omega)) (Tot.ret ?_))
        rw [List.length_append, List.length_cons]
        rfl
    · rw [if_neg hc] at hr2
      subst hr2
      refine Tot.f rfl (none_ ?_)
      cases R with
      | nil => rfl
      | cons x R' => rw [tlT, if_neg (show ¬ x.2 = 58 from fun e => hc ((take1 hd 58 (by decide)).2 ⟨x, R', rfl, e⟩))]
-- o
theorem cutV_tot {T : RT} (h : Vt T) (hl : (flat T).length ≤ 1048576) (c : ByteArray) (b : UInt8) (hc : c.data.toList = [b]) (hb : b.toNat < 128) : Tot (fun _ _ _ => cutV (bl (flat T)) c) (fun r => r = match spl b.toNat T with
    | none => (bl (flat T), bl [], false)
    | some (p, q) => (bl (flat p), bl (flat q), true)) := by
  unfold cutV
  rw [bl_size, bl_data, hc, cut_T h b hb]
  refine Tot.t (decide_eq_true (by omega)) (Tot.ret ?_)
  cases spl (b.toNat : Int) T with
  | none => rfl
  | some p => rfl
theorem contV_tot (l : BL) (hl : l.length ≤ 1048576) (c : ByteArray) (b : UInt8) (hc : c.data.toList = [b]) : Tot (fun _ _ _ => contV (bl l) c) (fun r => r = decide (b ∈ l)) := by
  unfold contV
  rw [bl_size, bl_data, hc, contains_one]
  exact Tot.t (decide_eq_true (by omega)) (Tot.ret rfl)
theorem ext_tail (b : UInt8) (l : BL) : (bl (b :: l)).extract 1 (((bl (b :: l)).size : Int).toNat) = bl l := by
  rw [Int.toNat_natCast, bl_ext, bl_size, List.drop_succ_cons, List.drop_zero, List.length_cons, Nat.add_sub_cancel, List.take_length]
/-! a name in its space -/
open Classical in
noncomputable def ckT (t : RT) : Option (RT × RT × RT) := match spl 125 t with
  | none => none
  | some (p, q) => if plT q = [] ∨ (∃ y, y ∈ p ∧ y.2 = 123) then none else some (plT q, p, q.drop (plT q).length)
theorem clark_tot {t : RT} (h : Vt t) (hl : (flat t).length ≤ 1000000) : Tot (fun k _ _ => (lv k).lex_clark (bl (123 :: flat t))) (fun r => match ckT t with
    | none => r.2.2.2.2 = 0
    | some (a, s, q) => r = (2, bl (flat a), bl (flat s), 0, ((flat t).length : Int) + 1 - (flat q).length)) := by
  refine lex_clark_up _ (Tot.congr ?_ (fun k _ _ => lex_clark_q (lv k) k (bl (123 :: flat t))))
  rw [ext_tail, bl_size, List.length_cons]
  repeat (refine Tot.t (decide_eq_true (by omega)) ?_)
  refine Tot.bind (cutV_tot h (by omega) ⟨#[125]⟩ 125 rfl (by decide)) fun r1 hr1 => ?_
  have e125 : (((125 : UInt8).toNat : Nat) : Int) = 125 := rfl
  rw [e125] at hr1
  unfold ckT
  cases e : spl 125 t with
  | none =>
    rw [e] at hr1
    subst hr1
    exact Tot.bind (plain_tot (T := []) (fun x hx => by cases hx) (Nat.zero_le _)) fun r2 hr2 => Tot.t rfl (Tot.ret rfl)
  | some pq =>
    obtain ⟨p, q⟩ := pq
    rw [e] at hr1
    subst hr1
    obtain ⟨x, e1, e2, e3⟩ := spl_some e
    have hx : Ch x.1 x.2 := h x (by rw [e1]; exact List.mem_append_right _ (List.mem_cons_self ..))
    have hxb : x.1 = [125] := (byte_is hx (b := 125) (by decide)).2 e2
    have hvp : Vt p := fun y hy => h y (by rw [e1]; exact List.mem_append_left _ hy)
    have hvq : Vt q := fun y hy => h y (by rw [e1]; exact List.mem_append_right _ (List.mem_cons_of_mem _ hy))
    have hln : (flat t).length = (flat p).length + (1 + (flat q).length) := by rw [e1, flat_app, flat_cons, hxb, List.length_append, List.length_append]; rfl
    have hpl := len_pl q
    dsimp only
    refine Tot.bind (plain_tot hvq (by omega)) fun r2 hr2 => ?_
    subst hr2
    refine Tot.f rfl (Tot.cond (fun c => ?_) (fun c => Tot.bind (contV_tot (flat p) (by omega) ⟨#[123]⟩ 123 rfl) fun r3 hr3 => ?_))
    · have := (flat_nil_iff hvq.pl).1 (bl_empty.1 c)
      rw [if_pos (.inl this)]
      exact Tot.ret rfl
    · have hne : plT q ≠ [] := fun e => by rw [e, show flat [] = [] from rfl, bl_empty.2 rfl] at c; cases c
      subst hr3
      refine Tot.cond (fun d => ?_) (fun d => ?_)
      · rw [if_pos (.inr ((mem_flat hvp (b := 123) (by decide)).1 (of_decide_eq_true d)))]
        exact Tot.ret rfl
      · rw [if_neg (fun o => o.elim hne fun o => of_decide_eq_false d ((mem_flat hvp (b := 123) (by decide)).2 o))]
        refine Tot.ret ?_
        rw [bl_size, bl_size, wrap_id (x := ((flat p).length : Int) + 2) (by omega) (by omega), wrap_id (by omega) (by omega)]
        show _ = ((2 : Int), _, _, (0 : Int), _)
        have : ((flat p).length : Int) + 2 + (flat (plT q)).length = ((flat t).length : Int) + 1 - (flat (q.drop (plT q).length)).length := by omega
        rw [this]
/-! a string -/
noncomputable def qC : RT → Option (RT × RT)
  | [] => none
  | [x] => if x.2 = 34 then some ([], []) else none
  | x :: y :: t => if x.2 = 34 then (if y.2 = 34 then (qC t).map fun r => (y :: r.1, r.2) else some ([], y :: t)) else (qC (y :: t)).map fun r => (x :: r.1, r.2)
theorem qC_spl (B : RT) : qC B = match spl 34 B with
    | none => none
    | some (p, []) => some (p, [])
    | some (p, z :: q) => if z.2 = 34 then (qC q).map fun r => (p ++ z :: r.1, r.2) else some (p, z :: q) := by
  induction B with
  | nil => rfl
  | cons x B ih =>
    by_cases h : x.2 = 34
    · rw [spl, if_pos h]
      cases B with
      | nil => show qC [x] = _; rw [qC, if_pos h]
      | cons y t => rw [qC, if_pos h]; rfl
    · rw [spl, if_neg h]
      cases B with
      | nil => rw [qC, if_neg h]; rfl
      | cons y t =>
        rw [qC, if_neg h, ih]
        cases spl 34 (y :: t) with
        | none => rfl
        | some pq =>
          obtain ⟨p, q⟩ := pq
          cases q with
          | nil => rfl
          | cons z q =>
            simp only [Option.map_some]
            by_cases hz : z.2 = 34
            · rw [if_pos hz, if_pos hz]
              cases qC q <;> rfl
            · rw [if_neg hz, if_neg hz]; rfl
theorem quoted_loop : ∀ (n : Nat) (B A : RT) (X : BL), B.length ≤ n → Vt (A ++ B) → (flat (A ++ B)).length ≤ 1000000 → X.length ≤ (flat A).length → Tot (fun k m m' => lex_quoted_l0 (lv k) k (bl (34 :: flat (A ++ B))) m (bl X) (1 + ((flat A).length : Int))) (fun r => match qC B with
    | none => r.2.2.2.2 = 0
    | some (t, q) => r = (3, bl (X ++ flat t), bl [], 0, ((flat (A ++ B)).length : Int) + 1 - (flat q).length)) := by
  intro n
  induction n with
  | zero =>
    intro B A X hn hv hl hX
    obtain rfl : B = [] := List.length_eq_zero_iff.1 (by omega)
    refine Tot.step0 (fun k p_ q_ => lex_quoted_l0_q (lv k) k (bl (34 :: flat (A ++ []))) p_ (bl X) (1 + ((flat A).length : Int))) ?_
    have e : (flat (A ++ [])).length = (flat A).length := by rw [List.append_nil]
    rw [bl_size, List.length_cons, e]
    repeat (refine Tot.t (decide_eq_true (by omega)) ?_)
    refine Tot.bind (R := fun r => r.2.2 = false) ?_ fun r1 hr1 => Tot.t (by rw [hr1]; rfl) (Tot.ret rfl)
    rw [show ((1 : Int) + ((flat A).length : Int)).toNat = (flat A).length + 1 by omega, Int.toNat_natCast, bl_ext, List.append_nil, List.drop_succ_cons, List.drop_length, List.take_nil]
    exact (cutV_tot (T := []) (fun x hx => by cases hx) (Nat.zero_le _) ⟨#[34]⟩ 34 rfl (by decide)).mono fun r hr => by rw [hr]; rfl
  | succ n ih =>
    intro B A X hn hv hl hX
    have hvB := hv.right
    have hAB : (flat (A ++ B)).length = (flat A).length + (flat B).length := by rw [flat_app, List.length_append]
    have hsz : (bl (34 :: flat (A ++ B))).size = (flat A).length + (flat B).length + 1 := by rw [bl_size, List.length_cons, hAB]
    have ext : ∀ j : Nat, (bl (34 :: flat (A ++ B))).extract ((flat A).length + 1 + j) ((flat A).length + (flat B).length + 1) = bl ((flat B).drop j) := fun j => by
      rw [bl_ext, show (flat A).length + 1 + j = ((flat A).length + j) + 1 by omega, List.drop_succ_cons, flat_app, List.drop_append, List.drop_eq_nil_of_le (by omega), List.nil_append, show (flat A).length + j - (flat A).length = j by omega, List.take_of_length_le (by rw [List.length_drop]; omega)]
    refine Tot.step0 (fun k p_ q_ => lex_quoted_l0_q (lv k) k (bl (34 :: flat (A ++ B))) p_ (bl X) (1 + ((flat A).length : Int))) ?_
    rw [hsz, qC_spl, show ((1 : Int) + ((flat A).length : Int)).toNat = (flat A).length + 1 + 0 by omega, Int.toNat_natCast, ext 0, List.drop_zero]
    repeat (refine Tot.t (decide_eq_true (by omega)) ?_)
    refine Tot.bind (cutV_tot hvB (by omega) ⟨#[34]⟩ 34 rfl (by decide)) fun r1 hr1 => ?_
    have e34 : (((34 : UInt8).toNat : Nat) : Int) = 34 := rfl
    rw [e34] at hr1
    cases e : spl 34 B with
    | none =>
      rw [e] at hr1
      subst hr1
      exact Tot.t rfl (Tot.ret rfl)
    | some pq =>
      obtain ⟨p, q⟩ := pq
      rw [e] at hr1
      subst hr1
      obtain ⟨x, e1, e2, e3⟩ := spl_some e
      have hx : Ch x.1 x.2 := hvB x (by rw [e1]; exact List.mem_append_right _ (List.mem_cons_self ..))
      have hxb : x.1 = [34] := (byte_is hx (b := 34) (by decide)).2 e2
      have hvq : Vt q := fun y hy => hvB y (by rw [e1]; exact List.mem_append_right _ (List.mem_cons_of_mem _ hy))
      have hfB : flat B = flat p ++ (34 :: flat q) := by rw [e1, flat_app, flat_cons, hxb]; rfl
      have hlB : (flat B).length = (flat p).length + (1 + (flat q).length) := by rw [hfB, List.length_append, List.length_cons]; omega
      have hdr : (flat B).drop ((flat p).length + 1) = flat q := by
        rw [hfB, List.drop_append, List.drop_eq_nil_of_le (by omega), List.nil_append, show (flat p).length + 1 - (flat p).length = 1 by omega]; rfl
      refine Tot.f rfl ?_
      rw [bl_size, bl_size, wrap_id (x := ((flat p).length : Int) + 1) (by omega) (by omega), wrap_id (x := 1 + ((flat A).length : Int) + (((flat p).length : Int) + 1)) (by omega) (by omega), bl_app, bl_size, List.length_append]
      rw [show ((1 : Int) + ((flat A).length : Int) + (((flat p).length : Int) + 1)).toNat = (flat A).length + 1 + ((flat p).length + 1) by omega, ext, hdr]
      repeat (refine Tot.t (decide_eq_true (by omega)) ?_)
      refine Tot.bind (has_tot (flat q) [34]) fun r2 hr2 => ?_
      subst hr2
      refine Tot.cond (fun c => Tot.ret ?_) (fun c => ?_)
      · have c : ¬ (flat q).take [(34 : UInt8)].length = [34] := by simpa using c
        have hres : ((1 : Int) + ((flat A).length : Int) + (((flat p).length : Int) + 1)) = ((flat (A ++ B)).length : Int) + 1 - (flat q).length := by omega
        rw [hres]
        cases q with
        | nil => rfl
        | cons z q =>
          have hz : ¬ z.2 = 34 := fun e => c ((take1 hvq 34 (by decide)).2 ⟨z, q, rfl, e⟩)
          show match (if z.2 = 34 then (qC q).map fun r => (p ++ z :: r.1, r.2) else some (p, z :: q)) with
            | none => _
            | some (t, q) => _
          rw [if_neg hz]
          rfl
      · have c : (flat q).take [(34 : UInt8)].length = [34] := by simpa using c
        obtain ⟨z, q', e4, hz⟩ := (take1 hvq 34 (by decide)).1 c
        subst e4
        have hz : z.2 = 34 := hz
        have hzb : z.1 = [34] := (byte_is hvq.head (b := 34) (by decide)).2 hz
        have hlq : (flat (z :: q')).length = 1 + (flat q').length := by rw [flat_cons, hzb, List.length_append]; rfl
        have e5 : (⟨#[34]⟩ : ByteArray).size = 1 := rfl
        have e6 : bl (X ++ flat p) ++ (⟨#[34]⟩ : ByteArray) = bl (X ++ flat p ++ [34]) := bl_app _ [34]
        have hBl : B.length = p.length + (q'.length + 1 + 1) := by rw [e1, List.length_append]; rfl
        rw [e5, e6]
        refine Tot.t (decide_eq_true (by omega)) ?_
        have hA' : (A ++ (p ++ [x, z])) ++ q' = A ++ B := by rw [e1]; simp
        have hfA : (flat (A ++ (p ++ [x, z]))).length = (flat A).length + ((flat p).length + 2) := by
          rw [flat_app, flat_app, List.length_append, List.length_append, flat_cons, flat_cons, hxb, hzb]; rfl
        have key := ih q' (A ++ (p ++ [x, z])) (X ++ flat p ++ [34]) (by omega) (by rw [hA']; exact hv) (by rw [hA']; exact hl) (by rw [hfA, List.length_append, List.length_append, List.length_singleton]; omega)
        rw [hA', hfA] at key
        rw [wrap_id (by omega) (by omega), show (1 : Int) + ((flat A).length : Int) + (((flat p).length : Int) + 1) + 1 = 1 + (((flat A).length + ((flat p).length + 2) : Nat) : Int) by omega]
        refine key.mono fun r hr => ?_
        show match (if z.2 = 34 then (qC q').map fun r => (p ++ z :: r.1, r.2) else some (p, z :: q')) with
          | none => _
          | some (t, q) => _
        rw [if_pos hz]
        cases hq : qC q' with
        | none => rw [hq] at hr; exact hr
        | some tq =>
          rw [hq] at hr
          rw [hr]
          show _ = ((3 : Int), bl (X ++ flat (p ++ z :: tq.1)), bl [], (0 : Int), _)
          rw [flat_app p, flat_cons z, hzb]
          simp only [List.append_assoc, List.singleton_append]
theorem quoted_tot {t : RT} (h : Vt t) (hl : (flat t).length ≤ 1000000) : Tot (fun k _ _ => (lv k).lex_quoted (bl (34 :: flat t))) (fun r => match qC t with
    | none => r.2.2.2.2 = 0
    | some (a, q) => r = (3, bl (flat a), bl [], 0, ((flat t).length : Int) + 1 - (flat q).length)) := by
  refine lex_quoted_up _ (Tot.congr ?_ (fun k _ _ => lex_quoted_q (lv k) k (bl (34 :: flat t))))
  exact Tot.in0 (g := fun k p_ q_ => lex_quoted_l0 (lv k) k (bl (34 :: flat t)) p_ (⟨#[]⟩ : ByteArray) 1) (quoted_loop t.length t [] [] (Nat.le_refl _) h hl (Nat.le_refl _))
-- a
def signs : List Int := [46, 47, 124, 42, 91, 93, 40, 41, 63, 64, 61]
def colon : RT → Bool
  | [] => false
  | y :: _ => decide (y.2 = 58)
noncomputable def oneT : RT → Option (Int × RT × RT × RT)
  | [] => none
  | x :: t =>
    if x.2 = 123 then (ckT t).map fun r => (2, r.1, r.2.1, r.2.2)
    else if x.2 = 34 then (qC t).map fun r => (3, r.1, [], r.2)
    else if x.2 = 58 ∧ colon t = true then some (4, x :: t.take 1, [], t.drop 1)
    else if x.2 ∈ signs then some (4, [x], [], t)
    else (wdT (x :: t)).map fun w => (1, w, [], (x :: t).drop w.length)
theorem colon_iff {t : RT} : colon t = true ↔ ∃ y t', t = y :: t' ∧ y.2 = 58 := by
  cases t with
  | nil => exact ⟨fun e => (by cases e), fun ⟨_, _, e, _⟩ => by cases e⟩
  | cons y t => exact ⟨fun e => ⟨y, t, rfl, of_decide_eq_true e⟩, fun ⟨y', t', e, h⟩ => by cases e; exact decide_eq_true h⟩
theorem tlT_pre (R : RT) : ∃ u, R = tlT R ++ u := by
  cases R with
  | nil => exact ⟨[], rfl⟩
  | cons x R =>
    rw [tlT]
    split
    · cases hw : plT R with
      | nil => exact ⟨x :: R, rfl⟩
      | cons y w =>
        have := plT_pre R
        rw [hw] at this
        exact ⟨_, by rw [List.cons_append, ← this]⟩
    · exact ⟨x :: R, rfl⟩
theorem wdT_pre {T w : RT} (h : wdT T = some w) : T = w ++ T.drop w.length ∧ w ≠ [] := by
  unfold wdT at h
  have e := plT_pre T
  cases hw : plT T with
  | nil => rw [hw] at h; cases h
  | cons y l =>
    rw [hw] at h e
    cases h
    obtain ⟨u, hu⟩ := tlT_pre (T.drop (y :: l).length)
    generalize T.drop (y :: l).length = R at *
    have e2 : T = ((y :: l) ++ tlT R) ++ u := by rw [List.append_assoc, ← hu]; exact e
    refine ⟨?_, by simp⟩
    conv => rhs; rw [e2]
    rw [List.drop_left]
    exact e2
theorem qC_pre' : ∀ (n : Nat) {t a q : RT}, t.length ≤ n → qC t = some (a, q) → ∃ c, t = c ++ q ∧ c ≠ [] := by
  intro n
  induction n with
  | zero =>
    intro t a q hn h
    obtain rfl : t = [] := List.length_eq_zero_iff.1 (by omega)
    cases h
  | succ n ih =>
    intro t a q hn h
    match t, hn, h with
    | [], _, h => cases h
    | [x], _, h =>
      rw [qC] at h
      by_cases e : x.2 = 34
      · rw [if_pos e] at h; cases h; exact ⟨[x], rfl, by simp⟩
      · rw [if_neg e] at h; cases h
    | x :: y :: t, hn, h =>
      have hn : t.length + 1 + 1 ≤ n + 1 := hn
      rw [qC] at h
      by_cases e : x.2 = 34
      · rw [if_pos e] at h
        by_cases e2 : y.2 = 34
        · rw [if_pos e2] at h
          obtain ⟨⟨r1, r2⟩, h1, h2⟩ := Option.map_eq_some_iff.1 h
          cases h2
          obtain ⟨c, hc, _⟩ := ih (by omega) h1
          exact ⟨x :: y :: c, by rw [hc]; simp, by simp⟩
        · rw [if_neg e2] at h; cases h; exact ⟨[x], rfl, by simp⟩
      · rw [if_neg e] at h
        obtain ⟨⟨r1, r2⟩, h1, h2⟩ := Option.map_eq_some_iff.1 h
        cases h2
        obtain ⟨c, hc, _⟩ := ih (by show t.length + 1 ≤ n; omega) h1
        exact ⟨x :: c, by rw [List.cons_append, ← hc], by simp⟩
theorem qC_pre {t a q : RT} (h : qC t = some (a, q)) : ∃ c, t = c ++ q ∧ c ≠ [] := qC_pre' t.length (Nat.le_refl _) h
theorem ckT_pre {t a s q : RT} (h : ckT t = some (a, s, q)) : ∃ c, t = c ++ q ∧ a = plT (a ++ q) ∧ c = s ++ (c.drop s.length) ∧ (∃ x, c.drop s.length = x :: a ∧ x.2 = 125) := by
  unfold ckT at h
  cases e : spl 125 t with
  | none => rw [e] at h; cases h
  | some pq =>
    obtain ⟨p, r⟩ := pq
    rw [e] at h
    dsimp only at h
    split at h
    · cases h
    · cases h
      obtain ⟨x, e1, e2, e3⟩ := spl_some e
      have e4 := plT_pre r
      refine ⟨s ++ x :: plT r, ?_, ?_, by rw [List.drop_left], x, by rw [List.drop_left], e2⟩
      · rw [List.append_assoc, List.cons_append, ← e4]; exact e1
      · rw [← e4]
/-- what a piece leaves -/
theorem oneT_pre {T : RT} {k : Int} {a s q : RT} (h : oneT T = some (k, a, s, q)) : ∃ c, T = c ++ q ∧ c ≠ [] := by
  cases T with
  | nil => cases h
  | cons x t =>
    rw [oneT] at h
    split at h
    · obtain ⟨r, h1, h2⟩ := Option.map_eq_some_iff.1 h
      cases h2
      obtain ⟨c, hc, _⟩ := ckT_pre h1
      exact ⟨x :: c, by rw [hc]; simp, by simp⟩
    · split at h
      · obtain ⟨r, h1, h2⟩ := Option.map_eq_some_iff.1 h
        cases h2
        obtain ⟨c, hc, _⟩ := qC_pre h1
        exact ⟨x :: c, by rw [hc]; simp, by simp⟩
      · split at h
        · cases h
          exact ⟨x :: t.take 1, by rw [List.cons_append, List.take_append_drop], by simp⟩
        · split at h
          · cases h
            exact ⟨[x], rfl, by simp⟩
          · obtain ⟨w, h1, h2⟩ := Option.map_eq_some_iff.1 h
            cases h2
            obtain ⟨e, hn⟩ := wdT_pre h1
            exact ⟨a, e, hn⟩
theorem flat_lt {c q : RT} (h : Vt (c ++ q)) (hc : c ≠ []) : (flat q).length < (flat (c ++ q)).length := by
  rw [flat_app, List.length_append]
  have := flat_len h.left
  cases c with
  | nil => exact absurd rfl hc
  | cons x c => rw [List.length_cons] at this; omega
theorem sgn_iff {x : BL × Int} (h : Ch x.1 x.2) {b : UInt8} {c : BL} (hb : x.1 = b :: c) : b ∈ (⟨#[46, 47, 124, 42, 91, 93, 40, 41, 63, 64, 61]⟩ : ByteArray).data.toList ↔ x.2 ∈ signs := by
  obtain ⟨b', c', h1, h2, h3⟩ := first_byte h
  rw [hb] at h1
  cases h1
  have key : ∀ u : UInt8, (b = u ∧ u.toNat < 128) ↔ (x.2 = u.toNat ∧ u.toNat < 128) := fun u => by
    constructor
    · rintro ⟨rfl, hu⟩
      refine ⟨?_, hu⟩
      by_cases hl : x.2 < 128
      · exact (h2 hl).2.symm
      · have := h3 (by omega); omega
    · rintro ⟨e, hu⟩
      have := (h2 (by omega)).2
      exact ⟨UInt8.toNat_inj.1 (by omega), hu⟩
  have k : ∀ u : UInt8, u.toNat < 128 → (b = u ↔ x.2 = u.toNat) := fun u hu => ⟨fun e => ((key u).1 ⟨e, hu⟩).1, fun e => ((key u).2 ⟨e, hu⟩).1⟩
  show b ∈ ([46, 47, 124, 42, 91, 93, 40, 41, 63, 64, 61] : List UInt8) ↔ x.2 ∈ ([46, 47, 124, 42, 91, 93, 40, 41, 63, 64, 61] : List Int)
  simp only [List.mem_cons, List.not_mem_nil, or_false]
  rw [k 46 (by decide), k 47 (by decide), k 124 (by decide), k 42 (by decide), k 91 (by decide), k 93 (by decide), k 40 (by decide), k 41 (by decide), k 63 (by decide), k 64 (by decide), k 61 (by decide)]
  exact Iff.rfl
theorem signs_tot (l : BL) {b : UInt8} (hl : l = [b]) : Tot (fun _ _ _ => contV (⟨#[46, 47, 124, 42, 91, 93, 40, 41, 63, 64, 61]⟩ : ByteArray) (bl l)) (fun r => r = decide (b ∈ (⟨#[46, 47, 124, 42, 91, 93, 40, 41, 63, 64, 61]⟩ : ByteArray).data.toList)) := by
  subst hl
  unfold contV
  rw [bl_data, contains_one]
  exact Tot.t rfl (Tot.ret rfl)
theorem one_tot {T : RT} (h : Vt T) (hne : T ≠ []) (hl : (flat T).length ≤ 1000000) : Tot (fun k _ _ => (lv k).lex_one (bl (flat T))) (fun r => match oneT T with
    | none => r.2.2.2.2 = 0
    | some (k, a, s, q) => r = (k, bl (flat a), bl (flat s), 0, ((flat T).length : Int) - (flat q).length)) := by
  cases T with
  | nil => exact absurd rfl hne
  | cons x t =>
    obtain ⟨b, c, h1, h2, h3⟩ := first_byte h.head
    have hb : ∀ u : UInt8, u.toNat < 128 → (x.2 = u.toNat ↔ b = u) := fun u hu => by
      constructor
      · intro e
        have := (h2 (by omega)).2
        exact UInt8.toNat_inj.1 (by omega)
      · rintro rfl
        by_cases hlo : x.2 < 128
        · exact (h2 hlo).2.symm
        · have := h3 (by omega); omega
    have hfl : (flat (x :: t)) = b :: (c ++ flat t) := by rw [flat_cons, h1]; rfl
    have hflen : (flat (x :: t)).length = (c.length + (flat t).length) + 1 := by rw [hfl, List.length_cons, List.length_append]
    have h0 : (bl (flat (x :: t))).data.getD 0 0 = b := by rw [hfl]; rfl
    have one1 : ∀ u : UInt8, u.toNat < 128 → x.2 = u.toNat → flat (x :: t) = u :: flat t := fun u hu e => by
      have e1 := (hb u hu).1 e
      have e2 := (h2 (by omega)).1
      rw [hfl, e1, e2]; rfl
    refine lex_one_up _ (Tot.congr ?_ (fun k _ _ => lex_one_q (lv k) k (bl (flat (x :: t)))))
    rw [h0, bl_size]
    repeat (refine Tot.t (decide_eq_true (by omega)) ?_)
    refine Tot.cond (fun c1 => ?_) (fun c1 => ?_)
    · have hx : x.2 = 123 := (hb 123 (by decide)).2 (UInt8.toNat_inj.1 (by have := eq_of_beq c1; have e : (123 : UInt8).toNat = 123 := rfl; omega))
      rw [oneT, if_pos hx]
      have ef := one1 123 (by decide) hx
      have el : (flat (x :: t)).length = (flat t).length + 1 := by rw [ef, List.length_cons]
      refine Tot.bind (by rw [ef]; exact clark_tot h.tail (by omega)) fun r1 hr1 => Tot.ret ?_
      cases hk : ckT t with
      | none => rw [hk] at hr1; exact hr1
      | some r =>
        obtain ⟨ra, rs, rq⟩ := r
        rw [hk] at hr1
        rw [hr1]
        show _ = ((2 : Int), bl (flat ra), bl (flat rs), (0 : Int), _)
        rw [el]
        refine Prod.ext rfl (Prod.ext rfl (Prod.ext rfl (Prod.ext rfl ?_)))
        show ((flat t).length : Int) + 1 - (flat rq).length = (((flat t).length + 1 : Nat) : Int) - (flat rq).length
        omega
    have n1 : ¬ x.2 = 123 := fun e => ne_of_beq_false c1 (by rw [(hb 123 (by decide)).1 e]; rfl)
    rw [oneT, if_neg n1]
    repeat (refine Tot.t (decide_eq_true (by omega)) ?_)
    refine Tot.cond (fun c2 => ?_) (fun c2 => ?_)
    · have hx : x.2 = 34 := (hb 34 (by decide)).2 (UInt8.toNat_inj.1 (by have := eq_of_beq c2; have e : (34 : UInt8).toNat = 34 := rfl; omega))
      rw [if_pos hx]
      have ef := one1 34 (by decide) hx
      have el : (flat (x :: t)).length = (flat t).length + 1 := by rw [ef, List.length_cons]
      refine Tot.bind (by rw [ef]; exact quoted_tot h.tail (by omega)) fun r1 hr1 => Tot.ret ?_
      cases hk : qC t with
      | none => rw [hk] at hr1; exact hr1
      | some r =>
        obtain ⟨ra, rq⟩ := r
        rw [hk] at hr1
        rw [hr1]
        show _ = ((3 : Int), bl (flat ra), bl (flat []), (0 : Int), _)
        rw [el]
        refine Prod.ext rfl (Prod.ext rfl (Prod.ext rfl (Prod.ext rfl ?_)))
        show ((flat t).length : Int) + 1 - (flat rq).length = (((flat t).length + 1 : Nat) : Int) - (flat rq).length
        omega
    have n2 : ¬ x.2 = 34 := fun e => ne_of_beq_false c2 (by rw [(hb 34 (by decide)).1 e]; rfl)
    rw [if_neg n2]
    refine Tot.bind (has_tot (flat (x :: t)) [58, 58]) fun r3 hr3 => ?_
    have hcc : ((flat (x :: t)).take [(58 : UInt8), 58].length = [58, 58]) ↔ (x.2 = 58 ∧ colon t = true) := by
      constructor
      · intro e
        have e1 : (flat (x :: t)).take [(58 : UInt8)].length = [58] := by
          have := congrArg (List.take 1) e
          rw [List.take_take] at this
          exact this
        obtain ⟨y, t', ey, hy⟩ := (take1 h 58 (by decide)).1 e1
        cases ey
        have ef := one1 58 (by decide) hy
        rw [ef] at e
        have e2 : (flat t).take [(58 : UInt8)].length = [58] := by
          have := congrArg (List.drop 1) e
          simpa using this
        obtain ⟨y, t', ey, hy'⟩ := (take1 h.tail 58 (by decide)).1 e2
        exact ⟨hy, colon_iff.2 ⟨y, t', ey, hy'⟩⟩
      · rintro ⟨e, ec⟩
        obtain ⟨y, t', ey, hy'⟩ := colon_iff.1 ec
        rw [one1 58 (by decide) e]
        have := (take1 h.tail 58 (by decide)).2 ⟨y, t', ey, hy'⟩
        show 58 :: (flat t).take 1 = _
        rw [show (flat t).take 1 = [58] from this]
    subst hr3
    refine Tot.cond (fun c3 => ?_) (fun c3 => ?_)
    · have hc := hcc.1 (of_decide_eq_true c3)
      rw [if_pos hc]
      obtain ⟨y, t', ey, hy'⟩ := colon_iff.1 hc.2
      subst ey
      have hx1 : x.1 = [58] := (byte_is h.head (b := 58) (by decide)).2 hc.1
      have hy1 : y.1 = [58] := (byte_is h.tail.head (b := 58) (by decide)).2 hy'
      refine Tot.ret ?_
      have e1 : flat (x :: (y :: t').take 1) = [58, 58] := by show x.1 ++ (y.1 ++ []) = _; rw [hx1, hy1]; rfl
      have e2 : (flat (x :: y :: t')).length = 2 + (flat t').length := by rw [flat_cons, flat_cons, hx1, hy1, List.length_append, List.length_append]; simp only [List.length_singleton]; omega
      show ((4 : Int), (⟨#[58, 58]⟩ : ByteArray), (⟨#[]⟩ : ByteArray), (0 : Int), (2 : Int)) = (4, bl (flat (x :: (y :: t').take 1)), bl (flat []), 0, ((flat (x :: y :: t')).length : Int) - (flat ((y :: t').drop 1)).length)
      rw [e1, e2]
      refine Prod.ext rfl (Prod.ext rfl (Prod.ext rfl (Prod.ext rfl ?_)))
      show (2 : Int) = ((2 + (flat t').length : Nat) : Int) - (flat t').length
      omega
    have n3 : ¬ (x.2 = 58 ∧ colon t = true) := fun e => of_decide_eq_false c3 (hcc.2 e)
    rw [if_neg n3]
    repeat (refine Tot.t (decide_eq_true (by omega)) ?_)
    have e01 : (bl (flat (x :: t))).extract 0 1 = bl [b] := by rw [bl_ext, hfl]; rfl
    rw [e01]
    refine Tot.bind (signs_tot [b] rfl) fun r4 hr4 => ?_
    subst hr4
    refine Tot.cond (fun c4 => ?_) (fun c4 => ?_)
    · have hs := (sgn_iff h.head h1).1 (of_decide_eq_true c4)
      rw [if_pos hs]
      have hlo : x.2 < 128 := by
        simp only [signs, List.mem_cons, List.not_mem_nil, or_false] at hs
        omega
      have hcn := (h2 hlo).1
      subst hcn
      repeat (refine Tot.t (decide_eq_true (by omega)) ?_)
      refine Tot.ret ?_
      show ((4 : Int), bl [b], (⟨#[]⟩ : ByteArray), (0 : Int), (1 : Int)) = (4, bl (flat [x]), bl (flat []), 0, ((flat (x :: t)).length : Int) - (flat t).length)
      have e1 : flat [x] = [b] := by show x.1 ++ [] = _; rw [h1]; rfl
      rw [e1, hflen]
      refine Prod.ext rfl (Prod.ext rfl (Prod.ext rfl (Prod.ext rfl ?_)))
      show (1 : Int) = ((0 + (flat t).length + 1 : Nat) : Int) - (flat t).length
      omega
    · rw [if_neg fun e => of_decide_eq_false c4 ((sgn_iff h.head h1).2 e)]
      refine Tot.bind (word_tot h (by omega)) fun r5 hr5 => Tot.ret ?_
      cases hw : wdT (x :: t) with
      | none => rw [hw] at hr5; exact hr5
      | some w =>
        rw [hw] at hr5
        rw [hr5]
        obtain ⟨e1, _⟩ := wdT_pre hw
        have e2 := congrArg (fun t => (flat t).length) e1
        simp only [flat_app, List.length_append] at e2
        show _ = ((1 : Int), bl (flat w), bl (flat []), (0 : Int), _)
        refine Prod.ext rfl (Prod.ext rfl (Prod.ext rfl (Prod.ext rfl ?_)))
        show ((flat w).length : Int) = ((flat (x :: t)).length : Int) - (flat ((x :: t).drop w.length)).length
        omega
-- b
def isBlank (r : Int) : Bool := decide (r = 9 ∨ r = 10 ∨ r = 13 ∨ r = 32)
/-- a piece: its kind, text, space, how many bytes are left where it begins -/
structure Pc where
  k : Int
  a : RT
  s : RT
  rem : Nat
noncomputable def allT : Nat → RT → Option (List Pc)
  | 0, _ => none
  | b + 1, T => match T.dropWhile (fun x => isBlank x.2) with
    | [] => some [⟨5, [], [], 0⟩]
    | x :: t => match oneT (x :: t) with
      | none => none
      | some (k, a, s, q) => (allT b q).map (⟨k, a, s, (flat (x :: t)).length⟩ :: ·)
def rowP (z : Nat) (p : Pc) : List C := [C.int .i64 p.k, C.str (bl (flat p.a)), C.str (bl (flat p.s)), C.int .i64 ((z : Int) - p.rem)]
theorem blank_byte {x : BL × Int} (h : Ch x.1 x.2) : (isBlank x.2 = true → ∃ b : UInt8, x.1 = [b] ∧ blanks.data.toList.contains b = true) ∧ (isBlank x.2 = false → ∃ b c, x.1 = b :: c ∧ blanks.data.toList.contains b = false) := by
  obtain ⟨b, c, h1, h2, h3⟩ := first_byte h
  have hm : blanks.data.toList.contains b = true ↔ isBlank x.2 = true := by
    show ([9, 10, 13, 32] : List UInt8).contains b = true ↔ _
    unfold isBlank
    rw [decide_eq_true_eq]
    simp only [List.contains_cons, List.contains_nil, Bool.or_false, Bool.or_eq_true, beq_iff_eq]
    have k : ∀ u : UInt8, u.toNat < 128 → (b = u ↔ x.2 = u.toNat) := fun u hu => by
      constructor
      · rintro rfl
        by_cases hl : x.2 < 128
        · exact (h2 hl).2.symm
        · have := h3 (by omega); omega
      · intro e
        have := (h2 (by omega)).2
        exact UInt8.toNat_inj.1 (by omega)
    rw [k 9 (by decide), k 10 (by decide), k 13 (by decide), k 32 (by decide)]
    exact Iff.rfl
  refine ⟨fun hb => ?_, fun hb => ⟨b, c, h1, by rw [Bool.eq_false_iff, ne_eq, hm, hb]; simp⟩⟩
  have : x.2 < 128 := by
    unfold isBlank at hb
    have := of_decide_eq_true hb
    omega
  obtain ⟨rfl, _⟩ := h2 this
  exact ⟨b, h1, hm.2 hb⟩
theorem trim_T {T : RT} (h : Vt T) : Lib.trimLeftS (flat T) blanks.data.toList = flat (T.dropWhile fun x => isBlank x.2) := by
  unfold Lib.trimLeftS
  induction T with
  | nil => rfl
  | cons x T ih =>
    obtain ⟨h1, h2⟩ := blank_byte h.head
    cases hb : isBlank x.2 with
    | true =>
      obtain ⟨b, e1, e2⟩ := h1 hb
      rw [List.dropWhile_cons, if_pos hb, flat_cons, e1, List.singleton_append, List.dropWhile_cons, if_pos e2]
      exact ih h.tail
    | false =>
      obtain ⟨b, c, e1, e2⟩ := h2 hb
      rw [List.dropWhile_cons, if_neg (by rw [hb]; simp), flat_cons, e1, List.cons_append, List.dropWhile_cons, if_neg (by rw [e2]; simp)]
theorem trim_tot {T : RT} (h : Vt T) : Tot (fun _ _ _ => trimV (bl (flat T)) (⟨#[9, 10, 13, 32]⟩ : ByteArray)) (fun r => r = bl (flat (T.dropWhile fun x => isBlank x.2))) := by
  unfold trimV
  rw [bl_data, trim_T h]
  exact Tot.t (str_eq.2 rfl) (Tot.ret rfl)
theorem dw_pre (T : RT) : ∃ B, T = B ++ (T.dropWhile fun x => isBlank x.2) := ⟨T.takeWhile fun x => isBlank x.2, (List.takeWhile_append_dropWhile ..).symm⟩
theorem bytes28 : Tryd.prog.bytesOf 28 ≤ 1024 := of_decide_eq_true (by kernel_rfl)
theorem loop_tot : ∀ (b : Nat) (T A : RT) (v : LL), T.length < b → Vt (A ++ T) → (flat (A ++ T)).length ≤ 2048 → v.length ≤ (flat A).length → Tot (fun k m m' => lex_All_l1 (lv k) k (bl (flat (A ++ T))) m ((flat A).length : Int) v) (fun r => match allT b T with
    | none => r.2.2 ≠ 0
    | some l => r = (v ++ l.map (rowP (flat (A ++ T)).length), ((flat (A ++ T)).length : Int), 0)) := by
  intro b
  induction b with
  | zero => intro T A v h; omega
  | succ b ih =>
    intro T A v hb hv hl hvl
    have hvT := hv.right
    have hAT : (flat (A ++ T)).length = (flat A).length + (flat T).length := by rw [flat_app, List.length_append]
    obtain ⟨B, hB⟩ := dw_pre T
    refine Tot.step0 (fun k p_ q_ => lex_All_l1_q (lv k) k (bl (flat (A ++ T))) p_ ((flat A).length : Int) v) ?_
    rw [bl_size]
    repeat (refine Tot.t (decide_eq_true (by omega)) ?_)
    rw [Int.toNat_natCast, Int.toNat_natCast, bl_ext, List.take_of_length_le (by rw [List.length_drop]; omega), flat_app, List.drop_left, ← flat_app]
    refine Tot.bind (trim_tot hvT) fun r1 hr1 => ?_
    subst hr1
    rw [allT]
    cases hd : (T.dropWhile fun x => isBlank x.2) with
    | nil =>
      rw [show flat [] = [] from rfl, bl_size, List.length_nil, wrap_id (by omega) (by omega), show ((flat (A ++ T)).length : Int) - ((0 : Nat) : Int) = (flat (A ++ T)).length by omega]
      exact Tot.t (by rw [beq_self_eq_true]) (Tot.t (roomy_of bytes28 (by omega)) (Tot.ret rfl))
    | cons x t =>
      dsimp only
      rw [hd] at hB
      have hfB : (flat T).length = (flat B).length + (flat (x :: t)).length := by rw [hB, flat_app, List.length_append]
      have hvx : Vt (x :: t) := fun y hy => hvT y (by rw [hB]; exact List.mem_append_right _ hy)
      have hpos : 0 < (flat (x :: t)).length := by have := flat_len hvx; rw [List.length_cons] at this; omega
      rw [bl_size, wrap_id (x := ((flat (A ++ T)).length : Int) - (flat (x :: t)).length) (by omega) (by omega)]
      refine Tot.f (by rw [beq_eq_false_iff_ne]; omega) ?_
      repeat (refine Tot.t (decide_eq_true (by omega)) ?_)
      have e1 : (((flat (A ++ T)).length : Int) - (flat (x :: t)).length).toNat = (flat A).length + (flat B).length := by omega
      have e2 : (bl (flat (A ++ T))).extract ((flat A).length + (flat B).length) (flat (A ++ T)).length = bl (flat (x :: t)) := by
        rw [bl_ext, List.take_of_length_le (by rw [List.length_drop]; omega), hB, flat_app, flat_app, ← List.append_assoc, ← List.length_append, List.drop_left]
      rw [e1, e2]
      refine Tot.bind (one_tot hvx (by simp) (by omega)) fun r2 hr2 => ?_
      cases h1 : oneT (x :: t) with
      | none =>
        rw [h1] at hr2
        have hr2 : r2.2.2.2.2 = 0 := hr2
        exact Tot.t (by rw [hr2]; rfl) (Tot.ret (by show (14 : Int) ≠ 0; decide))
      | some r =>
        obtain ⟨kk, a, s, q⟩ := r
        rw [h1] at hr2
        have hr2 : r2 = (kk, bl (flat a), bl (flat s), (0 : Int), ((flat (x :: t)).length : Int) - (flat q).length) := hr2
        subst hr2
        obtain ⟨c, hc, hcn⟩ := oneT_pre h1
        have hlt := flat_lt (by rw [← hc]; exact hvx) hcn
        rw [← hc] at hlt
        have hcq : (flat (x :: t)).length = (flat c).length + (flat q).length := by rw [hc, flat_app, List.length_append]
        have hA' : (A ++ (B ++ c)) ++ q = A ++ T := by
          conv => rhs; rw [hB, hc]
          simp only [List.append_assoc]
        have hfA : (flat (A ++ (B ++ c))).length = (flat A).length + ((flat B).length + (flat c).length) := by rw [flat_app, flat_app, List.length_append, List.length_append]
        have hlen : q.length < b := by
          have := congrArg List.length hB
          have h2 := congrArg List.length hc
          rw [List.length_append] at this h2
          have : 0 < c.length := List.length_pos_iff.2 hcn
          omega
        have key := ih q (A ++ (B ++ c)) (v ++ [[C.int .i64 kk, C.str (bl (flat a)), C.str (bl (flat s)), C.int .i64 (((flat (A ++ T)).length : Int) - (flat (x :: t)).length)]]) hlen (by rw [hA']; exact hv) (by rw [hA']; exact hl) (by rw [List.length_append, hfA]; simp only [List.length_singleton]; omega)
        rw [hA', hfA] at key
        dsimp only
        refine Tot.f (by rw [beq_eq_false_iff_ne]; omega) (Tot.t (roomy_of bytes28 (by omega)) ?_)
        rw [wrap_id (by omega) (by omega), show ((flat (A ++ T)).length : Int) - ((flat (x :: t)).length : Int) + (((flat (x :: t)).length : Int) - ((flat q).length : Int)) = (((flat A).length + ((flat B).length + (flat c).length) : Nat) : Int) by omega]
        refine key.mono fun r hr => ?_
        cases hq : allT b q with
        | none => rw [hq] at hr; exact hr
        | some l =>
          rw [hq] at hr
          rw [hr]
          show _ = (v ++ (rowP (flat (A ++ T)).length _ :: l.map (rowP (flat (A ++ T)).length)), _, _)
          rw [List.append_assoc]
          rfl
theorem all_tot {T : RT} (h : Tx T) (hl : (flat T).length ≤ 2048) : Tot (fun k _ _ => (lv k).lex_All (bl (flat T))) (fun r => match allT (T.length + 1) T with
    | none => r.2.2 ≠ 0
    | some l => r = (l.map (rowP (flat T).length), ((flat T).length : Int), 0)) := by
  obtain ⟨lr, h1, h2⟩ := T_okV h
  refine lex_All_up _ (Tot.congr ?_ (fun k _ _ => lex_All_q (lv k) k (bl (flat T))))
  rw [bl_size]
  refine Tot.f (decide_eq_false (by omega)) (Tot.bind (utfAll_tot (bl (flat T)) (by rw [bl_size]; omega)) fun r hr => Tot.f (by rw [hr.2 ⟨lr, h1⟩]; rfl) (Tot.bind (R := fun r => r = true) ?_ fun r2 hr2 => Tot.f (by rw [hr2]; rfl) ?_))
  · refine char_All_up _ (Tot.congr ?_ (fun k _ _ => char_All_q (lv k) k (bl (flat T))))
    exact (Tot.in0 (charAll_tot _ _ _ _ h1 (by omega))).mono fun r hr => hr.2 h2
  have hv := h.1
  obtain ⟨B, hB⟩ := dw_pre T
  refine Tot.in0 (g := fun k p_ q_ => lex_All_l0 (lv k) k (bl (flat T)) p_) ?_
  refine Tot.step0 (fun k p_ q_ => lex_All_l0_q (lv k) k (bl (flat T)) p_ ) ?_
  rw [bl_size]
  repeat (refine Tot.t (decide_eq_true (by omega)) ?_)
  rw [Int.toNat_natCast, bl_ext, List.drop_zero, Nat.sub_zero, List.take_length]
  refine Tot.bind (trim_tot hv) fun r1 hr1 => ?_
  subst hr1
  rw [allT]
  cases hd : (T.dropWhile fun x => isBlank x.2) with
  | nil =>
    rw [show flat [] = [] from rfl, bl_size, List.length_nil, wrap_id (by omega) (by omega), show ((flat T).length : Int) - ((0 : Nat) : Int) = (flat T).length by omega]
    exact Tot.t (by rw [beq_self_eq_true]) (Tot.ret rfl)
  | cons x t =>
    dsimp only
    rw [hd] at hB
    have hfB : (flat T).length = (flat B).length + (flat (x :: t)).length := by rw [hB, flat_app, List.length_append]
    have hvx : Vt (x :: t) := fun y hy => hv y (by rw [hB]; exact List.mem_append_right _ hy)
    have hpos : 0 < (flat (x :: t)).length := by have := flat_len hvx; rw [List.length_cons] at this; omega
    rw [bl_size, wrap_id (x := ((flat T).length : Int) - (flat (x :: t)).length) (by omega) (by omega)]
    refine Tot.f (by rw [beq_eq_false_iff_ne]; omega) ?_
    repeat (refine Tot.t (decide_eq_true (by omega)) ?_)
    have e1 : (((flat T).length : Int) - (flat (x :: t)).length).toNat = (flat B).length := by omega
    have e2 : (bl (flat T)).extract (flat B).length (flat T).length = bl (flat (x :: t)) := by
      rw [bl_ext, List.take_of_length_le (by rw [List.length_drop]; omega), hB, flat_app, List.drop_left]
    rw [e1, e2]
    refine Tot.bind (one_tot hvx (by simp) (by omega)) fun r2 hr2 => ?_
    cases h1 : oneT (x :: t) with
    | none =>
      rw [h1] at hr2
      have hr2 : r2.2.2.2.2 = 0 := hr2
      exact Tot.t (by rw [hr2]; rfl) (Tot.ret (by show (14 : Int) ≠ 0; decide))
    | some r =>
      obtain ⟨kk, a, s, q⟩ := r
      rw [h1] at hr2
      have hr2 : r2 = (kk, bl (flat a), bl (flat s), (0 : Int), ((flat (x :: t)).length : Int) - (flat q).length) := hr2
      subst hr2
      obtain ⟨c, hc, hcn⟩ := oneT_pre h1
      have hlt := flat_lt (by rw [← hc]; exact hvx) hcn
      rw [← hc] at hlt
      have hcq : (flat (x :: t)).length = (flat c).length + (flat q).length := by rw [hc, flat_app, List.length_append]
      have hA' : (B ++ c) ++ q = T := by
        conv => rhs; rw [hB, hc]
        simp only [List.append_assoc]
      have hfA : (flat (B ++ c)).length = (flat B).length + (flat c).length := by rw [flat_app, List.length_append]
      have hlen : q.length < T.length := by
        have := congrArg List.length hB
        have h2 := congrArg List.length hc
        rw [List.length_append] at this h2
        have : 0 < c.length := List.length_pos_iff.2 hcn
        omega
      have key := loop_tot T.length q (B ++ c) [[C.int .i64 kk, C.str (bl (flat a)), C.str (bl (flat s)), C.int .i64 (((flat T).length : Int) - (flat (x :: t)).length)]] hlen (by rw [hA']; exact hv) (by rw [hA']; exact hl) (by rw [hfA]; simp only [List.length_singleton]; omega)
      rw [hA', hfA] at key
      dsimp only
      refine Tot.f (by rw [beq_eq_false_iff_ne]; omega) ?_
      rw [wrap_id (by omega) (by omega), show ((flat T).length : Int) - ((flat (x :: t)).length : Int) + (((flat (x :: t)).length : Int) - ((flat q).length : Int)) = (((flat B).length + (flat c).length : Nat) : Int) by omega]
      refine key.mono fun r hr => ?_
      cases hq : allT T.length q with
      | none => rw [hq] at hr; exact hr
      | some l =>
        rw [hq] at hr
        rw [hr]
        rfl
end Go.Vm.T
