/- The reference's cut and Rune are what the bytes say. -/
import Derived.Test.YtblofllbbcpeiaaX5
import Derived.Test.YtblofllbbcpeiaaUtfD
set_option linter.unusedVariables false
set_option linter.unusedSimpArgs false
namespace Go.Proofs.Ytblofllbbcpeiaa.Utf
open Go.RowKit Go.Proofs.YtblofllbbcpeiaaW.PrintWords Go.Proofs.YtblofllbbcpeiaaW.PrintLast Go.Proofs.YtblofllbbcpeiaaW.XConv Go.Proofs.Ytblofllbbcpeiaa.X Go.Proofs.Ytblofllbbcpeiaa.E
theorem putL2 (r : Int) (h : (putL r).length = 2) : 128 ≤ r ∧ r < 2048 := by
  unfold putL at h
  repeat' split at h
  all_goals first | (simp at h; done) | omega
theorem putL3 (r : Int) (h : (putL r).length = 3) : 2048 ≤ r ∧ r < 65536 ∧ ¬ (55296 ≤ r ∧ r ≤ 57343) := by
  unfold putL at h
  repeat' split at h
  all_goals first | (simp at h; done) | omega
theorem putL4 (r : Int) (h : (putL r).length = 4) : 65536 ≤ r ∧ r ≤ 1114111 := by
  unfold putL at h
  repeat' split at h
  all_goals first | (simp at h; done) | omega
theorem putL1 (r : Int) (h : (putL r).length = 1) : 0 ≤ r ∧ r < 128 := by
  unfold putL at h
  repeat' split at h
  all_goals first | (simp at h; done) | omega
theorem put1 (r : Int) (h : 0 ≤ r ∧ r < 128) : putL r = [r] := by
  unfold putL; rw [if_neg (by omega), if_pos (by omega)]
theorem put2 (r : Int) (h : 128 ≤ r ∧ r < 2048) : putL r = [192 + r / 64, 128 + r % 64] := by
  unfold putL; rw [if_neg (by omega), if_neg (by omega), if_pos (by omega)]
theorem put3 (r : Int) (h : 2048 ≤ r ∧ r < 65536 ∧ ¬ (55296 ≤ r ∧ r ≤ 57343)) : putL r = [224 + r / 4096, 128 + r / 64 % 64, 128 + r % 64] := by
  unfold putL; rw [if_neg (by omega), if_neg (by omega), if_neg (by omega), if_pos (by omega)]
theorem put4 (r : Int) (h : 65536 ≤ r ∧ r ≤ 1114111) : putL r = [240 + r / 262144, 128 + r / 4096 % 64, 128 + r / 64 % 64, 128 + r % 64] := by
  unfold putL; rw [if_neg (by omega), if_neg (by omega), if_neg (by omega), if_neg (by omega)]
theorem samp63 (a k : Int) (h0 : 0 ≤ k) (h1 : k < 64) : samp a (a + 63) k = a + k := by
  unfold samp
  have e : (a + 63 - a) / 63 = 1 := by omega
  rw [e]
  split <;> omega
theorem samp_lo (a b k : Int) (hab : a ≤ b) (h0 : 0 ≤ k) (h1 : k < 64) : a ≤ samp a b k ∧ samp a b k ≤ b := by
  unfold samp
  split
  · omega
  · have h2 : 0 ≤ (b - a) / 63 * k := Int.mul_nonneg (by omega) h0
    have h3 : (b - a) / 63 * k ≤ (b - a) / 63 * 63 := Int.mul_le_mul_of_nonneg_left (by omega) (by omega)
    omega
section
variable (s : ByteArray) (p n : Int) (h0 : 0 ≤ p) (hs : p + n = s.size) (hz : s.size ≤ 1000000000) (hn1 : 1 ≤ n) (hn3 : n ≤ 3)
include h0 hs hz hn1 hn3
theorem small_full : (s.extract p.toNat s.size).size ≤ 1000 := by
  have := full_size s p n h0 hs hz hn1 hn3
  omega
/-- by one: total 2 -/
theorem tot2 (hn : n = 1) (r : Bool) (yes : 194 ≤ bt s p ∧ bt s p < 224 → r = true) (no : ¬ (194 ≤ bt s p ∧ bt s p < 224) → Evn (fun k => orielref01_cut.l0 k s p n 3) r) : Evn (fun k => orielref01_cut.l0 k s p n 2) r := by
  have b0 := bt_range s p
  have hx : xb s p n 128 0 = bt s p := by unfold xb; rw [if_pos (by omega), Int.add_zero]
  have hx' : xb s p n 191 0 = bt s p := by unfold xb; rw [if_pos (by omega), Int.add_zero]
  have hy : xb s p n 128 1 = 128 := by unfold xb; rw [if_neg (by omega)]
  have hy' : xb s p n 191 1 = 191 := by unfold xb; rw [if_neg (by omega)]
  have la := low2 s p n h0 hs hz hn1 hn3 128 1 (by omega)
  have lb := low2 s p n h0 hs hz hn1 hn3 191 1 (by omega)
  simp only [show (128 : UInt8).toNat = 128 from rfl, show (191 : UInt8).toNat = 191 from rfl, Int.cast_ofNat_Int, hx, hx', hy, hy'] at la lb
  have w : wrap64 (2 + 1) = 3 := w64 (by omega) (by omega)
  refine l0_step s p n h0 hs hz hn1 hn3 2 _ _ 1 (by omega) (by omega) la lb r ?_ ?_
  · intro _ hf
    simp [firstB] at hf
    by_cases hy : 194 ≤ bt s p
    · rw [yes ⟨hy, hf.2⟩]
      refine l3_some s p n 2 _ _ _ (by omega) (by omega) (by omega) (small_full s p n h0 hs hz hn1 hn3) 0 (by omega) (by omega) ?_
      have hb : (bt s p - 192) * 64 + (191 - 128) = ((bt s p - 192) * 64 + (128 - 128)) + 63 := by omega
      rw [hb, samp63 _ _ (by omega) (by omega)]
      have hp := put2 ((bt s p - 192) * 64 + (128 - 128) + 0) (by omega)
      refine ⟨by rw [hp]; rfl, hit_beg s p n h0 hs hz hn1 hn3 _ 2 (by rw [hp]; rfl) (by omega) (fun i hi => ?_)⟩
      obtain rfl : i = 0 := by omega
      rw [hp]
      simp
      omega
    · refine l3_none s p n 2 _ _ _ r (by omega) (by omega) (by omega) (small_full s p n h0 hs hz hn1 hn3) ?_ (by rw [w]; exact no (by omega))
      intro k hk hk2 hl
      have := putL2 (samp ((bt s p - 192) * 64 + (128 - 128)) ((bt s p - 192) * 64 + (191 - 128)) k) (by omega)
      have := samp_lo ((bt s p - 192) * 64 + (128 - 128)) ((bt s p - 192) * 64 + (191 - 128)) k (by omega) hk hk2
      omega
  · intro hf
    rw [w]
    refine no ?_
    have : tailsB (bt s (p + 1)) (bt s (p + 2)) n = true := by unfold tailsB; rw [if_pos hn]
    rw [this] at hf
    simp [firstB] at hf
    omega
theorem tot3a (hn : n = 1) (r : Bool) (yes : 224 ≤ bt s p ∧ bt s p < 240 → r = true) (no : ¬ (224 ≤ bt s p ∧ bt s p < 240) → Evn (fun k => orielref01_cut.l0 k s p n 4) r) : Evn (fun k => orielref01_cut.l0 k s p n 3) r := by
  have b0 := bt_range s p
  have b1 := bt_range s (p + 1)
  have b2 := bt_range s (p + 2)
  have hx0 : xb s p n 128 0 = bt s p := by unfold xb; rw [if_pos (by omega), Int.add_zero]
  have hX0 : xb s p n 191 0 = bt s p := by unfold xb; rw [if_pos (by omega), Int.add_zero]
  have hx1 : xb s p n 128 1 = 128 := by unfold xb; rw [if_neg (by omega)]
  have hX1 : xb s p n 191 1 = 191 := by unfold xb; rw [if_neg (by omega)]
  have hx2 : xb s p n 128 2 = 128 := by unfold xb; rw [if_neg (by omega)]
  have hX2 : xb s p n 191 2 = 191 := by unfold xb; rw [if_neg (by omega)]
  have la := low3 s p n h0 hs hz hn1 hn3 128 2 (by omega)
  have lb := low3 s p n h0 hs hz hn1 hn3 191 2 (by omega)
  simp only [show (128 : UInt8).toNat = 128 from rfl, show (191 : UInt8).toNat = 191 from rfl, Int.cast_ofNat_Int, hx0, hX0, hx1, hX1, hx2, hX2] at la lb
  clear hx0 hX0 hx1 hX1 hx2 hX2
  have w : wrap64 (3 + 1) = 4 := w64 (by omega) (by omega)
  generalize hB0 : bt s p = B0 at *
  generalize hB1 : bt s (p + 1) = B1 at *
  generalize hB2 : bt s (p + 2) = B2 at *
  have hq := small_full s p n h0 hs hz hn1 hn3
  refine l0_step s p n h0 hs hz hn1 hn3 3 _ _ 2 (by omega) (by omega) la lb r ?_ ?_
  · rw [hB0, hB1, hB2]
    intro ht hf
    simp [firstB] at hf
    by_cases hy : 224 ≤ B0 ∧ B0 < 240
    · rw [yes hy]
      by_cases hc : B0 = 237
      · refine l3_some s p n 3 _ _ _ (by omega) (by omega) (by omega) hq 0 (by omega) (by omega) ?_
        have hr : samp (((B0 - 224) * 64 + (128 - 128)) * 64 + (128 - 128)) (((B0 - 224) * 64 + (191 - 128)) * 64 + (191 - 128)) 0 = ((B0 - 224) * 64 + (128 - 128)) * 64 + (128 - 128) := by unfold samp; rw [if_neg (by omega)]; omega
        rw [hr]
        have hp := put3 (((B0 - 224) * 64 + (128 - 128)) * 64 + (128 - 128)) (by omega)
        refine ⟨by rw [hp]; rfl, hit_beg s p n h0 hs hz hn1 hn3 _ 3 (by rw [hp]; rfl) (by omega) (fun i hi => ?_)⟩
        have hi' : i = 0 := by omega
        rw [hp]
        obtain rfl := hi'
        show 224 + (((B0 - 224) * 64 + (128 - 128)) * 64 + (128 - 128)) / 4096 = bt s (p + (0 : Nat))
        have e0 : p + ((0 : Nat) : Int) = p := by omega
        rw [e0, hB0]
        omega
      · refine l3_some s p n 3 _ _ _ (by omega) (by omega) (by omega) hq 63 (by omega) (by omega) ?_
        have hr : samp (((B0 - 224) * 64 + (128 - 128)) * 64 + (128 - 128)) (((B0 - 224) * 64 + (191 - 128)) * 64 + (191 - 128)) 63 = ((B0 - 224) * 64 + (191 - 128)) * 64 + (191 - 128) := by unfold samp; rw [if_pos rfl]
        rw [hr]
        have hp := put3 (((B0 - 224) * 64 + (191 - 128)) * 64 + (191 - 128)) (by omega)
        refine ⟨by rw [hp]; rfl, hit_beg s p n h0 hs hz hn1 hn3 _ 3 (by rw [hp]; rfl) (by omega) (fun i hi => ?_)⟩
        have hi' : i = 0 := by omega
        rw [hp]
        obtain rfl := hi'
        show 224 + (((B0 - 224) * 64 + (191 - 128)) * 64 + (191 - 128)) / 4096 = bt s (p + (0 : Nat))
        have e0 : p + ((0 : Nat) : Int) = p := by omega
        rw [e0, hB0]
        omega
    · refine l3_none s p n 3 _ _ _ r (by omega) (by omega) (by omega) hq ?_ (by rw [w]; exact no hy)
      intro k hk hk2 hl
      have h1 := putL3 (samp (((B0 - 224) * 64 + (128 - 128)) * 64 + (128 - 128)) (((B0 - 224) * 64 + (191 - 128)) * 64 + (191 - 128)) k) (by omega)
      have h2 := samp_lo (((B0 - 224) * 64 + (128 - 128)) * 64 + (128 - 128)) (((B0 - 224) * 64 + (191 - 128)) * 64 + (191 - 128)) k (by omega) hk hk2
      omega
  · rw [hB0, hB1, hB2]
    intro hf
    rw [w]
    refine no ?_
    intro hy
    simp [firstB, tailsB, hn, tailB] at hf
    omega
theorem tot3b (hn : n = 2) (r : Bool) (yes : (128 ≤ bt s (p + 1) ∧ bt s (p + 1) < 192) ∧ 224 ≤ bt s p ∧ bt s p < 240 ∧ ¬ (bt s p = 224 ∧ bt s (p + 1) < 160) ∧ ¬ (bt s p = 237 ∧ 160 ≤ bt s (p + 1)) → r = true) (no : ¬ ((128 ≤ bt s (p + 1) ∧ bt s (p + 1) < 192) ∧ 224 ≤ bt s p ∧ bt s p < 240 ∧ ¬ (bt s p = 224 ∧ bt s (p + 1) < 160) ∧ ¬ (bt s p = 237 ∧ 160 ≤ bt s (p + 1))) → Evn (fun k => orielref01_cut.l0 k s p n 4) r) : Evn (fun k => orielref01_cut.l0 k s p n 3) r := by
  have b0 := bt_range s p
  have b1 := bt_range s (p + 1)
  have b2 := bt_range s (p + 2)
  have hx0 : xb s p n 128 0 = bt s p := by unfold xb; rw [if_pos (by omega), Int.add_zero]
  have hX0 : xb s p n 191 0 = bt s p := by unfold xb; rw [if_pos (by omega), Int.add_zero]
  have hx1 : xb s p n 128 1 = bt s (p + 1) := by unfold xb; rw [if_pos (by omega)]
  have hX1 : xb s p n 191 1 = bt s (p + 1) := by unfold xb; rw [if_pos (by omega)]
  have hx2 : xb s p n 128 2 = 128 := by unfold xb; rw [if_neg (by omega)]
  have hX2 : xb s p n 191 2 = 191 := by unfold xb; rw [if_neg (by omega)]
  have la := low3 s p n h0 hs hz hn1 hn3 128 1 (by omega)
  have lb := low3 s p n h0 hs hz hn1 hn3 191 1 (by omega)
  simp only [show (128 : UInt8).toNat = 128 from rfl, show (191 : UInt8).toNat = 191 from rfl, Int.cast_ofNat_Int, hx0, hX0, hx1, hX1, hx2, hX2] at la lb
  clear hx0 hX0 hx1 hX1 hx2 hX2
  have w : wrap64 (3 + 1) = 4 := w64 (by omega) (by omega)
  generalize hB0 : bt s p = B0 at *
  generalize hB1 : bt s (p + 1) = B1 at *
  generalize hB2 : bt s (p + 2) = B2 at *
  have hq := small_full s p n h0 hs hz hn1 hn3
  refine l0_step s p n h0 hs hz hn1 hn3 3 _ _ 1 (by omega) (by omega) la lb r ?_ ?_
  · rw [hB0, hB1, hB2]
    intro ht hf
    simp [firstB] at hf
    simp [tailsB, hn, tailB] at ht
    by_cases hy : (128 ≤ B1 ∧ B1 < 192) ∧ 224 ≤ B0 ∧ B0 < 240 ∧ ¬ (B0 = 224 ∧ B1 < 160) ∧ ¬ (B0 = 237 ∧ 160 ≤ B1)
    · rw [yes hy]
      refine l3_some s p n 3 _ _ _ (by omega) (by omega) (by omega) hq 0 (by omega) (by omega) ?_
      have hr : samp (((B0 - 224) * 64 + (B1 - 128)) * 64 + (128 - 128)) (((B0 - 224) * 64 + (B1 - 128)) * 64 + (191 - 128)) 0 = ((B0 - 224) * 64 + (B1 - 128)) * 64 + (128 - 128) := by unfold samp; rw [if_neg (by omega)]; omega
      rw [hr]
      have hp := put3 (((B0 - 224) * 64 + (B1 - 128)) * 64 + (128 - 128)) (by omega)
      refine ⟨by rw [hp]; rfl, hit_beg s p n h0 hs hz hn1 hn3 _ 3 (by rw [hp]; rfl) (by omega) (fun i hi => ?_)⟩
      have hi' : i = 0 ∨ i = 1 := by omega
      rw [hp]
      rcases hi' with rfl | rfl
      · show 224 + (((B0 - 224) * 64 + (B1 - 128)) * 64 + (128 - 128)) / 4096 = bt s (p + (0 : Nat))
        have e0 : p + ((0 : Nat) : Int) = p := by omega
        rw [e0, hB0]
        omega
      · show 128 + (((B0 - 224) * 64 + (B1 - 128)) * 64 + (128 - 128)) / 64 % 64 = bt s (p + (1 : Nat))
        have e1 : p + ((1 : Nat) : Int) = p + 1 := by omega
        rw [e1, hB1]
        omega
    · refine l3_none s p n 3 _ _ _ r (by omega) (by omega) (by omega) hq ?_ (by rw [w]; exact no hy)
      intro k hk hk2 hl
      have h1 := putL3 (samp (((B0 - 224) * 64 + (B1 - 128)) * 64 + (128 - 128)) (((B0 - 224) * 64 + (B1 - 128)) * 64 + (191 - 128)) k) (by omega)
      have h2 := samp_lo (((B0 - 224) * 64 + (B1 - 128)) * 64 + (128 - 128)) (((B0 - 224) * 64 + (B1 - 128)) * 64 + (191 - 128)) k (by omega) hk hk2
      omega
  · rw [hB0, hB1, hB2]
    intro hf
    rw [w]
    refine no ?_
    intro hy
    simp [firstB, tailsB, hn, tailB] at hf
    omega
theorem tot4a (hn : n = 1) (r : Bool) (yes : 240 ≤ bt s p ∧ bt s p < 245 → r = true) (no : ¬ (240 ≤ bt s p ∧ bt s p < 245) → Evn (fun k => orielref01_cut.l0 k s p n 5) r) : Evn (fun k => orielref01_cut.l0 k s p n 4) r := by
  have b0 := bt_range s p
  have b1 := bt_range s (p + 1)
  have b2 := bt_range s (p + 2)
  have hx0 : xb s p n 128 0 = bt s p := by unfold xb; rw [if_pos (by omega), Int.add_zero]
  have hX0 : xb s p n 191 0 = bt s p := by unfold xb; rw [if_pos (by omega), Int.add_zero]
  have hx1 : xb s p n 128 1 = 128 := by unfold xb; rw [if_neg (by omega)]
  have hX1 : xb s p n 191 1 = 191 := by unfold xb; rw [if_neg (by omega)]
  have hx2 : xb s p n 128 2 = 128 := by unfold xb; rw [if_neg (by omega)]
  have hX2 : xb s p n 191 2 = 191 := by unfold xb; rw [if_neg (by omega)]
  have hx3 : xb s p n 128 3 = 128 := by unfold xb; rw [if_neg (by omega)]
  have hX3 : xb s p n 191 3 = 191 := by unfold xb; rw [if_neg (by omega)]
  have la := low4 s p n h0 hs hz hn1 hn3 128 3 (by omega)
  have lb := low4 s p n h0 hs hz hn1 hn3 191 3 (by omega)
  simp only [show (128 : UInt8).toNat = 128 from rfl, show (191 : UInt8).toNat = 191 from rfl, Int.cast_ofNat_Int, hx0, hX0, hx1, hX1, hx2, hX2, hx3, hX3] at la lb
  clear hx0 hX0 hx1 hX1 hx2 hX2 hx3 hX3
  have w : wrap64 (4 + 1) = 5 := w64 (by omega) (by omega)
  generalize hB0 : bt s p = B0 at *
  generalize hB1 : bt s (p + 1) = B1 at *
  generalize hB2 : bt s (p + 2) = B2 at *
  have hq := small_full s p n h0 hs hz hn1 hn3
  refine l0_step s p n h0 hs hz hn1 hn3 4 _ _ 3 (by omega) (by omega) la lb r ?_ ?_
  · rw [hB0, hB1, hB2]
    intro ht hf
    simp [firstB] at hf
    by_cases hy : 240 ≤ B0 ∧ B0 < 245
    · rw [yes hy]
      by_cases hc : B0 = 240
      · refine l3_some s p n 4 _ _ _ (by omega) (by omega) (by omega) hq 63 (by omega) (by omega) ?_
        have hr : samp ((((B0 - 240) * 64 + (128 - 128)) * 64 + (128 - 128)) * 64 + (128 - 128)) ((((B0 - 240) * 64 + (191 - 128)) * 64 + (191 - 128)) * 64 + (191 - 128)) 63 = (((B0 - 240) * 64 + (191 - 128)) * 64 + (191 - 128)) * 64 + (191 - 128) := by unfold samp; rw [if_pos rfl]
        rw [hr]
        have hp := put4 ((((B0 - 240) * 64 + (191 - 128)) * 64 + (191 - 128)) * 64 + (191 - 128)) (by omega)
        refine ⟨by rw [hp]; rfl, hit_beg s p n h0 hs hz hn1 hn3 _ 4 (by rw [hp]; rfl) (by omega) (fun i hi => ?_)⟩
        have hi' : i = 0 := by omega
        rw [hp]
        obtain rfl := hi'
        show 240 + ((((B0 - 240) * 64 + (191 - 128)) * 64 + (191 - 128)) * 64 + (191 - 128)) / 262144 = bt s (p + (0 : Nat))
        have e0 : p + ((0 : Nat) : Int) = p := by omega
        rw [e0, hB0]
        omega
      · refine l3_some s p n 4 _ _ _ (by omega) (by omega) (by omega) hq 0 (by omega) (by omega) ?_
        have hr : samp ((((B0 - 240) * 64 + (128 - 128)) * 64 + (128 - 128)) * 64 + (128 - 128)) ((((B0 - 240) * 64 + (191 - 128)) * 64 + (191 - 128)) * 64 + (191 - 128)) 0 = (((B0 - 240) * 64 + (128 - 128)) * 64 + (128 - 128)) * 64 + (128 - 128) := by unfold samp; rw [if_neg (by omega)]; omega
        rw [hr]
        have hp := put4 ((((B0 - 240) * 64 + (128 - 128)) * 64 + (128 - 128)) * 64 + (128 - 128)) (by omega)
        refine ⟨by rw [hp]; rfl, hit_beg s p n h0 hs hz hn1 hn3 _ 4 (by rw [hp]; rfl) (by omega) (fun i hi => ?_)⟩
        have hi' : i = 0 := by omega
        rw [hp]
        obtain rfl := hi'
        show 240 + ((((B0 - 240) * 64 + (128 - 128)) * 64 + (128 - 128)) * 64 + (128 - 128)) / 262144 = bt s (p + (0 : Nat))
        have e0 : p + ((0 : Nat) : Int) = p := by omega
        rw [e0, hB0]
        omega
    · refine l3_none s p n 4 _ _ _ r (by omega) (by omega) (by omega) hq ?_ (by rw [w]; exact no hy)
      intro k hk hk2 hl
      have h1 := putL4 (samp ((((B0 - 240) * 64 + (128 - 128)) * 64 + (128 - 128)) * 64 + (128 - 128)) ((((B0 - 240) * 64 + (191 - 128)) * 64 + (191 - 128)) * 64 + (191 - 128)) k) (by omega)
      have h2 := samp_lo ((((B0 - 240) * 64 + (128 - 128)) * 64 + (128 - 128)) * 64 + (128 - 128)) ((((B0 - 240) * 64 + (191 - 128)) * 64 + (191 - 128)) * 64 + (191 - 128)) k (by omega) hk hk2
      omega
  · rw [hB0, hB1, hB2]
    intro hf
    rw [w]
    refine no ?_
    intro hy
    simp [firstB, tailsB, hn, tailB] at hf
    omega
theorem tot4b (hn : n = 2) (r : Bool) (yes : (128 ≤ bt s (p + 1) ∧ bt s (p + 1) < 192) ∧ 240 ≤ bt s p ∧ bt s p < 245 ∧ ¬ (bt s p = 240 ∧ bt s (p + 1) < 144) ∧ ¬ (bt s p = 244 ∧ 144 ≤ bt s (p + 1)) → r = true) (no : ¬ ((128 ≤ bt s (p + 1) ∧ bt s (p + 1) < 192) ∧ 240 ≤ bt s p ∧ bt s p < 245 ∧ ¬ (bt s p = 240 ∧ bt s (p + 1) < 144) ∧ ¬ (bt s p = 244 ∧ 144 ≤ bt s (p + 1))) → Evn (fun k => orielref01_cut.l0 k s p n 5) r) : Evn (fun k => orielref01_cut.l0 k s p n 4) r := by
  have b0 := bt_range s p
  have b1 := bt_range s (p + 1)
  have b2 := bt_range s (p + 2)
  have hx0 : xb s p n 128 0 = bt s p := by unfold xb; rw [if_pos (by omega), Int.add_zero]
  have hX0 : xb s p n 191 0 = bt s p := by unfold xb; rw [if_pos (by omega), Int.add_zero]
  have hx1 : xb s p n 128 1 = bt s (p + 1) := by unfold xb; rw [if_pos (by omega)]
  have hX1 : xb s p n 191 1 = bt s (p + 1) := by unfold xb; rw [if_pos (by omega)]
  have hx2 : xb s p n 128 2 = 128 := by unfold xb; rw [if_neg (by omega)]
  have hX2 : xb s p n 191 2 = 191 := by unfold xb; rw [if_neg (by omega)]
  have hx3 : xb s p n 128 3 = 128 := by unfold xb; rw [if_neg (by omega)]
  have hX3 : xb s p n 191 3 = 191 := by unfold xb; rw [if_neg (by omega)]
  have la := low4 s p n h0 hs hz hn1 hn3 128 2 (by omega)
  have lb := low4 s p n h0 hs hz hn1 hn3 191 2 (by omega)
  simp only [show (128 : UInt8).toNat = 128 from rfl, show (191 : UInt8).toNat = 191 from rfl, Int.cast_ofNat_Int, hx0, hX0, hx1, hX1, hx2, hX2, hx3, hX3] at la lb
  clear hx0 hX0 hx1 hX1 hx2 hX2 hx3 hX3
  have w : wrap64 (4 + 1) = 5 := w64 (by omega) (by omega)
  generalize hB0 : bt s p = B0 at *
  generalize hB1 : bt s (p + 1) = B1 at *
  generalize hB2 : bt s (p + 2) = B2 at *
  have hq := small_full s p n h0 hs hz hn1 hn3
  refine l0_step s p n h0 hs hz hn1 hn3 4 _ _ 2 (by omega) (by omega) la lb r ?_ ?_
  · rw [hB0, hB1, hB2]
    intro ht hf
    simp [firstB] at hf
    simp [tailsB, hn, tailB] at ht
    by_cases hy : (128 ≤ B1 ∧ B1 < 192) ∧ 240 ≤ B0 ∧ B0 < 245 ∧ ¬ (B0 = 240 ∧ B1 < 144) ∧ ¬ (B0 = 244 ∧ 144 ≤ B1)
    · rw [yes hy]
      refine l3_some s p n 4 _ _ _ (by omega) (by omega) (by omega) hq 0 (by omega) (by omega) ?_
      have hr : samp ((((B0 - 240) * 64 + (B1 - 128)) * 64 + (128 - 128)) * 64 + (128 - 128)) ((((B0 - 240) * 64 + (B1 - 128)) * 64 + (191 - 128)) * 64 + (191 - 128)) 0 = (((B0 - 240) * 64 + (B1 - 128)) * 64 + (128 - 128)) * 64 + (128 - 128) := by unfold samp; rw [if_neg (by omega)]; omega
      rw [hr]
      have hp := put4 ((((B0 - 240) * 64 + (B1 - 128)) * 64 + (128 - 128)) * 64 + (128 - 128)) (by omega)
      refine ⟨by rw [hp]; rfl, hit_beg s p n h0 hs hz hn1 hn3 _ 4 (by rw [hp]; rfl) (by omega) (fun i hi => ?_)⟩
      have hi' : i = 0 ∨ i = 1 := by omega
      rw [hp]
      rcases hi' with rfl | rfl
      · show 240 + ((((B0 - 240) * 64 + (B1 - 128)) * 64 + (128 - 128)) * 64 + (128 - 128)) / 262144 = bt s (p + (0 : Nat))
        have e0 : p + ((0 : Nat) : Int) = p := by omega
        rw [e0, hB0]
        omega
      · show 128 + ((((B0 - 240) * 64 + (B1 - 128)) * 64 + (128 - 128)) * 64 + (128 - 128)) / 4096 % 64 = bt s (p + (1 : Nat))
        have e1 : p + ((1 : Nat) : Int) = p + 1 := by omega
        rw [e1, hB1]
        omega
    · refine l3_none s p n 4 _ _ _ r (by omega) (by omega) (by omega) hq ?_ (by rw [w]; exact no hy)
      intro k hk hk2 hl
      have h1 := putL4 (samp ((((B0 - 240) * 64 + (B1 - 128)) * 64 + (128 - 128)) * 64 + (128 - 128)) ((((B0 - 240) * 64 + (B1 - 128)) * 64 + (191 - 128)) * 64 + (191 - 128)) k) (by omega)
      have h2 := samp_lo ((((B0 - 240) * 64 + (B1 - 128)) * 64 + (128 - 128)) * 64 + (128 - 128)) ((((B0 - 240) * 64 + (B1 - 128)) * 64 + (191 - 128)) * 64 + (191 - 128)) k (by omega) hk hk2
      omega
  · rw [hB0, hB1, hB2]
    intro hf
    rw [w]
    refine no ?_
    intro hy
    simp [firstB, tailsB, hn, tailB] at hf
    omega
theorem tot4c (hn : n = 3) (r : Bool) (yes : (128 ≤ bt s (p + 1) ∧ bt s (p + 1) < 192) ∧ (128 ≤ bt s (p + 2) ∧ bt s (p + 2) < 192) ∧ 240 ≤ bt s p ∧ bt s p < 245 ∧ ¬ (bt s p = 240 ∧ bt s (p + 1) < 144) ∧ ¬ (bt s p = 244 ∧ 144 ≤ bt s (p + 1)) → r = true) (no : ¬ ((128 ≤ bt s (p + 1) ∧ bt s (p + 1) < 192) ∧ (128 ≤ bt s (p + 2) ∧ bt s (p + 2) < 192) ∧ 240 ≤ bt s p ∧ bt s p < 245 ∧ ¬ (bt s p = 240 ∧ bt s (p + 1) < 144) ∧ ¬ (bt s p = 244 ∧ 144 ≤ bt s (p + 1))) → Evn (fun k => orielref01_cut.l0 k s p n 5) r) : Evn (fun k => orielref01_cut.l0 k s p n 4) r := by
  have b0 := bt_range s p
  have b1 := bt_range s (p + 1)
  have b2 := bt_range s (p + 2)
  have hx0 : xb s p n 128 0 = bt s p := by unfold xb; rw [if_pos (by omega), Int.add_zero]
  have hX0 : xb s p n 191 0 = bt s p := by unfold xb; rw [if_pos (by omega), Int.add_zero]
  have hx1 : xb s p n 128 1 = bt s (p + 1) := by unfold xb; rw [if_pos (by omega)]
  have hX1 : xb s p n 191 1 = bt s (p + 1) := by unfold xb; rw [if_pos (by omega)]
  have hx2 : xb s p n 128 2 = bt s (p + 2) := by unfold xb; rw [if_pos (by omega)]
  have hX2 : xb s p n 191 2 = bt s (p + 2) := by unfold xb; rw [if_pos (by omega)]
  have hx3 : xb s p n 128 3 = 128 := by unfold xb; rw [if_neg (by omega)]
  have hX3 : xb s p n 191 3 = 191 := by unfold xb; rw [if_neg (by omega)]
  have la := low4 s p n h0 hs hz hn1 hn3 128 1 (by omega)
  have lb := low4 s p n h0 hs hz hn1 hn3 191 1 (by omega)
  simp only [show (128 : UInt8).toNat = 128 from rfl, show (191 : UInt8).toNat = 191 from rfl, Int.cast_ofNat_Int, hx0, hX0, hx1, hX1, hx2, hX2, hx3, hX3] at la lb
  clear hx0 hX0 hx1 hX1 hx2 hX2 hx3 hX3
  have w : wrap64 (4 + 1) = 5 := w64 (by omega) (by omega)
  generalize hB0 : bt s p = B0 at *
  generalize hB1 : bt s (p + 1) = B1 at *
  generalize hB2 : bt s (p + 2) = B2 at *
  have hq := small_full s p n h0 hs hz hn1 hn3
  refine l0_step s p n h0 hs hz hn1 hn3 4 _ _ 1 (by omega) (by omega) la lb r ?_ ?_
  · rw [hB0, hB1, hB2]
    intro ht hf
    simp [firstB] at hf
    simp [tailsB, hn, tailB] at ht
    by_cases hy : (128 ≤ B1 ∧ B1 < 192) ∧ (128 ≤ B2 ∧ B2 < 192) ∧ 240 ≤ B0 ∧ B0 < 245 ∧ ¬ (B0 = 240 ∧ B1 < 144) ∧ ¬ (B0 = 244 ∧ 144 ≤ B1)
    · rw [yes hy]
      refine l3_some s p n 4 _ _ _ (by omega) (by omega) (by omega) hq 0 (by omega) (by omega) ?_
      have hr : samp ((((B0 - 240) * 64 + (B1 - 128)) * 64 + (B2 - 128)) * 64 + (128 - 128)) ((((B0 - 240) * 64 + (B1 - 128)) * 64 + (B2 - 128)) * 64 + (191 - 128)) 0 = (((B0 - 240) * 64 + (B1 - 128)) * 64 + (B2 - 128)) * 64 + (128 - 128) := by unfold samp; rw [if_neg (by omega)]; omega
      rw [hr]
      have hp := put4 ((((B0 - 240) * 64 + (B1 - 128)) * 64 + (B2 - 128)) * 64 + (128 - 128)) (by omega)
      refine ⟨by rw [hp]; rfl, hit_beg s p n h0 hs hz hn1 hn3 _ 4 (by rw [hp]; rfl) (by omega) (fun i hi => ?_)⟩
      have hi' : i = 0 ∨ i = 1 ∨ i = 2 := by omega
      rw [hp]
      rcases hi' with rfl | rfl | rfl
      · show 240 + ((((B0 - 240) * 64 + (B1 - 128)) * 64 + (B2 - 128)) * 64 + (128 - 128)) / 262144 = bt s (p + (0 : Nat))
        have e0 : p + ((0 : Nat) : Int) = p := by omega
        rw [e0, hB0]
        omega
      · show 128 + ((((B0 - 240) * 64 + (B1 - 128)) * 64 + (B2 - 128)) * 64 + (128 - 128)) / 4096 % 64 = bt s (p + (1 : Nat))
        have e1 : p + ((1 : Nat) : Int) = p + 1 := by omega
        rw [e1, hB1]
        omega
      · show 128 + ((((B0 - 240) * 64 + (B1 - 128)) * 64 + (B2 - 128)) * 64 + (128 - 128)) / 64 % 64 = bt s (p + (2 : Nat))
        have e2 : p + ((2 : Nat) : Int) = p + 2 := by omega
        rw [e2, hB2]
        omega
    · refine l3_none s p n 4 _ _ _ r (by omega) (by omega) (by omega) hq ?_ (by rw [w]; exact no hy)
      intro k hk hk2 hl
      have h1 := putL4 (samp ((((B0 - 240) * 64 + (B1 - 128)) * 64 + (B2 - 128)) * 64 + (128 - 128)) ((((B0 - 240) * 64 + (B1 - 128)) * 64 + (B2 - 128)) * 64 + (191 - 128)) k) (by omega)
      have h2 := samp_lo ((((B0 - 240) * 64 + (B1 - 128)) * 64 + (B2 - 128)) * 64 + (128 - 128)) ((((B0 - 240) * 64 + (B1 - 128)) * 64 + (B2 - 128)) * 64 + (191 - 128)) k (by omega) hk hk2
      omega
  · rw [hB0, hB1, hB2]
    intro hf
    rw [w]
    refine no ?_
    intro hy
    simp [firstB, tailsB, hn, tailB] at hf
    omega
end
end Go.Proofs.Ytblofllbbcpeiaa.Utf
