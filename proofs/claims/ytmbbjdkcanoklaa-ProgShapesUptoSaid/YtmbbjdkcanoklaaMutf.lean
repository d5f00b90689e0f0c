import Derived.Test.YtmbbjdkcanoklaaUtfA
import Derived.Test.YtmbbjdkcanoklaaX8
import Derived.Test.YtmbbjdkcanoklaaX9
import Derived.Test.YtmbbjdkcanoklaaEv
import Derived.Test.YtmbbjdkcanoklaaX10
import Derived.Test.YtmbbjdkcanoklaaStr
import Derived.Test.YtmbbjdkcanoklaaX11
/- What decoding a rune comes to, byte by byte: utf.Rune is just this. -/
namespace Go.Proofs.Ytmbbjdkcanoklaa.Utf
open Go.RowKit Go.Proofs.YtmbbjdkcanoklaaW.PrintWords
/-- the rune (or why there is none) of the bytes that stand there; n: how many there are -/
def R (b0 b1 b2 b3 n : Int) : Int × Int × Int :=
  if b0 < 128 then (b0, 1, 0)
  else if b0 < 194 then (0, 0, 2)
  else if b0 < 224 then
    if n = 1 then (0, 0, 7) else if 128 ≤ b1 ∧ b1 < 192 then ((b0 - 192) * 64 + (b1 - 128), 2, 0) else (0, 0, 2)
  else if b0 < 240 then
    if n = 1 then (0, 0, 7) else if ¬ (128 ≤ b1 ∧ b1 < 192) then (0, 0, 2)
    else if b0 = 224 ∧ b1 < 160 ∨ b0 = 237 ∧ 160 ≤ b1 then (0, 0, 2)
    else if n = 2 then (0, 0, 7) else if 128 ≤ b2 ∧ b2 < 192 then ((b0 - 224) * 4096 + (b1 - 128) * 64 + (b2 - 128), 3, 0) else (0, 0, 2)
  else if b0 < 245 then
    if n = 1 then (0, 0, 7) else if ¬ (128 ≤ b1 ∧ b1 < 192) then (0, 0, 2)
    else if b0 = 240 ∧ b1 < 144 ∨ b0 = 244 ∧ 144 ≤ b1 then (0, 0, 2)
    else if n = 2 then (0, 0, 7) else if ¬ (128 ≤ b2 ∧ b2 < 192) then (0, 0, 2)
    else if n = 3 then (0, 0, 7) else if 128 ≤ b3 ∧ b3 < 192 then ((b0 - 240) * 262144 + (b1 - 128) * 4096 + (b2 - 128) * 64 + (b3 - 128), 4, 0) else (0, 0, 2)
  else (0, 0, 2)
def runeAt (s : ByteArray) (p : Int) : Int × Int × Int :=
  if p < 0 ∨ (s.size : Int) ≤ p then (0, 0, 7) else R (bt s p) (bt s (p + 1)) (bt s (p + 2)) (bt s (p + 3)) (s.size - p)
theorem rEnd_at (s : ByteArray) (p : Int) (n : Nat) (v h : Int) (t : Nat) (L H : Int) (ht : ((n : Int) + 1 - h).toNat = t) (hL : v * 64 ^ t = L) (hH : L + (64 ^ t - 1) = H) :
    rEnd s p n v h = if H < lst n then (0, 0, 2) else if L > 1114111 then (0, 0, 2) else if L ≥ 55296 ∧ H ≤ 57343 then (0, 0, 2) else if h = n + 1 then (v, h, 0) else if p + h = s.size then (0, 0, 7) else (0, 0, 2) := by
  unfold rEnd
  rw [ht, hL, hH]
theorem rune_eq (s : ByteArray) (p : Int) : rune s p = runeAt s p := by
  unfold rune runeAt
  split
  · rfl
  rename_i hp
  have r0 := bt_range s p
  have r1 := bt_range s (p + 1)
  have r2 := bt_range s (p + 2)
  have r3 := bt_range s (p + 3)
  have e2 : p + (1 + 1) = p + 2 := by omega
  have e3 : p + (1 + 1 + 1) = p + 3 := by omega
  generalize hb0 : bt s p = b0 at *
  generalize hb1 : bt s (p + 1) = b1 at *
  generalize hb2 : bt s (p + 2) = b2 at *
  generalize hb3 : bt s (p + 3) = b3 at *
  have hc : (b0 < 128 ∧ cls b0 = 0) ∨ (128 ≤ b0 ∧ b0 < 192 ∧ cls b0 = 4) ∨ (192 ≤ b0 ∧ b0 < 224 ∧ cls b0 = 1) ∨ (224 ≤ b0 ∧ b0 < 240 ∧ cls b0 = 2) ∨ (240 ≤ b0 ∧ b0 < 248 ∧ cls b0 = 3) ∨ (248 ≤ b0 ∧ cls b0 = 4) := by
    unfold cls
    by_cases h1 : b0 < 128
    · simp [h1]
    by_cases h2 : b0 < 192
    · simp [h1, h2]; omega
    by_cases h3 : b0 < 224
    · simp [h1, h2, h3]; omega
    by_cases h4 : b0 < 240
    · simp [h1, h2, h3, h4]; omega
    by_cases h5 : b0 < 248
    · simp [h1, h2, h3, h4, h5]; omega
    · simp [h1, h2, h3, h4, h5]; omega
  rcases hc with ⟨h, hc⟩ | ⟨h, h', hc⟩ | ⟨h, h', hc⟩ | ⟨h, h', hc⟩ | ⟨h, h', hc⟩ | ⟨h, hc⟩
  · rw [hc, if_pos (by omega)]
    simp only [rTail, mrk]
    rw [rEnd_at s p 0 (b0 - 0) 1 0 (b0 - 0) (b0 - 0) (by decide) (by simp) (by simp)]
    simp only [lst, R]
    rw [if_neg (by omega), if_neg (by omega), if_neg (by omega), if_pos (by decide), if_pos h]
    simp
  · rw [hc, if_neg (by omega)]
    simp only [R]
    rw [if_neg (by omega), if_pos (by omega)]
  · rw [hc, if_pos (by omega)]
    simp only [rTail, mrk]
    by_cases ht : p + 1 < (s.size : Int) ∧ 128 ≤ b1 ∧ b1 < 192
    · rw [hb1, if_pos ht]
      simp only
      rw [rEnd_at s p 1 _ (1 + 1) 0 _ _ (by decide) (Int.mul_one _) (by simp; rfl)]
      simp only [lst, R]
      rw [if_neg (show ¬ b0 < 128 by omega)]
      by_cases hl : b0 < 194
      · rw [if_pos (by omega), if_pos hl]
      · rw [if_neg (by omega), if_neg (by omega), if_neg (by omega), if_pos (by decide), if_neg hl, if_pos h', if_neg (by omega), if_pos ht.2]
        simp only [Prod.mk.injEq, and_true]
        omega
    · rw [hb1, if_neg ht]
      simp only
      rw [rEnd_at s p 1 _ 1 1 _ _ (by decide) rfl rfl]
      simp only [lst, R]
      rw [if_neg (show ¬ b0 < 128 by omega)]
      by_cases hl : b0 < 194
      · rw [if_pos (by omega), if_pos hl]
      · rw [if_neg (by omega), if_neg (by omega), if_neg (by omega), if_neg (by decide), if_neg hl, if_pos h']
        by_cases hn : p + 1 = s.size
        · rw [if_pos hn, if_pos (by omega)]
        · rw [if_neg hn, if_neg (by omega), if_neg (by omega)]
  · rw [hc, if_pos (by omega)]
    simp only [rTail, mrk]
    simp only [R]
    rw [if_neg (show ¬ b0 < 128 by omega), if_neg (show ¬ b0 < 194 by omega), if_neg (show ¬ b0 < 224 by omega), if_pos h']
    by_cases t1 : p + 1 < (s.size : Int) ∧ 128 ≤ b1 ∧ b1 < 192
    · rw [hb1, if_pos t1, e2, hb2]
      by_cases t2 : p + 2 < (s.size : Int) ∧ 128 ≤ b2 ∧ b2 < 192
      · rw [if_pos t2, if_neg (by omega), if_neg (by omega)]
        simp only
        rw [rEnd_at s p 2 _ (1 + 1 + 1) 0 _ _ (by decide) (Int.mul_one _) (by simp; rfl)]
        simp only [lst]
        by_cases bad : b0 = 224 ∧ b1 < 160 ∨ b0 = 237 ∧ 160 ≤ b1
        · rw [if_pos bad]
          by_cases z : b0 = 224
          · rw [if_pos (by omega)]
          · rw [if_neg (by omega), if_neg (by omega), if_pos (by omega)]
        · rw [if_neg bad, if_neg (show ¬ (s.size : Int) - p = 2 by omega), if_pos t2.2, if_neg (by omega), if_neg (by omega), if_neg (by omega), if_pos (by decide)]
          simp only [Prod.mk.injEq, and_true]
          omega
      · rw [if_neg t2, if_neg (by omega), if_neg (by omega)]
        simp only
        rw [rEnd_at s p 2 _ (1 + 1) 1 _ _ (by decide) rfl rfl]
        simp only [lst]
        by_cases bad : b0 = 224 ∧ b1 < 160 ∨ b0 = 237 ∧ 160 ≤ b1
        · rw [if_pos bad]
          by_cases z : b0 = 224
          · rw [if_pos (by omega)]
          · rw [if_neg (by omega), if_neg (by omega), if_pos (by omega)]
        · rw [if_neg bad, if_neg (by omega), if_neg (by omega), if_neg (by omega), if_neg (by decide)]
          by_cases hn : p + 2 = s.size
          · rw [if_pos (by omega), if_pos (by omega)]
          · rw [if_neg (by omega), if_neg (by omega), if_neg (by omega)]
    · rw [hb1, if_neg t1]
      simp only
      rw [rEnd_at s p 2 _ 1 2 _ _ (by decide) rfl rfl]
      simp only [lst]
      rw [if_neg (by omega), if_neg (by omega), if_neg (by omega), if_neg (by decide)]
      by_cases hn : p + 1 = s.size
      · rw [if_pos hn, if_pos (by omega)]
      · rw [if_neg hn, if_neg (by omega), if_pos (by omega)]
  · rw [hc, if_pos (by omega)]
    simp only [rTail, mrk]
    simp only [R]
    rw [if_neg (show ¬ b0 < 128 by omega), if_neg (show ¬ b0 < 194 by omega), if_neg (show ¬ b0 < 224 by omega), if_neg (show ¬ b0 < 240 by omega)]
    by_cases big : b0 < 245
    · rw [if_pos big]
      by_cases t1 : p + 1 < (s.size : Int) ∧ 128 ≤ b1 ∧ b1 < 192
      · rw [hb1, if_pos t1, e2, hb2]
        by_cases t2 : p + 2 < (s.size : Int) ∧ 128 ≤ b2 ∧ b2 < 192
        · rw [if_pos t2, e3, hb3]
          by_cases t3 : p + 3 < (s.size : Int) ∧ 128 ≤ b3 ∧ b3 < 192
          · rw [if_pos t3, if_neg (by omega), if_neg (by omega)]
            simp only
            rw [rEnd_at s p 3 _ (1 + 1 + 1 + 1) 0 _ _ (by decide) (Int.mul_one _) (by simp; rfl)]
            simp only [lst]
            by_cases bad : b0 = 240 ∧ b1 < 144 ∨ b0 = 244 ∧ 144 ≤ b1
            · rw [if_pos bad]
              by_cases z : b0 = 240
              · rw [if_pos (by omega)]
              · rw [if_neg (by omega), if_pos (by omega)]
            · rw [if_neg bad, if_neg (show ¬ (s.size : Int) - p = 2 by omega), if_neg (show ¬ ¬ (128 ≤ b2 ∧ b2 < 192) by omega), if_neg (show ¬ (s.size : Int) - p = 3 by omega), if_pos t3.2, if_neg (by omega), if_neg (by omega), if_neg (by omega), if_pos (by decide)]
              simp only [Prod.mk.injEq, and_true]
              omega
          · rw [if_neg t3, if_neg (by omega), if_neg (by omega)]
            simp only
            rw [rEnd_at s p 3 _ (1 + 1 + 1) 1 _ _ (by decide) rfl rfl]
            simp only [lst]
            by_cases bad : b0 = 240 ∧ b1 < 144 ∨ b0 = 244 ∧ 144 ≤ b1
            · rw [if_pos bad]
              by_cases z : b0 = 240
              · rw [if_pos (by omega)]
              · rw [if_neg (by omega), if_pos (by omega)]
            · rw [if_neg bad, if_neg (show ¬ (s.size : Int) - p = 2 by omega), if_neg (show ¬ ¬ (128 ≤ b2 ∧ b2 < 192) by omega), if_neg (by omega), if_neg (by omega), if_neg (by omega), if_neg (by decide)]
              by_cases hn : p + 3 = s.size
              · rw [if_pos (by omega), if_pos (by omega)]
              · rw [if_neg (by omega), if_neg (by omega), if_neg (by omega)]
        · rw [if_neg t2, if_neg (by omega), if_neg (by omega)]
          simp only
          rw [rEnd_at s p 3 _ (1 + 1) 2 _ _ (by decide) rfl rfl]
          simp only [lst]
          by_cases bad : b0 = 240 ∧ b1 < 144 ∨ b0 = 244 ∧ 144 ≤ b1
          · rw [if_pos bad]
            by_cases z : b0 = 240
            · rw [if_pos (by omega)]
            · rw [if_neg (by omega), if_pos (by omega)]
          · rw [if_neg bad, if_neg (by omega), if_neg (by omega), if_neg (by omega), if_neg (by decide)]
            by_cases hn : p + 2 = s.size
            · rw [if_pos (by omega), if_pos (by omega)]
            · rw [if_neg (by omega), if_neg (by omega), if_pos (by omega)]
      · rw [hb1, if_neg t1]
        simp only
        rw [rEnd_at s p 3 _ 1 3 _ _ (by decide) rfl rfl]
        simp only [lst]
        rw [if_neg (by omega), if_neg (by omega), if_neg (by omega), if_neg (by decide)]
        by_cases hn : p + 1 = s.size
        · rw [if_pos hn, if_pos (by omega)]
        · rw [if_neg hn, if_neg (by omega), if_pos (by omega)]
    · rw [if_neg big]
      by_cases t1 : p + 1 < (s.size : Int) ∧ 128 ≤ b1 ∧ b1 < 192
      · rw [hb1, if_pos t1, e2, hb2]
        by_cases t2 : p + 2 < (s.size : Int) ∧ 128 ≤ b2 ∧ b2 < 192
        · rw [if_pos t2, e3, hb3]
          by_cases t3 : p + 3 < (s.size : Int) ∧ 128 ≤ b3 ∧ b3 < 192
          · rw [if_pos t3]
            simp only
            rw [rEnd_at s p 3 _ (1 + 1 + 1 + 1) 0 _ _ (by decide) (Int.mul_one _) (by simp; rfl)]
            simp only [lst]
            rw [if_neg (by omega), if_pos (by omega)]
          · rw [if_neg t3]
            simp only
            rw [rEnd_at s p 3 _ (1 + 1 + 1) 1 _ _ (by decide) rfl rfl]
            simp only [lst]
            rw [if_neg (by omega), if_pos (by omega)]
        · rw [if_neg t2]
          simp only
          rw [rEnd_at s p 3 _ (1 + 1) 2 _ _ (by decide) rfl rfl]
          simp only [lst]
          rw [if_neg (by omega), if_pos (by omega)]
      · rw [hb1, if_neg t1]
        simp only
        rw [rEnd_at s p 3 _ 1 3 _ _ (by decide) rfl rfl]
        simp only [lst]
        rw [if_neg (by omega), if_pos (by omega)]
  · rw [hc, if_neg (by omega)]
    simp only [R]
    rw [if_neg (by omega), if_neg (by omega), if_neg (by omega), if_neg (by omega), if_neg (by omega)]
end Go.Proofs.Ytmbbjdkcanoklaa.Utf

/- What the reference's functions on runes come to (orielref01: Put, begins, value). -/
namespace Go.Proofs.Ytmbbjdkcanoklaa.Utf
open Go.RowKit Go.Proofs.YtmbbjdkcanoklaaW.PrintWords Go.Proofs.YtmbbjdkcanoklaaW.PrintLast Go.Proofs.Ytmbbjdkcanoklaa.X Go.Proofs.Ytmbbjdkcanoklaa.E
def putL (r : Int) : List Int :=
  if r < 0 ∨ r > 1114111 ∨ (55296 ≤ r ∧ r ≤ 57343) then [] else if r < 128 then [r] else if r < 2048 then [192 + r / 64, 128 + r % 64]
  else if r < 65536 then [224 + r / 4096, 128 + r / 64 % 64, 128 + r % 64] else [240 + r / 262144, 128 + r / 4096 % 64, 128 + r / 64 % 64, 128 + r % 64]
theorem refPut_ev (r : Int) : Evn (fun k => orielref01_Put.f k r) (putL r) := by
  refine ⟨1, fun k hk => ?_⟩
  obtain ⟨m, rfl⟩ : ∃ m, k = m + 1 := ⟨k - 1, by omega⟩
  show orielref01_Put.f (m + 1) r = _
  unfold orielref01_Put.f putL
  by_cases h0 : r < 0
  · rw [if_pos h0, if_pos (Or.inl h0)]; simp [orielref01_Put.j0]
  rw [if_neg h0]
  by_cases h1 : r > 1114111
  · rw [if_pos h1, if_pos (Or.inr (Or.inl h1))]; simp [orielref01_Put.j0]
  rw [if_neg h1]
  have e1 : Int.tdiv r 64 = r / 64 := Int.tdiv_eq_ediv_of_nonneg (by omega)
  have e2 : Int.tdiv r 4096 = r / 4096 := Int.tdiv_eq_ediv_of_nonneg (by omega)
  have e3 : Int.tdiv r 262144 = r / 262144 := Int.tdiv_eq_ediv_of_nonneg (by omega)
  have e4 : Int.tmod r 64 = r % 64 := Int.tmod_eq_emod_of_nonneg (by omega)
  have w1 : wrap64 (r / 64) = r / 64 := w64 (by omega) (by omega)
  have w2 : wrap64 (r / 4096) = r / 4096 := w64 (by omega) (by omega)
  have w3 : wrap64 (r / 262144) = r / 262144 := w64 (by omega) (by omega)
  have e5 : Int.tmod (r / 64) 64 = r / 64 % 64 := Int.tmod_eq_emod_of_nonneg (by omega)
  have e6 : Int.tmod (r / 4096) 64 = r / 4096 % 64 := Int.tmod_eq_emod_of_nonneg (by omega)
  by_cases h2 : r ≥ 55296
  · rw [if_pos h2]
    by_cases h3 : r ≤ 57343
    · rw [if_pos (Or.inr (Or.inr ⟨h2, h3⟩)), decide_eq_true h3]; simp [orielref01_Put.j0]
    · rw [if_neg (by omega), decide_eq_false h3]
      simp only [orielref01_Put.j0, if_neg (show ¬ (false = true) by decide), e1, e2, e3, e4, w1, w2, w3, e5, e6]
      rw [if_neg (by omega), if_neg (by omega), if_neg (show ¬ r < 128 by omega), if_neg (show ¬ r < 2048 by omega)]
      split
      · congr 2
        · rw [w64 (by omega) (by omega)]; omega
        congr 1
        · rw [w64 (by omega) (by omega)]; omega
        congr 1
        · rw [w64 (by omega) (by omega)]; omega
      · congr 2
        · rw [w64 (by omega) (by omega)]; omega
        congr 1
        · rw [w64 (by omega) (by omega)]; omega
        congr 1
        · rw [w64 (by omega) (by omega)]; omega
        congr 1
        · rw [w64 (by omega) (by omega)]; omega
  · rw [if_neg h2, if_neg (by omega)]
    simp only [orielref01_Put.j0, if_neg (show ¬ (false = true) by decide), e1, e2, e3, e4, w1, w2, w3, e5, e6]
    by_cases h3 : r < 128
    · rw [if_pos h3, if_pos h3]
      congr 2; omega
    rw [if_neg h3, if_neg h3]
    by_cases h4 : r < 2048
    · rw [if_pos h4, if_pos h4]
      congr 2
      · rw [w64 (by omega) (by omega)]; omega
      congr 1
      · rw [w64 (by omega) (by omega)]; omega
    rw [if_neg h4, if_neg h4, if_pos (by omega), if_pos (by omega)]
    congr 2
    · rw [w64 (by omega) (by omega)]; omega
    congr 1
    · rw [w64 (by omega) (by omega)]; omega
    congr 1
    · rw [w64 (by omega) (by omega)]; omega
/-- do these bytes stand there? -/
def beg (s : ByteArray) (p : Int) (l : List Int) : Bool := decide (l ≠ []) && decide (p + l.length ≤ s.size) && (List.range l.length).all fun i => bt s (p + i) == l.getD i 0
theorem begins_ev (s : ByteArray) (p : Int) (l : List Int) (h0 : 0 ≤ p) (hp : p ≤ 1000000000) (hs : s.size ≤ 1000000000) (hl : l.length ≤ 1000000) : Evn (fun k => orielref01_begins.f k s p l) (beg s p l) := by
  have loop : ∀ (d i : Nat), i + d = l.length → p + l.length ≤ s.size → ∀ k, d < k → orielref01_begins.l0 k s p l i = some ((List.range' i d).all fun i => bt s (p + i) == l.getD i 0) := by
    intro d
    induction d with
    | zero =>
      intro i hi hf k hk
      obtain ⟨k, rfl⟩ : ∃ m, k = m + 1 := ⟨k - 1, by omega⟩
      simp only [orielref01_begins.l0]
      rw [if_neg (by omega)]
      simp
    | succ d ih =>
      intro i hi hf k hk
      obtain ⟨k, rfl⟩ : ∃ m, k = m + 1 := ⟨k - 1, by omega⟩
      simp only [orielref01_begins.l0]
      have e : wrap64 (p + (i : Int)) = p + i := w64 (by omega) (by omega)
      have e' : wrap64 ((i : Int) + 1) = ((i + 1 : Nat) : Int) := by rw [w64 (by omega) (by omega)]; omega
      rw [if_pos (by omega), e, if_pos (by omega), if_pos (by omega), if_pos (by omega), e']
      have er : rd l (i : Int) = l.getD i 0 := by simp [rd]
      rw [er]
      split
      · rename_i h
        rw [ih (i + 1) (by omega) hf k (by omega), List.range'_succ]
        simp [h]
      · rename_i h
        rw [List.range'_succ]
        simp only [List.all_cons, beq_eq_false_iff_ne.mpr h, Bool.false_and]
  refine ⟨l.length + 5, fun k hk => ?_⟩
  show orielref01_begins.f k s p l = _
  unfold orielref01_begins.f beg
  obtain ⟨k, rfl⟩ : ∃ m, k = m + 1 := ⟨k - 1, by omega⟩
  by_cases hn : l = []
  · subst hn
    simp [orielref01_begins.j0]
  · have hn' : l.length ≠ 0 := by simpa using hn
    rw [if_neg (by omega), w64 (by omega) (by omega)]
    by_cases hf : p + l.length ≤ s.size
    · rw [decide_eq_false (by omega)]
      simp only [orielref01_begins.j0, if_neg (show ¬ (false = true) by decide)]
      have := loop l.length 0 (by omega) hf k (by omega)
      simp only [Int.natCast_zero] at this
      rw [this, decide_eq_true hn, decide_eq_true hf]
      simp [List.range_eq_range']
    · rw [decide_eq_true (by omega), decide_eq_false hf]
      simp [orielref01_begins.j0]
def bs (n : Int) : Int := if n = 2 then 192 else if n = 3 then 224 else 240
theorem val_round (k : Nat) (s : ByteArray) (p n v i : Int) (h0 : 0 ≤ p) (hp : p ≤ 1000000000) (hn : n = 2 ∨ n = 3 ∨ n = 4) (hi0 : 0 ≤ i) (hi : i < n) (hs : p + i < s.size) (hv : -100000000 ≤ v) (hv2 : v ≤ 100000000) :
    orielref01_value.l0 (k + 6) s p n v i = orielref01_value.l0 k s p n (v * 64 + (bt s (p + i) - (if i = 0 then bs n else 128))) (i + 1) := by
  have hb := bt_range s (p + i)
  have e : wrap64 (p + i) = p + i := w64 (by omega) (by omega)
  have e1 : wrap64 (bt s (p + i)) = bt s (p + i) := w64 (by omega) (by omega)
  have e2 : wrap64 (i + 1) = i + 1 := w64 (by omega) (by omega)
  have e3 : wrap64 (v * 64) = v * 64 := w64 (by omega) (by omega)
  have f : ∀ c : Int, 0 ≤ c → c ≤ 1000 → wrap64 (bt s (p + i) - c) = bt s (p + i) - c := fun c _ _ => w64 (by omega) (by omega)
  have g : ∀ c : Int, 0 ≤ c → c ≤ 1000 → wrap64 (v * 64 + (bt s (p + i) - c)) = v * 64 + (bt s (p + i) - c) := fun c _ _ => w64 (by omega) (by omega)
  rw [show k + 6 = (k + 5) + 1 from rfl]
  simp only [orielref01_value.l0, e, e1]
  rw [if_pos hi, if_pos (by omega), if_pos hs]
  by_cases hz : i = 0
  · rw [if_pos hz, if_pos hz]
    rw [show k + 5 = (k + 4) + 1 from rfl]
    simp only [orielref01_value.j1]
    rcases hn with rfl | rfl | rfl
    · rw [if_pos (by decide), f 192 (by omega) (by omega)]
      simp only [orielref01_value.j2]
      rw [if_pos hz]
      simp only [orielref01_value.j3]
      rw [if_neg (by decide)]
      simp only [orielref01_value.j4]
      rw [if_pos hz]
      simp only [orielref01_value.j5]
      rw [if_neg (by decide), if_neg (by omega), e3, e2, g 192 (by omega) (by omega)]
      rfl
    · rw [if_neg (by decide)]
      simp only [orielref01_value.j2]
      rw [if_pos hz]
      simp only [orielref01_value.j3]
      rw [if_pos (by decide), f 224 (by omega) (by omega)]
      simp only [orielref01_value.j4]
      rw [if_pos hz]
      simp only [orielref01_value.j5]
      rw [if_neg (by decide), if_neg (by omega), e3, e2, g 224 (by omega) (by omega)]
      rfl
    · rw [if_neg (by decide)]
      simp only [orielref01_value.j2]
      rw [if_pos hz]
      simp only [orielref01_value.j3]
      rw [if_neg (by decide)]
      simp only [orielref01_value.j4]
      rw [if_pos hz]
      simp only [orielref01_value.j5]
      rw [if_pos (by decide), if_neg (by omega), f 240 (by omega) (by omega), e3, e2, g 240 (by omega) (by omega)]
      rfl
  · rw [if_neg hz, if_neg hz]
    rw [show k + 5 = (k + 4) + 1 from rfl]
    simp only [orielref01_value.j1]
    rw [if_neg (by decide)]
    simp only [orielref01_value.j2]
    rw [if_neg hz]
    simp only [orielref01_value.j3]
    rw [if_neg (by decide)]
    simp only [orielref01_value.j4]
    rw [if_neg hz]
    simp only [orielref01_value.j5]
    rw [if_neg (by decide), if_pos (by omega), f 128 (by omega) (by omega), e3, e2, g 128 (by omega) (by omega)]
theorem val_end (k : Nat) (s : ByteArray) (p n v i : Int) (h : n ≤ i) : orielref01_value.l0 (k + 1) s p n v i = some v := by
  simp only [orielref01_value.l0]
  rw [if_neg (by omega)]
theorem value2 (s : ByteArray) (p : Int) (h0 : 0 ≤ p) (hp : p ≤ 1000000000) (hs : p + 2 ≤ s.size) : Evn (fun k => orielref01_value.f k s p 2) ((bt s p - 192) * 64 + (bt s (p + 1) - 128)) := by
  have b0 := bt_range s p
  refine ⟨13, fun k hk => ?_⟩
  obtain ⟨k, rfl⟩ : ∃ m, k = m + 1 + 6 + 6 := ⟨k - 13, by omega⟩
  show orielref01_value.f _ _ _ _ = _
  unfold orielref01_value.f
  rw [val_round _ s p 2 0 0 h0 hp (by omega) (by omega) (by omega) (by omega) (by omega) (by omega)]
  simp only [Int.add_zero, if_true, Int.zero_mul, Int.zero_add, bs]
  rw [val_round _ s p 2 _ 1 h0 hp (by omega) (by omega) (by omega) (by omega) (by omega) (by omega), val_end _ _ _ _ _ _ (by omega)]
  simp
theorem value3 (s : ByteArray) (p : Int) (h0 : 0 ≤ p) (hp : p ≤ 1000000000) (hs : p + 3 ≤ s.size) : Evn (fun k => orielref01_value.f k s p 3) (((bt s p - 224) * 64 + (bt s (p + 1) - 128)) * 64 + (bt s (p + 2) - 128)) := by
  have b0 := bt_range s p
  have b1 := bt_range s (p + 1)
  refine ⟨19, fun k hk => ?_⟩
  obtain ⟨k, rfl⟩ : ∃ m, k = m + 1 + 6 + 6 + 6 := ⟨k - 19, by omega⟩
  show orielref01_value.f _ _ _ _ = _
  unfold orielref01_value.f
  rw [val_round _ s p 3 0 0 h0 hp (by omega) (by omega) (by omega) (by omega) (by omega) (by omega)]
  simp only [Int.add_zero, if_true, Int.zero_mul, Int.zero_add, bs]
  rw [val_round _ s p 3 _ 1 h0 hp (by omega) (by omega) (by omega) (by omega) (by simp; omega) (by simp; omega)]
  rw [val_round _ s p 3 _ (1 + 1) h0 hp (by omega) (by omega) (by omega) (by omega) (by simp; omega) (by simp; omega), val_end _ _ _ _ _ _ (by omega)]
  simp
theorem value4 (s : ByteArray) (p : Int) (h0 : 0 ≤ p) (hp : p ≤ 1000000000) (hs : p + 4 ≤ s.size) : Evn (fun k => orielref01_value.f k s p 4) ((((bt s p - 240) * 64 + (bt s (p + 1) - 128)) * 64 + (bt s (p + 2) - 128)) * 64 + (bt s (p + 3) - 128)) := by
  have b0 := bt_range s p
  have b1 := bt_range s (p + 1)
  have b2 := bt_range s (p + 2)
  refine ⟨25, fun k hk => ?_⟩
  obtain ⟨k, rfl⟩ : ∃ m, k = m + 1 + 6 + 6 + 6 + 6 := ⟨k - 25, by omega⟩
  show orielref01_value.f _ _ _ _ = _
  unfold orielref01_value.f
  rw [val_round _ s p 4 0 0 h0 hp (by omega) (by omega) (by omega) (by omega) (by omega) (by omega)]
  simp only [Int.add_zero, if_true, Int.zero_mul, Int.zero_add, bs]
  rw [val_round _ s p 4 _ 1 h0 hp (by omega) (by omega) (by omega) (by omega) (by simp; omega) (by simp; omega)]
  rw [val_round _ s p 4 _ (1 + 1) h0 hp (by omega) (by omega) (by omega) (by omega) (by simp; omega) (by simp; omega)]
  rw [val_round _ s p 4 _ (1 + 1 + 1) h0 hp (by omega) (by omega) (by omega) (by omega) (by simp; omega) (by simp; omega), val_end _ _ _ _ _ _ (by omega)]
  simp
end Go.Proofs.Ytmbbjdkcanoklaa.Utf

/- What the reference's cut comes to: whether bytes begin a rune. -/
namespace Go.Proofs.Ytmbbjdkcanoklaa.Utf
open Go.RowKit Go.Proofs.YtmbbjdkcanoklaaW.PrintWords Go.Proofs.YtmbbjdkcanoklaaW.PrintLast Go.Proofs.YtmbbjdkcanoklaaW.XConv Go.Proofs.Ytmbbjdkcanoklaa.X Go.Proofs.Ytmbbjdkcanoklaa.E
def pad (x : ByteArray) (c : UInt8) : Nat → ByteArray
  | 0 => x
  | t + 1 => pad (x ++ ⟨#[c]⟩) c t
theorem pad_size (c : UInt8) : ∀ (t : Nat) (x : ByteArray), (pad x c t).size = x.size + t := by
  intro t
  induction t with
  | zero => intro x; rfl
  | succ t ih =>
    intro x
    rw [pad, ih, ByteArray.size_append]
    show x.size + 1 + t = _
    omega
theorem pad_bt (c : UInt8) : ∀ (t : Nat) (x : ByteArray) (i : Int), 0 ≤ i → i < x.size + t → bt (pad x c t) i = if i < x.size then bt x i else (c.toNat : Int) := by
  intro t
  induction t with
  | zero => intro x i h0 h1; rw [pad, if_pos (by omega)]
  | succ t ih =>
    intro x i h0 h1
    have hs : (x ++ (⟨#[c]⟩ : ByteArray)).size = x.size + 1 := by rw [ByteArray.size_append]; rfl
    rw [pad, ih _ i h0 (by rw [hs]; omega), hs]
    by_cases h : i < x.size
    · rw [if_pos (by omega), if_pos h, bt_append x _ i h0, if_pos h]
    · rw [if_neg h]
      by_cases h2 : i < ((x.size + 1 : Nat) : Int)
      · rw [if_pos h2, bt_append x _ i h0, if_neg h]
        have : i - x.size = 0 := by omega
        rw [this]
        rfl
      · rw [if_neg h2]
def tailB (b : Int) : Bool := decide (128 ≤ b) && decide (b ≤ 191)
def firstB (total b0 : Int) : Bool := (total == 2 && (decide (192 ≤ b0) && decide (b0 < 224))) || (total == 3 && (decide (224 ≤ b0) && decide (b0 < 240))) || (total == 4 && (decide (240 ≤ b0) && decide (b0 < 248)))
section
variable (s : ByteArray) (p n total : Int) (x7 : ByteArray)
theorem l1_ev (r : Bool) : ∀ (t : Nat) (x8 x9 : ByteArray), (x8.size : Int) + t = total → (x9.size : Int) + t = total → total ≤ 1000 →
    Evn (fun k => (orielref01_value.f k (pad x8 128 t) 0 total).bind fun a => (orielref01_value.f k (pad x9 191 t) 0 total).bind fun b => orielref01_cut.l2 k s p n total x7 a b true 1) r →
    Evn (fun k => orielref01_cut.l1 k s p n total x7 x8 x9) r := by
  intro t
  induction t with
  | zero =>
    intro x8 x9 h8 h9 ht h
    refine Evn.succ (fun k => ?_) h
    simp only [orielref01_cut.l1]
    rw [if_neg (by omega)]
    rfl
  | succ t ih =>
    intro x8 x9 h8 h9 ht h
    have hs8 : (x8 ++ (⟨#[128]⟩ : ByteArray)).size = x8.size + 1 := by rw [ByteArray.size_append]; rfl
    have hs9 : (x9 ++ (⟨#[191]⟩ : ByteArray)).size = x9.size + 1 := by rw [ByteArray.size_append]; rfl
    refine Evn.succ (fun k => ?_) (ih (x8 ++ (⟨#[128]⟩ : ByteArray)) (x9 ++ (⟨#[191]⟩ : ByteArray)) (by rw [hs8]; omega) (by rw [hs9]; omega) ht h)
    simp only [orielref01_cut.l1]
    rw [if_pos (by omega), if_pos (by omega), if_pos (by omega)]
theorem l2_round (k : Nat) (a b : Int) (f : Bool) (i : Int) (h0 : 0 ≤ p) (hs : p + n = s.size) (hz : s.size ≤ 1000000000) (h1 : 1 ≤ i) (hi : i < n) :
    orielref01_cut.l2 (k + 1) s p n total x7 a b f i = orielref01_cut.l2 k s p n total x7 a b (f && tailB (bt s (p + i))) (i + 1) := by
  have e : wrap64 (p + i) = p + i := w64 (by omega) (by omega)
  have e2 : wrap64 (i + 1) = i + 1 := w64 (by omega) (by omega)
  simp only [orielref01_cut.l2, e, e2]
  rw [if_pos hi]
  cases f with
  | false => simp
  | true =>
    rw [if_pos rfl, if_pos (by omega), if_pos (by omega)]
    unfold tailB
    by_cases h : 128 ≤ bt s (p + i)
    · rw [if_pos h, decide_eq_true h]; simp
    · rw [if_neg h, decide_eq_false h]; simp
theorem l2_end (k : Nat) (a b : Int) (f : Bool) (i : Int) (h0 : 0 ≤ p) (hs : p < s.size) (hi : ¬ i < n) :
    orielref01_cut.l2 (k + 1) s p n total x7 a b f i = orielref01_cut.j4 k s p n total x7 a b f (firstB total (bt s p)) := by
  simp only [orielref01_cut.l2]
  rw [if_neg hi]
  unfold firstB
  by_cases t2 : total = 2
  · subst t2
    simp only [if_pos h0, if_pos hs, if_true, if_neg (show ¬ (2 : Int) = 3 by decide), if_neg (show ¬ (2 : Int) = 4 by decide)]
    repeat' split
    all_goals (congr 1; simp; try omega)
  · by_cases t3 : total = 3
    · subst t3
      simp only [if_pos h0, if_pos hs, if_true, if_neg (show ¬ (3 : Int) = 2 by decide), if_neg (show ¬ (3 : Int) = 4 by decide)]
      repeat' split
      all_goals (congr 1; simp; try omega)
    · by_cases t4 : total = 4
      · subst t4
        simp only [if_pos h0, if_pos hs, if_true, if_neg (show ¬ (4 : Int) = 2 by decide), if_neg (show ¬ (4 : Int) = 3 by decide)]
        repeat' split
        all_goals (congr 1; simp; try omega)
      · simp only [if_neg t2, if_neg t3, if_neg t4]
        congr 1
        simp [t2, t3, t4]
theorem j4_ev (a b : Int) (f g : Bool) (r : Bool) (h1 : f = true → g = true → Evn (fun k => orielref01_cut.l3 k s p n total x7 a b 0) r) (h2 : (f && g) = false → Evn (fun k => orielref01_cut.l0 k s p n (wrap64 (total + 1))) r) :
    Evn (fun k => orielref01_cut.j4 k s p n total x7 a b f g) r := by
  cases f with
  | true =>
    cases g with
    | true =>
      refine Evn.succ (h := fun k => orielref01_cut.j5 k s p n total x7 a b false) (fun k => by simp only [orielref01_cut.j4]; rfl) ?_
      exact Evn.succ (fun k => by simp only [orielref01_cut.j5]; rfl) (h1 rfl rfl)
    | false =>
      refine Evn.succ (h := fun k => orielref01_cut.j5 k s p n total x7 a b true) (fun k => by simp only [orielref01_cut.j4]; rfl) ?_
      exact Evn.succ (fun k => by simp only [orielref01_cut.j5]; rfl) (h2 rfl)
  | false =>
    refine Evn.succ (h := fun k => orielref01_cut.j5 k s p n total x7 a b true) (fun k => by simp only [orielref01_cut.j4]; rfl) ?_
    exact Evn.succ (fun k => by simp only [orielref01_cut.j5]; rfl) (h2 (by simp))
/-- the k-th sample -/
def samp (a b k : Int) : Int := if k = 63 then b else a + (b - a) / 63 * k
theorem putL_len (r : Int) : (putL r).length ≤ 4 := by
  unfold putL
  repeat' split
  all_goals simp
theorem putL_range (r : Int) : ∀ x ∈ putL r, 0 ≤ x ∧ x ≤ 255 := by
  unfold putL
  intro x hx
  repeat' split at hx
  all_goals (simp at hx; try omega)
theorem l3_step (a b : Int) (k0 : Int) (r : Bool) (ha : 0 ≤ a) (hb : a ≤ b) (hb2 : b ≤ 3000000) (hk : 0 ≤ k0) (hk2 : k0 < 64) (hz : x7.size ≤ 1000)
    (h : (((putL (samp a b k0)).length : Int) = total ∧ beg (strOfNums (putL (samp a b k0)) ++ ⟨#[120]⟩) 0 (bytesOf x7) = true ∧ r = true) ∨
      (¬ (((putL (samp a b k0)).length : Int) = total ∧ beg (strOfNums (putL (samp a b k0)) ++ ⟨#[120]⟩) 0 (bytesOf x7) = true) ∧ Evn (fun k => orielref01_cut.l3 k s p n total x7 a b (k0 + 1)) r)) :
    Evn (fun k => orielref01_cut.l3 k s p n total x7 a b k0) r := by
  have e1 : wrap64 (b - a) = b - a := w64 (by omega) (by omega)
  have e2 : Int.tdiv (b - a) 63 = (b - a) / 63 := Int.tdiv_eq_ediv_of_nonneg (by omega)
  have e3 : wrap64 ((b - a) / 63) = (b - a) / 63 := w64 (by omega) (by omega)
  have hq0 : 0 ≤ (b - a) / 63 * k0 := Int.mul_nonneg (by omega) hk
  have hq1 : (b - a) / 63 * k0 ≤ 50000 * 63 := Int.mul_le_mul (by omega) (by omega) hk (by omega)
  have e4 : wrap64 ((b - a) / 63 * k0) = (b - a) / 63 * k0 := w64 (by omega) (by omega)
  have e5 : wrap64 (a + (b - a) / 63 * k0) = a + (b - a) / 63 * k0 := w64 (by omega) (by omega)
  have e6 : wrap64 (k0 + 1) = k0 + 1 := w64 (by omega) (by omega)
  have hj : Evn (fun k => orielref01_cut.j7 k s p n total x7 a b k0 (samp a b k0)) r := by
    refine Evn.succ (h := fun k => (orielref01_Put.f k (samp a b k0)).bind fun t173 => (if (t173.length : Int) = total then (if (strOfNums t173).size + 1 ≤ 9223372036854775807 then ((convBytes.f x7).bind fun t176 => ((orielref01_begins.f k ((strOfNums t173) ++ (⟨#[120]⟩ : ByteArray)) 0 t176).bind fun t179 => (if t179 = true then (some true) else (orielref01_cut.l3 k s p n total x7 a b (k0 + 1))))) else (none)) else (orielref01_cut.l3 k s p n total x7 a b (k0 + 1)))) (fun k => by simp only [orielref01_cut.j7, e6]) ?_
    refine Evn.bind (refPut_ev _) ?_
    have hl := putL_len (samp a b k0)
    by_cases hlen : ((putL (samp a b k0)).length : Int) = total
    · refine Evn.iteT hlen (Evn.iteT (by rw [strOfNums_size]; omega) ?_)
      have hc : convBytes.f x7 = some (bytesOf x7) := by unfold convBytes.f; rw [if_pos (by omega)]
      rw [hc]
      simp only [Option.bind_some]
      refine Evn.bind (begins_ev _ 0 _ (by omega) (by omega) (by rw [ByteArray.size_append, strOfNums_size]; show _ + 1 ≤ _; omega) (by rw [bytesOf_length]; omega)) ?_
      rcases h with ⟨h1, h2, h3⟩ | ⟨h1, h2⟩
      · rw [h2, h3]; exact Evn.iteT rfl (Evn.ret _)
      · have : beg (strOfNums (putL (samp a b k0)) ++ ⟨#[120]⟩) 0 (bytesOf x7) = false := by
          cases hbb : beg (strOfNums (putL (samp a b k0)) ++ ⟨#[120]⟩) 0 (bytesOf x7) with
          | true => exact absurd ⟨hlen, hbb⟩ h1
          | false => rfl
        rw [this]
        exact Evn.iteF (by decide) h2
    · refine Evn.iteF hlen ?_
      rcases h with ⟨h1, _⟩ | ⟨_, h2⟩
      · exact absurd h1 hlen
      · exact h2
  refine Evn.succ (h := fun k => orielref01_cut.j7 k s p n total x7 a b k0 (samp a b k0)) (fun k => ?_) hj
  simp only [orielref01_cut.l3, e1, e2, e3, e4, e5]
  rw [if_pos hk2]
  unfold samp
  by_cases h63 : k0 = 63
  · rw [if_pos h63, if_pos h63]
  · rw [if_neg h63, if_neg h63]
theorem l3_end (a b : Int) (r : Bool) (h : Evn (fun k => orielref01_cut.l0 k s p n (wrap64 (total + 1))) r) : Evn (fun k => orielref01_cut.l3 k s p n total x7 a b 64) r :=
  Evn.succ (fun k => by simp only [orielref01_cut.l3]; rw [if_neg (by decide)]) h
theorem l3_none (a b : Int) (r : Bool) (ha : 0 ≤ a) (hb : a ≤ b) (hb2 : b ≤ 3000000) (hz : x7.size ≤ 1000)
    (hno : ∀ k : Int, 0 ≤ k → k < 64 → ¬ ((putL (samp a b k)).length : Int) = total) (h : Evn (fun k => orielref01_cut.l0 k s p n (wrap64 (total + 1))) r) : Evn (fun k => orielref01_cut.l3 k s p n total x7 a b 0) r := by
  have go : ∀ (d : Nat) (k0 : Int), k0 + d = 64 → 0 ≤ k0 → Evn (fun k => orielref01_cut.l3 k s p n total x7 a b k0) r := by
    intro d
    induction d with
    | zero => intro k0 h1 h2; obtain rfl : k0 = 64 := by omega
              exact l3_end s p n total x7 a b r h
    | succ d ih =>
      intro k0 h1 h2
      exact l3_step s p n total x7 a b k0 r ha hb hb2 h2 (by omega) hz (.inr ⟨fun hh => hno k0 h2 (by omega) hh.1, ih (k0 + 1) (by omega) (by omega)⟩)
  exact go 64 0 (by omega) (by omega)
theorem l3_some (a b : Int) (ha : 0 ≤ a) (hb : a ≤ b) (hb2 : b ≤ 3000000) (hz : x7.size ≤ 1000) (k1 : Int) (hk1 : 0 ≤ k1) (hk2 : k1 < 64)
    (hit : ((putL (samp a b k1)).length : Int) = total ∧ beg (strOfNums (putL (samp a b k1)) ++ ⟨#[120]⟩) 0 (bytesOf x7) = true) : Evn (fun k => orielref01_cut.l3 k s p n total x7 a b 0) true := by
  have go : ∀ (d : Nat) (k0 : Int), k0 + d = k1 → 0 ≤ k0 → Evn (fun k => orielref01_cut.l3 k s p n total x7 a b k0) true := by
    intro d
    induction d with
    | zero => intro k0 h1 h2; obtain rfl : k0 = k1 := by omega
              exact l3_step s p n total x7 a b k0 true ha hb hb2 h2 hk2 hz (.inl ⟨hit.1, hit.2, rfl⟩)
    | succ d ih =>
      intro k0 h1 h2
      refine l3_step s p n total x7 a b k0 true ha hb hb2 h2 (by omega) hz ?_
      by_cases hh : ((putL (samp a b k0)).length : Int) = total ∧ beg (strOfNums (putL (samp a b k0)) ++ ⟨#[120]⟩) 0 (bytesOf x7) = true
      · exact .inl ⟨hh.1, hh.2, rfl⟩
      · exact .inr ⟨hh, ih (k0 + 1) (by omega) (by omega)⟩
  exact go k1.toNat 0 (by omega) (by omega)
end
/-- whether bytes begin a rune: b0, b1, b2 stand there; n: how many there are -/
def cutS (b0 b1 b2 n : Int) : Bool :=
  if n = 1 then decide (194 ≤ b0 ∧ b0 < 245)
  else if n = 2 then decide ((128 ≤ b1 ∧ b1 < 192) ∧ ((224 ≤ b0 ∧ b0 < 240 ∧ ¬ (b0 = 224 ∧ b1 < 160) ∧ ¬ (b0 = 237 ∧ 160 ≤ b1)) ∨ (240 ≤ b0 ∧ b0 < 245 ∧ ¬ (b0 = 240 ∧ b1 < 144) ∧ ¬ (b0 = 244 ∧ 144 ≤ b1))))
  else if n = 3 then decide ((128 ≤ b1 ∧ b1 < 192) ∧ (128 ≤ b2 ∧ b2 < 192) ∧ (240 ≤ b0 ∧ b0 < 245 ∧ ¬ (b0 = 240 ∧ b1 < 144) ∧ ¬ (b0 = 244 ∧ 144 ≤ b1)))
  else false
def tailsB (b1 b2 n : Int) : Bool := if n = 1 then true else if n = 2 then tailB b1 else tailB b1 && tailB b2
/-- a byte of the text that is filled up -/
def xb (s : ByteArray) (p n : Int) (c i : Int) : Int := if i < n then bt s (p + i) else c
theorem l0_stop (s : ByteArray) (p n : Int) : Evn (fun k => orielref01_cut.l0 k s p n 5) false :=
  Evn.succ (h := fun _ => some false) (fun k => by simp only [orielref01_cut.l0]; rw [if_neg (by decide)]) (Evn.ret _)
section
variable (s : ByteArray) (p n : Int) (h0 : 0 ≤ p) (hs : p + n = s.size) (hz : s.size ≤ 1000000000) (hn1 : 1 ≤ n) (hn3 : n ≤ 3)
include h0 hs hz hn1 hn3
theorem full_size : ((s.extract p.toNat s.size).size : Int) = n := by
  have _u := hz
  rw [ByteArray.size_extract]; omega
theorem full_bt (i : Int) (hi : 0 ≤ i) (hi2 : i < n) : bt (s.extract p.toNat s.size) i = bt s (p + i) := by
  have _u := And.intro hz (And.intro hn1 hn3)
  rw [bt_extract _ _ _ _ hi (by omega)]
  congr 1
  omega
theorem pad_xb (c : UInt8) (t : Nat) (i : Int) (hi : 0 ≤ i) (hi2 : i < n + t) : bt (pad (s.extract p.toNat s.size) c t) i = xb s p n c.toNat i := by
  have hf := full_size s p n h0 hs hz hn1 hn3
  rw [pad_bt _ _ _ _ hi (by omega), hf]
  unfold xb
  split
  · rw [full_bt s p n h0 hs hz hn1 hn3 i hi (by omega)]
  · rfl
theorem pad_len (c : UInt8) (t : Nat) (total : Int) (ht : n + t = total) : ((pad (s.extract p.toNat s.size) c t).size : Int) = total := by
  have hf := full_size s p n h0 hs hz hn1 hn3
  rw [pad_size]; omega
theorem low2 (c : UInt8) (t : Nat) (ht : n + t = 2) : Evn (fun k => orielref01_value.f k (pad (s.extract p.toNat s.size) c t) 0 2) ((xb s p n c.toNat 0 - 192) * 64 + (xb s p n c.toNat 1 - 128)) := by
  have hl := pad_len s p n h0 hs hz hn1 hn3 c t 2 ht
  have := value2 (pad (s.extract p.toNat s.size) c t) 0 (by omega) (by omega) (by omega)
  rw [pad_xb s p n h0 hs hz hn1 hn3 c t 0 (by omega) (by omega), Int.zero_add, pad_xb s p n h0 hs hz hn1 hn3 c t 1 (by omega) (by omega)] at this
  exact this
theorem low3 (c : UInt8) (t : Nat) (ht : n + t = 3) : Evn (fun k => orielref01_value.f k (pad (s.extract p.toNat s.size) c t) 0 3) (((xb s p n c.toNat 0 - 224) * 64 + (xb s p n c.toNat 1 - 128)) * 64 + (xb s p n c.toNat 2 - 128)) := by
  have hl := pad_len s p n h0 hs hz hn1 hn3 c t 3 ht
  have := value3 (pad (s.extract p.toNat s.size) c t) 0 (by omega) (by omega) (by omega)
  rw [pad_xb s p n h0 hs hz hn1 hn3 c t 0 (by omega) (by omega), Int.zero_add, pad_xb s p n h0 hs hz hn1 hn3 c t 1 (by omega) (by omega), Int.zero_add, pad_xb s p n h0 hs hz hn1 hn3 c t 2 (by omega) (by omega)] at this
  exact this
theorem low4 (c : UInt8) (t : Nat) (ht : n + t = 4) : Evn (fun k => orielref01_value.f k (pad (s.extract p.toNat s.size) c t) 0 4) ((((xb s p n c.toNat 0 - 240) * 64 + (xb s p n c.toNat 1 - 128)) * 64 + (xb s p n c.toNat 2 - 128)) * 64 + (xb s p n c.toNat 3 - 128)) := by
  have hl := pad_len s p n h0 hs hz hn1 hn3 c t 4 ht
  have := value4 (pad (s.extract p.toNat s.size) c t) 0 (by omega) (by omega) (by omega)
  rw [pad_xb s p n h0 hs hz hn1 hn3 c t 0 (by omega) (by omega), Int.zero_add, pad_xb s p n h0 hs hz hn1 hn3 c t 1 (by omega) (by omega), Int.zero_add, pad_xb s p n h0 hs hz hn1 hn3 c t 2 (by omega) (by omega), Int.zero_add, pad_xb s p n h0 hs hz hn1 hn3 c t 3 (by omega) (by omega)] at this
  exact this
theorem l0_step (total a b : Int) (t : Nat) (ht : n + t = total) (ht4 : total ≤ 4)
    (ha : Evn (fun k => orielref01_value.f k (pad (s.extract p.toNat s.size) 128 t) 0 total) a) (hb : Evn (fun k => orielref01_value.f k (pad (s.extract p.toNat s.size) 191 t) 0 total) b) (r : Bool)
    (h1 : tailsB (bt s (p + 1)) (bt s (p + 2)) n = true → firstB total (bt s p) = true → Evn (fun k => orielref01_cut.l3 k s p n total (s.extract p.toNat s.size) a b 0) r)
    (h2 : (tailsB (bt s (p + 1)) (bt s (p + 2)) n && firstB total (bt s p)) = false → Evn (fun k => orielref01_cut.l0 k s p n (wrap64 (total + 1))) r) :
    Evn (fun k => orielref01_cut.l0 k s p n total) r := by
  have hf := full_size s p n h0 hs hz hn1 hn3
  refine Evn.succ (h := fun k => orielref01_cut.l1 k s p n total (s.extract p.toNat s.size) (s.extract p.toNat s.size) (s.extract p.toNat s.size)) (fun k => ?_) ?_
  · simp only [orielref01_cut.l0]
    rw [if_pos ht4, if_pos h0, if_pos (by omega)]
  refine l1_ev s p n total _ r t _ _ (by omega) (by omega) (by omega) ?_
  refine Evn.bind ha (Evn.bind hb ?_)
  have hj := j4_ev s p n total (s.extract p.toNat s.size) a b _ _ r h1 h2
  by_cases c1 : n = 1
  · refine Evn.succ (fun k => l2_end s p n total _ k a b true 1 h0 (by omega) (by omega)) ?_
    have : tailsB (bt s (p + 1)) (bt s (p + 2)) n = true := by unfold tailsB; rw [if_pos c1]
    rw [this] at hj
    exact hj
  refine Evn.succ (fun k => l2_round s p n total _ k a b true 1 h0 hs hz (by omega) (by omega)) ?_
  by_cases c2 : n = 2
  · refine Evn.succ (fun k => l2_end s p n total _ k a b _ _ h0 (by omega) (by omega)) ?_
    have : tailsB (bt s (p + 1)) (bt s (p + 2)) n = (true && tailB (bt s (p + 1))) := by unfold tailsB; rw [if_neg c1, if_pos c2]; simp
    rw [this] at hj
    exact hj
  refine Evn.succ (fun k => l2_round s p n total _ k a b _ (1 + 1) h0 hs hz (by omega) (by omega)) ?_
  refine Evn.succ (fun k => l2_end s p n total _ k a b _ _ h0 (by omega) (by omega)) ?_
  have : tailsB (bt s (p + 1)) (bt s (p + 2)) n = ((true && tailB (bt s (p + 1))) && tailB (bt s (p + (1 + 1)))) := by
    unfold tailsB; rw [if_neg c1, if_neg c2]; simp
  rw [this] at hj
  exact hj
theorem hit_beg (r total : Int) (hl : ((putL r).length : Int) = total) (hnt : n < total) (h : ∀ i : Nat, (i : Int) < n → (putL r).getD i 0 = bt s (p + i)) :
    beg (strOfNums (putL r) ++ ⟨#[120]⟩) 0 (bytesOf (s.extract p.toNat s.size)) = true := by
  have hf := full_size s p n h0 hs hz hn1 hn3
  have hfl := size_bytesOf (s.extract p.toNat s.size)
  have hsz : (strOfNums (putL r) ++ (⟨#[120]⟩ : ByteArray)).size = (putL r).length + 1 := by rw [ByteArray.size_append, strOfNums_size]; rfl
  unfold beg
  have c1 : bytesOf (s.extract p.toNat s.size) ≠ [] := by
    intro hh
    rw [hh] at hfl
    simp at hfl
    omega
  rw [decide_eq_true c1, decide_eq_true (by rw [hsz]; omega)]
  simp only [Bool.true_and, List.all_eq_true, List.mem_range, beq_iff_eq]
  intro i hi
  rw [← bt_nat, full_bt s p n h0 hs hz hn1 hn3 i (by omega) (by omega), ← h i (by omega), Int.zero_add, bt_append _ _ _ (by omega), strOfNums_size, if_pos (by omega), bt_nat, bytesOf_nums _ (putL_range r)]
end
end Go.Proofs.Ytmbbjdkcanoklaa.Utf

/- The reference's cut and Rune are what the bytes say. -/
set_option linter.unusedVariables false
set_option linter.unusedSimpArgs false
namespace Go.Proofs.Ytmbbjdkcanoklaa.Utf
open Go.RowKit Go.Proofs.YtmbbjdkcanoklaaW.PrintWords Go.Proofs.YtmbbjdkcanoklaaW.PrintLast Go.Proofs.YtmbbjdkcanoklaaW.XConv Go.Proofs.Ytmbbjdkcanoklaa.X Go.Proofs.Ytmbbjdkcanoklaa.E
theorem putL2 (r : Int) (h : (putL r).length = 2) : 128 ≤ r ∧ r < 2048 := by
  unfold putL at h
  repeat' split at h
  all_goals first | (simp at h; done) | omega
theorem putL3 (r : Int) (h : (putL r).length = 3) : 2048 ≤ r ∧ r < 65536 ∧ ¬ (55296 ≤ r ∧ r ≤ 57343) := by
  unfold putL at h
  repeat' split at h
  all_goals first | (simp at h; done) | omega
theorem putL4 (r : Int) (h : (putL r).length = 4) : 65536 ≤ r ∧ r ≤ 1114111 := by
  unfold putL at h
  repeat' split at h
  all_goals first | (simp at h; done) | omega
theorem putL1 (r : Int) (h : (putL r).length = 1) : 0 ≤ r ∧ r < 128 := by
  unfold putL at h
  repeat' split at h
  all_goals first | (simp at h; done) | omega
theorem put1 (r : Int) (h : 0 ≤ r ∧ r < 128) : putL r = [r] := by
  unfold putL; rw [if_neg (by omega), if_pos (by omega)]
theorem put2 (r : Int) (h : 128 ≤ r ∧ r < 2048) : putL r = [192 + r / 64, 128 + r % 64] := by
  unfold putL; rw [if_neg (by omega), if_neg (by omega), if_pos (by omega)]
theorem put3 (r : Int) (h : 2048 ≤ r ∧ r < 65536 ∧ ¬ (55296 ≤ r ∧ r ≤ 57343)) : putL r = [224 + r / 4096, 128 + r / 64 % 64, 128 + r % 64] := by
  unfold putL; rw [if_neg (by omega), if_neg (by omega), if_neg (by omega), if_pos (by omega)]
theorem put4 (r : Int) (h : 65536 ≤ r ∧ r ≤ 1114111) : putL r = [240 + r / 262144, 128 + r / 4096 % 64, 128 + r / 64 % 64, 128 + r % 64] := by
  unfold putL; rw [if_neg (by omega), if_neg (by omega), if_neg (by omega), if_neg (by omega)]
theorem samp63 (a k : Int) (h0 : 0 ≤ k) (h1 : k < 64) : samp a (a + 63) k = a + k := by
  unfold samp
  have e : (a + 63 - a) / 63 = 1 := by omega
  rw [e]
  split <;> omega
theorem samp_lo (a b k : Int) (hab : a ≤ b) (h0 : 0 ≤ k) (h1 : k < 64) : a ≤ samp a b k ∧ samp a b k ≤ b := by
  unfold samp
  split
  · omega
  · have h2 : 0 ≤ (b - a) / 63 * k := Int.mul_nonneg (by omega) h0
    have h3 : (b - a) / 63 * k ≤ (b - a) / 63 * 63 := Int.mul_le_mul_of_nonneg_left (by omega) (by omega)
    omega
section
variable (s : ByteArray) (p n : Int) (h0 : 0 ≤ p) (hs : p + n = s.size) (hz : s.size ≤ 1000000000) (hn1 : 1 ≤ n) (hn3 : n ≤ 3)
include h0 hs hz hn1 hn3
theorem small_full : (s.extract p.toNat s.size).size ≤ 1000 := by
  have := full_size s p n h0 hs hz hn1 hn3
  omega
/-- by one: total 2 -/
theorem tot2 (hn : n = 1) (r : Bool) (yes : 194 ≤ bt s p ∧ bt s p < 224 → r = true) (no : ¬ (194 ≤ bt s p ∧ bt s p < 224) → Evn (fun k => orielref01_cut.l0 k s p n 3) r) : Evn (fun k => orielref01_cut.l0 k s p n 2) r := by
  have b0 := bt_range s p
  have hx : xb s p n 128 0 = bt s p := by unfold xb; rw [if_pos (by omega), Int.add_zero]
  have hx' : xb s p n 191 0 = bt s p := by unfold xb; rw [if_pos (by omega), Int.add_zero]
  have hy : xb s p n 128 1 = 128 := by unfold xb; rw [if_neg (by omega)]
  have hy' : xb s p n 191 1 = 191 := by unfold xb; rw [if_neg (by omega)]
  have la := low2 s p n h0 hs hz hn1 hn3 128 1 (by omega)
  have lb := low2 s p n h0 hs hz hn1 hn3 191 1 (by omega)
  simp only [show (128 : UInt8).toNat = 128 from rfl, show (191 : UInt8).toNat = 191 from rfl, Int.cast_ofNat_Int, hx, hx', hy, hy'] at la lb
  have w : wrap64 (2 + 1) = 3 := w64 (by omega) (by omega)
  refine l0_step s p n h0 hs hz hn1 hn3 2 _ _ 1 (by omega) (by omega) la lb r ?_ ?_
  · intro _ hf
    simp [firstB] at hf
    by_cases hy : 194 ≤ bt s p
    · rw [yes ⟨hy, hf.2⟩]
      refine l3_some s p n 2 _ _ _ (by omega) (by omega) (by omega) (small_full s p n h0 hs hz hn1 hn3) 0 (by omega) (by omega) ?_
      have hb : (bt s p - 192) * 64 + (191 - 128) = ((bt s p - 192) * 64 + (128 - 128)) + 63 := by omega
      rw [hb, samp63 _ _ (by omega) (by omega)]
      have hp := put2 ((bt s p - 192) * 64 + (128 - 128) + 0) (by omega)
      refine ⟨by rw [hp]; rfl, hit_beg s p n h0 hs hz hn1 hn3 _ 2 (by rw [hp]; rfl) (by omega) (fun i hi => ?_)⟩
      obtain rfl : i = 0 := by omega
      rw [hp]
      simp
      omega
    · refine l3_none s p n 2 _ _ _ r (by omega) (by omega) (by omega) (small_full s p n h0 hs hz hn1 hn3) ?_ (by rw [w]; exact no (by omega))
      intro k hk hk2 hl
      have := putL2 (samp ((bt s p - 192) * 64 + (128 - 128)) ((bt s p - 192) * 64 + (191 - 128)) k) (by omega)
      have := samp_lo ((bt s p - 192) * 64 + (128 - 128)) ((bt s p - 192) * 64 + (191 - 128)) k (by omega) hk hk2
      omega
  · intro hf
    rw [w]
    refine no ?_
    have : tailsB (bt s (p + 1)) (bt s (p + 2)) n = true := by unfold tailsB; rw [if_pos hn]
    rw [this] at hf
    simp [firstB] at hf
    omega
theorem tot3a (hn : n = 1) (r : Bool) (yes : 224 ≤ bt s p ∧ bt s p < 240 → r = true) (no : ¬ (224 ≤ bt s p ∧ bt s p < 240) → Evn (fun k => orielref01_cut.l0 k s p n 4) r) : Evn (fun k => orielref01_cut.l0 k s p n 3) r := by
  have b0 := bt_range s p
  have b1 := bt_range s (p + 1)
  have b2 := bt_range s (p + 2)
  have hx0 : xb s p n 128 0 = bt s p := by unfold xb; rw [if_pos (by omega), Int.add_zero]
  have hX0 : xb s p n 191 0 = bt s p := by unfold xb; rw [if_pos (by omega), Int.add_zero]
  have hx1 : xb s p n 128 1 = 128 := by unfold xb; rw [if_neg (by omega)]
  have hX1 : xb s p n 191 1 = 191 := by unfold xb; rw [if_neg (by omega)]
  have hx2 : xb s p n 128 2 = 128 := by unfold xb; rw [if_neg (by omega)]
  have hX2 : xb s p n 191 2 = 191 := by unfold xb; rw [if_neg (by omega)]
  have la := low3 s p n h0 hs hz hn1 hn3 128 2 (by omega)
  have lb := low3 s p n h0 hs hz hn1 hn3 191 2 (by omega)
  simp only [show (128 : UInt8).toNat = 128 from rfl, show (191 : UInt8).toNat = 191 from rfl, Int.cast_ofNat_Int, hx0, hX0, hx1, hX1, hx2, hX2] at la lb
  clear hx0 hX0 hx1 hX1 hx2 hX2
  have w : wrap64 (3 + 1) = 4 := w64 (by omega) (by omega)
  generalize hB0 : bt s p = B0 at *
  generalize hB1 : bt s (p + 1) = B1 at *
  generalize hB2 : bt s (p + 2) = B2 at *
  have hq := small_full s p n h0 hs hz hn1 hn3
  refine l0_step s p n h0 hs hz hn1 hn3 3 _ _ 2 (by omega) (by omega) la lb r ?_ ?_
  · rw [hB0, hB1, hB2]
    intro ht hf
    simp [firstB] at hf
    by_cases hy : 224 ≤ B0 ∧ B0 < 240
    · rw [yes hy]
      by_cases hc : B0 = 237
      · refine l3_some s p n 3 _ _ _ (by omega) (by omega) (by omega) hq 0 (by omega) (by omega) ?_
        have hr : samp (((B0 - 224) * 64 + (128 - 128)) * 64 + (128 - 128)) (((B0 - 224) * 64 + (191 - 128)) * 64 + (191 - 128)) 0 = ((B0 - 224) * 64 + (128 - 128)) * 64 + (128 - 128) := by unfold samp; rw [if_neg (by omega)]; omega
        rw [hr]
        have hp := put3 (((B0 - 224) * 64 + (128 - 128)) * 64 + (128 - 128)) (by omega)
        refine ⟨by rw [hp]; rfl, hit_beg s p n h0 hs hz hn1 hn3 _ 3 (by rw [hp]; rfl) (by omega) (fun i hi => ?_)⟩
        have hi' : i = 0 := by omega
        rw [hp]
        obtain rfl := hi'
        show 224 + (((B0 - 224) * 64 + (128 - 128)) * 64 + (128 - 128)) / 4096 = bt s (p + (0 : Nat))
        have e0 : p + ((0 : Nat) : Int) = p := by omega
        rw [e0, hB0]
        omega
      · refine l3_some s p n 3 _ _ _ (by omega) (by omega) (by omega) hq 63 (by omega) (by omega) ?_
        have hr : samp (((B0 - 224) * 64 + (128 - 128)) * 64 + (128 - 128)) (((B0 - 224) * 64 + (191 - 128)) * 64 + (191 - 128)) 63 = ((B0 - 224) * 64 + (191 - 128)) * 64 + (191 - 128) := by unfold samp; rw [if_pos rfl]
        rw [hr]
        have hp := put3 (((B0 - 224) * 64 + (191 - 128)) * 64 + (191 - 128)) (by omega)
        refine ⟨by rw [hp]; rfl, hit_beg s p n h0 hs hz hn1 hn3 _ 3 (by rw [hp]; rfl) (by omega) (fun i hi => ?_)⟩
        have hi' : i = 0 := by omega
        rw [hp]
        obtain rfl := hi'
        show 224 + (((B0 - 224) * 64 + (191 - 128)) * 64 + (191 - 128)) / 4096 = bt s (p + (0 : Nat))
        have e0 : p + ((0 : Nat) : Int) = p := by omega
        rw [e0, hB0]
        omega
    · refine l3_none s p n 3 _ _ _ r (by omega) (by omega) (by omega) hq ?_ (by rw [w]; exact no hy)
      intro k hk hk2 hl
      have h1 := putL3 (samp (((B0 - 224) * 64 + (128 - 128)) * 64 + (128 - 128)) (((B0 - 224) * 64 + (191 - 128)) * 64 + (191 - 128)) k) (by omega)
      have h2 := samp_lo (((B0 - 224) * 64 + (128 - 128)) * 64 + (128 - 128)) (((B0 - 224) * 64 + (191 - 128)) * 64 + (191 - 128)) k (by omega) hk hk2
      omega
  · rw [hB0, hB1, hB2]
    intro hf
    rw [w]
    refine no ?_
    intro hy
    simp [firstB, tailsB, hn, tailB] at hf
    omega
theorem tot3b (hn : n = 2) (r : Bool) (yes : (128 ≤ bt s (p + 1) ∧ bt s (p + 1) < 192) ∧ 224 ≤ bt s p ∧ bt s p < 240 ∧ ¬ (bt s p = 224 ∧ bt s (p + 1) < 160) ∧ ¬ (bt s p = 237 ∧ 160 ≤ bt s (p + 1)) → r = true) (no : ¬ ((128 ≤ bt s (p + 1) ∧ bt s (p + 1) < 192) ∧ 224 ≤ bt s p ∧ bt s p < 240 ∧ ¬ (bt s p = 224 ∧ bt s (p + 1) < 160) ∧ ¬ (bt s p = 237 ∧ 160 ≤ bt s (p + 1))) → Evn (fun k => orielref01_cut.l0 k s p n 4) r) : Evn (fun k => orielref01_cut.l0 k s p n 3) r := by
  have b0 := bt_range s p
  have b1 := bt_range s (p + 1)
  have b2 := bt_range s (p + 2)
  have hx0 : xb s p n 128 0 = bt s p := by unfold xb; rw [if_pos (by omega), Int.add_zero]
  have hX0 : xb s p n 191 0 = bt s p := by unfold xb; rw [if_pos (by omega), Int.add_zero]
  have hx1 : xb s p n 128 1 = bt s (p + 1) := by unfold xb; rw [if_pos (by omega)]
  have hX1 : xb s p n 191 1 = bt s (p + 1) := by unfold xb; rw [if_pos (by omega)]
  have hx2 : xb s p n 128 2 = 128 := by unfold xb; rw [if_neg (by omega)]
  have hX2 : xb s p n 191 2 = 191 := by unfold xb; rw [if_neg (by omega)]
  have la := low3 s p n h0 hs hz hn1 hn3 128 1 (by omega)
  have lb := low3 s p n h0 hs hz hn1 hn3 191 1 (by omega)
  simp only [show (128 : UInt8).toNat = 128 from rfl, show (191 : UInt8).toNat = 191 from rfl, Int.cast_ofNat_Int, hx0, hX0, hx1, hX1, hx2, hX2] at la lb
  clear hx0 hX0 hx1 hX1 hx2 hX2
  have w : wrap64 (3 + 1) = 4 := w64 (by omega) (by omega)
  generalize hB0 : bt s p = B0 at *
  generalize hB1 : bt s (p + 1) = B1 at *
  generalize hB2 : bt s (p + 2) = B2 at *
  have hq := small_full s p n h0 hs hz hn1 hn3
  refine l0_step s p n h0 hs hz hn1 hn3 3 _ _ 1 (by omega) (by omega) la lb r ?_ ?_
  · rw [hB0, hB1, hB2]
    intro ht hf
    simp [firstB] at hf
    simp [tailsB, hn, tailB] at ht
    by_cases hy : (128 ≤ B1 ∧ B1 < 192) ∧ 224 ≤ B0 ∧ B0 < 240 ∧ ¬ (B0 = 224 ∧ B1 < 160) ∧ ¬ (B0 = 237 ∧ 160 ≤ B1)
    · rw [yes hy]
      refine l3_some s p n 3 _ _ _ (by omega) (by omega) (by omega) hq 0 (by omega) (by omega) ?_
      have hr : samp (((B0 - 224) * 64 + (B1 - 128)) * 64 + (128 - 128)) (((B0 - 224) * 64 + (B1 - 128)) * 64 + (191 - 128)) 0 = ((B0 - 224) * 64 + (B1 - 128)) * 64 + (128 - 128) := by unfold samp; rw [if_neg (by omega)]; omega
      rw [hr]
      have hp := put3 (((B0 - 224) * 64 + (B1 - 128)) * 64 + (128 - 128)) (by omega)
      refine ⟨by rw [hp]; rfl, hit_beg s p n h0 hs hz hn1 hn3 _ 3 (by rw [hp]; rfl) (by omega) (fun i hi => ?_)⟩
      have hi' : i = 0 ∨ i = 1 := by omega
      rw [hp]
      rcases hi' with rfl | rfl
      · show 224 + (((B0 - 224) * 64 + (B1 - 128)) * 64 + (128 - 128)) / 4096 = bt s (p + (0 : Nat))
        have e0 : p + ((0 : Nat) : Int) = p := by omega
        rw [e0, hB0]
        omega
      · show 128 + (((B0 - 224) * 64 + (B1 - 128)) * 64 + (128 - 128)) / 64 % 64 = bt s (p + (1 : Nat))
        have e1 : p + ((1 : Nat) : Int) = p + 1 := by omega
        rw [e1, hB1]
        omega
    · refine l3_none s p n 3 _ _ _ r (by omega) (by omega) (by omega) hq ?_ (by rw [w]; exact no hy)
      intro k hk hk2 hl
      have h1 := putL3 (samp (((B0 - 224) * 64 + (B1 - 128)) * 64 + (128 - 128)) (((B0 - 224) * 64 + (B1 - 128)) * 64 + (191 - 128)) k) (by omega)
      have h2 := samp_lo (((B0 - 224) * 64 + (B1 - 128)) * 64 + (128 - 128)) (((B0 - 224) * 64 + (B1 - 128)) * 64 + (191 - 128)) k (by omega) hk hk2
      omega
  · rw [hB0, hB1, hB2]
    intro hf
    rw [w]
    refine no ?_
    intro hy
    simp [firstB, tailsB, hn, tailB] at hf
    omega
theorem tot4a (hn : n = 1) (r : Bool) (yes : 240 ≤ bt s p ∧ bt s p < 245 → r = true) (no : ¬ (240 ≤ bt s p ∧ bt s p < 245) → Evn (fun k => orielref01_cut.l0 k s p n 5) r) : Evn (fun k => orielref01_cut.l0 k s p n 4) r := by
  have b0 := bt_range s p
  have b1 := bt_range s (p + 1)
  have b2 := bt_range s (p + 2)
  have hx0 : xb s p n 128 0 = bt s p := by unfold xb; rw [if_pos (by omega), Int.add_zero]
  have hX0 : xb s p n 191 0 = bt s p := by unfold xb; rw [if_pos (by omega), Int.add_zero]
  have hx1 : xb s p n 128 1 = 128 := by unfold xb; rw [if_neg (by omega)]
  have hX1 : xb s p n 191 1 = 191 := by unfold xb; rw [if_neg (by omega)]
  have hx2 : xb s p n 128 2 = 128 := by unfold xb; rw [if_neg (by omega)]
  have hX2 : xb s p n 191 2 = 191 := by unfold xb; rw [if_neg (by omega)]
  have hx3 : xb s p n 128 3 = 128 := by unfold xb; rw [if_neg (by omega)]
  have hX3 : xb s p n 191 3 = 191 := by unfold xb; rw [if_neg (by omega)]
  have la := low4 s p n h0 hs hz hn1 hn3 128 3 (by omega)
  have lb := low4 s p n h0 hs hz hn1 hn3 191 3 (by omega)
  simp only [show (128 : UInt8).toNat = 128 from rfl, show (191 : UInt8).toNat = 191 from rfl, Int.cast_ofNat_Int, hx0, hX0, hx1, hX1, hx2, hX2, hx3, hX3] at la lb
  clear hx0 hX0 hx1 hX1 hx2 hX2 hx3 hX3
  have w : wrap64 (4 + 1) = 5 := w64 (by omega) (by omega)
  generalize hB0 : bt s p = B0 at *
  generalize hB1 : bt s (p + 1) = B1 at *
  generalize hB2 : bt s (p + 2) = B2 at *
  have hq := small_full s p n h0 hs hz hn1 hn3
  refine l0_step s p n h0 hs hz hn1 hn3 4 _ _ 3 (by omega) (by omega) la lb r ?_ ?_
  · rw [hB0, hB1, hB2]
    intro ht hf
    simp [firstB] at hf
    by_cases hy : 240 ≤ B0 ∧ B0 < 245
    · rw [yes hy]
      by_cases hc : B0 = 240
      · refine l3_some s p n 4 _ _ _ (by omega) (by omega) (by omega) hq 63 (by omega) (by omega) ?_
        have hr : samp ((((B0 - 240) * 64 + (128 - 128)) * 64 + (128 - 128)) * 64 + (128 - 128)) ((((B0 - 240) * 64 + (191 - 128)) * 64 + (191 - 128)) * 64 + (191 - 128)) 63 = (((B0 - 240) * 64 + (191 - 128)) * 64 + (191 - 128)) * 64 + (191 - 128) := by unfold samp; rw [if_pos rfl]
        rw [hr]
        have hp := put4 ((((B0 - 240) * 64 + (191 - 128)) * 64 + (191 - 128)) * 64 + (191 - 128)) (by omega)
        refine ⟨by rw [hp]; rfl, hit_beg s p n h0 hs hz hn1 hn3 _ 4 (by rw [hp]; rfl) (by omega) (fun i hi => ?_)⟩
        have hi' : i = 0 := by omega
        rw [hp]
        obtain rfl := hi'
        show 240 + ((((B0 - 240) * 64 + (191 - 128)) * 64 + (191 - 128)) * 64 + (191 - 128)) / 262144 = bt s (p + (0 : Nat))
        have e0 : p + ((0 : Nat) : Int) = p := by omega
        rw [e0, hB0]
        omega
      · refine l3_some s p n 4 _ _ _ (by omega) (by omega) (by omega) hq 0 (by omega) (by omega) ?_
        have hr : samp ((((B0 - 240) * 64 + (128 - 128)) * 64 + (128 - 128)) * 64 + (128 - 128)) ((((B0 - 240) * 64 + (191 - 128)) * 64 + (191 - 128)) * 64 + (191 - 128)) 0 = (((B0 - 240) * 64 + (128 - 128)) * 64 + (128 - 128)) * 64 + (128 - 128) := by unfold samp; rw [if_neg (by omega)]; omega
        rw [hr]
        have hp := put4 ((((B0 - 240) * 64 + (128 - 128)) * 64 + (128 - 128)) * 64 + (128 - 128)) (by omega)
        refine ⟨by rw [hp]; rfl, hit_beg s p n h0 hs hz hn1 hn3 _ 4 (by rw [hp]; rfl) (by omega) (fun i hi => ?_)⟩
        have hi' : i = 0 := by omega
        rw [hp]
        obtain rfl := hi'
        show 240 + ((((B0 - 240) * 64 + (128 - 128)) * 64 + (128 - 128)) * 64 + (128 - 128)) / 262144 = bt s (p + (0 : Nat))
        have e0 : p + ((0 : Nat) : Int) = p := by omega
        rw [e0, hB0]
        omega
    · refine l3_none s p n 4 _ _ _ r (by omega) (by omega) (by omega) hq ?_ (by rw [w]; exact no hy)
      intro k hk hk2 hl
      have h1 := putL4 (samp ((((B0 - 240) * 64 + (128 - 128)) * 64 + (128 - 128)) * 64 + (128 - 128)) ((((B0 - 240) * 64 + (191 - 128)) * 64 + (191 - 128)) * 64 + (191 - 128)) k) (by omega)
      have h2 := samp_lo ((((B0 - 240) * 64 + (128 - 128)) * 64 + (128 - 128)) * 64 + (128 - 128)) ((((B0 - 240) * 64 + (191 - 128)) * 64 + (191 - 128)) * 64 + (191 - 128)) k (by omega) hk hk2
      omega
  · rw [hB0, hB1, hB2]
    intro hf
    rw [w]
    refine no ?_
    intro hy
    simp [firstB, tailsB, hn, tailB] at hf
    omega
theorem tot4b (hn : n = 2) (r : Bool) (yes : (128 ≤ bt s (p + 1) ∧ bt s (p + 1) < 192) ∧ 240 ≤ bt s p ∧ bt s p < 245 ∧ ¬ (bt s p = 240 ∧ bt s (p + 1) < 144) ∧ ¬ (bt s p = 244 ∧ 144 ≤ bt s (p + 1)) → r = true) (no : ¬ ((128 ≤ bt s (p + 1) ∧ bt s (p + 1) < 192) ∧ 240 ≤ bt s p ∧ bt s p < 245 ∧ ¬ (bt s p = 240 ∧ bt s (p + 1) < 144) ∧ ¬ (bt s p = 244 ∧ 144 ≤ bt s (p + 1))) → Evn (fun k => orielref01_cut.l0 k s p n 5) r) : Evn (fun k => orielref01_cut.l0 k s p n 4) r := by
  have b0 := bt_range s p
  have b1 := bt_range s (p + 1)
  have b2 := bt_range s (p + 2)
  have hx0 : xb s p n 128 0 = bt s p := by unfold xb; rw [if_pos (by omega), Int.add_zero]
  have hX0 : xb s p n 191 0 = bt s p := by unfold xb; rw [if_pos (by omega), Int.add_zero]
  have hx1 : xb s p n 128 1 = bt s (p + 1) := by unfold xb; rw [if_pos (by omega)]
  have hX1 : xb s p n 191 1 = bt s (p + 1) := by unfold xb; rw [if_pos (by omega)]
  have hx2 : xb s p n 128 2 = 128 := by unfold xb; rw [if_neg (by omega)]
  have hX2 : xb s p n 191 2 = 191 := by unfold xb; rw [if_neg (by omega)]
  have hx3 : xb s p n 128 3 = 128 := by unfold xb; rw [if_neg (by omega)]
  have hX3 : xb s p n 191 3 = 191 := by unfold xb; rw [if_neg (by omega)]
  have la := low4 s p n h0 hs hz hn1 hn3 128 2 (by omega)
  have lb := low4 s p n h0 hs hz hn1 hn3 191 2 (by omega)
  simp only [show (128 : UInt8).toNat = 128 from rfl, show (191 : UInt8).toNat = 191 from rfl, Int.cast_ofNat_Int, hx0, hX0, hx1, hX1, hx2, hX2, hx3, hX3] at la lb
  clear hx0 hX0 hx1 hX1 hx2 hX2 hx3 hX3
  have w : wrap64 (4 + 1) = 5 := w64 (by omega) (by omega)
  generalize hB0 : bt s p = B0 at *
  generalize hB1 : bt s (p + 1) = B1 at *
  generalize hB2 : bt s (p + 2) = B2 at *
  have hq := small_full s p n h0 hs hz hn1 hn3
  refine l0_step s p n h0 hs hz hn1 hn3 4 _ _ 2 (by omega) (by omega) la lb r ?_ ?_
  · rw [hB0, hB1, hB2]
    intro ht hf
    simp [firstB] at hf
    simp [tailsB, hn, tailB] at ht
    by_cases hy : (128 ≤ B1 ∧ B1 < 192) ∧ 240 ≤ B0 ∧ B0 < 245 ∧ ¬ (B0 = 240 ∧ B1 < 144) ∧ ¬ (B0 = 244 ∧ 144 ≤ B1)
    · rw [yes hy]
      refine l3_some s p n 4 _ _ _ (by omega) (by omega) (by omega) hq 0 (by omega) (by omega) ?_
      have hr : samp ((((B0 - 240) * 64 + (B1 - 128)) * 64 + (128 - 128)) * 64 + (128 - 128)) ((((B0 - 240) * 64 + (B1 - 128)) * 64 + (191 - 128)) * 64 + (191 - 128)) 0 = (((B0 - 240) * 64 + (B1 - 128)) * 64 + (128 - 128)) * 64 + (128 - 128) := by unfold samp; rw [if_neg (by omega)]; omega
      rw [hr]
      have hp := put4 ((((B0 - 240) * 64 + (B1 - 128)) * 64 + (128 - 128)) * 64 + (128 - 128)) (by omega)
      refine ⟨by rw [hp]; rfl, hit_beg s p n h0 hs hz hn1 hn3 _ 4 (by rw [hp]; rfl) (by omega) (fun i hi => ?_)⟩
      have hi' : i = 0 ∨ i = 1 := by omega
      rw [hp]
      rcases hi' with rfl | rfl
      · show 240 + ((((B0 - 240) * 64 + (B1 - 128)) * 64 + (128 - 128)) * 64 + (128 - 128)) / 262144 = bt s (p + (0 : Nat))
        have e0 : p + ((0 : Nat) : Int) = p := by omega
        rw [e0, hB0]
        omega
      · show 128 + ((((B0 - 240) * 64 + (B1 - 128)) * 64 + (128 - 128)) * 64 + (128 - 128)) / 4096 % 64 = bt s (p + (1 : Nat))
        have e1 : p + ((1 : Nat) : Int) = p + 1 := by omega
        rw [e1, hB1]
        omega
    · refine l3_none s p n 4 _ _ _ r (by omega) (by omega) (by omega) hq ?_ (by rw [w]; exact no hy)
      intro k hk hk2 hl
      have h1 := putL4 (samp ((((B0 - 240) * 64 + (B1 - 128)) * 64 + (128 - 128)) * 64 + (128 - 128)) ((((B0 - 240) * 64 + (B1 - 128)) * 64 + (191 - 128)) * 64 + (191 - 128)) k) (by omega)
      have h2 := samp_lo ((((B0 - 240) * 64 + (B1 - 128)) * 64 + (128 - 128)) * 64 + (128 - 128)) ((((B0 - 240) * 64 + (B1 - 128)) * 64 + (191 - 128)) * 64 + (191 - 128)) k (by omega) hk hk2
      omega
  · rw [hB0, hB1, hB2]
    intro hf
    rw [w]
    refine no ?_
    intro hy
    simp [firstB, tailsB, hn, tailB] at hf
    omega
theorem tot4c (hn : n = 3) (r : Bool) (yes : (128 ≤ bt s (p + 1) ∧ bt s (p + 1) < 192) ∧ (128 ≤ bt s (p + 2) ∧ bt s (p + 2) < 192) ∧ 240 ≤ bt s p ∧ bt s p < 245 ∧ ¬ (bt s p = 240 ∧ bt s (p + 1) < 144) ∧ ¬ (bt s p = 244 ∧ 144 ≤ bt s (p + 1)) → r = true) (no : ¬ ((128 ≤ bt s (p + 1) ∧ bt s (p + 1) < 192) ∧ (128 ≤ bt s (p + 2) ∧ bt s (p + 2) < 192) ∧ 240 ≤ bt s p ∧ bt s p < 245 ∧ ¬ (bt s p = 240 ∧ bt s (p + 1) < 144) ∧ ¬ (bt s p = 244 ∧ 144 ≤ bt s (p + 1))) → Evn (fun k => orielref01_cut.l0 k s p n 5) r) : Evn (fun k => orielref01_cut.l0 k s p n 4) r := by
  have b0 := bt_range s p
  have b1 := bt_range s (p + 1)
  have b2 := bt_range s (p + 2)
  have hx0 : xb s p n 128 0 = bt s p := by unfold xb; rw [if_pos (by omega), Int.add_zero]
  have hX0 : xb s p n 191 0 = bt s p := by unfold xb; rw [if_pos (by omega), Int.add_zero]
  have hx1 : xb s p n 128 1 = bt s (p + 1) := by unfold xb; rw [if_pos (by omega)]
  have hX1 : xb s p n 191 1 = bt s (p + 1) := by unfold xb; rw [if_pos (by omega)]
  have hx2 : xb s p n 128 2 = bt s (p + 2) := by unfold xb; rw [if_pos (by omega)]
  have hX2 : xb s p n 191 2 = bt s (p + 2) := by unfold xb; rw [if_pos (by omega)]
  have hx3 : xb s p n 128 3 = 128 := by unfold xb; rw [if_neg (by omega)]
  have hX3 : xb s p n 191 3 = 191 := by unfold xb; rw [if_neg (by omega)]
  have la := low4 s p n h0 hs hz hn1 hn3 128 1 (by omega)
  have lb := low4 s p n h0 hs hz hn1 hn3 191 1 (by omega)
  simp only [show (128 : UInt8).toNat = 128 from rfl, show (191 : UInt8).toNat = 191 from rfl, Int.cast_ofNat_Int, hx0, hX0, hx1, hX1, hx2, hX2, hx3, hX3] at la lb
  clear hx0 hX0 hx1 hX1 hx2 hX2 hx3 hX3
  have w : wrap64 (4 + 1) = 5 := w64 (by omega) (by omega)
  generalize hB0 : bt s p = B0 at *
  generalize hB1 : bt s (p + 1) = B1 at *
  generalize hB2 : bt s (p + 2) = B2 at *
  have hq := small_full s p n h0 hs hz hn1 hn3
  refine l0_step s p n h0 hs hz hn1 hn3 4 _ _ 1 (by omega) (by omega) la lb r ?_ ?_
  · rw [hB0, hB1, hB2]
    intro ht hf
    simp [firstB] at hf
    simp [tailsB, hn, tailB] at ht
    by_cases hy : (128 ≤ B1 ∧ B1 < 192) ∧ (128 ≤ B2 ∧ B2 < 192) ∧ 240 ≤ B0 ∧ B0 < 245 ∧ ¬ (B0 = 240 ∧ B1 < 144) ∧ ¬ (B0 = 244 ∧ 144 ≤ B1)
    · rw [yes hy]
      refine l3_some s p n 4 _ _ _ (by omega) (by omega) (by omega) hq 0 (by omega) (by omega) ?_
      have hr : samp ((((B0 - 240) * 64 + (B1 - 128)) * 64 + (B2 - 128)) * 64 + (128 - 128)) ((((B0 - 240) * 64 + (B1 - 128)) * 64 + (B2 - 128)) * 64 + (191 - 128)) 0 = (((B0 - 240) * 64 + (B1 - 128)) * 64 + (B2 - 128)) * 64 + (128 - 128) := by unfold samp; rw [if_neg (by omega)]; omega
      rw [hr]
      have hp := put4 ((((B0 - 240) * 64 + (B1 - 128)) * 64 + (B2 - 128)) * 64 + (128 - 128)) (by omega)
      refine ⟨by rw [hp]; rfl, hit_beg s p n h0 hs hz hn1 hn3 _ 4 (by rw [hp]; rfl) (by omega) (fun i hi => ?_)⟩
      have hi' : i = 0 ∨ i = 1 ∨ i = 2 := by omega
      rw [hp]
      rcases hi' with rfl | rfl | rfl
      · show 240 + ((((B0 - 240) * 64 + (B1 - 128)) * 64 + (B2 - 128)) * 64 + (128 - 128)) / 262144 = bt s (p + (0 : Nat))
        have e0 : p + ((0 : Nat) : Int) = p := by omega
        rw [e0, hB0]
        omega
      · show 128 + ((((B0 - 240) * 64 + (B1 - 128)) * 64 + (B2 - 128)) * 64 + (128 - 128)) / 4096 % 64 = bt s (p + (1 : Nat))
        have e1 : p + ((1 : Nat) : Int) = p + 1 := by omega
        rw [e1, hB1]
        omega
      · show 128 + ((((B0 - 240) * 64 + (B1 - 128)) * 64 + (B2 - 128)) * 64 + (128 - 128)) / 64 % 64 = bt s (p + (2 : Nat))
        have e2 : p + ((2 : Nat) : Int) = p + 2 := by omega
        rw [e2, hB2]
        omega
    · refine l3_none s p n 4 _ _ _ r (by omega) (by omega) (by omega) hq ?_ (by rw [w]; exact no hy)
      intro k hk hk2 hl
      have h1 := putL4 (samp ((((B0 - 240) * 64 + (B1 - 128)) * 64 + (B2 - 128)) * 64 + (128 - 128)) ((((B0 - 240) * 64 + (B1 - 128)) * 64 + (B2 - 128)) * 64 + (191 - 128)) k) (by omega)
      have h2 := samp_lo ((((B0 - 240) * 64 + (B1 - 128)) * 64 + (B2 - 128)) * 64 + (128 - 128)) ((((B0 - 240) * 64 + (B1 - 128)) * 64 + (B2 - 128)) * 64 + (191 - 128)) k (by omega) hk hk2
      omega
  · rw [hB0, hB1, hB2]
    intro hf
    rw [w]
    refine no ?_
    intro hy
    simp [firstB, tailsB, hn, tailB] at hf
    omega
end
end Go.Proofs.Ytmbbjdkcanoklaa.Utf

/- The reference's Rune is what the bytes say. -/
set_option linter.unusedVariables false
set_option linter.unusedSimpArgs false
namespace Go.Proofs.Ytmbbjdkcanoklaa.Utf
open Go.RowKit Go.Proofs.YtmbbjdkcanoklaaW.PrintWords Go.Proofs.YtmbbjdkcanoklaaW.PrintLast Go.Proofs.YtmbbjdkcanoklaaW.XConv Go.Proofs.Ytmbbjdkcanoklaa.X Go.Proofs.Ytmbbjdkcanoklaa.E
theorem cut_ev (s : ByteArray) (p : Int) (h0 : 0 ≤ p) (hp : p < s.size) (hz : s.size ≤ 1000000000) : Evn (fun k => orielref01_cut.f k s p) (cutS (bt s p) (bt s (p + 1)) (bt s (p + 2)) (s.size - p)) := by
  obtain ⟨n, hn⟩ : ∃ n : Int, (s.size : Int) - p = n := ⟨_, rfl⟩
  rw [hn]
  have hs : p + n = s.size := by omega
  have e : wrap64 ((s.size : Int) - p) = n := by rw [hn]; exact w64 (by omega) (by omega)
  refine Evn.congr (h := fun k => orielref01_cut.j0 k s p n (decide (n > 3))) (fun k => by unfold orielref01_cut.f; rw [e, if_neg (by omega)]) ?_
  by_cases h3 : n > 3
  · refine Evn.succ (h := fun _ => some false) (fun k => by simp only [orielref01_cut.j0]; rw [decide_eq_true h3]; rfl) ?_
    have : cutS (bt s p) (bt s (p + 1)) (bt s (p + 2)) n = false := by unfold cutS; rw [if_neg (by omega), if_neg (by omega), if_neg (by omega)]
    rw [this]; exact Evn.ret _
  · have w : wrap64 (n + 1) = n + 1 := w64 (by omega) (by omega)
    refine Evn.succ (h := fun k => orielref01_cut.l0 k s p n (n + 1)) (fun k => by simp only [orielref01_cut.j0]; rw [decide_eq_false h3, w]; rfl) ?_
    have c : n = 1 ∨ n = 2 ∨ n = 3 := by omega
    rcases c with rfl | rfl | rfl
    · refine tot2 s p 1 h0 hs hz (by omega) (by omega) rfl _ (fun hh => ?_) (fun a1 => ?_)
      · unfold cutS; rw [if_pos rfl]; exact decide_eq_true (by omega)
      refine tot3a s p 1 h0 hs hz (by omega) (by omega) rfl _ (fun hh => ?_) (fun a2 => ?_)
      · unfold cutS; rw [if_pos rfl]; exact decide_eq_true (by omega)
      refine tot4a s p 1 h0 hs hz (by omega) (by omega) rfl _ (fun hh => ?_) (fun a3 => ?_)
      · unfold cutS; rw [if_pos rfl]; exact decide_eq_true (by omega)
      have : cutS (bt s p) (bt s (p + 1)) (bt s (p + 2)) 1 = false := by unfold cutS; rw [if_pos rfl]; exact decide_eq_false (by omega)
      rw [this]; exact l0_stop s p 1
    · refine tot3b s p 2 h0 hs hz (by omega) (by omega) rfl _ (fun hh => ?_) (fun a1 => ?_)
      · unfold cutS; rw [if_neg (by omega), if_pos rfl]; exact decide_eq_true (by omega)
      refine tot4b s p 2 h0 hs hz (by omega) (by omega) rfl _ (fun hh => ?_) (fun a2 => ?_)
      · unfold cutS; rw [if_neg (by omega), if_pos rfl]; exact decide_eq_true (by omega)
      have : cutS (bt s p) (bt s (p + 1)) (bt s (p + 2)) 2 = false := by unfold cutS; rw [if_neg (by omega), if_pos rfl]; exact decide_eq_false (by omega)
      rw [this]; exact l0_stop s p 2
    · refine tot4c s p 3 h0 hs hz (by omega) (by omega) rfl _ (fun hh => ?_) (fun a2 => ?_)
      · unfold cutS; rw [if_neg (by omega), if_neg (by omega), if_pos rfl]; exact decide_eq_true (by omega)
      have : cutS (bt s p) (bt s (p + 1)) (bt s (p + 2)) 3 = false := by unfold cutS; rw [if_neg (by omega), if_neg (by omega), if_pos rfl]; exact decide_eq_false (by omega)
      rw [this]; exact l0_stop s p 3
theorem beg_iff (s : ByteArray) (p : Int) (l : List Int) : beg s p l = true ↔ l ≠ [] ∧ p + l.length ≤ s.size ∧ ∀ i : Nat, i < l.length → bt s (p + i) = l.getD i 0 := by
  unfold beg
  simp only [Bool.and_eq_true, decide_eq_true_eq, List.all_eq_true, List.mem_range, beq_iff_eq, and_assoc]
section
variable (s : ByteArray) (p : Int) (h0 : 0 ≤ p) (hp : p < s.size) (hz : s.size ≤ 1000000000)
include h0 hp hz
theorem rr_put (n v : Int) (hn : n ≤ 4) (r : Int × Int × Int) (yes : ((putL v).length : Int) = n → beg s p (putL v) = true → r = (v, n, 0))
    (no : ¬ (((putL v).length : Int) = n ∧ beg s p (putL v) = true) → Evn (fun k => orielref01_Rune.l0 k s p (n + 1)) r) (hn1 : 1 ≤ n) : Evn (fun k => orielref01_Rune.j3 k s p n v) r := by
  have w : wrap64 (n + 1) = n + 1 := w64 (by omega) (by omega)
  refine Evn.succ (h := fun k => (orielref01_Put.f k v).bind fun t182 => (if (t182.length : Int) = n then ((orielref01_begins.f k s p t182).bind fun t185 => (if t185 = true then (some (v, n, 0)) else (orielref01_Rune.l0 k s p (n + 1)))) else (orielref01_Rune.l0 k s p (n + 1)))) (fun k => by simp only [orielref01_Rune.j3, w]) (Evn.bind (refPut_ev v) ?_)
  have hl := putL_len v
  by_cases hc : ((putL v).length : Int) = n
  · refine Evn.iteT hc (Evn.bind (begins_ev s p _ h0 (by omega) hz (by omega)) ?_)
    cases hb : beg s p (putL v) with
    | true => rw [yes hc hb]; exact Evn.iteT rfl (Evn.ret _)
    | false => exact Evn.iteF (by decide) (no (by rw [hb]; simp))
  · exact Evn.iteF hc (no (fun hh => hc hh.1))
theorem rr_one (r : Int × Int × Int) (yes : ((putL (bt s p)).length : Int) = 1 → beg s p (putL (bt s p)) = true → r = (bt s p, 1, 0))
    (no : ¬ (((putL (bt s p)).length : Int) = 1 ∧ beg s p (putL (bt s p)) = true) → Evn (fun k => orielref01_Rune.l0 k s p 2) r) : Evn (fun k => orielref01_Rune.l0 k s p 1) r := by
  have b0 := bt_range s p
  have w : wrap64 (p + 1) = p + 1 := w64 (by omega) (by omega)
  have w2 : wrap64 (bt s p) = bt s p := w64 (by omega) (by omega)
  refine Evn.succ (h := fun k => orielref01_Rune.j2 k s p 1 true) (fun k => by simp only [orielref01_Rune.l0, w]; rw [if_pos (by omega), decide_eq_true (by omega)]) ?_
  refine Evn.succ (h := fun k => orielref01_Rune.j3 k s p 1 (bt s p)) (fun k => by simp only [orielref01_Rune.j2, w2]; rw [if_pos trivial, if_pos h0, if_pos hp, if_neg (by omega)]) ?_
  exact rr_put s p h0 hp hz 1 (bt s p) (by omega) r yes no (by omega)
theorem rr_more (n v : Int) (hn : 1 < n) (hn4 : n ≤ 4) (hf : p + n ≤ s.size) (hv : Evn (fun k => orielref01_value.f k s p n) v) (r : Int × Int × Int) (yes : ((putL v).length : Int) = n → beg s p (putL v) = true → r = (v, n, 0))
    (no : ¬ (((putL v).length : Int) = n ∧ beg s p (putL v) = true) → Evn (fun k => orielref01_Rune.l0 k s p (n + 1)) r) : Evn (fun k => orielref01_Rune.l0 k s p n) r := by
  have w : wrap64 (p + n) = p + n := w64 (by omega) (by omega)
  refine Evn.succ (h := fun k => orielref01_Rune.j2 k s p n true) (fun k => by simp only [orielref01_Rune.l0, w]; rw [if_pos (by omega), decide_eq_true (by omega)]) ?_
  refine Evn.succ (h := fun k => (orielref01_value.f k s p n).bind fun t181 => (orielref01_Rune.j3 k s p n t181)) (fun k => by simp only [orielref01_Rune.j2]; rw [if_pos trivial, if_pos h0, if_pos hp, if_pos (by omega)]) ?_
  exact Evn.bind hv (rr_put s p h0 hp hz n v hn4 r yes no (by omega))
theorem rr_cut (n : Int) (hn1 : 1 ≤ n) (hn5 : n ≤ 5) (h : n = 5 ∨ (s.size : Int) < p + n) :
    Evn (fun k => orielref01_Rune.l0 k s p n) (if cutS (bt s p) (bt s (p + 1)) (bt s (p + 2)) (s.size - p) = true then (0, 0, 7) else (0, 0, 2)) := by
  have w : wrap64 (p + n) = p + n := w64 (by omega) (by omega)
  refine Evn.succ (h := fun k => orielref01_Rune.j2 k s p n false) (fun k => ?_) ?_
  · simp only [orielref01_Rune.l0, w]
    by_cases h4 : n ≤ 4
    · rw [if_pos h4, decide_eq_false (by omega)]
    · rw [if_neg h4]
  refine Evn.succ (h := fun k => (orielref01_cut.f k s p).bind fun t180 => (if t180 = true then (some (0, 0, 7)) else (some (0, 0, 2)))) (fun k => by simp only [orielref01_Rune.j2]; rfl) ?_
  refine Evn.bind (cut_ev s p h0 hp hz) ?_
  split
  · exact Evn.ret _
  · exact Evn.ret _
end
theorem put_one (b : Int) (h0 : 0 ≤ b) (h1 : b ≤ 255) : (putL b).length = 1 ↔ b < 128 := by
  constructor
  · intro h; exact (putL1 b h).2
  · intro h; rw [put1 b ⟨h0, h⟩]; rfl
theorem hit2 (s : ByteArray) (p : Int) (hf : p + 2 ≤ s.size) : (((putL ((bt s p - 192) * 64 + (bt s (p + 1) - 128))).length : Int) = 2 ∧ beg s p (putL ((bt s p - 192) * 64 + (bt s (p + 1) - 128))) = true) ↔
    (194 ≤ bt s p ∧ bt s p < 224 ∧ 128 ≤ bt s (p + 1) ∧ bt s (p + 1) < 192) := by
  have b0 := bt_range s p
  have b1 := bt_range s (p + 1)
  rw [beg_iff]
  constructor
  · rintro ⟨hl, _, _, hb⟩
    have hr := putL2 _ (show (putL ((bt s p - 192) * 64 + (bt s (p + 1) - 128))).length = 2 by omega)
    rw [put2 _ hr] at hb
    have e0 := hb 0 (by simp)
    have e1 := hb 1 (by simp)
    simp at e0 e1
    omega
  · intro h
    rw [put2 _ (by omega)]
    refine ⟨rfl, by simp, by simp; omega, fun i hi => ?_⟩
    have : i = 0 ∨ i = 1 := by simp at hi; omega
    rcases this with rfl | rfl
    · simp; omega
    · simp; omega
theorem hit3 (s : ByteArray) (p : Int) (hf : p + 3 ≤ s.size) : (((putL (((bt s p - 224) * 64 + (bt s (p + 1) - 128)) * 64 + (bt s (p + 2) - 128))).length : Int) = 3 ∧ beg s p (putL (((bt s p - 224) * 64 + (bt s (p + 1) - 128)) * 64 + (bt s (p + 2) - 128))) = true) ↔
    (224 ≤ bt s p ∧ bt s p < 240 ∧ (128 ≤ bt s (p + 1) ∧ bt s (p + 1) < 192) ∧ ¬ (bt s p = 224 ∧ bt s (p + 1) < 160 ∨ bt s p = 237 ∧ 160 ≤ bt s (p + 1)) ∧ 128 ≤ bt s (p + 2) ∧ bt s (p + 2) < 192) := by
  have b0 := bt_range s p
  have b1 := bt_range s (p + 1)
  have b2 := bt_range s (p + 2)
  rw [beg_iff]
  constructor
  · rintro ⟨hl, _, _, hb⟩
    have hr := putL3 _ (show (putL (((bt s p - 224) * 64 + (bt s (p + 1) - 128)) * 64 + (bt s (p + 2) - 128))).length = 3 by omega)
    rw [put3 _ hr] at hb
    have e0 := hb 0 (by simp)
    have e1 := hb 1 (by simp)
    have e2 := hb 2 (by simp)
    simp at e0 e1 e2
    omega
  · intro h
    rw [put3 _ (by omega)]
    refine ⟨rfl, by simp, by simp; omega, fun i hi => ?_⟩
    have : i = 0 ∨ i = 1 ∨ i = 2 := by simp at hi; omega
    rcases this with rfl | rfl | rfl
    · simp; omega
    · simp; omega
    · simp; omega
theorem hit4 (s : ByteArray) (p : Int) (hf : p + 4 ≤ s.size) : (((putL ((((bt s p - 240) * 64 + (bt s (p + 1) - 128)) * 64 + (bt s (p + 2) - 128)) * 64 + (bt s (p + 3) - 128))).length : Int) = 4 ∧ beg s p (putL ((((bt s p - 240) * 64 + (bt s (p + 1) - 128)) * 64 + (bt s (p + 2) - 128)) * 64 + (bt s (p + 3) - 128))) = true) ↔
    (240 ≤ bt s p ∧ bt s p < 245 ∧ (128 ≤ bt s (p + 1) ∧ bt s (p + 1) < 192) ∧ ¬ (bt s p = 240 ∧ bt s (p + 1) < 144 ∨ bt s p = 244 ∧ 144 ≤ bt s (p + 1)) ∧ (128 ≤ bt s (p + 2) ∧ bt s (p + 2) < 192) ∧ 128 ≤ bt s (p + 3) ∧ bt s (p + 3) < 192) := by
  have b0 := bt_range s p
  have b1 := bt_range s (p + 1)
  have b2 := bt_range s (p + 2)
  have b3 := bt_range s (p + 3)
  rw [beg_iff]
  constructor
  · rintro ⟨hl, _, _, hb⟩
    have hr := putL4 _ (show (putL ((((bt s p - 240) * 64 + (bt s (p + 1) - 128)) * 64 + (bt s (p + 2) - 128)) * 64 + (bt s (p + 3) - 128))).length = 4 by omega)
    rw [put4 _ hr] at hb
    have e0 := hb 0 (by simp)
    have e1 := hb 1 (by simp)
    have e2 := hb 2 (by simp)
    have e3 := hb 3 (by simp)
    simp at e0 e1 e2 e3
    omega
  · intro h
    rw [put4 _ (by omega)]
    refine ⟨rfl, by simp, by simp; omega, fun i hi => ?_⟩
    have : i = 0 ∨ i = 1 ∨ i = 2 ∨ i = 3 := by simp at hi; omega
    rcases this with rfl | rfl | rfl | rfl
    · simp; omega
    · simp; omega
    · simp; omega
    · simp; omega
theorem R_ref (b0 b1 b2 b3 n : Int) (h0 : 0 ≤ b0) (h0' : b0 ≤ 255) (hn : 1 ≤ n) : R b0 b1 b2 b3 n =
    if b0 < 128 then (b0, 1, 0) else if 2 ≤ n ∧ 194 ≤ b0 ∧ b0 < 224 ∧ 128 ≤ b1 ∧ b1 < 192 then ((b0 - 192) * 64 + (b1 - 128), 2, 0)
    else if 3 ≤ n ∧ 224 ≤ b0 ∧ b0 < 240 ∧ (128 ≤ b1 ∧ b1 < 192) ∧ ¬ (b0 = 224 ∧ b1 < 160 ∨ b0 = 237 ∧ 160 ≤ b1) ∧ 128 ≤ b2 ∧ b2 < 192 then (((b0 - 224) * 64 + (b1 - 128)) * 64 + (b2 - 128), 3, 0)
    else if 4 ≤ n ∧ 240 ≤ b0 ∧ b0 < 245 ∧ (128 ≤ b1 ∧ b1 < 192) ∧ ¬ (b0 = 240 ∧ b1 < 144 ∨ b0 = 244 ∧ 144 ≤ b1) ∧ (128 ≤ b2 ∧ b2 < 192) ∧ 128 ≤ b3 ∧ b3 < 192 then ((((b0 - 240) * 64 + (b1 - 128)) * 64 + (b2 - 128)) * 64 + (b3 - 128), 4, 0)
    else if cutS b0 b1 b2 n = true then (0, 0, 7) else (0, 0, 2) := by
  have hc : cutS b0 b1 b2 n = true ↔ (n = 1 ∧ 194 ≤ b0 ∧ b0 < 245) ∨ (n = 2 ∧ (128 ≤ b1 ∧ b1 < 192) ∧ ((224 ≤ b0 ∧ b0 < 240 ∧ ¬ (b0 = 224 ∧ b1 < 160) ∧ ¬ (b0 = 237 ∧ 160 ≤ b1)) ∨ (240 ≤ b0 ∧ b0 < 245 ∧ ¬ (b0 = 240 ∧ b1 < 144) ∧ ¬ (b0 = 244 ∧ 144 ≤ b1))))
      ∨ (n = 3 ∧ (128 ≤ b1 ∧ b1 < 192) ∧ (128 ≤ b2 ∧ b2 < 192) ∧ (240 ≤ b0 ∧ b0 < 245 ∧ ¬ (b0 = 240 ∧ b1 < 144) ∧ ¬ (b0 = 244 ∧ 144 ≤ b1))) := by
    unfold cutS
    by_cases h1 : n = 1
    · rw [if_pos h1, decide_eq_true_eq]; omega
    by_cases h2 : n = 2
    · rw [if_neg h1, if_pos h2, decide_eq_true_eq]; omega
    by_cases h3 : n = 3
    · rw [if_neg h1, if_neg h2, if_pos h3, decide_eq_true_eq]; omega
    · rw [if_neg h1, if_neg h2, if_neg h3]; simp [h1, h2, h3]
  unfold R
  by_cases a1 : b0 < 128
  · rw [if_pos a1, if_pos a1]
  rw [if_neg a1, if_neg a1]
  by_cases a2 : b0 < 194
  · rw [if_pos a2, if_neg (by omega), if_neg (by omega), if_neg (by omega), if_neg (by rw [hc]; omega)]
  rw [if_neg a2]
  by_cases a3 : b0 < 224
  · rw [if_pos a3]
    by_cases hn1 : n = 1
    · rw [if_pos hn1, if_neg (by omega), if_neg (by omega), if_neg (by omega), if_pos (by rw [hc]; omega)]
    rw [if_neg hn1]
    by_cases t1 : 128 ≤ b1 ∧ b1 < 192
    · rw [if_pos t1, if_pos (by omega)]
    · rw [if_neg t1, if_neg (by omega), if_neg (by omega), if_neg (by omega), if_neg (by rw [hc]; omega)]
  rw [if_neg a3]
  by_cases a4 : b0 < 240
  · rw [if_pos a4]
    by_cases hn1 : n = 1
    · rw [if_pos hn1, if_neg (by omega), if_neg (by omega), if_neg (by omega), if_pos (by rw [hc]; omega)]
    rw [if_neg hn1]
    by_cases t1 : 128 ≤ b1 ∧ b1 < 192
    · rw [if_neg (by omega)]
      by_cases bad : b0 = 224 ∧ b1 < 160 ∨ b0 = 237 ∧ 160 ≤ b1
      · rw [if_pos bad, if_neg (by omega), if_neg (by omega), if_neg (by omega), if_neg (by rw [hc]; omega)]
      rw [if_neg bad]
      by_cases hn2 : n = 2
      · rw [if_pos hn2, if_neg (by omega), if_neg (by omega), if_neg (by omega), if_pos (by rw [hc]; omega)]
      rw [if_neg hn2]
      by_cases t2 : 128 ≤ b2 ∧ b2 < 192
      · rw [if_pos t2, if_neg (by omega), if_pos (by omega)]
        simp only [Prod.mk.injEq, and_true]
        omega
      · rw [if_neg t2, if_neg (by omega), if_neg (by omega), if_neg (by omega), if_neg (by rw [hc]; omega)]
    · rw [if_pos t1, if_neg (by omega), if_neg (by omega), if_neg (by omega), if_neg (by rw [hc]; omega)]
  rw [if_neg a4]
  by_cases a5 : b0 < 245
  · rw [if_pos a5]
    by_cases hn1 : n = 1
    · rw [if_pos hn1, if_neg (by omega), if_neg (by omega), if_neg (by omega), if_pos (by rw [hc]; omega)]
    rw [if_neg hn1]
    by_cases t1 : 128 ≤ b1 ∧ b1 < 192
    · rw [if_neg (by omega)]
      by_cases bad : b0 = 240 ∧ b1 < 144 ∨ b0 = 244 ∧ 144 ≤ b1
      · rw [if_pos bad, if_neg (by omega), if_neg (by omega), if_neg (by omega), if_neg (by rw [hc]; omega)]
      rw [if_neg bad]
      by_cases hn2 : n = 2
      · rw [if_pos hn2, if_neg (by omega), if_neg (by omega), if_neg (by omega), if_pos (by rw [hc]; omega)]
      rw [if_neg hn2]
      by_cases t2 : 128 ≤ b2 ∧ b2 < 192
      · rw [if_neg (by omega)]
        by_cases hn3 : n = 3
        · rw [if_pos hn3, if_neg (by omega), if_neg (by omega), if_neg (by omega), if_pos (by rw [hc]; omega)]
        rw [if_neg hn3]
        by_cases t3 : 128 ≤ b3 ∧ b3 < 192
        · rw [if_pos t3, if_neg (by omega), if_neg (by omega), if_pos (by omega)]
          simp only [Prod.mk.injEq, and_true]
          omega
        · rw [if_neg t3, if_neg (by omega), if_neg (by omega), if_neg (by omega), if_neg (by rw [hc]; omega)]
      · rw [if_pos t2, if_neg (by omega), if_neg (by omega), if_neg (by omega), if_neg (by rw [hc]; omega)]
    · rw [if_pos t1, if_neg (by omega), if_neg (by omega), if_neg (by omega), if_neg (by rw [hc]; omega)]
  · rw [if_neg a5, if_neg (by omega), if_neg (by omega), if_neg (by omega), if_neg (by rw [hc]; omega)]
theorem refRune_ev (s : ByteArray) (p : Int) (hz : s.size ≤ 1000000000) : Evn (fun k => orielref01_Rune.f k s p) (runeAt s p) := by
  unfold runeAt
  by_cases ho : p < 0 ∨ (s.size : Int) ≤ p
  · rw [if_pos ho]
    refine Evn.congr (h := fun k => orielref01_Rune.j0 k s p true) (fun k => ?_) (Evn.succ (h := fun _ => some (0, 0, 7)) (fun k => by simp only [orielref01_Rune.j0]; rfl) (Evn.ret _))
    unfold orielref01_Rune.f
    by_cases h0 : p < 0
    · rw [if_pos h0]
    · rw [if_neg h0, decide_eq_true (by omega)]
  rw [if_neg ho]
  have h0 : 0 ≤ p := by omega
  have hp : p < s.size := by omega
  have b0 := bt_range s p
  have q3 : (2 : Int) + 1 = 3 := rfl
  have q4 : (3 : Int) + 1 = 4 := rfl
  have q5 : (4 : Int) + 1 = 5 := rfl
  refine Evn.congr (h := fun k => orielref01_Rune.j0 k s p false) (fun k => by unfold orielref01_Rune.f; rw [if_neg (by omega), decide_eq_false (by omega)]) ?_
  refine Evn.succ (h := fun k => orielref01_Rune.l0 k s p 1) (fun k => by simp only [orielref01_Rune.j0]; rfl) ?_
  rw [R_ref _ _ _ _ _ b0.1 b0.2 (by omega)]
  refine rr_one s p h0 hp hz _ (fun hl hb => ?_) (fun no1 => ?_)
  · rw [if_pos ((put_one _ b0.1 b0.2).1 (by omega))]
  have n1 : ¬ bt s p < 128 := by
    intro hh
    apply no1
    have hp1 := put1 (bt s p) ⟨b0.1, hh⟩
    rw [beg_iff, hp1]
    refine ⟨rfl, by simp, by simp; omega, fun i hi => ?_⟩
    obtain rfl : i = 0 := by simp at hi; omega
    simp
  rw [if_neg n1]
  by_cases f2 : p + 2 ≤ s.size
  · refine rr_more s p h0 hp hz 2 _ (by omega) (by omega) f2 (value2 s p h0 (by omega) f2) _ (fun hl hb => ?_) (fun no2 => ?_)
    · have := (hit2 s p f2).1 ⟨hl, hb⟩
      rw [if_pos (by omega)]
    have n2 := fun hh => no2 ((hit2 s p f2).2 hh)
    rw [if_neg (fun hh => n2 ⟨hh.2.1, hh.2.2.1, hh.2.2.2.1, hh.2.2.2.2⟩)]
    rw [q3]
    by_cases f3 : p + 3 ≤ s.size
    · refine rr_more s p h0 hp hz 3 _ (by omega) (by omega) f3 (value3 s p h0 (by omega) f3) _ (fun hl hb => ?_) (fun no3 => ?_)
      · have := (hit3 s p f3).1 ⟨hl, hb⟩
        rw [if_pos ⟨by omega, this⟩]
      have n3 := fun hh => no3 ((hit3 s p f3).2 hh)
      rw [if_neg (fun hh => n3 hh.2)]
      rw [q4]
      by_cases f4 : p + 4 ≤ s.size
      · refine rr_more s p h0 hp hz 4 _ (by omega) (by omega) f4 (value4 s p h0 (by omega) f4) _ (fun hl hb => ?_) (fun no4 => ?_)
        · have := (hit4 s p f4).1 ⟨hl, hb⟩
          rw [if_pos ⟨by omega, this⟩]
        have n4 := fun hh => no4 ((hit4 s p f4).2 hh)
        rw [if_neg (fun hh => n4 hh.2), q5]
        exact rr_cut s p h0 hp hz _ (by omega) (by omega) (.inl rfl)
      · rw [if_neg (by omega)]
        exact rr_cut s p h0 hp hz _ (by omega) (by omega) (.inr (by omega))
    · rw [if_neg (by omega), if_neg (by omega)]
      exact rr_cut s p h0 hp hz _ (by omega) (by omega) (.inr (by omega))
  · rw [if_neg (by omega), if_neg (by omega), if_neg (by omega)]
    exact rr_cut s p h0 hp hz _ (by omega) (by omega) (.inr (by omega))
end Go.Proofs.Ytmbbjdkcanoklaa.Utf

/- Runes of lists of bytes: decoding and encoding undo one another. -/
set_option linter.unusedVariables false
set_option linter.unusedSimpArgs false
namespace Go.Proofs.Ytmbbjdkcanoklaa.Utf
open Go.RowKit Go.Proofs.YtmbbjdkcanoklaaW.PrintWords Go.Proofs.YtmbbjdkcanoklaaW.PrintLast Go.Proofs.YtmbbjdkcanoklaaW.XConv Go.Proofs.Ytmbbjdkcanoklaa.X Go.Proofs.Ytmbbjdkcanoklaa.E
/-- the first rune of bytes -/
def RL (l : List Int) : Int × Int × Int := R (l.getD 0 0) (l.getD 1 0) (l.getD 2 0) (l.getD 3 0) l.length
def Bytes (l : List Int) : Prop := ∀ x ∈ l, 0 ≤ x ∧ x ≤ 255
theorem runeAt_RL (s : ByteArray) (p : Int) (h0 : 0 ≤ p) (hp : p < s.size) : runeAt s p = RL ((bytesOf s).drop p.toNat) := by
  unfold runeAt RL
  rw [if_neg (by omega)]
  have hl := size_bytesOf s
  have g : ∀ i : Nat, ((bytesOf s).drop p.toNat).getD i 0 = bt s (p + i) := by
    intro i
    rw [bt_get]
    simp only [List.getD_eq_getElem?_getD, List.getElem?_drop]
    congr 2
    omega
  rw [g 0, g 1, g 2, g 3]
  have e : ((((bytesOf s).drop p.toNat).length : Nat) : Int) = s.size - p := by rw [List.length_drop]; omega
  rw [e]
  simp
theorem puts_range (rs : List Int) : Bytes (rs.flatMap putL) := by
  intro x hx
  obtain ⟨r, _, hr⟩ := List.mem_flatMap.1 hx
  exact putL_range r x hr
/-- the cases in which a rune stands there -/
theorem RL_ok (l : List Int) (hb : Bytes l) (hn : l ≠ []) (r n : Int) (h : RL l = (r, n, 0)) : putL r ≠ [] ∧ n = (putL r).length ∧ l = putL r ++ l.drop (putL r).length := by
  unfold RL at h
  have hlen : 1 ≤ l.length := by cases l with
    | nil => exact absurd rfl hn
    | cons a t => simp
  have hg : ∀ i : Nat, 0 ≤ l.getD i 0 ∧ l.getD i 0 ≤ 255 := by
    intro i
    rw [List.getD_eq_getElem?_getD]
    by_cases hi : i < l.length
    · rw [List.getElem?_eq_getElem hi]; exact hb _ (List.getElem_mem hi)
    · rw [List.getElem?_eq_none (by omega)]; simp
  have hs : ∀ (m : Nat) (q : List Int), q.length = m → m ≤ l.length → (∀ i : Nat, i < m → l.getD i 0 = q.getD i 0) → l = q ++ l.drop m := by
    intro m q hq hm hh
    conv => lhs; rw [← List.take_append_drop m l]
    congr 1
    apply List.ext_getElem?
    intro i
    rw [List.getElem?_take]
    by_cases hi : i < m
    · rw [if_pos hi]
      have := hh i hi
      rw [List.getD_eq_getElem?_getD, List.getD_eq_getElem?_getD, List.getElem?_eq_getElem (by omega), List.getElem?_eq_getElem (by omega)] at this
      rw [List.getElem?_eq_getElem (by omega), List.getElem?_eq_getElem (by omega)]
      simpa using this
    · rw [if_neg hi, List.getElem?_eq_none (by omega)]
  have g0 := hg 0
  have g1 := hg 1
  have g2 := hg 2
  have g3 := hg 3
  rw [R_ref _ _ _ _ _ g0.1 g0.2 (by omega)] at h
  split at h
  · rename_i c
    simp only [Prod.mk.injEq] at h
    obtain ⟨rfl, rfl, _⟩ := h
    rw [put1 _ ⟨g0.1, c⟩]
    refine ⟨by simp, rfl, hs 1 _ rfl hlen (fun i hi => ?_)⟩
    obtain rfl : i = 0 := by omega
    rfl
  split at h
  · rename_i c
    simp only [Prod.mk.injEq] at h
    obtain ⟨rfl, rfl, _⟩ := h
    rw [put2 _ (by omega)]
    refine ⟨by simp, rfl, hs 2 _ rfl (by omega) (fun i hi => ?_)⟩
    have : i = 0 ∨ i = 1 := by omega
    rcases this with rfl | rfl
    · show l.getD 0 0 = 192 + _ / 64; omega
    · show l.getD 1 0 = 128 + _ % 64; omega
  split at h
  · rename_i c
    simp only [Prod.mk.injEq] at h
    obtain ⟨rfl, rfl, _⟩ := h
    rw [put3 _ (by omega)]
    refine ⟨by simp, rfl, hs 3 _ rfl (by omega) (fun i hi => ?_)⟩
    have : i = 0 ∨ i = 1 ∨ i = 2 := by omega
    rcases this with rfl | rfl | rfl
    · show l.getD 0 0 = 224 + _ / 4096; omega
    · show l.getD 1 0 = 128 + _ / 64 % 64; omega
    · show l.getD 2 0 = 128 + _ % 64; omega
  split at h
  · rename_i c
    simp only [Prod.mk.injEq] at h
    obtain ⟨rfl, rfl, _⟩ := h
    rw [put4 _ (by omega)]
    refine ⟨by simp, rfl, hs 4 _ rfl (by omega) (fun i hi => ?_)⟩
    have : i = 0 ∨ i = 1 ∨ i = 2 ∨ i = 3 := by omega
    rcases this with rfl | rfl | rfl | rfl
    · show l.getD 0 0 = 240 + _ / 262144; omega
    · show l.getD 1 0 = 128 + _ / 4096 % 64; omega
    · show l.getD 2 0 = 128 + _ / 64 % 64; omega
    · show l.getD 3 0 = 128 + _ % 64; omega
  split at h
  · simp at h
  · simp at h
theorem RL_put (r : Int) (t : List Int) (h : putL r ≠ []) : RL (putL r ++ t) = (r, ((putL r).length : Int), 0) := by
  have hv : 0 ≤ r ∧ r ≤ 1114111 ∧ ¬ (55296 ≤ r ∧ r ≤ 57343) := by
    unfold putL at h
    by_cases c : r < 0 ∨ r > 1114111 ∨ (55296 ≤ r ∧ r ≤ 57343)
    · rw [if_pos c] at h; exact absurd rfl h
    · omega
  by_cases c1 : r < 128
  · rw [put1 r (by omega)]
    show R r _ _ _ _ = _
    rw [R_ref _ _ _ _ _ (by omega) (by omega) (by simp; omega), if_pos c1]
    rfl
  by_cases c2 : r < 2048
  · rw [put2 r (by omega)]
    show R (192 + r / 64) (128 + r % 64) _ _ _ = _
    rw [R_ref _ _ _ _ _ (by omega) (by omega) (by simp; omega), if_neg (by omega), if_pos (by simp; omega)]
    simp only [Prod.mk.injEq, and_true]
    exact ⟨by omega, rfl⟩
  by_cases c3 : r < 65536
  · rw [put3 r (by omega)]
    show R (224 + r / 4096) (128 + r / 64 % 64) (128 + r % 64) _ _ = _
    rw [R_ref _ _ _ _ _ (by omega) (by omega) (by simp; omega), if_neg (by omega), if_neg (by omega), if_pos (by simp; omega)]
    simp only [Prod.mk.injEq, and_true]
    exact ⟨by omega, rfl⟩
  · rw [put4 r (by omega)]
    show R (240 + r / 262144) (128 + r / 4096 % 64) (128 + r / 64 % 64) (128 + r % 64) _ = _
    rw [R_ref _ _ _ _ _ (by omega) (by omega) (by simp; omega), if_neg (by omega), if_neg (by omega), if_neg (by omega), if_pos (by simp; omega)]
    simp only [Prod.mk.injEq, and_true]
    exact ⟨by omega, rfl⟩
/-- what decoding all comes to: these runes' bytes, and what is left -/
structure Dec (l rs rest : List Int) : Prop where
  eq : l = rs.flatMap putL ++ rest
  ok : ∀ r ∈ rs, putL r ≠ []
  stop : rest = [] ∨ (RL rest).2.2 ≠ 0
def errL (rest : List Int) : Int := if rest = [] then 0 else (RL rest).2.2
theorem Dec.cons {l rs rest : List Int} (h : Dec l rs rest) (r : Int) (hr : putL r ≠ []) : Dec (putL r ++ l) (r :: rs) rest :=
  ⟨by rw [h.eq]; simp, by intro x hx; rcases List.mem_cons.1 hx with rfl | hx; exact hr; exact h.ok x hx, h.stop⟩
theorem Dec.uniq : ∀ {rs rest rs' rest' l : List Int}, Dec l rs rest → Dec l rs' rest' → rs = rs' ∧ rest = rest' := by
  intro rs
  induction rs with
  | nil =>
    intro rest rs' rest' l h h'
    have he := h.eq
    simp only [List.flatMap_nil, List.nil_append] at he
    subst he
    cases rs' with
    | nil =>
      have := h'.eq
      simp at this
      exact ⟨rfl, this⟩
    | cons r t =>
      exfalso
      have hr := h'.ok r List.mem_cons_self
      have he := h'.eq
      simp only [List.flatMap_cons, List.append_assoc] at he
      have := RL_put r (t.flatMap putL ++ rest') hr
      rw [← he] at this
      rcases h.stop with hs | hs
      · rw [hs] at he
        have := congrArg List.length he
        simp only [List.length_append, List.length_nil] at this
        exact hr (List.eq_nil_of_length_eq_zero (by omega))
      · exact hs (by rw [this])
  | cons r t ih =>
    intro rest rs' rest' l h h'
    have hr := h.ok r List.mem_cons_self
    have he := h.eq
    simp only [List.flatMap_cons, List.append_assoc] at he
    have hR := RL_put r (t.flatMap putL ++ rest) hr
    cases rs' with
    | nil =>
      exfalso
      have he' := h'.eq
      simp only [List.flatMap_nil, List.nil_append] at he'
      rcases h'.stop with hs | hs
      · rw [← he', he] at hs
        have := congrArg List.length hs
        simp at this
        exact hr this.1
      · apply hs
        rw [← he', he, hR]
    | cons r' t' =>
      have hr' := h'.ok r' List.mem_cons_self
      have he' := h'.eq
      simp only [List.flatMap_cons, List.append_assoc] at he'
      have hR' := RL_put r' (t'.flatMap putL ++ rest') hr'
      rw [← he] at hR
      rw [← he'] at hR'
      rw [hR] at hR'
      simp only [Prod.mk.injEq] at hR'
      obtain ⟨rfl, _, _⟩ := hR'
      rw [he] at he'
      have h1 : Dec (t.flatMap putL ++ rest) t rest := ⟨rfl, fun x hx => h.ok x (List.mem_cons_of_mem _ hx), h.stop⟩
      have h2 : Dec (t.flatMap putL ++ rest) t' rest' := ⟨List.append_cancel_left he', fun x hx => h'.ok x (List.mem_cons_of_mem _ hx), h'.stop⟩
      obtain ⟨rfl, rfl⟩ := ih h1 h2
      exact ⟨rfl, rfl⟩
theorem Dec.exists : ∀ (n : Nat) (l : List Int), l.length ≤ n → Bytes l → ∃ rs rest, Dec l rs rest := by
  intro n
  induction n with
  | zero =>
    intro l hl _
    have : l = [] := List.eq_nil_of_length_eq_zero (by omega)
    subst this
    exact ⟨[], [], rfl, by simp, .inl rfl⟩
  | succ n ih =>
    intro l hl hb
    by_cases hn : l = []
    · subst hn
      exact ⟨[], [], rfl, by simp, .inl rfl⟩
    by_cases he : (RL l).2.2 = 0
    · obtain ⟨r, m, e⟩ : ∃ r m, RL l = (r, m, 0) := ⟨(RL l).1, (RL l).2.1, by rw [← he]⟩
      obtain ⟨hr, hm, heq⟩ := RL_ok l hb hn r m e
      have hlen : 1 ≤ (putL r).length := by
        cases hp : putL r with
        | nil => exact absurd hp hr
        | cons a t => simp
      obtain ⟨rs, rest, h⟩ := ih (l.drop (putL r).length) (by rw [List.length_drop]; omega) (fun x hx => hb x (List.mem_of_mem_drop hx))
      refine ⟨r :: rs, rest, ?_⟩
      have := h.cons r hr
      rw [← heq] at this
      exact this
    · exact ⟨[], l, by simp, by simp, .inr he⟩
end Go.Proofs.Ytmbbjdkcanoklaa.Utf

/- All runes of a text: the document's answer. -/
set_option linter.unusedVariables false
set_option linter.unusedSimpArgs false
namespace Go.Proofs.Ytmbbjdkcanoklaa.Utf
open Go.RowKit Go.Proofs.YtmbbjdkcanoklaaW.PrintWords Go.Proofs.YtmbbjdkcanoklaaW.PrintLast Go.Proofs.YtmbbjdkcanoklaaW.PrintMore Go.Proofs.YtmbbjdkcanoklaaW.XConv Go.Proofs.Ytmbbjdkcanoklaa.X Go.Proofs.Ytmbbjdkcanoklaa.E
theorem putL_pos {r : Int} (h : putL r ≠ []) : 1 ≤ (putL r).length := by
  cases hp : putL r with
  | nil => exact absurd hp h
  | cons a t => simp
theorem putL_val {r : Int} (h : putL r ≠ []) : 0 ≤ r ∧ r ≤ 1114111 ∧ ¬ (55296 ≤ r ∧ r ≤ 57343) := by
  unfold putL at h
  by_cases c : r < 0 ∨ r > 1114111 ∨ (55296 ≤ r ∧ r ≤ 57343)
  · rw [if_pos c] at h; exact absurd rfl h
  · omega
/-- decoding all from a place on, whatever function tells the rune there (g), and how a rune is kept (c) -/
theorem all_loop (s : ByteArray) (hz : s.size ≤ 1000000000) (L : Nat → List Int → Int → Option (List Int × Int × Int))
    (hend : ∀ k acc (p : Nat), (s.size : Int) ≤ p → L (k + 1) acc p = some (acc, (p : Int), 0))
    (hok : ∀ acc (p n : Nat) (r : Int) (R : List Int × Int × Int), p < s.size → acc.length ≤ p → p + n ≤ s.size → putL r ≠ [] → runeAt s p = (r, (n : Int), 0) → Evn (fun k => L k (acc ++ [r]) ((p + n : Nat) : Int)) R → Evn (fun k => L k acc p) R)
    (herr : ∀ acc (p : Nat), p < s.size → (runeAt s p).2.2 ≠ 0 → Evn (fun k => L k acc p) (acc, (p : Int), (runeAt s p).2.2)) :
    ∀ (rs rest : List Int) (p : Nat) (acc : List Int), p ≤ s.size → acc.length ≤ p → Dec ((bytesOf s).drop p) rs rest → Evn (fun k => L k acc p) (acc ++ rs, ((p + (rs.flatMap putL).length : Nat) : Int), errL rest) := by
  have hl := size_bytesOf s
  intro rs
  induction rs with
  | nil =>
    intro rest p acc hp ha h
    have he := h.eq
    simp only [List.flatMap_nil, List.nil_append] at he
    simp only [List.append_nil, List.flatMap_nil, List.length_nil, Nat.add_zero]
    by_cases hps : p < s.size
    · have hne : rest ≠ [] := by
        intro hh
        rw [hh] at he
        have := congrArg List.length he
        rw [List.length_drop] at this
        simp at this
        omega
      have hr := runeAt_RL s p (by omega) (by omega)
      rw [Int.toNat_natCast, he] at hr
      have hst := h.stop.resolve_left hne
      have := herr acc p hps (by rw [hr]; exact hst)
      rw [hr] at this
      unfold errL
      rw [if_neg hne]
      exact this
    · have hne : rest = [] := by
        rw [← he]
        apply List.drop_eq_nil_of_le
        omega
      unfold errL
      rw [if_pos hne]
      exact Evn.succ (h := fun _ => some (acc, (p : Int), 0)) (fun k => hend k acc p (by omega)) (Evn.ret _)
  | cons r t ih =>
    intro rest p acc hp ha h
    have he := h.eq
    have hr := h.ok r List.mem_cons_self
    have hpos := putL_pos hr
    simp only [List.flatMap_cons, List.append_assoc] at he
    have hlen := congrArg List.length he
    rw [List.length_drop, List.length_append] at hlen
    have hR := RL_put r (t.flatMap putL ++ rest) hr
    rw [← he] at hR
    have hps : p < s.size := by omega
    have hat := runeAt_RL s p (by omega) (by omega)
    rw [Int.toNat_natCast, hR] at hat
    refine hok acc p (putL r).length r _ hps ha (by omega) hr hat ?_
    have hd : Dec ((bytesOf s).drop (p + (putL r).length)) t rest := by
      refine ⟨?_, fun x hx => h.ok x (List.mem_cons_of_mem _ hx), h.stop⟩
      rw [← List.drop_drop, he, List.drop_left]
    have := ih rest (p + (putL r).length) (acc ++ [r]) (by omega) (by simp; omega) hd
    have e1 : (acc ++ [r]) ++ t = acc ++ (r :: t) := by simp
    have e2 : p + (putL r).length + (t.flatMap putL).length = p + ((r :: t).flatMap putL).length := by simp [List.length_flatMap]; omega
    rw [e1, e2] at this
    exact this
theorem refAll_ev (s : ByteArray) (hz : s.size ≤ 1000000000) (rs rest : List Int) (h : Dec (bytesOf s) rs rest) : Evn (fun k => orielref01_All.f k s) (rs, ((rs.flatMap putL).length : Int), errL rest) := by
  have := all_loop s hz (fun k acc p => orielref01_All.l0 k s acc p) ?_ ?_ ?_ rs rest 0 [] (by omega) (by simp) (by simpa using h)
  · simpa [orielref01_All.f] using this
  · intro k acc p hp
    simp only [orielref01_All.l0]
    rw [if_neg (by omega)]
  · intro acc p n r R hp ha hn hr hat hev
    have hv := putL_val hr
    refine Evn.succ (h := fun k => (orielref01_Rune.f k s p).bind fun bt194 => (if bt194.2.2 = 0 then (if acc.length < 35184372088832 then (orielref01_All.l0 k s (acc ++ [wrap32 (bt194.1)]) (wrap64 (p + bt194.2.1))) else (none)) else (some (acc, (p : Int), bt194.2.2)))) (fun k => by simp only [orielref01_All.l0]; rw [if_pos (by omega)]) ?_
    refine Evn.bind (refRune_ev s p hz) ?_
    rw [hat]
    refine Evn.iteT rfl (Evn.iteT (by omega) ?_)
    simp only
    rw [w32 (by omega) (by omega), w64 (by omega) (by omega)]
    exact hev
  · intro acc p hp he
    refine Evn.succ (h := fun k => (orielref01_Rune.f k s p).bind fun bt194 => (if bt194.2.2 = 0 then (if acc.length < 35184372088832 then (orielref01_All.l0 k s (acc ++ [wrap32 (bt194.1)]) (wrap64 (p + bt194.2.1))) else (none)) else (some (acc, (p : Int), bt194.2.2)))) (fun k => by simp only [orielref01_All.l0]; rw [if_pos (by omega)]) ?_
    refine Evn.bind (refRune_ev s p hz) ?_
    exact Evn.iteF he (Evn.ret _)
end Go.Proofs.Ytmbbjdkcanoklaa.Utf
