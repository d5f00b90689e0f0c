/- What the reference's functions on runes come to (orielref01: Put, begins, value). -/
import Derived.Test.YtblofllbbcpeiaaX3
import Derived.Test.YtblofllbbcpeiaaX4
import Derived.Test.YtblofllbbcpeiaaEv
import Derived.Test.YtblofllbbcpeiaaUtfB
namespace Go.Proofs.Ytblofllbbcpeiaa.Utf
open Go.RowKit Go.Proofs.YtblofllbbcpeiaaW.PrintWords Go.Proofs.YtblofllbbcpeiaaW.PrintLast Go.Proofs.Ytblofllbbcpeiaa.X Go.Proofs.Ytblofllbbcpeiaa.E
def putL (r : Int) : List Int :=
  if r < 0 ∨ r > 1114111 ∨ (55296 ≤ r ∧ r ≤ 57343) then [] else if r < 128 then [r] else if r < 2048 then [192 + r / 64, 128 + r % 64]
  else if r < 65536 then [224 + r / 4096, 128 + r / 64 % 64, 128 + r % 64] else [240 + r / 262144, 128 + r / 4096 % 64, 128 + r / 64 % 64, 128 + r % 64]
theorem refPut_ev (r : Int) : Evn (fun k => orielref01_Put.f k r) (putL r) := by
  refine ⟨1, fun k hk => ?_⟩
  obtain ⟨m, rfl⟩ : ∃ m, k = m + 1 := ⟨k - 1, by omega⟩
  show orielref01_Put.f (m + 1) r = _
  unfold orielref01_Put.f putL
  by_cases h0 : r < 0
  · rw [if_pos h0, if_pos (Or.inl h0)]; simp [orielref01_Put.j0]
  rw [if_neg h0]
  by_cases h1 : r > 1114111
  · rw [if_pos h1, if_pos (Or.inr (Or.inl h1))]; simp [orielref01_Put.j0]
  rw [if_neg h1]
  have e1 : Int.tdiv r 64 = r / 64 := Int.tdiv_eq_ediv_of_nonneg (by omega)
  have e2 : Int.tdiv r 4096 = r / 4096 := Int.tdiv_eq_ediv_of_nonneg (by omega)
  have e3 : Int.tdiv r 262144 = r / 262144 := Int.tdiv_eq_ediv_of_nonneg (by omega)
  have e4 : Int.tmod r 64 = r % 64 := Int.tmod_eq_emod_of_nonneg (by omega)
  have w1 : wrap64 (r / 64) = r / 64 := w64 (by omega) (by omega)
  have w2 : wrap64 (r / 4096) = r / 4096 := w64 (by omega) (by omega)
  have w3 : wrap64 (r / 262144) = r / 262144 := w64 (by omega) (by omega)
  have e5 : Int.tmod (r / 64) 64 = r / 64 % 64 := Int.tmod_eq_emod_of_nonneg (by omega)
  have e6 : Int.tmod (r / 4096) 64 = r / 4096 % 64 := Int.tmod_eq_emod_of_nonneg (by omega)
  by_cases h2 : r ≥ 55296
  · rw [if_pos h2]
    by_cases h3 : r ≤ 57343
    · rw [if_pos (Or.inr (Or.inr ⟨h2, h3⟩)), decide_eq_true h3]; simp [orielref01_Put.j0]
    · rw [if_neg (by omega), decide_eq_false h3]
      simp only [orielref01_Put.j0, if_neg (show ¬ (false = true) by decide), e1, e2, e3, e4, w1, w2, w3, e5, e6]
      rw [if_neg (by omega), if_neg (by omega), if_neg (show ¬ r < 128 by omega), if_neg (show ¬ r < 2048 by omega)]
      split
      · congr 2
        · rw [w64 (by omega) (by omega)]; omega
        congr 1
        · rw [w64 (by omega) (by omega)]; omega
        congr 1
        · rw [w64 (by omega) (by omega)]; omega
      · congr 2
        · rw [w64 (by omega) (by omega)]; omega
        congr 1
        · rw [w64 (by omega) (by omega)]; omega
        congr 1
        · rw [w64 (by omega) (by omega)]; omega
        congr 1
        · rw [w64 (by omega) (by omega)]; omega
  · rw [if_neg h2, if_neg (by omega)]
    simp only [orielref01_Put.j0, if_neg (show ¬ (false = true) by decide), e1, e2, e3, e4, w1, w2, w3, e5, e6]
    by_cases h3 : r < 128
    · rw [if_pos h3, if_pos h3]
      congr 2; omega
    rw [if_neg h3, if_neg h3]
    by_cases h4 : r < 2048
    · rw [if_pos h4, if_pos h4]
      congr 2
      · rw [w64 (by omega) (by omega)]; omega
      congr 1
      · rw [w64 (by omega) (by omega)]; omega
    rw [if_neg h4, if_neg h4, if_pos (by omega), if_pos (by omega)]
    congr 2
    · rw [w64 (by omega) (by omega)]; omega
    congr 1
    · rw [w64 (by omega) (by omega)]; omega
    congr 1
    · rw [w64 (by omega) (by omega)]; omega
/-- do these bytes stand there? -/
def beg (s : ByteArray) (p : Int) (l : List Int) : Bool := decide (l ≠ []) && decide (p + l.length ≤ s.size) && (List.range l.length).all fun i => bt s (p + i) == l.getD i 0
theorem begins_ev (s : ByteArray) (p : Int) (l : List Int) (h0 : 0 ≤ p) (hp : p ≤ 1000000000) (hs : s.size ≤ 1000000000) (hl : l.length ≤ 1000000) : Evn (fun k => orielref01_begins.f k s p l) (beg s p l) := by
  have loop : ∀ (d i : Nat), i + d = l.length → p + l.length ≤ s.size → ∀ k, d < k → orielref01_begins.l0 k s p l i = some ((List.range' i d).all fun i => bt s (p + i) == l.getD i 0) := by
    intro d
    induction d with
    | zero =>
      intro i hi hf k hk
      obtain ⟨k, rfl⟩ : ∃ m, k = m + 1 := ⟨k - 1, by omega⟩
      simp only [orielref01_begins.l0]
      rw [if_neg (by omega)]
      simp
    | succ d ih =>
      intro i hi hf k hk
      obtain ⟨k, rfl⟩ : ∃ m, k = m + 1 := ⟨k - 1, by omega⟩
      simp only [orielref01_begins.l0]
      have e : wrap64 (p + (i : Int)) = p + i := w64 (by omega) (by omega)
      have e' : wrap64 ((i : Int) + 1) = ((i + 1 : Nat) : Int) := by rw [w64 (by omega) (by omega)]; omega
      rw [if_pos (by omega), e, if_pos (by omega), if_pos (by omega), if_pos (by omega), e']
      have er : rd l (i : Int) = l.getD i 0 := by simp [rd]
      rw [er]
      split
      · rename_i h
        rw [ih (i + 1) (by omega) hf k (by omega), List.range'_succ]
        simp [h]
      · rename_i h
        rw [List.range'_succ]
        simp only [List.all_cons, beq_eq_false_iff_ne.mpr h, Bool.false_and]
  refine ⟨l.length + 5, fun k hk => ?_⟩
  show orielref01_begins.f k s p l = _
  unfold orielref01_begins.f beg
  obtain ⟨k, rfl⟩ : ∃ m, k = m + 1 := ⟨k - 1, by omega⟩
  by_cases hn : l = []
  · subst hn
    simp [orielref01_begins.j0]
  · have hn' : l.length ≠ 0 := by simpa using hn
    rw [if_neg (by omega), w64 (by omega) (by omega)]
    by_cases hf : p + l.length ≤ s.size
    · rw [decide_eq_false (by omega)]
      simp only [orielref01_begins.j0, if_neg (show ¬ (false = true) by decide)]
      have := loop l.length 0 (by omega) hf k (by omega)
      simp only [Int.natCast_zero] at this
      rw [this, decide_eq_true hn, decide_eq_true hf]
      simp [List.range_eq_range']
    · rw [decide_eq_true (by omega), decide_eq_false hf]
      simp [orielref01_begins.j0]
def bs (n : Int) : Int := if n = 2 then 192 else if n = 3 then 224 else 240
theorem val_round (k : Nat) (s : ByteArray) (p n v i : Int) (h0 : 0 ≤ p) (hp : p ≤ 1000000000) (hn : n = 2 ∨ n = 3 ∨ n = 4) (hi0 : 0 ≤ i) (hi : i < n) (hs : p + i < s.size) (hv : -100000000 ≤ v) (hv2 : v ≤ 100000000) :
    orielref01_value.l0 (k + 6) s p n v i = orielref01_value.l0 k s p n (v * 64 + (bt s (p + i) - (if i = 0 then bs n else 128))) (i + 1) := by
  have hb := bt_range s (p + i)
  have e : wrap64 (p + i) = p + i := w64 (by omega) (by omega)
  have e1 : wrap64 (bt s (p + i)) = bt s (p + i) := w64 (by omega) (by omega)
  have e2 : wrap64 (i + 1) = i + 1 := w64 (by omega) (by omega)
  have e3 : wrap64 (v * 64) = v * 64 := w64 (by omega) (by omega)
  have f : ∀ c : Int, 0 ≤ c → c ≤ 1000 → wrap64 (bt s (p + i) - c) = bt s (p + i) - c := fun c _ _ => w64 (by omega) (by omega)
  have g : ∀ c : Int, 0 ≤ c → c ≤ 1000 → wrap64 (v * 64 + (bt s (p + i) - c)) = v * 64 + (bt s (p + i) - c) := fun c _ _ => w64 (by omega) (by omega)
  rw [show k + 6 = (k + 5) + 1 from rfl]
  simp only [orielref01_value.l0, e, e1]
  rw [if_pos hi, if_pos (by omega), if_pos hs]
  by_cases hz : i = 0
  · rw [if_pos hz, if_pos hz]
    rw [show k + 5 = (k + 4) + 1 from rfl]
    simp only [orielref01_value.j1]
    rcases hn with rfl | rfl | rfl
    · rw [if_pos (by decide), f 192 (by omega) (by omega)]
      simp only [orielref01_value.j2]
      rw [if_pos hz]
      simp only [orielref01_value.j3]
      rw [if_neg (by decide)]
      simp only [orielref01_value.j4]
      rw [if_pos hz]
      simp only [orielref01_value.j5]
      rw [if_neg (by decide), if_neg (by omega), e3, e2, g 192 (by omega) (by omega)]
      rfl
    · rw [if_neg (by decide)]
      simp only [orielref01_value.j2]
      rw [if_pos hz]
      simp only [orielref01_value.j3]
      rw [if_pos (by decide), f 224 (by omega) (by omega)]
      simp only [orielref01_value.j4]
      rw [if_pos hz]
      simp only [orielref01_value.j5]
      rw [if_neg (by decide), if_neg (by omega), e3, e2, g 224 (by omega) (by omega)]
      rfl
    · rw [if_neg (by decide)]
      simp only [orielref01_value.j2]
      rw [if_pos hz]
      simp only [orielref01_value.j3]
      rw [if_neg (by decide)]
      simp only [orielref01_value.j4]
      rw [if_pos hz]
      simp only [orielref01_value.j5]
      rw [if_pos (by decide), if_neg (by omega), f 240 (by omega) (by omega), e3, e2, g 240 (by omega) (by omega)]
      rfl
  · rw [if_neg hz, if_neg hz]
    rw [show k + 5 = (k + 4) + 1 from rfl]
    simp only [orielref01_value.j1]
    rw [if_neg (by decide)]
    simp only [orielref01_value.j2]
    rw [if_neg hz]
    simp only [orielref01_value.j3]
    rw [if_neg (by decide)]
    simp only [orielref01_value.j4]
    rw [if_neg hz]
    simp only [orielref01_value.j5]
    rw [if_neg (by decide), if_pos (by omega), f 128 (by omega) (by omega), e3, e2, g 128 (by omega) (by omega)]
theorem val_end (k : Nat) (s : ByteArray) (p n v i : Int) (h : n ≤ i) : orielref01_value.l0 (k + 1) s p n v i = some v := by
  simp only [orielref01_value.l0]
  rw [if_neg (by omega)]
theorem value2 (s : ByteArray) (p : Int) (h0 : 0 ≤ p) (hp : p ≤ 1000000000) (hs : p + 2 ≤ s.size) : Evn (fun k => orielref01_value.f k s p 2) ((bt s p - 192) * 64 + (bt s (p + 1) - 128)) := by
  have b0 := bt_range s p
  refine ⟨13, fun k hk => ?_⟩
  obtain ⟨k, rfl⟩ : ∃ m, k = m + 1 + 6 + 6 := ⟨k - 13, by omega⟩
  show orielref01_value.f _ _ _ _ = _
  unfold orielref01_value.f
  rw [val_round _ s p 2 0 0 h0 hp (by omega) (by omega) (by omega) (by omega) (by omega) (by omega)]
  simp only [Int.add_zero, if_true, Int.zero_mul, Int.zero_add, bs]
  rw [val_round _ s p 2 _ 1 h0 hp (by omega) (by omega) (by omega) (by omega) (by omega) (by omega), val_end _ _ _ _ _ _ (by omega)]
  simp
theorem value3 (s : ByteArray) (p : Int) (h0 : 0 ≤ p) (hp : p ≤ 1000000000) (hs : p + 3 ≤ s.size) : Evn (fun k => orielref01_value.f k s p 3) (((bt s p - 224) * 64 + (bt s (p + 1) - 128)) * 64 + (bt s (p + 2) - 128)) := by
  have b0 := bt_range s p
  have b1 := bt_range s (p + 1)
  refine ⟨19, fun k hk => ?_⟩
  obtain ⟨k, rfl⟩ : ∃ m, k = m + 1 + 6 + 6 + 6 := ⟨k - 19, by omega⟩
  show orielref01_value.f _ _ _ _ = _
  unfold orielref01_value.f
  rw [val_round _ s p 3 0 0 h0 hp (by omega) (by omega) (by omega) (by omega) (by omega) (by omega)]
  simp only [Int.add_zero, if_true, Int.zero_mul, Int.zero_add, bs]
  rw [val_round _ s p 3 _ 1 h0 hp (by omega) (by omega) (by omega) (by omega) (by simp; omega) (by simp; omega)]
  rw [val_round _ s p 3 _ (1 + 1) h0 hp (by omega) (by omega) (by omega) (by omega) (by simp; omega) (by simp; omega), val_end _ _ _ _ _ _ (by omega)]
  simp
theorem value4 (s : ByteArray) (p : Int) (h0 : 0 ≤ p) (hp : p ≤ 1000000000) (hs : p + 4 ≤ s.size) : Evn (fun k => orielref01_value.f k s p 4) ((((bt s p - 240) * 64 + (bt s (p + 1) - 128)) * 64 + (bt s (p + 2) - 128)) * 64 + (bt s (p + 3) - 128)) := by
  have b0 := bt_range s p
  have b1 := bt_range s (p + 1)
  have b2 := bt_range s (p + 2)
  refine ⟨25, fun k hk => ?_⟩
  obtain ⟨k, rfl⟩ : ∃ m, k = m + 1 + 6 + 6 + 6 + 6 := ⟨k - 25, by omega⟩
  show orielref01_value.f _ _ _ _ = _
  unfold orielref01_value.f
  rw [val_round _ s p 4 0 0 h0 hp (by omega) (by omega) (by omega) (by omega) (by omega) (by omega)]
  simp only [Int.add_zero, if_true, Int.zero_mul, Int.zero_add, bs]
  rw [val_round _ s p 4 _ 1 h0 hp (by omega) (by omega) (by omega) (by omega) (by simp; omega) (by simp; omega)]
  rw [val_round _ s p 4 _ (1 + 1) h0 hp (by omega) (by omega) (by omega) (by omega) (by simp; omega) (by simp; omega)]
  rw [val_round _ s p 4 _ (1 + 1 + 1) h0 hp (by omega) (by omega) (by omega) (by omega) (by simp; omega) (by simp; omega), val_end _ _ _ _ _ _ (by omega)]
  simp
end Go.Proofs.Ytblofllbbcpeiaa.Utf
