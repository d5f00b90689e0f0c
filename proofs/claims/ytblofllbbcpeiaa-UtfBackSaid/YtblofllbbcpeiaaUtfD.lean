/- What the reference's cut comes to: whether bytes begin a rune. -/
import Derived.Test.YtblofllbbcpeiaaX3
import Derived.Test.YtblofllbbcpeiaaX4
import Derived.Test.YtblofllbbcpeiaaX5
import Derived.Test.YtblofllbbcpeiaaUtfC
import Derived.Test.YtblofllbbcpeiaaStr
namespace Go.Proofs.Ytblofllbbcpeiaa.Utf
open Go.RowKit Go.Proofs.YtblofllbbcpeiaaW.PrintWords Go.Proofs.YtblofllbbcpeiaaW.PrintLast Go.Proofs.YtblofllbbcpeiaaW.XConv Go.Proofs.Ytblofllbbcpeiaa.X Go.Proofs.Ytblofllbbcpeiaa.E
def pad (x : ByteArray) (c : UInt8) : Nat → ByteArray
  | 0 => x
  | t + 1 => pad (x ++ ⟨#[c]⟩) c t
theorem pad_size (c : UInt8) : ∀ (t : Nat) (x : ByteArray), (pad x c t).size = x.size + t := by
  intro t
  induction t with
  | zero => intro x; rfl
  | succ t ih =>
    intro x
    rw [pad, ih, ByteArray.size_append]
    show x.size + 1 + t = _
    omega
theorem pad_bt (c : UInt8) : ∀ (t : Nat) (x : ByteArray) (i : Int), 0 ≤ i → i < x.size + t → bt (pad x c t) i = if i < x.size then bt x i else (c.toNat : Int) := by
  intro t
  induction t with
  | zero => intro x i h0 h1; rw [pad, if_pos (by omega)]
  | succ t ih =>
    intro x i h0 h1
    have hs : (x ++ (⟨#[c]⟩ : ByteArray)).size = x.size + 1 := by rw [ByteArray.size_append]; rfl
    rw [pad, ih _ i h0 (by rw [hs]; omega), hs]
    by_cases h : i < x.size
    · rw [if_pos (by omega), if_pos h, bt_append x _ i h0, if_pos h]
    · rw [if_neg h]
      by_cases h2 : i < ((x.size + 1 : Nat) : Int)
      · rw [if_pos h2, bt_append x _ i h0, if_neg h]
        have : i - x.size = 0 := by omega
        rw [this]
        rfl
      · rw [if_neg h2]
def tailB (b : Int) : Bool := decide (128 ≤ b) && decide (b ≤ 191)
def firstB (total b0 : Int) : Bool := (total == 2 && (decide (192 ≤ b0) && decide (b0 < 224))) || (total == 3 && (decide (224 ≤ b0) && decide (b0 < 240))) || (total == 4 && (decide (240 ≤ b0) && decide (b0 < 248)))
section
variable (s : ByteArray) (p n total : Int) (x7 : ByteArray)
theorem l1_ev (r : Bool) : ∀ (t : Nat) (x8 x9 : ByteArray), (x8.size : Int) + t = total → (x9.size : Int) + t = total → total ≤ 1000 →
    Evn (fun k => (orielref01_value.f k (pad x8 128 t) 0 total).bind fun a => (orielref01_value.f k (pad x9 191 t) 0 total).bind fun b => orielref01_cut.l2 k s p n total x7 a b true 1) r →
    Evn (fun k => orielref01_cut.l1 k s p n total x7 x8 x9) r := by
  intro t
  induction t with
  | zero =>
    intro x8 x9 h8 h9 ht h
    refine Evn.succ (fun k => ?_) h
    simp only [orielref01_cut.l1]
    rw [if_neg (by omega)]
    rfl
  | succ t ih =>
    intro x8 x9 h8 h9 ht h
    have hs8 : (x8 ++ (⟨#[128]⟩ : ByteArray)).size = x8.size + 1 := by rw [ByteArray.size_append]; rfl
    have hs9 : (x9 ++ (⟨#[191]⟩ : ByteArray)).size = x9.size + 1 := by rw [ByteArray.size_append]; rfl
    refine Evn.succ (fun k => ?_) (ih (x8 ++ (⟨#[128]⟩ : ByteArray)) (x9 ++ (⟨#[191]⟩ : ByteArray)) (by rw [hs8]; omega) (by rw [hs9]; omega) ht h)
    simp only [orielref01_cut.l1]
    rw [if_pos (by omega), if_pos (by omega), if_pos (by omega)]
theorem l2_round (k : Nat) (a b : Int) (f : Bool) (i : Int) (h0 : 0 ≤ p) (hs : p + n = s.size) (hz : s.size ≤ 1000000000) (h1 : 1 ≤ i) (hi : i < n) :
    orielref01_cut.l2 (k + 1) s p n total x7 a b f i = orielref01_cut.l2 k s p n total x7 a b (f && tailB (bt s (p + i))) (i + 1) := by
  have e : wrap64 (p + i) = p + i := w64 (by omega) (by omega)
  have e2 : wrap64 (i + 1) = i + 1 := w64 (by omega) (by omega)
  simp only [orielref01_cut.l2, e, e2]
  rw [if_pos hi]
  cases f with
  | false => simp
  | true =>
    rw [if_pos rfl, if_pos (by omega), if_pos (by omega)]
    unfold tailB
    by_cases h : 128 ≤ bt s (p + i)
    · rw [if_pos h, decide_eq_true h]; simp
    · rw [if_neg h, decide_eq_false h]; simp
theorem l2_end (k : Nat) (a b : Int) (f : Bool) (i : Int) (h0 : 0 ≤ p) (hs : p < s.size) (hi : ¬ i < n) :
    orielref01_cut.l2 (k + 1) s p n total x7 a b f i = orielref01_cut.j4 k s p n total x7 a b f (firstB total (bt s p)) := by
  simp only [orielref01_cut.l2]
  rw [if_neg hi]
  unfold firstB
  by_cases t2 : total = 2
  · subst t2
    simp only [if_pos h0, if_pos hs, if_true, if_neg (show ¬ (2 : Int) = 3 by decide), if_neg (show ¬ (2 : Int) = 4 by decide)]
    repeat' split
    all_goals (congr 1; simp; try omega)
  · by_cases t3 : total = 3
    · subst t3
      simp only [if_pos h0, if_pos hs, if_true, if_neg (show ¬ (3 : Int) = 2 by decide), if_neg (show ¬ (3 : Int) = 4 by decide)]
      repeat' split
      all_goals (congr 1; simp; try omega)
    · by_cases t4 : total = 4
      · subst t4
        simp only [if_pos h0, if_pos hs, if_true, if_neg (show ¬ (4 : Int) = 2 by decide), if_neg (show ¬ (4 : Int) = 3 by decide)]
        repeat' split
        all_goals (congr 1; simp; try omega)
      · simp only [if_neg t2, if_neg t3, if_neg t4]
        congr 1
        simp [t2, t3, t4]
theorem j4_ev (a b : Int) (f g : Bool) (r : Bool) (h1 : f = true → g = true → Evn (fun k => orielref01_cut.l3 k s p n total x7 a b 0) r) (h2 : (f && g) = false → Evn (fun k => orielref01_cut.l0 k s p n (wrap64 (total + 1))) r) :
    Evn (fun k => orielref01_cut.j4 k s p n total x7 a b f g) r := by
  cases f with
  | true =>
    cases g with
    | true =>
      refine Evn.succ (h := fun k => orielref01_cut.j5 k s p n total x7 a b false) (fun k => by simp only [orielref01_cut.j4]; rfl) ?_
      exact Evn.succ (fun k => by simp only [orielref01_cut.j5]; rfl) (h1 rfl rfl)
    | false =>
      refine Evn.succ (h := fun k => orielref01_cut.j5 k s p n total x7 a b true) (fun k => by simp only [orielref01_cut.j4]; rfl) ?_
      exact Evn.succ (fun k => by simp only [orielref01_cut.j5]; rfl) (h2 rfl)
  | false =>
    refine Evn.succ (h := fun k => orielref01_cut.j5 k s p n total x7 a b true) (fun k => by simp only [orielref01_cut.j4]; rfl) ?_
    exact Evn.succ (fun k => by simp only [orielref01_cut.j5]; rfl) (h2 (by simp))
/-- the k-th sample -/
def samp (a b k : Int) : Int := if k = 63 then b else a + (b - a) / 63 * k
theorem putL_len (r : Int) : (putL r).length ≤ 4 := by
  unfold putL
  repeat' split
  all_goals simp
theorem putL_range (r : Int) : ∀ x ∈ putL r, 0 ≤ x ∧ x ≤ 255 := by
  unfold putL
  intro x hx
  repeat' split at hx
  all_goals (simp at hx; try omega)
theorem l3_step (a b : Int) (k0 : Int) (r : Bool) (ha : 0 ≤ a) (hb : a ≤ b) (hb2 : b ≤ 3000000) (hk : 0 ≤ k0) (hk2 : k0 < 64) (hz : x7.size ≤ 1000)
    (h : (((putL (samp a b k0)).length : Int) = total ∧ beg (strOfNums (putL (samp a b k0)) ++ ⟨#[120]⟩) 0 (bytesOf x7) = true ∧ r = true) ∨
      (¬ (((putL (samp a b k0)).length : Int) = total ∧ beg (strOfNums (putL (samp a b k0)) ++ ⟨#[120]⟩) 0 (bytesOf x7) = true) ∧ Evn (fun k => orielref01_cut.l3 k s p n total x7 a b (k0 + 1)) r)) :
    Evn (fun k => orielref01_cut.l3 k s p n total x7 a b k0) r := by
  have e1 : wrap64 (b - a) = b - a := w64 (by omega) (by omega)
  have e2 : Int.tdiv (b - a) 63 = (b - a) / 63 := Int.tdiv_eq_ediv_of_nonneg (by omega)
  have e3 : wrap64 ((b - a) / 63) = (b - a) / 63 := w64 (by omega) (by omega)
  have hq0 : 0 ≤ (b - a) / 63 * k0 := Int.mul_nonneg (by omega) hk
  have hq1 : (b - a) / 63 * k0 ≤ 50000 * 63 := Int.mul_le_mul (by omega) (by omega) hk (by omega)
  have e4 : wrap64 ((b - a) / 63 * k0) = (b - a) / 63 * k0 := w64 (by omega) (by omega)
  have e5 : wrap64 (a + (b - a) / 63 * k0) = a + (b - a) / 63 * k0 := w64 (by omega) (by omega)
  have e6 : wrap64 (k0 + 1) = k0 + 1 := w64 (by omega) (by omega)
  have hj : Evn (fun k => orielref01_cut.j7 k s p n total x7 a b k0 (samp a b k0)) r := by
    refine Evn.succ (h := fun k => (orielref01_Put.f k (samp a b k0)).bind fun t173 => (if (t173.length : Int) = total then (if (strOfNums t173).size + 1 ≤ 9223372036854775807 then ((convBytes.f x7).bind fun t176 => ((orielref01_begins.f k ((strOfNums t173) ++ (⟨#[120]⟩ : ByteArray)) 0 t176).bind fun t179 => (if t179 = true then (some true) else (orielref01_cut.l3 k s p n total x7 a b (k0 + 1))))) else (none)) else (orielref01_cut.l3 k s p n total x7 a b (k0 + 1)))) (fun k => by simp only [orielref01_cut.j7, e6]) ?_
    refine Evn.bind (refPut_ev _) ?_
    have hl := putL_len (samp a b k0)
    by_cases hlen : ((putL (samp a b k0)).length : Int) = total
    · refine Evn.iteT hlen (Evn.iteT (by rw [strOfNums_size]; omega) ?_)
      have hc : convBytes.f x7 = some (bytesOf x7) := by unfold convBytes.f; rw [if_pos (by omega)]
      rw [hc]
      simp only [Option.bind_some]
      refine Evn.bind (begins_ev _ 0 _ (by omega) (by omega) (by rw [ByteArray.size_append, strOfNums_size]; show _ + 1 ≤ _; omega) (by rw [bytesOf_length]; omega)) ?_
      rcases h with ⟨h1, h2, h3⟩ | ⟨h1, h2⟩
      · rw [h2, h3]; exact Evn.iteT rfl (Evn.ret _)
      · have : beg (strOfNums (putL (samp a b k0)) ++ ⟨#[120]⟩) 0 (bytesOf x7) = false := by
          cases hbb : beg (strOfNums (putL (samp a b k0)) ++ ⟨#[120]⟩) 0 (bytesOf x7) with
          | true => exact absurd ⟨hlen, hbb⟩ h1
          | false => rfl
        rw [this]
        exact Evn.iteF (by decide) h2
    · refine Evn.iteF hlen ?_
      rcases h with ⟨h1, _⟩ | ⟨_, h2⟩
      · exact absurd h1 hlen
      · exact h2
  refine Evn.succ (h := fun k => orielref01_cut.j7 k s p n total x7 a b k0 (samp a b k0)) (fun k => ?_) hj
  simp only [orielref01_cut.l3, e1, e2, e3, e4, e5]
  rw [if_pos hk2]
  unfold samp
  by_cases h63 : k0 = 63
  · rw [if_pos h63, if_pos h63]
  · rw [if_neg h63, if_neg h63]
theorem l3_end (a b : Int) (r : Bool) (h : Evn (fun k => orielref01_cut.l0 k s p n (wrap64 (total + 1))) r) : Evn (fun k => orielref01_cut.l3 k s p n total x7 a b 64) r :=
  Evn.succ (fun k => by simp only [orielref01_cut.l3]; rw [if_neg (by decide)]) h
theorem l3_none (a b : Int) (r : Bool) (ha : 0 ≤ a) (hb : a ≤ b) (hb2 : b ≤ 3000000) (hz : x7.size ≤ 1000)
    (hno : ∀ k : Int, 0 ≤ k → k < 64 → ¬ ((putL (samp a b k)).length : Int) = total) (h : Evn (fun k => orielref01_cut.l0 k s p n (wrap64 (total + 1))) r) : Evn (fun k => orielref01_cut.l3 k s p n total x7 a b 0) r := by
  have go : ∀ (d : Nat) (k0 : Int), k0 + d = 64 → 0 ≤ k0 → Evn (fun k => orielref01_cut.l3 k s p n total x7 a b k0) r := by
    intro d
    induction d with
    | zero => intro k0 h1 h2; obtain rfl : k0 = 64 := by omega
              exact l3_end s p n total x7 a b r h
    | succ d ih =>
      intro k0 h1 h2
      exact l3_step s p n total x7 a b k0 r ha hb hb2 h2 (by omega) hz (.inr ⟨fun hh => hno k0 h2 (by omega) hh.1, ih (k0 + 1) (by omega) (by omega)⟩)
  exact go 64 0 (by omega) (by omega)
theorem l3_some (a b : Int) (ha : 0 ≤ a) (hb : a ≤ b) (hb2 : b ≤ 3000000) (hz : x7.size ≤ 1000) (k1 : Int) (hk1 : 0 ≤ k1) (hk2 : k1 < 64)
    (hit : ((putL (samp a b k1)).length : Int) = total ∧ beg (strOfNums (putL (samp a b k1)) ++ ⟨#[120]⟩) 0 (bytesOf x7) = true) : Evn (fun k => orielref01_cut.l3 k s p n total x7 a b 0) true := by
  have go : ∀ (d : Nat) (k0 : Int), k0 + d = k1 → 0 ≤ k0 → Evn (fun k => orielref01_cut.l3 k s p n total x7 a b k0) true := by
    intro d
    induction d with
    | zero => intro k0 h1 h2; obtain rfl : k0 = k1 := by omega
              exact l3_step s p n total x7 a b k0 true ha hb hb2 h2 hk2 hz (.inl ⟨hit.1, hit.2, rfl⟩)
    | succ d ih =>
      intro k0 h1 h2
      refine l3_step s p n total x7 a b k0 true ha hb hb2 h2 (by omega) hz ?_
      by_cases hh : ((putL (samp a b k0)).length : Int) = total ∧ beg (strOfNums (putL (samp a b k0)) ++ ⟨#[120]⟩) 0 (bytesOf x7) = true
      · exact .inl ⟨hh.1, hh.2, rfl⟩
      · exact .inr ⟨hh, ih (k0 + 1) (by omega) (by omega)⟩
  exact go k1.toNat 0 (by omega) (by omega)
end
/-- whether bytes begin a rune: b0, b1, b2 stand there; n: how many there are -/
def cutS (b0 b1 b2 n : Int) : Bool :=
  if n = 1 then decide (194 ≤ b0 ∧ b0 < 245)
  else if n = 2 then decide ((128 ≤ b1 ∧ b1 < 192) ∧ ((224 ≤ b0 ∧ b0 < 240 ∧ ¬ (b0 = 224 ∧ b1 < 160) ∧ ¬ (b0 = 237 ∧ 160 ≤ b1)) ∨ (240 ≤ b0 ∧ b0 < 245 ∧ ¬ (b0 = 240 ∧ b1 < 144) ∧ ¬ (b0 = 244 ∧ 144 ≤ b1))))
  else if n = 3 then decide ((128 ≤ b1 ∧ b1 < 192) ∧ (128 ≤ b2 ∧ b2 < 192) ∧ (240 ≤ b0 ∧ b0 < 245 ∧ ¬ (b0 = 240 ∧ b1 < 144) ∧ ¬ (b0 = 244 ∧ 144 ≤ b1)))
  else false
def tailsB (b1 b2 n : Int) : Bool := if n = 1 then true else if n = 2 then tailB b1 else tailB b1 && tailB b2
/-- a byte of the text that is filled up -/
def xb (s : ByteArray) (p n : Int) (c i : Int) : Int := if i < n then bt s (p + i) else c
theorem l0_stop (s : ByteArray) (p n : Int) : Evn (fun k => orielref01_cut.l0 k s p n 5) false :=
  Evn.succ (h := fun _ => some false) (fun k => by simp only [orielref01_cut.l0]; rw [if_neg (by decide)]) (Evn.ret _)
section
variable (s : ByteArray) (p n : Int) (h0 : 0 ≤ p) (hs : p + n = s.size) (hz : s.size ≤ 1000000000) (hn1 : 1 ≤ n) (hn3 : n ≤ 3)
include h0 hs hz hn1 hn3
theorem full_size : ((s.extract p.toNat s.size).size : Int) = n := by
  have _u := hz
  rw [ByteArray.size_extract]; omega
theorem full_bt (i : Int) (hi : 0 ≤ i) (hi2 : i < n) : bt (s.extract p.toNat s.size) i = bt s (p + i) := by
  have _u := And.intro hz (And.intro hn1 hn3)
  rw [bt_extract _ _ _ _ hi (by omega)]
  congr 1
  omega
theorem pad_xb (c : UInt8) (t : Nat) (i : Int) (hi : 0 ≤ i) (hi2 : i < n + t) : bt (pad (s.extract p.toNat s.size) c t) i = xb s p n c.toNat i := by
  have hf := full_size s p n h0 hs hz hn1 hn3
  rw [pad_bt _ _ _ _ hi (by omega), hf]
  unfold xb
  split
  · rw [full_bt s p n h0 hs hz hn1 hn3 i hi (by omega)]
  · rfl
theorem pad_len (c : UInt8) (t : Nat) (total : Int) (ht : n + t = total) : ((pad (s.extract p.toNat s.size) c t).size : Int) = total := by
  have hf := full_size s p n h0 hs hz hn1 hn3
  rw [pad_size]; omega
theorem low2 (c : UInt8) (t : Nat) (ht : n + t = 2) : Evn (fun k => orielref01_value.f k (pad (s.extract p.toNat s.size) c t) 0 2) ((xb s p n c.toNat 0 - 192) * 64 + (xb s p n c.toNat 1 - 128)) := by
  have hl := pad_len s p n h0 hs hz hn1 hn3 c t 2 ht
  have := value2 (pad (s.extract p.toNat s.size) c t) 0 (by omega) (by omega) (by omega)
  rw [pad_xb s p n h0 hs hz hn1 hn3 c t 0 (by omega) (by omega), Int.zero_add, pad_xb s p n h0 hs hz hn1 hn3 c t 1 (by omega) (by omega)] at this
  exact this
theorem low3 (c : UInt8) (t : Nat) (ht : n + t = 3) : Evn (fun k => orielref01_value.f k (pad (s.extract p.toNat s.size) c t) 0 3) (((xb s p n c.toNat 0 - 224) * 64 + (xb s p n c.toNat 1 - 128)) * 64 + (xb s p n c.toNat 2 - 128)) := by
  have hl := pad_len s p n h0 hs hz hn1 hn3 c t 3 ht
  have := value3 (pad (s.extract p.toNat s.size) c t) 0 (by omega) (by omega) (by omega)
  rw [pad_xb s p n h0 hs hz hn1 hn3 c t 0 (by omega) (by omega), Int.zero_add, pad_xb s p n h0 hs hz hn1 hn3 c t 1 (by omega) (by omega), Int.zero_add, pad_xb s p n h0 hs hz hn1 hn3 c t 2 (by omega) (by omega)] at this
  exact this
theorem low4 (c : UInt8) (t : Nat) (ht : n + t = 4) : Evn (fun k => orielref01_value.f k (pad (s.extract p.toNat s.size) c t) 0 4) ((((xb s p n c.toNat 0 - 240) * 64 + (xb s p n c.toNat 1 - 128)) * 64 + (xb s p n c.toNat 2 - 128)) * 64 + (xb s p n c.toNat 3 - 128)) := by
  have hl := pad_len s p n h0 hs hz hn1 hn3 c t 4 ht
  have := value4 (pad (s.extract p.toNat s.size) c t) 0 (by omega) (by omega) (by omega)
  rw [pad_xb s p n h0 hs hz hn1 hn3 c t 0 (by omega) (by omega), Int.zero_add, pad_xb s p n h0 hs hz hn1 hn3 c t 1 (by omega) (by omega), Int.zero_add, pad_xb s p n h0 hs hz hn1 hn3 c t 2 (by omega) (by omega), Int.zero_add, pad_xb s p n h0 hs hz hn1 hn3 c t 3 (by omega) (by omega)] at this
  exact this
theorem l0_step (total a b : Int) (t : Nat) (ht : n + t = total) (ht4 : total ≤ 4)
    (ha : Evn (fun k => orielref01_value.f k (pad (s.extract p.toNat s.size) 128 t) 0 total) a) (hb : Evn (fun k => orielref01_value.f k (pad (s.extract p.toNat s.size) 191 t) 0 total) b) (r : Bool)
    (h1 : tailsB (bt s (p + 1)) (bt s (p + 2)) n = true → firstB total (bt s p) = true → Evn (fun k => orielref01_cut.l3 k s p n total (s.extract p.toNat s.size) a b 0) r)
    (h2 : (tailsB (bt s (p + 1)) (bt s (p + 2)) n && firstB total (bt s p)) = false → Evn (fun k => orielref01_cut.l0 k s p n (wrap64 (total + 1))) r) :
    Evn (fun k => orielref01_cut.l0 k s p n total) r := by
  have hf := full_size s p n h0 hs hz hn1 hn3
  refine Evn.succ (h := fun k => orielref01_cut.l1 k s p n total (s.extract p.toNat s.size) (s.extract p.toNat s.size) (s.extract p.toNat s.size)) (fun k => ?_) ?_
  · simp only [orielref01_cut.l0]
    rw [if_pos ht4, if_pos h0, if_pos (by omega)]
  refine l1_ev s p n total _ r t _ _ (by omega) (by omega) (by omega) ?_
  refine Evn.bind ha (Evn.bind hb ?_)
  have hj := j4_ev s p n total (s.extract p.toNat s.size) a b _ _ r h1 h2
  by_cases c1 : n = 1
  · refine Evn.succ (fun k => l2_end s p n total _ k a b true 1 h0 (by omega) (by omega)) ?_
    have : tailsB (bt s (p + 1)) (bt s (p + 2)) n = true := by unfold tailsB; rw [if_pos c1]
    rw [this] at hj
    exact hj
  refine Evn.succ (fun k => l2_round s p n total _ k a b true 1 h0 hs hz (by omega) (by omega)) ?_
  by_cases c2 : n = 2
  · refine Evn.succ (fun k => l2_end s p n total _ k a b _ _ h0 (by omega) (by omega)) ?_
    have : tailsB (bt s (p + 1)) (bt s (p + 2)) n = (true && tailB (bt s (p + 1))) := by unfold tailsB; rw [if_neg c1, if_pos c2]; simp
    rw [this] at hj
    exact hj
  refine Evn.succ (fun k => l2_round s p n total _ k a b _ (1 + 1) h0 hs hz (by omega) (by omega)) ?_
  refine Evn.succ (fun k => l2_end s p n total _ k a b _ _ h0 (by omega) (by omega)) ?_
  have : tailsB (bt s (p + 1)) (bt s (p + 2)) n = ((true && tailB (bt s (p + 1))) && tailB (bt s (p + (1 + 1)))) := by
    unfold tailsB; rw [if_neg c1, if_neg c2]; simp
  rw [this] at hj
  exact hj
theorem hit_beg (r total : Int) (hl : ((putL r).length : Int) = total) (hnt : n < total) (h : ∀ i : Nat, (i : Int) < n → (putL r).getD i 0 = bt s (p + i)) :
    beg (strOfNums (putL r) ++ ⟨#[120]⟩) 0 (bytesOf (s.extract p.toNat s.size)) = true := by
  have hf := full_size s p n h0 hs hz hn1 hn3
  have hfl := size_bytesOf (s.extract p.toNat s.size)
  have hsz : (strOfNums (putL r) ++ (⟨#[120]⟩ : ByteArray)).size = (putL r).length + 1 := by rw [ByteArray.size_append, strOfNums_size]; rfl
  unfold beg
  have c1 : bytesOf (s.extract p.toNat s.size) ≠ [] := by
    intro hh
    rw [hh] at hfl
    simp at hfl
    omega
  rw [decide_eq_true c1, decide_eq_true (by rw [hsz]; omega)]
  simp only [Bool.true_and, List.all_eq_true, List.mem_range, beq_iff_eq]
  intro i hi
  rw [← bt_nat, full_bt s p n h0 hs hz hn1 hn3 i (by omega) (by omega), ← h i (by omega), Int.zero_add, bt_append _ _ _ (by omega), strOfNums_size, if_pos (by omega), bt_nat, bytesOf_nums _ (putL_range r)]
end
end Go.Proofs.Ytblofllbbcpeiaa.Utf
