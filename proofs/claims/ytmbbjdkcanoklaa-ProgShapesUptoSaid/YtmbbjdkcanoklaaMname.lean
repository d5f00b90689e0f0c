import Derived.Test.YtmbbjdkcanoklaaIter
import Derived.Test.YtmbbjdkcanoklaaConv
import Derived.Test.YtmbbjdkcanoklaaStr
import Derived.Lib.RuneCountTail
import Derived.Test.YtmbbjdkcanoklaaX12
import Derived.Test.YtmbbjdkcanoklaaX13
/- How a text falls into runes: cut short, with more behind it, at an ASCII byte. -/
set_option linter.unusedVariables false
set_option linter.unusedSimpArgs false
namespace Go.Proofs.Ytmbbjdkcanoklaa.Nm
open Go.RowKit Go.Proofs.YtmbbjdkcanoklaaW.PrintWords Go.Proofs.YtmbbjdkcanoklaaW.XConv Go.Proofs.Ytmbbjdkcanoklaa.E
/-- byte i, 0 behind the end -/
def by_ (s : ByteArray) (i : Nat) : Nat := (s.get! i).toNat
theorem by_lt (s : ByteArray) (i : Nat) : by_ s i < 256 := UInt8.toNat_lt _
theorem by_bt (s : ByteArray) (i : Nat) : bt s i = by_ s i := by
  rw [bt_nat]
  unfold bytesOf by_
  rw [← Lib.getD_get!']
  simp only [List.getD_eq_getElem?_getD, List.getElem?_map]
  cases s.data.toList[i]? <;> rfl
theorem by_out (s : ByteArray) (i : Nat) (h : s.size ≤ i) : by_ s i = 0 := by
  have := by_bt s i
  rw [bt_out s i (by omega)] at this
  omega
theorem by_append (x y : ByteArray) (i : Nat) : by_ (x ++ y) i = if i < x.size then by_ x i else by_ y (i - x.size) := by
  have h := bt_append x y i (by omega)
  rw [by_bt] at h
  by_cases c : i < x.size
  · rw [if_pos (by omega), by_bt] at h
    rw [if_pos c]; omega
  · rw [if_neg (by omega), show (i : Int) - x.size = ((i - x.size : Nat) : Int) by omega, by_bt] at h
    rw [if_neg c]; omega
theorem by_extract (s : ByteArray) (a b i : Nat) (h : a + i < b) : by_ (s.extract a b) i = by_ s (a + i) := by
  have h := bt_extract s a b i (by omega) (by omega)
  rw [by_bt, show (a : Int) + i = ((a + i : Nat) : Int) by omega, by_bt] at h
  omega
/-- the rune at a place, and how long it is -/
def ru (s : ByteArray) (p : Nat) : Int := ((Utf8.decode s p).1 : Int)
def wd (s : ByteArray) (p : Nat) : Nat := (Utf8.decode s p).2
theorem dec_at (s : ByteArray) (p : Nat) : Utf8.decode s p = Lib.decodeN (s.size - p) (by_ s p) (by_ s (p + 1)) (by_ s (p + 2)) (by_ s (p + 3)) := Lib.decode_at s p
theorem wd_pos {s : ByteArray} {p : Nat} (h : p < s.size) : 1 ≤ wd s p := decode_pos s p h
theorem wd_fits {s : ByteArray} {p : Nat} (h : p < s.size) : p + wd s p ≤ s.size := decode_fits s p h
theorem decN_range (n b0 b1 b2 b3 : Nat) : (Lib.decodeN n b0 b1 b2 b3).1 < 55296 ∨ (57343 < (Lib.decodeN n b0 b1 b2 b3).1 ∧ (Lib.decodeN n b0 b1 b2 b3).1 ≤ 1114111) := by
  unfold Lib.decodeN
  repeat' split
  all_goals (simp only; omega)
theorem ru_range (s : ByteArray) (p : Nat) : 0 ≤ ru s p ∧ ru s p ≤ 1114111 := by
  have := decN_range (s.size - p) (by_ s p) (by_ s (p + 1)) (by_ s (p + 2)) (by_ s (p + 3))
  rw [← dec_at] at this
  unfold ru
  omega
set_option maxHeartbeats 4000000 in
theorem decN_trunc (n n' b0 b1 b2 b3 c1 c2 c3 : Nat) (h1 : 1 ≤ n') (hn : n' ≤ n) (hw : (Lib.decodeN n b0 b1 b2 b3).2 ≤ n') (e1 : 1 < n' → c1 = b1) (e2 : 2 < n' → c2 = b2) (e3 : 3 < n' → c3 = b3) : Lib.decodeN n' b0 c1 c2 c3 = Lib.decodeN n b0 b1 b2 b3 := by
  by_cases k3 : 3 < n'
  · rw [e1 (by omega), e2 (by omega), e3 k3]
    unfold Lib.decodeN
    simp only [show 1 < n' by omega, show 2 < n' by omega, show 3 < n' by omega, show 1 < n by omega, show 2 < n by omega, show 3 < n by omega, true_and]
  by_cases k2 : 2 < n'
  · rw [e1 (by omega), e2 (by omega)]
    obtain rfl : n' = 3 := by omega
    revert hw
    unfold Lib.decodeN
    simp only [show (1 < 3) = True by simp, show (2 < 3) = True by simp, show (3 < 3) = False by simp, show 1 < n by omega, show 2 < n by omega, true_and, false_and, and_false, if_false]
    repeat' split
    all_goals first | (intro; rfl) | (intro hw; exfalso; simp at hw; done) | (intro hw; exfalso; omega)
  by_cases k1 : 1 < n'
  · rw [e1 (by omega)]
    obtain rfl : n' = 2 := by omega
    revert hw
    unfold Lib.decodeN
    simp only [show (1 < 2) = True by simp, show (2 < 2) = False by simp, show (3 < 2) = False by simp, show 1 < n by omega, true_and, false_and, and_false, if_false]
    repeat' split
    all_goals first | (intro; rfl) | (intro hw; exfalso; simp at hw; done) | (intro hw; exfalso; omega)
  · obtain rfl : n' = 1 := by omega
    revert hw
    unfold Lib.decodeN
    simp only [show (1 < 1) = False by simp, show (2 < 1) = False by simp, show (3 < 1) = False by simp, false_and, and_false, if_false]
    repeat' split
    all_goals first | (intro; rfl) | (intro hw; exfalso; simp at hw; done) | (intro hw; exfalso; omega)
/-- more behind it, of which the first byte goes on no rune, turns nothing -/
theorem decN_more (n n' b0 b1 b2 b3 c1 c2 c3 : Nat) (h1 : 1 ≤ n) (hn : n ≤ n') (e1 : 1 < n → c1 = b1) (e2 : 2 < n → c2 = b2) (e3 : 3 < n → c3 = b3) (a1 : n = 1 → c1 < 128) (a2 : n = 2 → c2 < 128) (a3 : n = 3 → c3 < 128) : Lib.decodeN n' b0 c1 c2 c3 = Lib.decodeN n b0 b1 b2 b3 := by
  by_cases k3 : 3 < n
  · rw [e1 (by omega), e2 (by omega), e3 k3]
    unfold Lib.decodeN
    simp only [show 1 < n' by omega, show 2 < n' by omega, show 3 < n' by omega, show 1 < n by omega, show 2 < n by omega, show 3 < n by omega, true_and]
  by_cases k2 : 2 < n
  · rw [e1 (by omega), e2 (by omega)]
    obtain rfl : n = 3 := by omega
    have := a3 rfl
    unfold Lib.decodeN
    simp only [show (1 < 3) = True by simp, show (2 < 3) = True by simp, show (3 < 3) = False by simp, show 1 < n' by omega, show 2 < n' by omega, show ¬ c3 / 64 = 2 by omega, true_and, false_and, and_false, if_false]
  by_cases k1 : 1 < n
  · rw [e1 (by omega)]
    obtain rfl : n = 2 := by omega
    have := a2 rfl
    unfold Lib.decodeN
    simp only [show (1 < 2) = True by simp, show (2 < 2) = False by simp, show (3 < 2) = False by simp, show 1 < n' by omega, show ¬ c2 / 64 = 2 by omega, true_and, false_and, and_false, if_false]
  · obtain rfl : n = 1 := by omega
    have := a1 rfl
    unfold Lib.decodeN
    simp only [show (1 < 1) = False by simp, show (2 < 1) = False by simp, show (3 < 1) = False by simp, show ¬ c1 / 64 = 2 by omega, false_and, and_false, if_false]
/-- a byte below 128 lies within no longer rune -/
theorem decN_ascii (n b0 b1 b2 b3 : Nat) : (1 < (Lib.decodeN n b0 b1 b2 b3).2 → 128 ≤ b1) ∧ (2 < (Lib.decodeN n b0 b1 b2 b3).2 → 128 ≤ b2) ∧ (3 < (Lib.decodeN n b0 b1 b2 b3).2 → 128 ≤ b3) ∧ (Lib.decodeN n b0 b1 b2 b3).2 ≤ 4 := by
  unfold Lib.decodeN
  repeat' split
  all_goals (simp only; omega)
theorem dec_head (s : ByteArray) (m p : Nat) (hm : m ≤ s.size) (hp : p < m) (hw : p + wd s p ≤ m) : Utf8.decode (s.extract 0 m) p = Utf8.decode s p := by
  have hz : (s.extract 0 m).size = m := by rw [ByteArray.size_extract]; omega
  have hb : ∀ j, p + j < m → by_ (s.extract 0 m) (p + j) = by_ s (p + j) := fun j h => by rw [by_extract _ _ _ _ (by omega), Nat.zero_add]
  unfold wd at hw
  rw [dec_at] at hw
  rw [dec_at, dec_at s p, hz, show by_ (s.extract 0 m) p = by_ s p from hb 0 (by omega)]
  exact decN_trunc _ _ _ _ _ _ _ _ _ (by omega) (by omega) (by omega) (fun h => hb 1 (by omega)) (fun h => hb 2 (by omega)) (fun h => hb 3 (by omega))
theorem dec_more (x y : ByteArray) (p : Nat) (hp : p < x.size) (hy : by_ y 0 < 128) : Utf8.decode (x ++ y) p = Utf8.decode x p := by
  have hz : (x ++ y).size = x.size + y.size := ByteArray.size_append
  have hb : ∀ j, p + j < x.size → by_ (x ++ y) (p + j) = by_ x (p + j) := fun j h => by rw [by_append, if_pos h]
  have ha : ∀ j, x.size - p = j → by_ (x ++ y) (p + j) < 128 := fun j h => by
    rw [by_append, if_neg (by omega), show p + j - x.size = 0 by omega]; exact hy
  rw [dec_at, dec_at x p, hz, show by_ (x ++ y) p = by_ x p from hb 0 hp]
  exact decN_more _ _ _ _ _ _ _ _ _ (by omega) (by omega) (fun h => hb 1 (by omega)) (fun h => hb 2 (by omega)) (fun h => hb 3 (by omega)) (ha 1) (ha 2) (ha 3)
theorem dec_tail (s : ByteArray) (n p : Nat) : Utf8.decode (s.extract n s.size) p = Utf8.decode s (n + p) := Lib.tail_decode s n p
theorem dec_behind (x y : ByteArray) (p : Nat) : Utf8.decode (x ++ y) (x.size + p) = Utf8.decode y p := by
  have : (x ++ y).extract x.size (x ++ y).size = y := by
    apply bytesOf_inj
    rw [bytesOf_extract, bytesOf_append, size_bytesOf (x ++ y), bytesOf_append, size_bytesOf x, List.take_of_length_le (Nat.le_refl _), List.drop_left]
  rw [← dec_tail, this]
theorem ru_ascii (s : ByteArray) (p : Nat) (h : by_ s p < 128) : ru s p = by_ s p ∧ wd s p = 1 := by
  unfold ru wd
  rw [dec_at]
  unfold Lib.decodeN
  rw [if_pos h]
  exact ⟨rfl, rfl⟩
/-- an ASCII byte is a rune's beginning, or behind it -/
theorem wd_ascii (s : ByteArray) (p j : Nat) (h : by_ s j < 128) (hp : p < j) : p + wd s p ≤ j := by
  have := decN_ascii (s.size - p) (by_ s p) (by_ s (p + 1)) (by_ s (p + 2)) (by_ s (p + 3))
  rw [← dec_at] at this
  obtain ⟨h1, h2, h3, h4⟩ := this
  unfold wd
  apply Nat.le_of_not_lt
  intro hc
  have hj : j = p + 1 ∨ j = p + 2 ∨ j = p + 3 := by omega
  rcases hj with rfl | rfl | rfl
  · have := h1 (by omega); omega
  · have := h2 (by omega); omega
  · have := h3 (by omega); omega
/-- all runes from p to q are ok -/
inductive Walk (ok : Int → Bool) (s : ByteArray) : Nat → Nat → Prop
  | nil (p : Nat) : Walk ok s p p
  | cons (p q : Nat) : p < s.size → ok (ru s p) = true → Walk ok s (p + wd s p) q → Walk ok s p q
theorem Walk.le {ok : Int → Bool} {s : ByteArray} {p q : Nat} (h : Walk ok s p q) : p ≤ q := by
  induction h with
  | nil p => exact Nat.le_refl _
  | cons p q h1 h2 h3 ih => omega
theorem Walk.size {ok : Int → Bool} {s : ByteArray} {p q : Nat} (h : Walk ok s p q) (hp : p ≤ s.size) : q ≤ s.size := by
  induction h with
  | nil p => exact hp
  | cons p q h1 h2 h3 ih => exact ih (wd_fits h1)
theorem Walk.trans {ok : Int → Bool} {s : ByteArray} {p q r : Nat} (h : Walk ok s p q) (h2 : Walk ok s q r) : Walk ok s p r := by
  induction h with
  | nil p => exact h2
  | cons p q h1 h3 h4 ih => exact .cons _ _ h1 h3 (ih h2)
theorem Walk.mono {ok ok2 : Int → Bool} {s : ByteArray} {p q : Nat} (h : Walk ok s p q) (hm : ∀ r, ok r = true → ok2 r = true) : Walk ok2 s p q := by
  induction h with
  | nil p => exact .nil p
  | cons p q h1 h2 h3 ih => exact .cons _ _ h1 (hm _ h2) ih
/-- as far as they are ok -/
structure Stop (ok : Int → Bool) (s : ByteArray) (p q : Nat) : Prop where
  walk : Walk ok s p q
  le : q ≤ s.size
  stop : q < s.size → ok (ru s q) = false
theorem Stop.exists (ok : Int → Bool) (s : ByteArray) : ∀ b p, s.size - p ≤ b → p ≤ s.size → ∃ q, Stop ok s p q := by
  intro b
  induction b with
  | zero => intro p h hp; exact ⟨p, .nil p, hp, fun h => by omega⟩
  | succ b ih =>
    intro p h hp
    by_cases c : p < s.size
    · by_cases d : ok (ru s p) = true
      · have := wd_pos c
        obtain ⟨q, h1, h2, h3⟩ := ih (p + wd s p) (by omega) (wd_fits c)
        exact ⟨q, .cons _ _ c d h1, h2, h3⟩
      · exact ⟨p, .nil p, hp, fun _ => by simpa using d⟩
    · exact ⟨p, .nil p, hp, fun h => by omega⟩
theorem Stop.uniq {ok : Int → Bool} {s : ByteArray} {p q r : Nat} (h : Stop ok s p q) (h2 : Stop ok s p r) : q = r := by
  obtain ⟨w1, l1, s1⟩ := h
  obtain ⟨w2, l2, s2⟩ := h2
  induction w1 with
  | nil p =>
    cases w2 with
    | nil => rfl
    | cons _ _ a b c => rw [s1 a] at b; cases b
  | cons p q a b c ih =>
    cases w2 with
    | nil => rw [s2 a] at b; cases b
    | cons _ _ a2 b2 c2 => exact ih l1 s1 c2
theorem Stop.tail {ok : Int → Bool} {s : ByteArray} {p q : Nat} (h : Stop ok s p q) : Stop ok s q q := ⟨.nil q, h.le, h.stop⟩
theorem Walk.of_dec {ok : Int → Bool} {s t : ByteArray} {d p q : Nat} (h : Walk ok s p q) (hq : q ≤ s.size) (hs : ∀ p, p < q → p + wd s p ≤ q → d + p < t.size) (hd : ∀ p, p < q → p + wd s p ≤ q → Utf8.decode t (d + p) = Utf8.decode s p) : Walk ok t (d + p) (d + q) := by
  induction h with
  | nil p => exact .nil _
  | cons p q h1 h2 h3 ih =>
    have hl := h3.le
    have := wd_pos h1
    have e := hd p (by omega) hl
    refine .cons _ _ (hs p (by omega) hl) (by unfold ru; rw [e]; exact h2) ?_
    have e2 : d + p + wd t (d + p) = d + (p + wd s p) := by unfold wd; rw [e]; omega
    rw [e2]
    exact ih hq hs hd
/-- no byte of runes that are ok is an ASCII byte that isn't -/
theorem Walk.none {ok : Int → Bool} {s : ByteArray} {p q : Nat} (h : Walk ok s p q) (c : Nat) (hc : c < 128) (hok : ok c = false) : ∀ j, p ≤ j → j < q → by_ s j ≠ c := by
  induction h with
  | nil p => intro j h1 h2; omega
  | cons p q h1 h2 h3 ih =>
    intro j a b e
    by_cases hj : j = p
    · subst hj
      rw [(ru_ascii s j (by omega)).1, e, hok] at h2
      cases h2
    · exact ih j (wd_ascii s p j (by omega) (by omega)) b e
end Go.Proofs.Ytmbbjdkcanoklaa.Nm

/- Which runes a name is made of: the document's answer. -/
set_option linter.unusedVariables false
set_option linter.unusedSimpArgs false
namespace Go.Proofs.Ytmbbjdkcanoklaa.Nm
open Go.RowKit Go.Proofs.YtmbbjdkcanoklaaW.PrintWords Go.Proofs.YtmbbjdkcanoklaaW.XConv Go.Proofs.Ytmbbjdkcanoklaa.E Go.Proofs.Ytmbbjdkcanoklaa.X
def startB (r : Int) : Bool := decide ((65 ≤ r ∧ r ≤ 90) ∨ (97 ≤ r ∧ r ≤ 122) ∨ r = 95 ∨ (192 ≤ r ∧ r ≤ 214) ∨ (216 ≤ r ∧ r ≤ 246) ∨ (248 ≤ r ∧ r ≤ 767) ∨ (880 ≤ r ∧ r ≤ 893) ∨ (895 ≤ r ∧ r ≤ 8191) ∨ (8204 ≤ r ∧ r ≤ 8205) ∨ (8304 ≤ r ∧ r ≤ 8591) ∨ (11264 ≤ r ∧ r ≤ 12271) ∨ (12289 ≤ r ∧ r ≤ 55295) ∨ (63744 ≤ r ∧ r ≤ 64975) ∨ (65008 ≤ r ∧ r ≤ 65533) ∨ (65536 ≤ r ∧ r ≤ 983039))
def partB (r : Int) : Bool := startB r || decide ((45 ≤ r ∧ r ≤ 46) ∨ (48 ≤ r ∧ r ≤ 57) ∨ r = 183 ∨ (768 ≤ r ∧ r ≤ 879) ∨ (8255 ≤ r ∧ r ≤ 8256))
theorem ite_some {p : Prop} [Decidable p] {a b : Option Bool} {v : Bool} (h1 : p → a = some v) (h2 : ¬ p → b = some v) : (if p then a else b) = some v := by
  by_cases h : p
  · rw [if_pos h]; exact h1 h
  · rw [if_neg h]; exact h2 h
theorem refStart_ev (r : Int) : Evn (fun k => orielref02_Start.f k r) (startB r) := by
  refine ⟨3, fun k hk => ?_⟩
  obtain ⟨m, rfl⟩ : ∃ m, k = m + 3 := ⟨k - 3, by omega⟩
  simp only [orielref02_Start.f, orielref02_Start.j0, orielref02_Start.j1, orielref02_Start.j2, decide_eq_true_eq, beq_iff_eq, if_true]
  repeat' (refine ite_some (fun _ => ?_) (fun _ => ?_))
  all_goals (rw [Option.some.injEq, Bool.eq_iff_iff]; simp only [startB, decide_eq_true_eq, beq_iff_eq, Bool.false_eq_true, false_iff, true_iff]; omega)
theorem refPart_ev (r : Int) : Evn (fun k => orielref02_Part.f k r) (partB r) := by
  refine Evn.congr (fun k => by rw [orielref02_Part.f]) (Evn.bind (refStart_ev r) ?_)
  unfold partB
  by_cases h : startB r = true
  · rw [h, Bool.true_or]
    exact Evn.iteT rfl (Evn.ret _)
  · rw [Bool.eq_false_iff.mpr h, Bool.false_or]
    refine ⟨0, fun k _ => ?_⟩
    rw [if_neg (by decide)]
    repeat' (refine ite_some (fun _ => ?_) (fun _ => ?_))
    all_goals (rw [Option.some.injEq, Bool.eq_iff_iff]; simp only [decide_eq_true_eq, beq_iff_eq, Bool.false_eq_true, false_iff, true_iff]; omega)
theorem start_part {r : Int} (h : startB r = true) : partB r = true := by unfold partB; rw [h]; rfl
end Go.Proofs.Ytmbbjdkcanoklaa.Nm

/- A plain name: the document's answer. -/
set_option linter.unusedVariables false
set_option linter.unusedSimpArgs false
namespace Go.Proofs.Ytmbbjdkcanoklaa.Nm
open Go.RowKit Go.Proofs.YtmbbjdkcanoklaaW.PrintWords Go.Proofs.YtmbbjdkcanoklaaW.XConv Go.Proofs.Ytmbbjdkcanoklaa.E Go.Proofs.Ytmbbjdkcanoklaa.X
def stopF (ok : Int → Bool) (s : ByteArray) : Nat → Nat → Nat
  | 0, p => p
  | b + 1, p => if p < s.size then (if ok (ru s p) = true then stopF ok s b (p + wd s p) else p) else p
def stp (ok : Int → Bool) (s : ByteArray) (p : Nat) : Nat := stopF ok s s.size p
theorem stopF_stop (ok : Int → Bool) (s : ByteArray) : ∀ b p, s.size - p ≤ b → p ≤ s.size → Stop ok s p (stopF ok s b p) := by
  intro b
  induction b with
  | zero => intro p h hp; exact ⟨.nil p, hp, fun h => by simp only [stopF] at h; omega⟩
  | succ b ih =>
    intro p h hp
    unfold stopF
    by_cases c : p < s.size
    · rw [if_pos c]
      by_cases d : ok (ru s p) = true
      · rw [if_pos d]
        have := wd_pos c
        obtain ⟨h1, h2, h3⟩ := ih (p + wd s p) (by omega) (wd_fits c)
        exact ⟨.cons _ _ c d h1, h2, h3⟩
      · rw [if_neg d]
        exact ⟨.nil p, hp, fun _ => by simpa using d⟩
    · rw [if_neg c]
      exact ⟨.nil p, hp, fun h => by omega⟩
theorem stp_stop (ok : Int → Bool) (s : ByteArray) (p : Nat) (hp : p ≤ s.size) : Stop ok s p (stp ok s p) := stopF_stop ok s s.size p (by omega) hp
theorem stp_eq {ok : Int → Bool} {s : ByteArray} {p q : Nat} (hp : p ≤ s.size) (h : Stop ok s p q) : stp ok s p = q := (stp_stop ok s p hp).uniq h
theorem stp_step {ok : Int → Bool} {s : ByteArray} {p : Nat} (hp : p < s.size) (h : ok (ru s p) = true) : stp ok s p = stp ok s (p + wd s p) := by
  have := stp_stop ok s (p + wd s p) (wd_fits hp)
  exact stp_eq (by omega) ⟨.cons _ _ hp h this.walk, this.le, this.stop⟩
theorem stp_here {ok : Int → Bool} {s : ByteArray} {p : Nat} (hp : p < s.size) (h : ok (ru s p) = false) : stp ok s p = p := stp_eq (by omega) ⟨.nil p, by omega, fun _ => h⟩
theorem stp_end (ok : Int → Bool) (s : ByteArray) : stp ok s s.size = s.size := stp_eq (Nat.le_refl _) ⟨.nil _, Nat.le_refl _, fun h => by omega⟩
/-! ### a plain name -/
def plainB (s : ByteArray) : Bool := decide (0 < s.size) && (startB (ru s 0) && decide (stp partB s 0 = s.size))
theorem runes_at {s : ByteArray} {l : List Int} {i b p : Nat} (h : l.drop i = runesAux s b p) (hb : s.size - p ≤ b) (hp : p ≤ s.size) : if p < s.size then i < l.length ∧ rd l i = ru s p ∧ (∃ b', l.drop (i + 1) = runesAux s b' (p + wd s p) ∧ s.size - (p + wd s p) ≤ b' ∧ b' < b) else l.length ≤ i := by
  split
  · rename_i c
    obtain ⟨b', rfl⟩ : ∃ b', b = b' + 1 := ⟨b - 1, by omega⟩
    unfold runesAux at h
    rw [if_pos c] at h
    have hl : i < l.length := by
      rcases Nat.lt_or_ge i l.length with h' | h'
      · exact h'
      · rw [List.drop_of_length_le h'] at h; cases h
    rw [List.drop_eq_getElem_cons hl] at h
    obtain ⟨h1, h2⟩ := List.cons.inj h
    refine ⟨hl, ?_, b', h2, ?_, by omega⟩
    · rw [rd_at _ _ hl, h1]; rfl
    · have := wd_pos c; omega
  · rename_i c
    have : runesAux s b p = [] := by cases b <;> simp [runesAux, c]
    rw [this] at h
    exact List.drop_eq_nil_iff.mp h
theorem runesOf_len (s : ByteArray) : (runesOf s).length ≤ s.size := runesAux_length s s.size 0
theorem refPlainFrom_ev (s : ByteArray) (hz : s.size ≤ 1000000000) : ∀ b i p, (runesOf s).drop i = runesAux s b p → s.size - p ≤ b → p ≤ s.size → Evn (fun k => orielref03_Plain.l0 k (runesOf s) i) (decide (stp partB s p = s.size)) := by
  intro b
  induction b using Nat.strongRecOn with
  | ind b ih =>
    intro i p h hb hp
    have hl := runesOf_len s
    have hat := runes_at h hb hp
    refine Evn.succ (fun k => by rw [orielref03_Plain.l0]) ?_
    by_cases c : p < s.size
    · rw [if_pos c] at hat
      obtain ⟨h1, h2, b', h3, h4, h5⟩ := hat
      have hr := ru_range s p
      have e : wrap64 (ru s p) = ru s p := w64 (by omega) (by omega)
      have e2 : wrap64 ((i : Int) + 1) = ((i + 1 : Nat) : Int) := w64 (by omega) (by omega)
      simp only [h2, e, e2]
      clear e e2 h2
      refine Evn.iteT (Int.ofNat_lt.mpr h1) (Evn.iteT (Int.natCast_nonneg i) (Evn.bind (refPart_ev (ru s p)) ?_))
      by_cases d : partB (ru s p) = true
      · rw [d, stp_step c d]
        exact Evn.iteT rfl (ih b' h5 (i + 1) (p + wd s p) h3 h4 (wd_fits c))
      · have d := Bool.eq_false_iff.mpr d
        rw [d, stp_here c d, decide_eq_false (by omega)]
        exact Evn.iteF (by decide) (Evn.ret _)
    · rw [if_neg c] at hat
      obtain rfl : p = s.size := by omega
      rw [stp_end, decide_eq_true rfl]
      exact Evn.iteF (by omega) (Evn.ret _)
theorem convRunes_some (s : ByteArray) (hz : s.size ≤ 1000000000) : convRunes.f s = some (runesOf s) := if_pos (by omega)
theorem refPlain_ev (s : ByteArray) (hz : s.size ≤ 1000000000) : Evn (fun k => orielref03_Plain.f k s) (plainB s) := by
  refine Evn.congr (fun k => by rw [orielref03_Plain.f, convRunes_some s hz, Option.bind_some]) ?_
  have hat := runes_at (s := s) (l := runesOf s) (i := 0) (b := s.size) (p := 0) rfl (by omega) (by omega)
  unfold plainB
  by_cases c : 0 < s.size
  · rw [if_pos c] at hat
    obtain ⟨h1, h2, b', h3, h4, h5⟩ := hat
    have h2 : rd (runesOf s) 0 = ru s 0 := h2
    have hr := ru_range s 0
    have e : wrap64 (ru s 0) = ru s 0 := w64 (by omega) (by omega)
    rw [decide_eq_true c, Bool.true_and]
    simp only [h2, e]
    clear h2 e
    refine Evn.iteF (by omega) (Evn.iteT (by omega) (Evn.bind (refStart_ev (ru s 0)) ?_))
    by_cases d : startB (ru s 0) = true
    · rw [d, Bool.true_and]
      refine Evn.succ (fun k => by rw [orielref03_Plain.j0]) ?_
      refine Evn.iteF (by decide) ?_
      exact refPlainFrom_ev s hz s.size 0 0 rfl (by omega) (by omega)
    · rw [Bool.eq_false_iff.mpr d, Bool.false_and]
      refine Evn.succ (fun k => by rw [orielref03_Plain.j0]) ?_
      exact Evn.iteT rfl (Evn.ret _)
  · rw [if_neg c] at hat
    rw [decide_eq_false c, Bool.false_and]
    refine Evn.iteT (by omega) ?_
    refine Evn.succ (fun k => by rw [orielref03_Plain.j0]) ?_
    exact Evn.iteT rfl (Evn.ret _)
end Go.Proofs.Ytmbbjdkcanoklaa.Nm
