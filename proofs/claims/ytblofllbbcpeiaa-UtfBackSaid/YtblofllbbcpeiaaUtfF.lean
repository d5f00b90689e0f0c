/- The reference's Rune is what the bytes say. -/
import Derived.Test.YtblofllbbcpeiaaX3
import Derived.Test.YtblofllbbcpeiaaX4
import Derived.Test.YtblofllbbcpeiaaX5
import Derived.Test.YtblofllbbcpeiaaX6
import Derived.Test.YtblofllbbcpeiaaUtfE
set_option linter.unusedVariables false
set_option linter.unusedSimpArgs false
namespace Go.Proofs.Ytblofllbbcpeiaa.Utf
open Go.RowKit Go.Proofs.YtblofllbbcpeiaaW.PrintWords Go.Proofs.YtblofllbbcpeiaaW.PrintLast Go.Proofs.YtblofllbbcpeiaaW.XConv Go.Proofs.Ytblofllbbcpeiaa.X Go.Proofs.Ytblofllbbcpeiaa.E
theorem cut_ev (s : ByteArray) (p : Int) (h0 : 0 ≤ p) (hp : p < s.size) (hz : s.size ≤ 1000000000) : Evn (fun k => orielref01_cut.f k s p) (cutS (bt s p) (bt s (p + 1)) (bt s (p + 2)) (s.size - p)) := by
  obtain ⟨n, hn⟩ : ∃ n : Int, (s.size : Int) - p = n := ⟨_, rfl⟩
  rw [hn]
  have hs : p + n = s.size := by omega
  have e : wrap64 ((s.size : Int) - p) = n := by rw [hn]; exact w64 (by omega) (by omega)
  refine Evn.congr (h := fun k => orielref01_cut.j0 k s p n (decide (n > 3))) (fun k => by unfold orielref01_cut.f; rw [e, if_neg (by omega)]) ?_
  by_cases h3 : n > 3
  · refine Evn.succ (h := fun _ => some false) (fun k => by simp only [orielref01_cut.j0]; rw [decide_eq_true h3]; rfl) ?_
    have : cutS (bt s p) (bt s (p + 1)) (bt s (p + 2)) n = false := by unfold cutS; rw [if_neg (by omega), if_neg (by omega), if_neg (by omega)]
    rw [this]; exact Evn.ret _
  · have w : wrap64 (n + 1) = n + 1 := w64 (by omega) (by omega)
    refine Evn.succ (h := fun k => orielref01_cut.l0 k s p n (n + 1)) (fun k => by simp only [orielref01_cut.j0]; rw [decide_eq_false h3, w]; rfl) ?_
    have c : n = 1 ∨ n = 2 ∨ n = 3 := by omega
    rcases c with rfl | rfl | rfl
    · refine tot2 s p 1 h0 hs hz (by omega) (by omega) rfl _ (fun hh => ?_) (fun a1 => ?_)
      · unfold cutS; rw [if_pos rfl]; exact decide_eq_true (by omega)
      refine tot3a s p 1 h0 hs hz (by omega) (by omega) rfl _ (fun hh => ?_) (fun a2 => ?_)
      · unfold cutS; rw [if_pos rfl]; exact decide_eq_true (by omega)
      refine tot4a s p 1 h0 hs hz (by omega) (by omega) rfl _ (fun hh => ?_) (fun a3 => ?_)
      · unfold cutS; rw [if_pos rfl]; exact decide_eq_true (by omega)
      have : cutS (bt s p) (bt s (p + 1)) (bt s (p + 2)) 1 = false := by unfold cutS; rw [if_pos rfl]; exact decide_eq_false (by omega)
      rw [this]; exact l0_stop s p 1
    · refine tot3b s p 2 h0 hs hz (by omega) (by omega) rfl _ (fun hh => ?_) (fun a1 => ?_)
      · unfold cutS; rw [if_neg (by omega), if_pos rfl]; exact decide_eq_true (by omega)
      refine tot4b s p 2 h0 hs hz (by omega) (by omega) rfl _ (fun hh => ?_) (fun a2 => ?_)
      · unfold cutS; rw [if_neg (by omega), if_pos rfl]; exact decide_eq_true (by omega)
      have : cutS (bt s p) (bt s (p + 1)) (bt s (p + 2)) 2 = false := by unfold cutS; rw [if_neg (by omega), if_pos rfl]; exact decide_eq_false (by omega)
      rw [this]; exact l0_stop s p 2
    · refine tot4c s p 3 h0 hs hz (by omega) (by omega) rfl _ (fun hh => ?_) (fun a2 => ?_)
      · unfold cutS; rw [if_neg (by omega), if_neg (by omega), if_pos rfl]; exact decide_eq_true (by omega)
      have : cutS (bt s p) (bt s (p + 1)) (bt s (p + 2)) 3 = false := by unfold cutS; rw [if_neg (by omega), if_neg (by omega), if_pos rfl]; exact decide_eq_false (by omega)
      rw [this]; exact l0_stop s p 3
theorem beg_iff (s : ByteArray) (p : Int) (l : List Int) : beg s p l = true ↔ l ≠ [] ∧ p + l.length ≤ s.size ∧ ∀ i : Nat, i < l.length → bt s (p + i) = l.getD i 0 := by
  unfold beg
  simp only [Bool.and_eq_true, decide_eq_true_eq, List.all_eq_true, List.mem_range, beq_iff_eq, and_assoc]
section
variable (s : ByteArray) (p : Int) (h0 : 0 ≤ p) (hp : p < s.size) (hz : s.size ≤ 1000000000)
include h0 hp hz
theorem rr_put (n v : Int) (hn : n ≤ 4) (r : Int × Int × Int) (yes : ((putL v).length : Int) = n → beg s p (putL v) = true → r = (v, n, 0))
    (no : ¬ (((putL v).length : Int) = n ∧ beg s p (putL v) = true) → Evn (fun k => orielref01_Rune.l0 k s p (n + 1)) r) (hn1 : 1 ≤ n) : Evn (fun k => orielref01_Rune.j3 k s p n v) r := by
  have w : wrap64 (n + 1) = n + 1 := w64 (by omega) (by omega)
  refine Evn.succ (h := fun k => (orielref01_Put.f k v).bind fun t182 => (if (t182.length : Int) = n then ((orielref01_begins.f k s p t182).bind fun t185 => (if t185 = true then (some (v, n, 0)) else (orielref01_Rune.l0 k s p (n + 1)))) else (orielref01_Rune.l0 k s p (n + 1)))) (fun k => by simp only [orielref01_Rune.j3, w]) (Evn.bind (refPut_ev v) ?_)
  have hl := putL_len v
  by_cases hc : ((putL v).length : Int) = n
  · refine Evn.iteT hc (Evn.bind (begins_ev s p _ h0 (by omega) hz (by omega)) ?_)
    cases hb : beg s p (putL v) with
    | true => rw [yes hc hb]; exact Evn.iteT rfl (Evn.ret _)
    | false => exact Evn.iteF (by decide) (no (by rw [hb]; simp))
  · exact Evn.iteF hc (no (fun hh => hc hh.1))
theorem rr_one (r : Int × Int × Int) (yes : ((putL (bt s p)).length : Int) = 1 → beg s p (putL (bt s p)) = true → r = (bt s p, 1, 0))
    (no : ¬ (((putL (bt s p)).length : Int) = 1 ∧ beg s p (putL (bt s p)) = true) → Evn (fun k => orielref01_Rune.l0 k s p 2) r) : Evn (fun k => orielref01_Rune.l0 k s p 1) r := by
  have b0 := bt_range s p
  have w : wrap64 (p + 1) = p + 1 := w64 (by omega) (by omega)
  have w2 : wrap64 (bt s p) = bt s p := w64 (by omega) (by omega)
  refine Evn.succ (h := fun k => orielref01_Rune.j2 k s p 1 true) (fun k => by simp only [orielref01_Rune.l0, w]; rw [if_pos (by omega), decide_eq_true (by omega)]) ?_
  refine Evn.succ (h := fun k => orielref01_Rune.j3 k s p 1 (bt s p)) (fun k => by simp only [orielref01_Rune.j2, w2]; rw [if_pos trivial, if_pos h0, if_pos hp, if_neg (by omega)]) ?_
  exact rr_put s p h0 hp hz 1 (bt s p) (by omega) r yes no (by omega)
theorem rr_more (n v : Int) (hn : 1 < n) (hn4 : n ≤ 4) (hf : p + n ≤ s.size) (hv : Evn (fun k => orielref01_value.f k s p n) v) (r : Int × Int × Int) (yes : ((putL v).length : Int) = n → beg s p (putL v) = true → r = (v, n, 0))
    (no : ¬ (((putL v).length : Int) = n ∧ beg s p (putL v) = true) → Evn (fun k => orielref01_Rune.l0 k s p (n + 1)) r) : Evn (fun k => orielref01_Rune.l0 k s p n) r := by
  have w : wrap64 (p + n) = p + n := w64 (by omega) (by omega)
  refine Evn.succ (h := fun k => orielref01_Rune.j2 k s p n true) (fun k => by simp only [orielref01_Rune.l0, w]; rw [if_pos (by omega), decide_eq_true (by omega)]) ?_
  refine Evn.succ (h := fun k => (orielref01_value.f k s p n).bind fun t181 => (orielref01_Rune.j3 k s p n t181)) (fun k => by simp only [orielref01_Rune.j2]; rw [if_pos trivial, if_pos h0, if_pos hp, if_pos (by omega)]) ?_
  exact Evn.bind hv (rr_put s p h0 hp hz n v hn4 r yes no (by omega))
theorem rr_cut (n : Int) (hn1 : 1 ≤ n) (hn5 : n ≤ 5) (h : n = 5 ∨ (s.size : Int) < p + n) :
    Evn (fun k => orielref01_Rune.l0 k s p n) (if cutS (bt s p) (bt s (p + 1)) (bt s (p + 2)) (s.size - p) = true then (0, 0, 7) else (0, 0, 2)) := by
  have w : wrap64 (p + n) = p + n := w64 (by omega) (by omega)
  refine Evn.succ (h := fun k => orielref01_Rune.j2 k s p n false) (fun k => ?_) ?_
  · simp only [orielref01_Rune.l0, w]
    by_cases h4 : n ≤ 4
    · rw [if_pos h4, decide_eq_false (by omega)]
    · rw [if_neg h4]
  refine Evn.succ (h := fun k => (orielref01_cut.f k s p).bind fun t180 => (if t180 = true then (some (0, 0, 7)) else (some (0, 0, 2)))) (fun k => by simp only [orielref01_Rune.j2]; rfl) ?_
  refine Evn.bind (cut_ev s p h0 hp hz) ?_
  split
  · exact Evn.ret _
  · exact Evn.ret _
end
theorem put_one (b : Int) (h0 : 0 ≤ b) (h1 : b ≤ 255) : (putL b).length = 1 ↔ b < 128 := by
  constructor
  · intro h; exact (putL1 b h).2
  · intro h; rw [put1 b ⟨h0, h⟩]; rfl
theorem hit2 (s : ByteArray) (p : Int) (hf : p + 2 ≤ s.size) : (((putL ((bt s p - 192) * 64 + (bt s (p + 1) - 128))).length : Int) = 2 ∧ beg s p (putL ((bt s p - 192) * 64 + (bt s (p + 1) - 128))) = true) ↔
    (194 ≤ bt s p ∧ bt s p < 224 ∧ 128 ≤ bt s (p + 1) ∧ bt s (p + 1) < 192) := by
  have b0 := bt_range s p
  have b1 := bt_range s (p + 1)
  rw [beg_iff]
  constructor
  · rintro ⟨hl, _, _, hb⟩
    have hr := putL2 _ (show (putL ((bt s p - 192) * 64 + (bt s (p + 1) - 128))).length = 2 by omega)
    rw [put2 _ hr] at hb
    have e0 := hb 0 (by simp)
    have e1 := hb 1 (by simp)
    simp at e0 e1
    omega
  · intro h
    rw [put2 _ (by omega)]
    refine ⟨rfl, by simp, by simp; omega, fun i hi => ?_⟩
    have : i = 0 ∨ i = 1 := by simp at hi; omega
    rcases this with rfl | rfl
    · simp; omega
    · simp; omega
theorem hit3 (s : ByteArray) (p : Int) (hf : p + 3 ≤ s.size) : (((putL (((bt s p - 224) * 64 + (bt s (p + 1) - 128)) * 64 + (bt s (p + 2) - 128))).length : Int) = 3 ∧ beg s p (putL (((bt s p - 224) * 64 + (bt s (p + 1) - 128)) * 64 + (bt s (p + 2) - 128))) = true) ↔
    (224 ≤ bt s p ∧ bt s p < 240 ∧ (128 ≤ bt s (p + 1) ∧ bt s (p + 1) < 192) ∧ ¬ (bt s p = 224 ∧ bt s (p + 1) < 160 ∨ bt s p = 237 ∧ 160 ≤ bt s (p + 1)) ∧ 128 ≤ bt s (p + 2) ∧ bt s (p + 2) < 192) := by
  have b0 := bt_range s p
  have b1 := bt_range s (p + 1)
  have b2 := bt_range s (p + 2)
  rw [beg_iff]
  constructor
  · rintro ⟨hl, _, _, hb⟩
    have hr := putL3 _ (show (putL (((bt s p - 224) * 64 + (bt s (p + 1) - 128)) * 64 + (bt s (p + 2) - 128))).length = 3 by omega)
    rw [put3 _ hr] at hb
    have e0 := hb 0 (by simp)
    have e1 := hb 1 (by simp)
    have e2 := hb 2 (by simp)
    simp at e0 e1 e2
    omega
  · intro h
    rw [put3 _ (by omega)]
    refine ⟨rfl, by simp, by simp; omega, fun i hi => ?_⟩
    have : i = 0 ∨ i = 1 ∨ i = 2 := by simp at hi; omega
    rcases this with rfl | rfl | rfl
    · simp; omega
    · simp; omega
    · simp; omega
theorem hit4 (s : ByteArray) (p : Int) (hf : p + 4 ≤ s.size) : (((putL ((((bt s p - 240) * 64 + (bt s (p + 1) - 128)) * 64 + (bt s (p + 2) - 128)) * 64 + (bt s (p + 3) - 128))).length : Int) = 4 ∧ beg s p (putL ((((bt s p - 240) * 64 + (bt s (p + 1) - 128)) * 64 + (bt s (p + 2) - 128)) * 64 + (bt s (p + 3) - 128))) = true) ↔
    (240 ≤ bt s p ∧ bt s p < 245 ∧ (128 ≤ bt s (p + 1) ∧ bt s (p + 1) < 192) ∧ ¬ (bt s p = 240 ∧ bt s (p + 1) < 144 ∨ bt s p = 244 ∧ 144 ≤ bt s (p + 1)) ∧ (128 ≤ bt s (p + 2) ∧ bt s (p + 2) < 192) ∧ 128 ≤ bt s (p + 3) ∧ bt s (p + 3) < 192) := by
  have b0 := bt_range s p
  have b1 := bt_range s (p + 1)
  have b2 := bt_range s (p + 2)
  have b3 := bt_range s (p + 3)
  rw [beg_iff]
  constructor
  · rintro ⟨hl, _, _, hb⟩
    have hr := putL4 _ (show (putL ((((bt s p - 240) * 64 + (bt s (p + 1) - 128)) * 64 + (bt s (p + 2) - 128)) * 64 + (bt s (p + 3) - 128))).length = 4 by omega)
    rw [put4 _ hr] at hb
    have e0 := hb 0 (by simp)
    have e1 := hb 1 (by simp)
    have e2 := hb 2 (by simp)
    have e3 := hb 3 (by simp)
    simp at e0 e1 e2 e3
    omega
  · intro h
    rw [put4 _ (by omega)]
    refine ⟨rfl, by simp, by simp; omega, fun i hi => ?_⟩
    have : i = 0 ∨ i = 1 ∨ i = 2 ∨ i = 3 := by simp at hi; omega
    rcases this with rfl | rfl | rfl | rfl
    · simp; omega
    · simp; omega
    · simp; omega
    · simp; omega
theorem R_ref (b0 b1 b2 b3 n : Int) (h0 : 0 ≤ b0) (h0' : b0 ≤ 255) (hn : 1 ≤ n) : R b0 b1 b2 b3 n =
    if b0 < 128 then (b0, 1, 0) else if 2 ≤ n ∧ 194 ≤ b0 ∧ b0 < 224 ∧ 128 ≤ b1 ∧ b1 < 192 then ((b0 - 192) * 64 + (b1 - 128), 2, 0)
    else if 3 ≤ n ∧ 224 ≤ b0 ∧ b0 < 240 ∧ (128 ≤ b1 ∧ b1 < 192) ∧ ¬ (b0 = 224 ∧ b1 < 160 ∨ b0 = 237 ∧ 160 ≤ b1) ∧ 128 ≤ b2 ∧ b2 < 192 then (((b0 - 224) * 64 + (b1 - 128)) * 64 + (b2 - 128), 3, 0)
    else if 4 ≤ n ∧ 240 ≤ b0 ∧ b0 < 245 ∧ (128 ≤ b1 ∧ b1 < 192) ∧ ¬ (b0 = 240 ∧ b1 < 144 ∨ b0 = 244 ∧ 144 ≤ b1) ∧ (128 ≤ b2 ∧ b2 < 192) ∧ 128 ≤ b3 ∧ b3 < 192 then ((((b0 - 240) * 64 + (b1 - 128)) * 64 + (b2 - 128)) * 64 + (b3 - 128), 4, 0)
    else if cutS b0 b1 b2 n = true then (0, 0, 7) else (0, 0, 2) := by
  have hc : cutS b0 b1 b2 n = true ↔ (n = 1 ∧ 194 ≤ b0 ∧ b0 < 245) ∨ (n = 2 ∧ (128 ≤ b1 ∧ b1 < 192) ∧ ((224 ≤ b0 ∧ b0 < 240 ∧ ¬ (b0 = 224 ∧ b1 < 160) ∧ ¬ (b0 = 237 ∧ 160 ≤ b1)) ∨ (240 ≤ b0 ∧ b0 < 245 ∧ ¬ (b0 = 240 ∧ b1 < 144) ∧ ¬ (b0 = 244 ∧ 144 ≤ b1))))
      ∨ (n = 3 ∧ (128 ≤ b1 ∧ b1 < 192) ∧ (128 ≤ b2 ∧ b2 < 192) ∧ (240 ≤ b0 ∧ b0 < 245 ∧ ¬ (b0 = 240 ∧ b1 < 144) ∧ ¬ (b0 = 244 ∧ 144 ≤ b1))) := by
    unfold cutS
    by_cases h1 : n = 1
    · rw [if_pos h1, decide_eq_true_eq]; omega
    by_cases h2 : n = 2
    · rw [if_neg h1, if_pos h2, decide_eq_true_eq]; omega
    by_cases h3 : n = 3
    · rw [if_neg h1, if_neg h2, if_pos h3, decide_eq_true_eq]; omega
    · rw [if_neg h1, if_neg h2, if_neg h3]; simp [h1, h2, h3]
  unfold R
  by_cases a1 : b0 < 128
  · rw [if_pos a1, if_pos a1]
  rw [if_neg a1, if_neg a1]
  by_cases a2 : b0 < 194
  · rw [if_pos a2, if_neg (by omega), if_neg (by omega), if_neg (by omega), if_neg (by rw [hc]; omega)]
  rw [if_neg a2]
  by_cases a3 : b0 < 224
  · rw [if_pos a3]
    by_cases hn1 : n = 1
    · rw [if_pos hn1, if_neg (by omega), if_neg (by omega), if_neg (by omega), if_pos (by rw [hc]; omega)]
    rw [if_neg hn1]
    by_cases t1 : 128 ≤ b1 ∧ b1 < 192
    · rw [if_pos t1, if_pos (by omega)]
    · rw [if_neg t1, if_neg (by omega), if_neg (by omega), if_neg (by omega), if_neg (by rw [hc]; omega)]
  rw [if_neg a3]
  by_cases a4 : b0 < 240
  · rw [if_pos a4]
    by_cases hn1 : n = 1
    · rw [if_pos hn1, if_neg (by omega), if_neg (by omega), if_neg (by omega), if_pos (by rw [hc]; omega)]
    rw [if_neg hn1]
    by_cases t1 : 128 ≤ b1 ∧ b1 < 192
    · rw [if_neg (by omega)]
      by_cases bad : b0 = 224 ∧ b1 < 160 ∨ b0 = 237 ∧ 160 ≤ b1
      · rw [if_pos bad, if_neg (by omega), if_neg (by omega), if_neg (by omega), if_neg (by rw [hc]; omega)]
      rw [if_neg bad]
      by_cases hn2 : n = 2
      · rw [if_pos hn2, if_neg (by omega), if_neg (by omega), if_neg (by omega), if_pos (by rw [hc]; omega)]
      rw [if_neg hn2]
      by_cases t2 : 128 ≤ b2 ∧ b2 < 192
      · rw [if_pos t2, if_neg (by omega), if_pos (by omega)]
        simp only [Prod.mk.injEq, and_true]
        omega
      · rw [if_neg t2, if_neg (by omega), if_neg (by omega), if_neg (by omega), if_neg (by rw [hc]; omega)]
    · rw [if_pos t1, if_neg (by omega), if_neg (by omega), if_neg (by omega), if_neg (by rw [hc]; omega)]
  rw [if_neg a4]
  by_cases a5 : b0 < 245
  · rw [if_pos a5]
    by_cases hn1 : n = 1
    · rw [if_pos hn1, if_neg (by omega), if_neg (by omega), if_neg (by omega), if_pos (by rw [hc]; omega)]
    rw [if_neg hn1]
    by_cases t1 : 128 ≤ b1 ∧ b1 < 192
    · rw [if_neg (by omega)]
      by_cases bad : b0 = 240 ∧ b1 < 144 ∨ b0 = 244 ∧ 144 ≤ b1
      · rw [if_pos bad, if_neg (by omega), if_neg (by omega), if_neg (by omega), if_neg (by rw [hc]; omega)]
      rw [if_neg bad]
      by_cases hn2 : n = 2
      · rw [if_pos hn2, if_neg (by omega), if_neg (by omega), if_neg (by omega), if_pos (by rw [hc]; omega)]
      rw [if_neg hn2]
      by_cases t2 : 128 ≤ b2 ∧ b2 < 192
      · rw [if_neg (by omega)]
        by_cases hn3 : n = 3
        · rw [if_pos hn3, if_neg (by omega), if_neg (by omega), if_neg (by omega), if_pos (by rw [hc]; omega)]
        rw [if_neg hn3]
        by_cases t3 : 128 ≤ b3 ∧ b3 < 192
        · rw [if_pos t3, if_neg (by omega), if_neg (by omega), if_pos (by omega)]
          simp only [Prod.mk.injEq, and_true]
          omega
        · rw [if_neg t3, if_neg (by omega), if_neg (by omega), if_neg (by omega), if_neg (by rw [hc]; omega)]
      · rw [if_pos t2, if_neg (by omega), if_neg (by omega), if_neg (by omega), if_neg (by rw [hc]; omega)]
    · rw [if_pos t1, if_neg (by omega), if_neg (by omega), if_neg (by omega), if_neg (by rw [hc]; omega)]
  · rw [if_neg a5, if_neg (by omega), if_neg (by omega), if_neg (by omega), if_neg (by rw [hc]; omega)]
theorem refRune_ev (s : ByteArray) (p : Int) (hz : s.size ≤ 1000000000) : Evn (fun k => orielref01_Rune.f k s p) (runeAt s p) := by
  unfold runeAt
  by_cases ho : p < 0 ∨ (s.size : Int) ≤ p
  · rw [if_pos ho]
    refine Evn.congr (h := fun k => orielref01_Rune.j0 k s p true) (fun k => ?_) (Evn.succ (h := fun _ => some (0, 0, 7)) (fun k => by simp only [orielref01_Rune.j0]; rfl) (Evn.ret _))
    unfold orielref01_Rune.f
    by_cases h0 : p < 0
    · rw [if_pos h0]
    · rw [if_neg h0, decide_eq_true (by omega)]
  rw [if_neg ho]
  have h0 : 0 ≤ p := by omega
  have hp : p < s.size := by omega
  have b0 := bt_range s p
  have q3 : (2 : Int) + 1 = 3 := rfl
  have q4 : (3 : Int) + 1 = 4 := rfl
  have q5 : (4 : Int) + 1 = 5 := rfl
  refine Evn.congr (h := fun k => orielref01_Rune.j0 k s p false) (fun k => by unfold orielref01_Rune.f; rw [if_neg (by omega), decide_eq_false (by omega)]) ?_
  refine Evn.succ (h := fun k => orielref01_Rune.l0 k s p 1) (fun k => by simp only [orielref01_Rune.j0]; rfl) ?_
  rw [R_ref _ _ _ _ _ b0.1 b0.2 (by omega)]
  refine rr_one s p h0 hp hz _ (fun hl hb => ?_) (fun no1 => ?_)
  · rw [if_pos ((put_one _ b0.1 b0.2).1 (by omega))]
  have n1 : ¬ bt s p < 128 := by
    intro hh
    apply no1
    have hp1 := put1 (bt s p) ⟨b0.1, hh⟩
    rw [beg_iff, hp1]
    refine ⟨rfl, by simp, by simp; omega, fun i hi => ?_⟩
    obtain rfl : i = 0 := by simp at hi; omega
    simp
  rw [if_neg n1]
  by_cases f2 : p + 2 ≤ s.size
  · refine rr_more s p h0 hp hz 2 _ (by omega) (by omega) f2 (value2 s p h0 (by omega) f2) _ (fun hl hb => ?_) (fun no2 => ?_)
    · have := (hit2 s p f2).1 ⟨hl, hb⟩
      rw [if_pos (by omega)]
    have n2 := fun hh => no2 ((hit2 s p f2).2 hh)
    rw [if_neg (fun hh => n2 ⟨hh.2.1, hh.2.2.1, hh.2.2.2.1, hh.2.2.2.2⟩)]
    rw [q3]
    by_cases f3 : p + 3 ≤ s.size
    · refine rr_more s p h0 hp hz 3 _ (by omega) (by omega) f3 (value3 s p h0 (by omega) f3) _ (fun hl hb => ?_) (fun no3 => ?_)
      · have := (hit3 s p f3).1 ⟨hl, hb⟩
        rw [if_pos ⟨by omega, this⟩]
      have n3 := fun hh => no3 ((hit3 s p f3).2 hh)
      rw [if_neg (fun hh => n3 hh.2)]
      rw [q4]
      by_cases f4 : p + 4 ≤ s.size
      · refine rr_more s p h0 hp hz 4 _ (by omega) (by omega) f4 (value4 s p h0 (by omega) f4) _ (fun hl hb => ?_) (fun no4 => ?_)
        · have := (hit4 s p f4).1 ⟨hl, hb⟩
          rw [if_pos ⟨by omega, this⟩]
        have n4 := fun hh => no4 ((hit4 s p f4).2 hh)
        rw [if_neg (fun hh => n4 hh.2), q5]
        exact rr_cut s p h0 hp hz _ (by omega) (by omega) (.inl rfl)
      · rw [if_neg (by omega)]
        exact rr_cut s p h0 hp hz _ (by omega) (by omega) (.inr (by omega))
    · rw [if_neg (by omega), if_neg (by omega)]
      exact rr_cut s p h0 hp hz _ (by omega) (by omega) (.inr (by omega))
  · rw [if_neg (by omega), if_neg (by omega), if_neg (by omega)]
    exact rr_cut s p h0 hp hz _ (by omega) (by omega) (.inr (by omega))
end Go.Proofs.Ytblofllbbcpeiaa.Utf
