/- Whole and Same of layer 1. -/
import Derived.Test.YtblofllbbcpeiaaX1
import Derived.Test.YtblofllbbcpeiaaX5
import Derived.Test.YtblofllbbcpeiaaX6
import Derived.Test.YtblofllbbcpeiaaX7
import Derived.Test.YtblofllbbcpeiaaUtfI
set_option linter.unusedVariables false
set_option linter.unusedSimpArgs false
namespace Go.Proofs.Ytblofllbbcpeiaa.Utf
open Go.RowKit Go.Proofs.YtblofllbbcpeiaaW.PrintWords Go.Proofs.YtblofllbbcpeiaaW.PrintLast Go.Proofs.YtblofllbbcpeiaaW.PrintMore Go.Proofs.YtblofllbbcpeiaaW.XConv Go.Proofs.Ytblofllbbcpeiaa.X Go.Proofs.Ytblofllbbcpeiaa.E
theorem R_cut (b0 b1 b2 b3 n : Int) (h0 : 0 ≤ b0) (h0' : b0 ≤ 255) (hn : 1 ≤ n) : (R b0 b1 b2 b3 n).2.2 = 7 ↔ cutS b0 b1 b2 n = true := by
  rw [R_ref _ _ _ _ _ h0 h0' hn]
  have hc : cutS b0 b1 b2 n = true → (n = 1 ∧ 194 ≤ b0) ∨ (n = 2 ∧ 224 ≤ b0) ∨ (n = 3 ∧ 240 ≤ b0) := by
    unfold cutS
    by_cases h1 : n = 1
    · rw [if_pos h1, decide_eq_true_eq]; omega
    by_cases h2 : n = 2
    · rw [if_neg h1, if_pos h2, decide_eq_true_eq]; omega
    by_cases h3 : n = 3
    · rw [if_neg h1, if_neg h2, if_pos h3, decide_eq_true_eq]; omega
    · rw [if_neg h1, if_neg h2, if_neg h3]; simp
  constructor
  · intro h
    split at h
    · simp at h
    split at h
    · simp at h
    split at h
    · simp at h
    split at h
    · simp at h
    split at h
    · assumption
    · simp at h
  · intro h
    have := hc h
    rw [if_neg (by omega), if_neg (by omega), if_neg (by omega), if_neg (by omega), if_pos h]
/-- how many bytes stand ahead of an end that begins a rune -/
def wh (s : ByteArray) : Nat → Int → Int
  | 0, _ => s.size
  | d + 1, n => if n ≤ s.size then (if (runeAt s (s.size - n)).2.2 = 7 then s.size - n else wh s d (n + 1)) else s.size
theorem utfWhole_ev (s : ByteArray) (hz : s.size ≤ 1000000000) : Evn (fun k => utf_Whole.f k s) (wh s 3 1) := by
  have loop : ∀ (d : Nat) (n : Int), n + d = 4 → 1 ≤ n → Evn (fun k => utf_Whole.l0 k s n) (wh s d n) := by
    intro d
    induction d with
    | zero =>
      intro n h1 h2
      refine Evn.succ (h := fun k => utf_Whole.j1 k s n false) (fun k => by simp only [utf_Whole.l0]; rw [if_neg (by omega)]) ?_
      exact Evn.succ (h := fun _ => some (s.size : Int)) (fun k => by simp only [utf_Whole.j1]; rw [if_neg (by decide)]) (Evn.ret _)
    | succ d ih =>
      intro n h1 h2
      unfold wh
      by_cases hn : n ≤ s.size
      · rw [if_pos hn]
        refine Evn.succ (h := fun k => utf_Whole.j1 k s n true) (fun k => by simp only [utf_Whole.l0]; rw [if_pos (by omega), decide_eq_true hn]) ?_
        have e : wrap64 ((s.size : Int) - n) = s.size - n := w64 (by omega) (by omega)
        by_cases he : (runeAt s (s.size - n)).2.2 = 7
        · rw [if_pos he]
          refine Evn.succ (h := fun _ => some ((s.size : Int) - n)) (fun k => ?_) (Evn.ret _)
          simp only [utf_Whole.j1, e, utfRune_ev s _ hz, Option.bind_some]
          rw [if_pos trivial, if_pos he]
        · rw [if_neg he]
          refine Evn.succ (h := fun k => utf_Whole.l0 k s (n + 1)) (fun k => ?_) (ih (n + 1) (by omega) (by omega))
          simp only [utf_Whole.j1, e, utfRune_ev s _ hz, Option.bind_some]
          rw [if_pos trivial, if_neg he, w64 (by omega) (by omega)]
      · rw [if_neg hn]
        refine Evn.succ (h := fun k => utf_Whole.j1 k s n false) (fun k => by simp only [utf_Whole.l0]; rw [if_pos (by omega), decide_eq_false hn]) ?_
        exact Evn.succ (h := fun _ => some (s.size : Int)) (fun k => by simp only [utf_Whole.j1]; rw [if_neg (by decide)]) (Evn.ret _)
  exact Evn.congr (fun k => by unfold utf_Whole.f; rfl) (loop 3 1 (by omega) (by omega))
theorem refWhole_ev (s : ByteArray) (hz : s.size ≤ 1000000000) : Evn (fun k => orielref01_Whole.f k s) (wh s 3 1) := by
  have loop : ∀ (d : Nat) (n : Int), n + d = 4 → 1 ≤ n → Evn (fun k => orielref01_Whole.l0 k s n) (wh s d n) := by
    intro d
    induction d with
    | zero =>
      intro n h1 h2
      refine Evn.succ (h := fun k => orielref01_Whole.j1 k s n false) (fun k => by simp only [orielref01_Whole.l0]; rw [if_neg (by omega)]) ?_
      exact Evn.succ (h := fun _ => some (s.size : Int)) (fun k => by simp only [orielref01_Whole.j1]; rw [if_neg (by decide)]) (Evn.ret _)
    | succ d ih =>
      intro n h1 h2
      unfold wh
      by_cases hn : n ≤ s.size
      · rw [if_pos hn]
        refine Evn.succ (h := fun k => orielref01_Whole.j1 k s n true) (fun k => by simp only [orielref01_Whole.l0]; rw [if_pos (by omega), decide_eq_true hn]) ?_
        have e : wrap64 ((s.size : Int) - n) = s.size - n := w64 (by omega) (by omega)
        have b0 := bt_range s (s.size - n)
        have hiff : (runeAt s (s.size - n)).2.2 = 7 ↔ cutS (bt s (s.size - n)) (bt s (s.size - n + 1)) (bt s (s.size - n + 2)) (s.size - (s.size - n)) = true := by
          unfold runeAt
          rw [if_neg (by omega)]
          exact R_cut _ _ _ _ _ b0.1 b0.2 (by omega)
        refine Evn.succ (h := fun k => (orielref01_cut.f k s ((s.size : Int) - n)).bind fun t => if t = true then some ((s.size : Int) - n) else orielref01_Whole.l0 k s (n + 1)) (fun k => ?_) (Evn.bind (cut_ev s _ (by omega) (by omega) hz) ?_)
        · simp only [orielref01_Whole.j1, e]
          rw [if_pos trivial, w64 (x := n + 1) (by omega) (by omega)]
        by_cases he : (runeAt s (s.size - n)).2.2 = 7
        · rw [if_pos he]
          exact Evn.iteT (hiff.1 he) (Evn.ret _)
        · rw [if_neg he]
          exact Evn.iteF (fun hh => he (hiff.2 hh)) (ih (n + 1) (by omega) (by omega))
      · rw [if_neg hn]
        refine Evn.succ (h := fun k => orielref01_Whole.j1 k s n false) (fun k => by simp only [orielref01_Whole.l0]; rw [if_pos (by omega), decide_eq_false hn]) ?_
        exact Evn.succ (h := fun _ => some (s.size : Int)) (fun k => by simp only [orielref01_Whole.j1]; rw [if_neg (by decide)]) (Evn.ret _)
  exact Evn.congr (fun k => by unfold orielref01_Whole.f; rfl) (loop 3 1 (by omega) (by omega))
theorem same_ev (l m : List Int) (hl : l.length ≤ 1000000000) : Evn (fun k => orielref01_Same.f k l m) (l == m) := by
  have loop : ∀ (d i : Nat), i + d = l.length → l.length = m.length → Evn (fun k => orielref01_Same.l0 k l m i) (l.drop i == m.drop i) := by
    intro d
    induction d with
    | zero =>
      intro i hi he
      rw [List.drop_eq_nil_of_le (by omega), List.drop_eq_nil_of_le (by omega)]
      exact Evn.succ (h := fun _ => some true) (fun k => by simp only [orielref01_Same.l0]; rw [if_neg (by omega)]) (Evn.ret _)
    | succ d ih =>
      intro i hi he
      have h1 : i < l.length := by omega
      have h2 : i < m.length := by omega
      rw [List.drop_eq_getElem_cons h1, List.drop_eq_getElem_cons h2]
      by_cases hx : l[i] = m[i]
      · refine Evn.succ (h := fun k => orielref01_Same.l0 k l m ((i + 1 : Nat) : Int)) (fun k => ?_) (by rw [List.cons_beq_cons, beq_iff_eq.mpr hx, Bool.true_and]; exact ih (i + 1) (by omega) he)
        simp only [orielref01_Same.l0]
        rw [if_pos (by omega), if_pos (by omega), if_pos (by omega), rd_at l i h1, rd_at m i h2, if_pos hx, w64 (by omega) (by omega)]
        rfl
      · refine Evn.succ (h := fun _ => some false) (fun k => ?_) (by rw [List.cons_beq_cons, beq_eq_false_iff_ne.mpr hx, Bool.false_and]; exact Evn.ret false)
        simp only [orielref01_Same.l0]
        rw [if_pos (by omega), if_pos (by omega), if_pos (by omega), rd_at l i h1, rd_at m i h2, if_neg hx]
  by_cases he : l.length = m.length
  · refine Evn.congr (h := fun k => orielref01_Same.l0 k l m ((0 : Nat) : Int)) (fun k => by unfold orielref01_Same.f; rw [if_pos (by omega)]; rfl) ?_
    simpa using loop l.length 0 (by omega) he
  · have : (l == m) = false := by
      rw [beq_eq_false_iff_ne]
      intro hh
      exact he (by rw [hh])
    rw [this]
    exact Evn.congr (h := fun _ => some false) (fun k => by unfold orielref01_Same.f; rw [if_neg (by omega)]) (Evn.ret _)
end Go.Proofs.Ytblofllbbcpeiaa.Utf
