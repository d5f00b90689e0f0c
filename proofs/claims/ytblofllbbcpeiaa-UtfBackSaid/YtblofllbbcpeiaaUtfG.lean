/- The examples that the laws of layer 1 begin with. -/
import Derived.Test.YtblofllbbcpeiaaX1
import Derived.Test.YtblofllbbcpeiaaX3
import Derived.Test.YtblofllbbcpeiaaUtfF
set_option linter.unusedVariables false
set_option linter.unusedSimpArgs false
namespace Go.Proofs.Ytblofllbbcpeiaa.Utf
open Go.RowKit Go.Proofs.YtblofllbbcpeiaaW.PrintWords Go.Proofs.YtblofllbbcpeiaaW.PrintLast Go.Proofs.YtblofllbbcpeiaaW.XConv Go.Proofs.Ytblofllbbcpeiaa.X Go.Proofs.Ytblofllbbcpeiaa.E
theorem awake_at : oriellaw01_awake.f 60 = some true := by decide +kernel
theorem awake_ev : Evn (fun k => oriellaw01_awake.f k) true := Evn.of_mono oriellaw01_awake.mono awake_at
def Small (t : Int × Int × Int) : Prop := 0 ≤ t.1 ∧ t.1 ≤ 1114111 ∧ 0 ≤ t.2.1 ∧ t.2.1 ≤ 4
theorem Small.ite {c : Prop} [Decidable c] {a b : Int × Int × Int} (h : c → Small a) (h' : ¬ c → Small b) : Small (if c then a else b) := by
  split
  · exact h ‹_›
  · exact h' ‹_›
theorem Small.mk {a b c : Int} (h : 0 ≤ a ∧ a ≤ 1114111 ∧ 0 ≤ b ∧ b ≤ 4) : Small (a, b, c) := h
theorem runeAt_small (s : ByteArray) (p : Int) : 0 ≤ (runeAt s p).1 ∧ (runeAt s p).1 ≤ 1114111 ∧ 0 ≤ (runeAt s p).2.1 ∧ (runeAt s p).2.1 ≤ 4 := by
  have b0 := bt_range s p
  have b1 := bt_range s (p + 1)
  have b2 := bt_range s (p + 2)
  have b3 := bt_range s (p + 3)
  show Small (runeAt s p)
  unfold runeAt R
  repeat' first
    | (with_reducible refine Small.ite (fun _ => ?_) (fun _ => ?_))
    | (with_reducible refine Small.mk ?_)
  all_goals omega
theorem utfRune_ev (s : ByteArray) (p : Int) (hz : s.size ≤ 1000000000) : utf_Rune.f s p = some (runeAt s p) := by
  unfold utf_Rune.f
  rw [if_pos (by omega), rune_eq]
end Go.Proofs.Ytblofllbbcpeiaa.Utf
