/- UtfRunes: of whatever bytes, at whatever place, utf.Rune and the reference answer the same. -/
import Derived.Test.YtblofllbbcpeiaaUtfG
set_option linter.unusedVariables false
set_option linter.unusedSimpArgs false
namespace Go.Proofs.Ytblofllbbcpeiaa.Pure
open Go.RowKit Go.Proofs.YtblofllbbcpeiaaW.PrintWords Go.Proofs.YtblofllbbcpeiaaW.PrintLast Go.Proofs.Ytblofllbbcpeiaa.X Go.Proofs.Ytblofllbbcpeiaa.E Go.Proofs.Ytblofllbbcpeiaa.Utf
theorem UtfRunes : oriellaw01_UtfRunes.Pure := by
  intro s p hs _
  apply Evn.get
  refine Evn.bind awake_ev ?_
  simp only [if_true]
  by_cases h : (s.size : Int) > 200
  · rw [decide_eq_true h]
    exact Evn.succ (fun k => by simp only [oriellaw01_UtfRunes.j0, if_true]) (Evn.bind awake_ev (Evn.ret _))
  · rw [decide_eq_false h]
    have hz : s.size ≤ 1000000000 := by omega
    have hsm := runeAt_small s p
    refine Evn.succ (h := fun k => (orielref01_Rune.f k s p).bind fun bt191 => (if (runeAt s p).1 = bt191.1 then (if (runeAt s p).2.1 = bt191.2.1 then (some ((runeAt s p).2.2 == bt191.2.2)) else (some false)) else (some false))) (fun k => ?_) ?_
    · simp only [oriellaw01_UtfRunes.j0, utfRune_ev s p hz, Option.bind_some]
      rw [if_neg (by decide), w64 (by omega) (by omega)]
    · refine Evn.bind (refRune_ev s p hz) ?_
      simp only [if_true, beq_self_eq_true]
      exact Evn.ret _
end Go.Proofs.Ytblofllbbcpeiaa.Pure
