/- UtfPuts: of whatever runes, utf.Put's bytes are the reference's, one behind the other. -/
import Derived.Test.YtblofllbbcpeiaaX2
import Derived.Test.YtblofllbbcpeiaaX3
import Derived.Test.YtblofllbbcpeiaaX7
import Derived.Test.YtblofllbbcpeiaaUtfI
set_option linter.unusedVariables false
set_option linter.unusedSimpArgs false
namespace Go.Proofs.Ytblofllbbcpeiaa.Pure
open Go.RowKit Go.Proofs.YtblofllbbcpeiaaW.PrintWords Go.Proofs.YtblofllbbcpeiaaW.PrintLast Go.Proofs.Ytblofllbbcpeiaa.X Go.Proofs.Ytblofllbbcpeiaa.E Go.Proofs.Ytblofllbbcpeiaa.Utf
theorem UtfPuts : oriellaw01_UtfPuts.Pure := by
  intro l hm hs hw
  apply Evn.get
  refine Evn.bind awake_ev ?_
  simp only [if_true]
  by_cases h : (l.length : Int) > 100
  · rw [decide_eq_true h]
    exact Evn.succ (fun k => by simp only [oriellaw01_UtfPuts.j0, if_true]) (Evn.bind awake_ev (Evn.ret _))
  · rw [decide_eq_false h]
    refine Evn.succ (h := fun k => oriellaw01_UtfPuts.l0 k l [] ((0 : Nat) : Int)) (fun k => by simp only [oriellaw01_UtfPuts.j0]; rw [if_neg (by decide)]; rfl) ?_
    have loop : ∀ (d i : Nat) (acc : List Int), i + d = l.length → acc = (l.take i).flatMap putR → acc.length ≤ 4 * i → Evn (fun k => oriellaw01_UtfPuts.l0 k l acc i) true := by
      intro d
      induction d with
      | zero =>
        intro i acc hi ha hc
        refine Evn.succ (h := fun k => (utf_Put.f k l).bind fun t220 => (some (t220.toList == (strOfNums acc).toList))) (fun k => by simp only [oriellaw01_UtfPuts.l0]; rw [if_neg (by omega)]) ?_
        refine Evn.bind (utfPut_ev l (by omega)) ?_
        rw [ha, List.take_of_length_le (by omega)]
        simp only [beq_self_eq_true]
        exact Evn.ret _
      | succ d ih =>
        intro i acc hi ha hc
        have h1 : i < l.length := by omega
        have hwf := hw l[i] (List.getElem_mem h1)
        have hwf2 : -2147483648 ≤ l[i] ∧ l[i] ≤ 2147483647 := by
          have e := wf_bd_i32 hwf
          exact e
        have hlen := putR_len l[i]
        have hrec := ih (i + 1) (acc ++ putR l[i]) (by omega) (by rw [ha, List.take_succ_eq_append_getElem h1, List.flatMap_append]; simp) (by rw [List.length_append]; omega)
        refine Evn.succ (h := fun k => (orielref01_Put.f k l[i]).bind fun t222 => (if (t222.length : Int) = 0 then ((orielref01_Put.f k 65533).bind fun t225 => (if acc.length + t225.length < 140737488355328 then (oriellaw01_UtfPuts.l0 k l (acc ++ t225) ((i + 1 : Nat) : Int)) else (none))) else (if acc.length + t222.length < 140737488355328 then (oriellaw01_UtfPuts.l0 k l (acc ++ t222) ((i + 1 : Nat) : Int)) else (none)))) (fun k => ?_) ?_
        · simp only [oriellaw01_UtfPuts.l0]
          rw [if_pos (by omega), if_pos (by omega), rd_at l i h1, w64 (by omega) (by omega), w64 (x := (i : Int) + 1) (by omega) (by omega)]
          rfl
        refine Evn.bind (refPut_ev _) ?_
        have l4 := putL_len l[i]
        have l5 := putL_len 65533
        by_cases hp : putL l[i] = []
        · refine Evn.iteT (by rw [hp]; rfl) (Evn.bind (refPut_ev 65533) (Evn.iteT (by omega) ?_))
          have : putR l[i] = putL 65533 := by unfold putR; rw [if_pos hp]
          rw [← this]
          exact hrec
        · have := putL_pos hp
          refine Evn.iteF (by omega) (Evn.iteT (by omega) ?_)
          have : putR l[i] = putL l[i] := by unfold putR; rw [if_neg hp]
          rw [← this]
          exact hrec
    exact loop l.length 0 [] (by omega) (by simp) (by simp)
end Go.Proofs.Ytblofllbbcpeiaa.Pure
