/- UtfAlls: of whatever bytes, utf.All and utf.Whole answer as the reference does. -/
import Derived.Test.YtblofllbbcpeiaaX1
import Derived.Test.YtblofllbbcpeiaaX6
import Derived.Test.YtblofllbbcpeiaaX7
import Derived.Test.YtblofllbbcpeiaaUtfJ
set_option linter.unusedVariables false
set_option linter.unusedSimpArgs false
namespace Go.Proofs.Ytblofllbbcpeiaa.Pure
open Go.RowKit Go.Proofs.YtblofllbbcpeiaaW.PrintWords Go.Proofs.YtblofllbbcpeiaaW.PrintLast Go.Proofs.Ytblofllbbcpeiaa.X Go.Proofs.Ytblofllbbcpeiaa.E Go.Proofs.Ytblofllbbcpeiaa.Utf
theorem Dec_len {l rs rest : List Int} (h : Dec l rs rest) : rs.length ≤ l.length := by
  rw [h.eq, List.length_append, List.length_flatMap]
  have : ∀ (t : List Int), (∀ r ∈ t, putL r ≠ []) → t.length ≤ (t.map fun r => (putL r).length).sum := by
    intro t
    induction t with
    | nil => intro _; simp
    | cons a t ih =>
      intro ht
      have h1 := putL_pos (ht a List.mem_cons_self)
      have h2 := ih (fun r hr => ht r (List.mem_cons_of_mem _ hr))
      simp only [List.length_cons, List.map_cons, List.sum_cons]
      omega
  have := this rs h.ok
  omega
theorem UtfAlls : oriellaw01_UtfAlls.Pure := by
  intro s hs
  apply Evn.get
  refine Evn.bind awake_ev ?_
  simp only [if_true]
  by_cases h : (s.size : Int) > 200
  · rw [decide_eq_true h]
    exact Evn.succ (fun k => by simp only [oriellaw01_UtfAlls.j0, if_true]) (Evn.bind awake_ev (Evn.ret _))
  · rw [decide_eq_false h]
    have hz : s.size ≤ 1000000000 := by omega
    obtain ⟨rs, rest, hd⟩ := Dec.exists (bytesOf s).length (bytesOf s) (Nat.le_refl _) (bytesOf_range s)
    have hlen := Dec_len hd
    rw [bytesOf_length] at hlen
    refine Evn.succ (h := fun k => (utf_All.f k s).bind fun bt205 => ((orielref01_All.f k s).bind fun bt210 => ((orielref01_Same.f k bt205.1 bt210.1).bind fun t215 => (if t215 = true then (if bt205.2.1 = bt210.2.1 then (if bt205.2.2 = bt210.2.2 then ((utf_Whole.f k s).bind fun t216 => ((orielref01_Whole.f k s).bind fun t217 => (some (t216 == t217)))) else (some false)) else (some false)) else (some false))))) (fun k => by simp only [oriellaw01_UtfAlls.j0]; rw [if_neg (by decide)]) ?_
    refine Evn.bind (utfAll_ev s hz rs rest hd) (Evn.bind (refAll_ev s hz rs rest hd) (Evn.bind (same_ev rs rs (by omega)) ?_))
    refine Evn.iteT (by simp) (Evn.iteT rfl (Evn.iteT rfl (Evn.bind (utfWhole_ev s hz) (Evn.bind (refWhole_ev s hz) ?_))))
    simp only [beq_self_eq_true]
    exact Evn.ret _
end Go.Proofs.Ytblofllbbcpeiaa.Pure
