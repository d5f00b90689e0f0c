/- NameCuts: of whatever text, at whatever place: the stretch that may be a name, and its end. -/
import Derived.Test.YtccjkjmhmbcleaaX5
import Derived.Test.YtccjkjmhmbcleaaNameE
set_option linter.unusedVariables false
set_option linter.unusedSimpArgs false
namespace Go.Proofs.Ytccjkjmhmbcleaa.Pure
open Go.RowKit Go.Proofs.YtccjkjmhmbcleaaW.PrintWords Go.Proofs.YtccjkjmhmbcleaaW.PrintLast Go.Proofs.Ytccjkjmhmbcleaa.X Go.Proofs.Ytccjkjmhmbcleaa.E Go.Proofs.Ytccjkjmhmbcleaa.Nm
theorem NameCuts : oriellaw03_NameCuts.Pure := by
  intro s at_ hs ha
  apply Evn.get
  refine Evn.congr (fun k => by rw [oriellaw03_NameCuts.f]) ?_
  refine Evn.bind awake_ev (Evn.iteT rfl ?_)
  refine Evn.succ (fun k => by rw [oriellaw03_NameCuts.j0]) ?_
  by_cases h : (s.size : Int) > 200
  · rw [decide_eq_true h]
    exact Evn.iteT rfl (Evn.bind awake_ev (Evn.ret _))
  · rw [decide_eq_false h]
    have hz : s.size ≤ 1000000000 := by omega
    refine Evn.iteF (by decide) ?_
    by_cases c : at_ < 0 ∨ (s.size : Int) < at_
    · refine Evn.bind (cut_out s at_ c) (Evn.bind (refCut_out s at_ c) (Evn.iteT rfl ?_))
      rw [beq_self_eq_true]
      exact Evn.ret _
    · obtain ⟨a, rfl⟩ : ∃ a : Nat, at_ = a := ⟨at_.toNat, by omega⟩
      refine Evn.bind (cut_ev s hz a (by omega)) (Evn.bind (refCut_ev s hz a (by omega)) (Evn.iteT rfl ?_))
      rw [beq_self_eq_true]
      exact Evn.ret _
end Go.Proofs.Ytccjkjmhmbcleaa.Pure
