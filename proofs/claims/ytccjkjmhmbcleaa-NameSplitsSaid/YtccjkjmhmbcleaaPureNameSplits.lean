/- NameSplits: of whatever text: whether it is a plain name; its parts, or that it is none. -/
import Derived.Test.YtccjkjmhmbcleaaX4
import Derived.Test.YtccjkjmhmbcleaaNameE
set_option linter.unusedVariables false
set_option linter.unusedSimpArgs false
namespace Go.Proofs.Ytccjkjmhmbcleaa.Pure
open Go.RowKit Go.Proofs.YtccjkjmhmbcleaaW.PrintWords Go.Proofs.YtccjkjmhmbcleaaW.PrintLast Go.Proofs.Ytccjkjmhmbcleaa.X Go.Proofs.Ytccjkjmhmbcleaa.E Go.Proofs.Ytccjkjmhmbcleaa.Nm
theorem NameSplits : oriellaw03_NameSplits.Pure := by
  intro s hs
  apply Evn.get
  refine Evn.congr (fun k => by rw [oriellaw03_NameSplits.f]) ?_
  refine Evn.bind awake_ev (Evn.iteT rfl ?_)
  refine Evn.succ (fun k => by rw [oriellaw03_NameSplits.j0]) ?_
  by_cases h : (s.size : Int) > 200
  · rw [decide_eq_true h]
    exact Evn.iteT rfl (Evn.bind awake_ev (Evn.ret _))
  · rw [decide_eq_false h]
    have hz : s.size ≤ 1000000000 := by omega
    refine Evn.iteF (by decide) (Evn.bind (split_ev s hz) (Evn.bind (refSplit_ev s hz) (Evn.bind (plain_ev s) (Evn.bind (refPlain_ev s hz) ?_))))
    refine Evn.iteT (by simp) (Evn.iteT rfl (Evn.iteT rfl ?_))
    rw [beq_self_eq_true]
    exact Evn.ret _
end Go.Proofs.Ytccjkjmhmbcleaa.Pure
