/- ScopeEnters: in whatever scope, whatever tag: the scope then, and the event, or the first error; whatever prefix's space. -/
import Derived.Test.YtjhchjjpopbieaaX14
import Derived.Test.YtjhchjjpopbieaaScopeE
set_option linter.unusedVariables false
set_option linter.unusedSimpArgs false
namespace Go.Proofs.Ytjhchjjpopbieaa.Pure
open Go.RowKit Go.Proofs.YtjhchjjpopbieaaW.PrintWords Go.Proofs.YtjhchjjpopbieaaW.PrintLast Go.Proofs.YtjhchjjpopbieaaW.XConv Go.Proofs.Ytjhchjjpopbieaa.X Go.Proofs.Ytjhchjjpopbieaa.E Go.Proofs.Ytjhchjjpopbieaa.Nm Go.Proofs.Ytjhchjjpopbieaa.Sc
theorem ScopeEnters : oriellaw07_ScopeEnters.Pure := by
  intro x0 x1 x2 _ _ _ _
  apply Evn.get
  refine Evn.congr (fun k => by rw [oriellaw07_ScopeEnters.f]) ?_
  refine Evn.bind awake_ev (Evn.iteT rfl ?_)
  obtain ⟨b, hb, hq⟩ := few_ev x0 x1.f0 x1.f1
  refine Evn.bind hb ?_
  refine Evn.succ (fun k => by rw [oriellaw07_ScopeEnters.j0]) ?_
  cases b with
  | false => exact Evn.iteT rfl (Evn.bind awake_ev (Evn.ret _))
  | true =>
    have L := hq rfl
    have h1 := L.hl
    have h2 := L.hn
    have h3 := L.len
    refine Evn.iteF (by decide) (Evn.bind (enter_ev x0 x1.f0 x1.f1 (by omega) L.hs (by omega) (by omega)) (Evn.bind (refEnter_ev x0 x1.f0 x1.f1 (by omega) L.hs L.named (by omega) (by omega)) (Evn.bind (find_ev x0 x2) (Evn.bind (refFind_ev x0 x2 (by omega)) ?_))))
    have hlen : (enterS x0 x1.f0 x1.f1).1.length ≤ 1000000000 ∧ (enterS x0 x1.f0 x1.f1).2.2.2.2.1.length ≤ 1000000000 := by
      rcases enterS_cases x0 x1.f0 x1.f1 with ⟨out, a, b, atts, _, g1, g2, e⟩ | ⟨e, _, e⟩
      · rw [e]; exact ⟨by simp only; omega, by simp only; omega⟩
      · rw [e]; exact ⟨by simp [failS], by simp [failS]⟩
    refine Evn.bind (same_refl _ hlen.1) (Evn.iteT rfl (Evn.bind (sameEvent_refl _ _ _ _ _ hlen.2) (Evn.iteT rfl (Evn.iteT rfl (Evn.iteT rfl ?_)))))
    rw [beq_self_eq_true]
    exact Evn.ret _
end Go.Proofs.Ytjhchjjpopbieaa.Pure
