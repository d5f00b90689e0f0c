/- ScopeFinds: a prefix is what the innermost element that binds it says; outside it is what it was. -/
import Derived.Test.YtjhchjjpopbieaaX6
import Derived.Test.YtjhchjjpopbieaaX15
import Derived.Test.YtjhchjjpopbieaaScopeD
set_option linter.unusedVariables false
set_option linter.unusedSimpArgs false
namespace Go.Proofs.Ytjhchjjpopbieaa.Pure
open Go.RowKit Go.Proofs.YtjhchjjpopbieaaW.PrintWords Go.Proofs.YtjhchjjpopbieaaW.PrintLast Go.Proofs.YtjhchjjpopbieaaW.XConv Go.Proofs.Ytjhchjjpopbieaa.X Go.Proofs.Ytjhchjjpopbieaa.E Go.Proofs.Ytjhchjjpopbieaa.Nm Go.Proofs.Ytjhchjjpopbieaa.Sc
theorem find_last (l : List Bi) (p s : ByteArray) : findR (l ++ [⟨p, s⟩]) p = (s, true) := by
  unfold findR
  rw [List.reverse_append, List.reverse_singleton, List.singleton_append, fnd, if_pos (beq_self_eq_true _)]
theorem ScopeFinds : oriellaw07_ScopeFinds.Pure := by
  intro x0 x1 x2 x3 _ _ _ _ _
  apply Evn.get
  refine Evn.congr (fun k => by rw [oriellaw07_ScopeFinds.f]) ?_
  refine Evn.bind awake_ev (Evn.iteT rfl ?_)
  obtain ⟨b, hb, hq⟩ := few_ev x0 x1.f0 x1.f1
  refine Evn.bind hb ?_
  refine Evn.succ (fun k => by rw [oriellaw07_ScopeFinds.j0]) ?_
  cases b with
  | false => exact Evn.iteT rfl (Evn.bind awake_ev (Evn.ret _))
  | true =>
    have L := hq rfl
    have h1 := L.hl
    have h2 := L.hn
    have h3 := L.len
    refine Evn.iteF (by decide) (Evn.bind (find_ev x0 x2) (Evn.bind (enter_ev x0 x1.f0 x1.f1 (by omega) L.hs (by omega) (by omega)) ?_))
    rcases enterS_cases x0 x1.f0 x1.f1 with ⟨out, a, b, atts, g0, g1, g2, e⟩ | ⟨e, he, e2⟩
    · rw [e]
      refine Evn.iteT rfl (Evn.bind (b := ([] : List Bi)) (Evn.ret _) (Evn.iteT (by simp; omega) (Evn.bind (b := ([] ++ out : List Bi)) (Evn.ret _) (Evn.iteT (by simp; omega) ?_))))
      refine Evn.bind (find_ev _ x2) (Evn.bind (find_ev x0 x2) ?_)
      rw [find_last]
      have hle := g0.length_le
      refine Evn.iteT rfl (Evn.iteT rfl (Evn.iteT rfl (Evn.iteT (beq_self_eq_true _) (Evn.iteT (by simp only; omega) (Evn.iteT (by omega) (Evn.iteT (by simp only; omega) ?_))))))
      have ht : out.take ((x0.length : Int) : Int).toNat = x0 := by
        rw [Int.toNat_natCast]
        exact (List.prefix_iff_eq_take.1 g0).symm
      rw [ht]
      exact Evn.bind (same_refl x0 (by omega)) (Evn.ret _)
    · rw [e2]
      exact Evn.iteF he (Evn.ret _)
end Go.Proofs.Ytjhchjjpopbieaa.Pure
