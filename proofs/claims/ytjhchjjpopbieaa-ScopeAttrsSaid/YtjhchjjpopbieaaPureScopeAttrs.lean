/- ScopeAttrs: an attribute without a prefix has no space, whatever is bound; an element has the default one's. -/
import Derived.Test.YtjhchjjpopbieaaX5
import Derived.Test.YtjhchjjpopbieaaX6
import Derived.Test.YtjhchjjpopbieaaX17
import Derived.Test.YtjhchjjpopbieaaScopeD
set_option linter.unusedVariables false
set_option linter.unusedSimpArgs false
namespace Go.Proofs.Ytjhchjjpopbieaa.Pure
open Go.RowKit Go.Proofs.YtjhchjjpopbieaaW.PrintWords Go.Proofs.YtjhchjjpopbieaaW.PrintLast Go.Proofs.YtjhchjjpopbieaaW.XConv Go.Proofs.Ytjhchjjpopbieaa.X Go.Proofs.Ytjhchjjpopbieaa.E Go.Proofs.Ytjhchjjpopbieaa.Nm Go.Proofs.Ytjhchjjpopbieaa.Sc
theorem find_last (l : List Bi) (p s : ByteArray) : findR (l ++ [⟨p, s⟩]) p = (s, true) := by
  unfold findR
  rw [List.reverse_append, List.reverse_singleton, List.singleton_append, fnd, if_pos (beq_self_eq_true _)]
abbrev sXmlns : ByteArray := ⟨#[120, 109, 108, 110, 115]⟩
abbrev sA : ByteArray := ⟨#[97]⟩
abbrev sB : ByteArray := ⟨#[98]⟩
theorem split_lit (s : ByteArray) (r : ByteArray × ByteArray × Bool) (hz : s.size ≤ 1000000000) (h : name_Split.f 40 s = some r) : splitS s = r := Evn.uniq (split_ev s hz) (Evn.of_mono (k := 40) (fun k => name_Split.mono s k) h)
theorem spXmlns : splitS sXmlns = (⟨#[]⟩, sXmlns, true) := split_lit _ _ (by decide) (by decide +kernel)
theorem spA : splitS sA = (⟨#[]⟩, sA, true) := split_lit _ _ (by decide) (by decide +kernel)
theorem spB : splitS sB = (⟨#[]⟩, sB, true) := split_lit _ _ (by decide) (by decide +kernel)
theorem enter_lit (l : List Bi) (sp : ByteArray) (h1 : sp.toList ≠ xmlSp) (h2 : sp.toList ≠ xmlnsSp) : enterS l sA [⟨sXmlns, sp⟩, ⟨sB, ⟨#[49]⟩⟩] = (l ++ [⟨⟨#[]⟩, sp⟩], 1, sp, sA, [⟨⟨⟨#[]⟩, sB⟩, ⟨#[49]⟩⟩], ⟨#[]⟩, 0) := by
  have b1 : bndS ⟨sXmlns, sp⟩ = (⟨#[]⟩, true) := by
    unfold bndS
    rw [spXmlns, if_neg (by rw [nil_tl]; decide)]
    simp only [Prod.mk.injEq, true_and]
    rw [tl_data]; decide
  have b2 : bndS ⟨sB, ⟨#[49]⟩⟩ = (⟨#[]⟩, false) := by
    unfold bndS
    rw [spB, if_neg (by rw [nil_tl]; decide)]
    simp only [Prod.mk.injEq, true_and]
    rw [tl_data]; decide
  have hm : mayS (bndS ⟨sXmlns, sp⟩).1.toList sp.toList = true := by
    rw [b1, nil_tl]
    unfold mayS
    rw [beq_eq_false_iff_ne.mpr h1, beq_eq_false_iff_ne.mpr h2]
    rfl
  unfold enterS
  rw [outS_go (by rw [b1]) hm, outS_no (by rw [b2]), restS_cons_go (by rw [b1]), restS_cons_no (by rw [b2]), b1]
  show nameS (l ++ [⟨⟨#[]⟩, sp⟩]) sA [⟨sB, ⟨#[49]⟩⟩] = _
  have r1 : resolveS (l ++ [⟨⟨#[]⟩, sp⟩]) sA false = (sp, sA, true) := by
    unfold resolveS
    rw [spA, if_pos rfl, if_neg (by rw [nil_tl]; decide), if_neg (fun h => Bool.false_ne_true h.1), find_last]
  have r2 : resolveS (l ++ [⟨⟨#[]⟩, sp⟩]) sB true = (⟨#[]⟩, sB, true) := by
    unfold resolveS
    rw [spB, if_pos rfl, if_neg (by rw [nil_tl]; decide), if_pos ⟨rfl, nil_tl⟩]
  unfold nameS
  rw [r1, if_pos rfl, endS_go (by rw [r2]) (by simp), r2]
  rfl
theorem ScopeAttrs : oriellaw07_ScopeAttrs.Pure := by
  intro x0 x1 _ _ _
  apply Evn.get
  refine Evn.congr (fun k => by rw [oriellaw07_ScopeAttrs.f]) ?_
  refine Evn.bind awake_ev (Evn.iteT rfl ?_)
  have out : Evn (fun k => oriellaw07_ScopeAttrs.j0 k x0 x1 true) true := by
    refine Evn.succ (fun k => by rw [oriellaw07_ScopeAttrs.j0]) ?_
    exact Evn.iteT rfl (Evn.bind awake_ev (Evn.ret _))
  by_cases h1 : (x0.length : Int) > 60
  · exact Evn.iteT h1 out
  refine Evn.iteF h1 ?_
  by_cases h2 : x1.toList = []
  · exact Evn.iteT h2 out
  refine Evn.iteF h2 ?_
  by_cases h3 : x1.toList = xmlSp
  · exact Evn.iteT h3 out
  refine Evn.iteF h3 ?_
  by_cases h4 : x1.toList = xmlnsSp
  · rw [h4]
    exact out
  rw [beq_eq_false_iff_ne.mpr h4]
  refine Evn.succ (fun k => by rw [oriellaw07_ScopeAttrs.j0]) ?_
  refine Evn.iteF Bool.false_ne_true (Evn.bind (enter_ev x0 sA [⟨sXmlns, x1⟩, ⟨sB, ⟨#[49]⟩⟩] (by decide) (fun x hx => by
    rcases List.mem_cons.1 hx with rfl | hx
    · show sXmlns.size ≤ _; decide
    · rw [List.mem_singleton.1 hx]; decide) (by simp) (by omega)) ?_)
  rw [enter_lit x0 x1 h3 h4]
  refine Evn.iteT rfl (Evn.iteT ?_ (Evn.iteT rfl (Evn.iteT (by simp) ?_)))
  · simp only [beq_self_eq_true, Bool.true_and]
    rw [tl_data]; decide
  · have e : (((rd_T47 [(⟨⟨⟨#[]⟩, sB⟩, ⟨#[49]⟩⟩ : At)] 0).f0.f0).toList == ([] : List UInt8) && (((rd_T47 [(⟨⟨⟨#[]⟩, sB⟩, ⟨#[49]⟩⟩ : At)] 0).f0.f1).toList == ([98] : List UInt8))) = true := by decide +kernel
    show Evn (fun _ => some (((rd_T47 [(⟨⟨⟨#[]⟩, sB⟩, ⟨#[49]⟩⟩ : At)] 0).f0.f0).toList == ([] : List UInt8) && (((rd_T47 [(⟨⟨⟨#[]⟩, sB⟩, ⟨#[49]⟩⟩ : At)] 0).f0.f1).toList == ([98] : List UInt8)))) true
    rw [e]
    exact Evn.ret _
end Go.Proofs.Ytjhchjjpopbieaa.Pure
