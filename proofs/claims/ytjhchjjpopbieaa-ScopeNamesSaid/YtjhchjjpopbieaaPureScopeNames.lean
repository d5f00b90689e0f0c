/- ScopeNames: in whatever scope, whatever texts: their names, or that one has none. -/
import Derived.Test.YtjhchjjpopbieaaX17
import Derived.Test.YtjhchjjpopbieaaScopeD
set_option linter.unusedVariables false
set_option linter.unusedSimpArgs false
namespace Go.Proofs.Ytjhchjjpopbieaa.Pure
open Go.RowKit Go.Proofs.YtjhchjjpopbieaaW.PrintWords Go.Proofs.YtjhchjjpopbieaaW.PrintLast Go.Proofs.YtjhchjjpopbieaaW.XConv Go.Proofs.Ytjhchjjpopbieaa.X Go.Proofs.Ytjhchjjpopbieaa.E Go.Proofs.Ytjhchjjpopbieaa.Nm Go.Proofs.Ytjhchjjpopbieaa.Sc
abbrev Na := S29
def namesS (l : List Bi) : List Na → List ByteArray → List Na × Int
  | acc, [] => (acc, 0)
  | acc, s :: ss => if (resolveS l s false).2.2 = true then namesS l (acc ++ [⟨(resolveS l s false).1, (resolveS l s false).2.1⟩]) ss else ([], 9)
theorem rdS {l : List ByteArray} {i : Nat} (h : i < l.length) : rdOf ByteArray.empty l (i : Int) = l[i] := by
  show l.getD i _ = _
  rw [List.getD_eq_getElem?_getD, List.getElem?_eq_getElem h]; rfl
theorem names_l (l : List Bi) (ss : List ByteArray) (hs : ∀ s, s ∈ ss → s.size ≤ 1000000000) (hl : ss.length ≤ 1000) : ∀ n i, ss.length - i ≤ n → i ≤ ss.length → ∀ acc : List Na, acc.length ≤ i → Evn (fun k => scope_Names.l0 k l acc ss (ss.length : Int) (i : Int)) (namesS l acc (ss.drop i)) := by
  intro n
  have fin : ∀ acc : List Na, Evn (fun k => scope_Names.l0 k l acc ss (ss.length : Int) (ss.length : Int)) (namesS l acc (ss.drop ss.length)) := by
    intro acc
    rw [List.drop_length]
    refine Evn.succ (fun k => by rw [scope_Names.l0]) ?_
    exact Evn.iteF (by omega) (Evn.ret _)
  induction n with
  | zero => intro i h1 h2 acc _; obtain rfl : i = ss.length := by omega
            exact fin acc
  | succ n ih =>
    intro i h1 h2 acc h3
    by_cases h : i < ss.length
    · refine Evn.succ (fun k => by rw [scope_Names.l0]) ?_
      refine Evn.iteT (by omega) (Evn.iteT (by omega) (Evn.iteT (by omega) ?_))
      rw [rdS h, up1 h (by omega), List.drop_eq_getElem_cons h]
      refine Evn.bind (resolve_ev l _ false (hs _ (List.getElem_mem _))) ?_
      rw [namesS]
      by_cases g : (resolveS l ss[i] false).2.2 = true
      · exact Evn.toT g (Evn.iteT g (Evn.iteT (by omega) (ih (i + 1) (by omega) (by omega) _ (by simp; omega))))
      · exact Evn.toF g (Evn.iteF g (Evn.ret _))
    · obtain rfl : i = ss.length := by omega
      exact fin acc
theorem names_ev (l : List Bi) (ss : List ByteArray) (hs : ∀ s, s ∈ ss → s.size ≤ 1000000000) (hl : ss.length ≤ 1000) : Evn (fun k => scope_Names.f k l ss) (namesS l [] ss) := by
  refine Evn.congr (fun k => by rw [scope_Names.f]) ?_
  have := names_l l ss hs hl ss.length 0 (by omega) (by omega) [] (by simp)
  rw [List.drop_zero] at this
  exact this
theorem ScopeNames : oriellaw07_ScopeNames.Pure := by
  intro x0 x1 x2 _ _ _ _
  apply Evn.get
  refine Evn.congr (fun k => by rw [oriellaw07_ScopeNames.f]) ?_
  refine Evn.bind awake_ev (Evn.iteT rfl ?_)
  have out : Evn (fun k => oriellaw07_ScopeNames.j0 k x0 x1 x2 true) true := by
    refine Evn.succ (fun k => by rw [oriellaw07_ScopeNames.j0]) ?_
    exact Evn.iteT rfl (Evn.bind awake_ev (Evn.ret _))
  by_cases h1 : (x0.length : Int) > 60
  · exact Evn.iteT h1 out
  refine Evn.iteF h1 ?_
  by_cases h2 : (x1.size : Int) > 200
  · exact Evn.iteT h2 out
  refine Evn.iteF h2 ?_
  by_cases h3 : (x2.size : Int) > 200
  · rw [decide_eq_true h3]
    exact out
  rw [decide_eq_false h3]
  refine Evn.succ (fun k => by rw [oriellaw07_ScopeNames.j0]) ?_
  refine Evn.iteF Bool.false_ne_true (Evn.bind (names_ev x0 [x1, x2] (fun s hs => by
    rcases List.mem_cons.1 hs with rfl | hs
    · omega
    · rw [List.mem_singleton.1 hs]; omega) (by simp)) (Evn.bind (refResolve_ev x0 x1 true (by omega) (by omega)) (Evn.bind (refResolve_ev x0 x2 true (by omega) (by omega)) (Evn.bind (names_ev x0 [] (fun s hs => by simp at hs) (by simp)) (Evn.iteT rfl ?_)))))
  show Evn (fun k => oriellaw07_ScopeNames.j1 k _ _ (resolveS x0 x1 false).2.2 (resolveS x0 x2 false).2.2 false (resolveS x0 x1 false).1 (resolveS x0 x1 false).2.1 (resolveS x0 x2 false).1 (resolveS x0 x2 false).2.1) true
  refine Evn.succ (fun k => by rw [oriellaw07_ScopeNames.j1]) ?_
  refine Evn.iteF Bool.false_ne_true ?_
  rw [namesS]
  by_cases g1 : (resolveS x0 x1 false).2.2 = true
  · refine Evn.iteT g1 ?_
    rw [if_pos g1, namesS]
    by_cases g2 : (resolveS x0 x2 false).2.2 = true
    · refine Evn.iteT g2 ?_
      rw [if_pos g2]
      refine Evn.iteT rfl (Evn.iteT rfl (Evn.iteT (by simp [namesS]) (Evn.iteT ?_ (Evn.iteT (by simp [namesS]) ?_))))
      · simp [namesS, rd_T29]
      · rw [show (_ && _ : Bool) = true from by simp [namesS, rd_T29]]
        exact Evn.ret _
    · refine Evn.iteF g2 ?_
      rw [if_neg g2]
      exact Evn.iteT rfl (Evn.ret _)
  · refine Evn.iteF g1 ?_
    rw [if_neg g1]
    exact Evn.iteT rfl (Evn.ret _)
end Go.Proofs.Ytjhchjjpopbieaa.Pure
