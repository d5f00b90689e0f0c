/- Layer 7: what the functions answer. -/
import Derived.Test.YtjhchjjpopbieaaX5
import Derived.Test.YtjhchjjpopbieaaX6
import Derived.Test.YtjhchjjpopbieaaX10
import Derived.Test.YtjhchjjpopbieaaX11
import Derived.Test.YtjhchjjpopbieaaNameE
set_option linter.unusedVariables false
set_option linter.unusedSimpArgs false
namespace Go.Proofs.Ytjhchjjpopbieaa.Sc
open Go.RowKit Go.Proofs.YtjhchjjpopbieaaW.PrintWords Go.Proofs.YtjhchjjpopbieaaW.PrintLast Go.Proofs.YtjhchjjpopbieaaW.XConv Go.Proofs.Ytjhchjjpopbieaa.E Go.Proofs.Ytjhchjjpopbieaa.X Go.Proofs.Ytjhchjjpopbieaa.Nm
abbrev Bi := S44
abbrev Ra := S51
abbrev At := S47
theorem rdBi {l : List Bi} {i : Nat} (h : i < l.length) : rd_T44 l (i : Int) = l[i] := by
  show l.getD i _ = _
  rw [List.getD_eq_getElem?_getD, List.getElem?_eq_getElem h]; rfl
theorem rdRa {l : List Ra} {i : Nat} (h : i < l.length) : rd_T51 l (i : Int) = l[i] := by
  show l.getD i _ = _
  rw [List.getD_eq_getElem?_getD, List.getElem?_eq_getElem h]; rfl
theorem rdAt {l : List At} {i : Nat} (h : i < l.length) : rd_T47 l (i : Int) = l[i] := by
  show l.getD i _ = _
  rw [List.getD_eq_getElem?_getD, List.getElem?_eq_getElem h]; rfl
theorem up1 {i : Nat} {n : Nat} (h : i < n) (hn : n ≤ 1000000000) : wrap64 ((i : Int) + 1) = ((i + 1 : Nat) : Int) := by rw [w64 (by omega) (by omega)]; omega
/-! Find -/
def stepF (a : ByteArray) (acc : ByteArray × Bool) (x : Bi) : ByteArray × Bool := if x.f0.toList = a.toList then (x.f1, true) else acc
theorem fold_fnd (a : ByteArray) (acc : ByteArray × Bool) : ∀ m : List Bi, m.reverse.foldl (stepF a) acc = match fnd a m with | some s => (s, true) | none => acc
  | [] => rfl
  | x :: m => by
    rw [List.reverse_cons, List.foldl_append, List.foldl_cons, List.foldl_nil, fold_fnd a acc m]
    rw [stepF, fnd]
    by_cases h : x.f0.toList = a.toList
    · rw [if_pos h, if_pos (by rw [h]; exact beq_self_eq_true _)]
    · rw [if_neg h, if_neg (by simpa using h)]
theorem refFind_l (l : List Bi) (a : ByteArray) (hl : l.length ≤ 1000000000) : ∀ b i, l.length - i ≤ b → i ≤ l.length → ∀ s t, Evn (fun k => orielref07_Find.l0 k l a s t (i : Int)) ((l.drop i).foldl (stepF a) (s, t)) := by
  intro b
  induction b with
  | zero =>
    intro i h1 h2 s t
    obtain rfl : i = l.length := by omega
    rw [List.drop_length]
    refine Evn.succ (fun k => by rw [orielref07_Find.l0]) ?_
    exact Evn.iteF (by omega) (Evn.ret _)
  | succ b ih =>
    intro i h1 h2 s t
    by_cases h : i < l.length
    · refine Evn.succ (fun k => by rw [orielref07_Find.l0]) ?_
      refine Evn.iteT (by omega) (Evn.iteT (by omega) ?_)
      rw [List.drop_eq_getElem_cons h, List.foldl_cons, rdBi h, up1 h hl]
      unfold stepF
      by_cases hx : l[i].f0.toList = a.toList
      · rw [if_pos hx]
        exact Evn.iteT hx (ih (i + 1) (by omega) (by omega) _ _)
      · rw [if_neg hx]
        exact Evn.iteF hx (ih (i + 1) (by omega) (by omega) _ _)
    · obtain rfl : i = l.length := by omega
      rw [List.drop_length]
      refine Evn.succ (fun k => by rw [orielref07_Find.l0]) ?_
      exact Evn.iteF (by omega) (Evn.ret _)
theorem refFind_ev (l : List Bi) (a : ByteArray) (hl : l.length ≤ 1000000000) : Evn (fun k => orielref07_Find.f k l a) (findR l a) := by
  refine Evn.congr (fun k => by rw [orielref07_Find.f]) ?_
  have h := refFind_l l a hl l.length 0 (by omega) (by omega) ⟨#[]⟩ (a.toList == ([] : List UInt8))
  rw [List.drop_zero, ← List.reverse_reverse l, fold_fnd, List.reverse_reverse] at h
  exact h
theorem find_ev (l : List Bi) (a : ByteArray) : Evn (fun _ => scope_Find.f l a) (findR l a) := Evn.ret _
/-! a name in a scope -/
abbrev xmlnsL : List UInt8 := [120, 109, 108, 110, 115]
def resolveS (l : List Bi) (s : ByteArray) (plain : Bool) : ByteArray × ByteArray × Bool :=
  if (splitS s).2.2 = true then
    if ((splitS s).1.toList == xmlnsL) = true then (⟨#[]⟩, ⟨#[]⟩, false)
    else if plain = true ∧ (splitS s).1.toList = [] then (⟨#[]⟩, (splitS s).2.1, true)
    else ((findR l (splitS s).1).1, (splitS s).2.1, (findR l (splitS s).1).2)
  else (⟨#[]⟩, ⟨#[]⟩, false)
theorem resolve_ev (l : List Bi) (s : ByteArray) (plain : Bool) (hz : s.size ≤ 1000000000) : Evn (fun k => scope_resolve.f k l s plain) (resolveS l s plain) := by
  refine Evn.congr (fun k => by rw [scope_resolve.f]) ?_
  refine Evn.bind (split_ev s hz) ?_
  unfold resolveS
  generalize splitS s = r
  by_cases h1 : r.2.2 = true
  · refine Evn.toT h1 ?_
    refine Evn.iteT h1 (Evn.succ (fun k => by rw [scope_resolve.j0]) ?_)
    by_cases h2 : (r.1.toList == xmlnsL) = true
    · refine Evn.toT h2 ?_
      exact Evn.iteT h2 (Evn.ret _)
    · refine Evn.toF h2 ?_
      refine Evn.iteF h2 ?_
      cases plain with
      | true =>
        refine Evn.iteT rfl ?_
        by_cases h3 : r.1.toList = []
        · refine Evn.toT ⟨rfl, h3⟩ ?_
          exact Evn.iteT h3 (Evn.ret _)
        · refine Evn.toF (fun h => h3 h.2) ?_
          exact Evn.iteF h3 (Evn.bind (find_ev l r.1) (Evn.ret _))
      | false =>
        refine Evn.toF (fun h => Bool.false_ne_true h.1) ?_
        exact Evn.iteF Bool.false_ne_true (Evn.bind (find_ev l r.1) (Evn.ret _))
  · refine Evn.toF h1 ?_
    refine Evn.iteF h1 (Evn.succ (fun k => by rw [scope_resolve.j0]) ?_)
    exact Evn.iteT rfl (Evn.ret _)
theorem refResolve_ev (l : List Bi) (s : ByteArray) (el : Bool) (hz : s.size ≤ 1000000000) (hl : l.length ≤ 1000000000) : Evn (fun k => orielref07_Resolve.f k l s el) (resolveS l s (!el)) := by
  refine Evn.congr (fun k => by rw [orielref07_Resolve.f]) ?_
  refine Evn.bind (refSplit_ev s hz) ?_
  unfold resolveS
  generalize splitS s = r
  by_cases h1 : r.2.2 = true
  · refine Evn.toT h1 ?_
    refine Evn.iteT h1 (Evn.succ (fun k => by rw [orielref07_Resolve.j0]) ?_)
    by_cases h2 : (r.1.toList == xmlnsL) = true
    · refine Evn.toT h2 ?_
      exact Evn.iteT h2 (Evn.ret _)
    · refine Evn.toF h2 ?_
      refine Evn.iteF h2 ?_
      by_cases h3 : r.1.toList = []
      · refine Evn.iteT h3 ?_
        cases el with
        | true =>
          refine Evn.toF (fun h => Bool.false_ne_true h.1) ?_
          exact Evn.iteT rfl (Evn.bind (refFind_ev l r.1 hl) (Evn.ret _))
        | false =>
          refine Evn.toT ⟨rfl, h3⟩ ?_
          exact Evn.iteF Bool.false_ne_true (Evn.ret _)
      · refine Evn.toF (fun h => h3 h.2) ?_
        exact Evn.iteF h3 (Evn.bind (refFind_ev l r.1 hl) (Evn.ret _))
  · refine Evn.toF h1 ?_
    refine Evn.iteF h1 (Evn.succ (fun k => by rw [orielref07_Resolve.j0]) ?_)
    exact Evn.iteT rfl (Evn.ret _)
/-! what an attribute binds -/
def bndS (x : Ra) : ByteArray × Bool := if (splitS x.f0).1.toList = xmlnsL then ((splitS x.f0).2.1, true) else (⟨#[]⟩, (x.f0.toList == xmlnsL))
theorem bound_ev (x : Ra) (hz : x.f0.size ≤ 1000000000) : Evn (fun k => scope_bound.f k x.f0 x.f1) (bndS x) := by
  refine Evn.congr (fun k => by rw [scope_bound.f]) ?_
  refine Evn.bind (split_ev x.f0 hz) ?_
  unfold bndS
  by_cases h : (splitS x.f0).1.toList = xmlnsL
  · refine Evn.toT h ?_
    exact Evn.iteT h (Evn.ret _)
  · refine Evn.toF h ?_
    exact Evn.iteF h (Evn.ret _)
abbrev xmlL : List UInt8 := [120, 109, 108]
abbrev xmlSp : List UInt8 := [104, 116, 116, 112, 58, 47, 47, 119, 119, 119, 46, 119, 51, 46, 111, 114, 103, 47, 88, 77, 76, 47, 49, 57, 57, 56, 47, 110, 97, 109, 101, 115, 112, 97, 99, 101]
abbrev xmlnsSp : List UInt8 := [104, 116, 116, 112, 58, 47, 47, 119, 119, 119, 46, 119, 51, 46, 111, 114, 103, 47, 50, 48, 48, 48, 47, 120, 109, 108, 110, 115, 47]
def mayS (p s : List UInt8) : Bool := !(p == xmlnsL) && (!(s == xmlnsSp) && ((p == xmlL) == (s == xmlSp) && ((p == []) || !(s == []))))
theorem may_eq (p s : ByteArray) : scope_may.f p s = some (mayS p.toList s.toList) := by
  unfold scope_may.f mayS
  by_cases h1 : p.toList = xmlnsL
  · rw [if_pos h1, h1]; rfl
  rw [if_neg h1, beq_eq_false_iff_ne.mpr h1]
  by_cases h2 : s.toList = xmlnsSp
  · rw [if_pos h2, h2]; rfl
  rw [if_neg h2, beq_eq_false_iff_ne.mpr h2]
  cases h3 : (p.toList == xmlL) != (s.toList == xmlSp) with
  | true =>
    rw [if_pos rfl]
    have : ((p.toList == xmlL) == (s.toList == xmlSp)) = false := by simpa using h3
    rw [this]; rfl
  | false =>
    rw [if_neg Bool.false_ne_true]
    have : ((p.toList == xmlL) == (s.toList == xmlSp)) = true := by simpa using h3
    rw [this]
    by_cases h4 : p.toList = []
    · rw [if_pos h4, h4]; rfl
    · rw [if_neg h4, beq_eq_false_iff_ne.mpr h4]; rfl
end Go.Proofs.Ytjhchjjpopbieaa.Sc
