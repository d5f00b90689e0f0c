/- Layer 7: Enter, by both. -/
import Derived.Test.YtjhchjjpopbieaaX5
import Derived.Test.YtjhchjjpopbieaaX6
import Derived.Test.YtjhchjjpopbieaaX7
import Derived.Test.YtjhchjjpopbieaaScopeB
set_option linter.unusedVariables false
set_option linter.unusedSimpArgs false
namespace Go.Proofs.Ytjhchjjpopbieaa.Sc
open Go.RowKit Go.Proofs.YtjhchjjpopbieaaW.PrintWords Go.Proofs.YtjhchjjpopbieaaW.PrintLast Go.Proofs.YtjhchjjpopbieaaW.XConv Go.Proofs.Ytjhchjjpopbieaa.E Go.Proofs.Ytjhchjjpopbieaa.X Go.Proofs.Ytjhchjjpopbieaa.Nm
abbrev Ans := List Bi × Int × ByteArray × ByteArray × List At × ByteArray × Int
def failS (e : Int) : Ans := ([], 0, ⟨#[]⟩, ⟨#[]⟩, [], ⟨#[]⟩, e)
def outS : List Bi → List Ra → Option (List Bi)
  | acc, [] => some acc
  | acc, x :: l => if (bndS x).2 = true then (if mayS (bndS x).1.toList x.f1.toList = true then outS (acc ++ [⟨(bndS x).1, x.f1⟩]) l else none) else outS acc l
def restS (l : List Ra) : List Ra := l.filter fun x => !(bndS x).2
def attrsS (out : List Bi) : List At → List Ra → Int × List At
  | acc, [] => (0, acc)
  | acc, x :: l => if (resolveS out x.f0 true).2.2 = true then (if acc.any (cfE1 (resolveS out x.f0 true).1 (resolveS out x.f0 true).2.1) = true then (8, []) else attrsS out (acc ++ [⟨⟨(resolveS out x.f0 true).1, (resolveS out x.f0 true).2.1⟩, x.f1⟩]) l) else (9, [])
def endS (out : List Bi) (a b : ByteArray) (acc : List At) (l : List Ra) : Ans := if (attrsS out acc l).1 = 0 then (out, 1, a, b, (attrsS out acc l).2, ⟨#[]⟩, 0) else failS (attrsS out acc l).1
def nameS (out : List Bi) (nm : ByteArray) (l : List Ra) : Ans := if (resolveS out nm false).2.2 = true then endS out (resolveS out nm false).1 (resolveS out nm false).2.1 [] l else failS 9
theorem endS_bad {out : List Bi} {a b : ByteArray} {acc : List At} {x : Ra} {l : List Ra} (h : ¬ (resolveS out x.f0 true).2.2 = true) : endS out a b acc (x :: l) = failS 9 := by
  unfold endS
  rw [attrsS, if_neg h]; rfl
theorem endS_dup {out : List Bi} {a b : ByteArray} {acc : List At} {x : Ra} {l : List Ra} (h : (resolveS out x.f0 true).2.2 = true) (h2 : acc.any (cfE1 (resolveS out x.f0 true).1 (resolveS out x.f0 true).2.1) = true) : endS out a b acc (x :: l) = failS 8 := by
  unfold endS
  rw [attrsS, if_pos h, if_pos h2]; rfl
theorem endS_go {out : List Bi} {a b : ByteArray} {acc : List At} {x : Ra} {l : List Ra} (h : (resolveS out x.f0 true).2.2 = true) (h2 : ¬ acc.any (cfE1 (resolveS out x.f0 true).1 (resolveS out x.f0 true).2.1) = true) : endS out a b acc (x :: l) = endS out a b (acc ++ [⟨⟨(resolveS out x.f0 true).1, (resolveS out x.f0 true).2.1⟩, x.f1⟩]) l := by
  unfold endS
  rw [attrsS, if_pos h, if_neg h2]
def contS (nm : ByteArray) (rest : List Ra) (o : Option (List Bi)) : Ans := match o with | some out => nameS out nm rest | none => failS 9
theorem outS_no {acc : List Bi} {x : Ra} {l : List Ra} (h : (bndS x).2 = false) : outS acc (x :: l) = outS acc l := by
  rw [outS, if_neg (by rw [h]; exact Bool.false_ne_true)]
theorem outS_bad {acc : List Bi} {x : Ra} {l : List Ra} (h : (bndS x).2 = true) (h2 : mayS (bndS x).1.toList x.f1.toList = false) : outS acc (x :: l) = none := by
  rw [outS, if_pos h, if_neg (by rw [h2]; exact Bool.false_ne_true)]
theorem outS_go {acc : List Bi} {x : Ra} {l : List Ra} (h : (bndS x).2 = true) (h2 : mayS (bndS x).1.toList x.f1.toList = true) : outS acc (x :: l) = outS (acc ++ [⟨(bndS x).1, x.f1⟩]) l := by
  rw [outS, if_pos h, if_pos h2]
theorem restS_cons_no {x : Ra} {l : List Ra} (h : (bndS x).2 = false) : restS (x :: l) = x :: restS l := by
  unfold restS
  rw [List.filter_cons, if_pos (by rw [h]; rfl)]
theorem restS_cons_go {x : Ra} {l : List Ra} (h : (bndS x).2 = true) : restS (x :: l) = restS l := by
  unfold restS
  rw [List.filter_cons, if_neg (by rw [h]; exact Bool.false_ne_true)]
def enterS (l : List Bi) (nm : ByteArray) (ra : List Ra) : Ans := contS nm (restS ra) (outS l ra)
/-- names short enough -/
def Short (l : List Ra) : Prop := ∀ x, x ∈ l → x.f0.size ≤ 1000000000
theorem Short.get {l : List Ra} (h : Short l) {i : Nat} (hi : i < l.length) : l[i].f0.size ≤ 1000000000 := h _ (List.getElem_mem _)
theorem restS_short {l : List Ra} (h : Short l) : Short (restS l) := fun x hx => h x (List.mem_filter.1 hx).1
theorem restS_len (l : List Ra) : (restS l).length ≤ l.length := List.length_filter_le _ _
theorem cf_ev (l : List At) (a b : ByteArray) : Evn (fun _ => cf_Enter1.f l a b) (l.any (cfE1 a b)) := Evn.ret _
/-! the program's -/
theorem enter_l1 (out : List Bi) (rest : List Ra) (a b : ByteArray) (hs : Short rest) (hl : rest.length ≤ 1000000) : ∀ n i, rest.length - i ≤ n → i ≤ rest.length → ∀ acc : List At, acc.length ≤ 1000000 + i →
    Evn (fun k => scope_Enter.l1 k out rest (rest.length : Int) (i : Int) 1 a b acc ⟨#[]⟩) (endS out a b acc (rest.drop i)) := by
  intro n
  induction n with
  | zero =>
    intro i h1 h2 acc _
    obtain rfl : i = rest.length := by omega
    rw [List.drop_length]
    refine Evn.succ (fun k => by rw [scope_Enter.l1]) ?_
    exact Evn.iteF (by omega) (Evn.ret _)
  | succ n ih =>
    intro i h1 h2 acc ha
    by_cases h : i < rest.length
    · refine Evn.succ (fun k => by rw [scope_Enter.l1]) ?_
      refine Evn.iteT (by omega) (Evn.iteT (by omega) (Evn.iteT (by omega) ?_))
      rw [rdRa h, up1 h (by omega), List.drop_eq_getElem_cons h]
      refine Evn.bind (resolve_ev out _ true (hs.get h)) ?_
      by_cases h3 : (resolveS out rest[i].f0 true).2.2 = true
      · refine Evn.iteT h3 (Evn.bind (cf_ev _ _ _) ?_)
        by_cases h4 : acc.any (cfE1 (resolveS out rest[i].f0 true).1 (resolveS out rest[i].f0 true).2.1) = true
        · rw [endS_dup h3 h4]
          exact Evn.iteT h4 (Evn.ret _)
        · rw [endS_go h3 h4]
          exact Evn.iteF h4 (Evn.iteT (by omega) (ih (i + 1) (by omega) (by omega) _ (by simp; omega)))
      · rw [endS_bad h3]
        exact Evn.iteF h3 (Evn.ret _)
    · obtain rfl : i = rest.length := by omega
      rw [List.drop_length]
      refine Evn.succ (fun k => by rw [scope_Enter.l1]) ?_
      exact Evn.iteF (by omega) (Evn.ret _)
theorem enter_l0 (ra : List Ra) (nm : ByteArray) (hn : nm.size ≤ 1000000000) (hs : Short ra) (hl : ra.length ≤ 1000) : ∀ n i, ra.length - i ≤ n → i ≤ ra.length → ∀ (acc : List Bi) (rest : List Ra), acc.length ≤ 100000 + i → rest.length ≤ i → Short rest →
    Evn (fun k => scope_Enter.l0 k acc rest ra (ra.length : Int) (i : Int) nm ra) (contS nm (rest ++ restS (ra.drop i)) (outS acc (ra.drop i))) := by
  intro n
  have fin : ∀ (acc : List Bi) (rest : List Ra), acc.length ≤ 100000 + ra.length → rest.length ≤ ra.length → Short rest → Evn (fun k => scope_Enter.l0 k acc rest ra (ra.length : Int) (ra.length : Int) nm ra) (contS nm (rest ++ restS (ra.drop ra.length)) (outS acc (ra.drop ra.length))) := by
    intro acc rest h1 h2 h3
    rw [List.drop_length]
    show Evn _ (nameS acc nm (rest ++ []))
    rw [List.append_nil]
    refine Evn.succ (fun k => by rw [scope_Enter.l0]) ?_
    refine Evn.iteF (by omega) (Evn.bind (resolve_ev acc nm false hn) ?_)
    unfold nameS
    by_cases h : (resolveS acc nm false).2.2 = true
    · refine Evn.toT h (Evn.iteT h ?_)
      have := enter_l1 acc rest (resolveS acc nm false).1 (resolveS acc nm false).2.1 h3 (by omega) rest.length 0 (by omega) (by omega) [] (by simp)
      rw [List.drop_zero] at this
      exact this
    · exact Evn.toF h (Evn.iteF h (Evn.ret _))
  induction n with
  | zero =>
    intro i h1 h2 acc rest h3 h4 h5
    obtain rfl : i = ra.length := by omega
    exact fin acc rest h3 h4 h5
  | succ n ih =>
    intro i h1 h2 acc rest h3 h4 h5
    by_cases h : i < ra.length
    · refine Evn.succ (fun k => by rw [scope_Enter.l0]) ?_
      refine Evn.iteT (by omega) (Evn.iteT (by omega) (Evn.iteT (by omega) ?_))
      rw [rdRa h, up1 h (by omega), List.drop_eq_getElem_cons h]
      refine Evn.bind (bound_ev ra[i] (hs.get h)) ?_
      cases hb : (bndS ra[i]).2 with
      | true =>
        rw [restS_cons_go hb]
        refine Evn.iteT rfl (Evn.bind (b := mayS (bndS ra[i]).1.toList ra[i].f1.toList) (Evn.congr (fun _ => may_eq _ _) (Evn.ret _)) ?_)
        cases hm : mayS (bndS ra[i]).1.toList ra[i].f1.toList with
        | true =>
          rw [outS_go hb hm]
          exact Evn.iteT rfl (Evn.iteT (by omega) (ih (i + 1) (by omega) (by omega) _ _ (by simp; omega) (by omega) h5))
        | false =>
          rw [outS_bad hb hm]
          exact Evn.iteF Bool.false_ne_true (Evn.ret _)
      | false =>
        rw [restS_cons_no hb, outS_no hb]
        have := ih (i + 1) (by omega) (by omega) acc (rest ++ [ra[i]]) (by omega) (by simp; omega) (fun x hx => by
          rcases List.mem_append.1 hx with h | h'
          · exact h5 x h
          · rw [List.mem_singleton.1 h']; exact hs.get h)
        rw [List.append_assoc, List.singleton_append] at this
        exact Evn.iteF Bool.false_ne_true (Evn.iteT (by omega) this)
    · obtain rfl : i = ra.length := by omega
      exact fin acc rest h3 h4 h5
theorem clone_ev (l : List Bi) (hl : l.length ≤ 100000) : Evn (fun _ => slices_Clone_api_Bind.f l) l := Evn.congr (fun _ => by rw [slices_Clone_api_Bind.f, if_pos (by omega)]) (Evn.ret _)
theorem enter_ev (l : List Bi) (nm : ByteArray) (ra : List Ra) (hn : nm.size ≤ 1000000000) (hs : Short ra) (hl : ra.length ≤ 1000) (hb : l.length ≤ 100000) : Evn (fun k => scope_Enter.f k l nm ra) (enterS l nm ra) := by
  refine Evn.congr (fun k => by rw [scope_Enter.f]) ?_
  refine Evn.bind (clone_ev l hb) ?_
  have := enter_l0 ra nm hn hs hl ra.length 0 (by omega) (by omega) l [] (by omega) (by simp) (fun x hx => by simp at hx)
  rw [List.drop_zero, List.nil_append] at this
  exact this
/-! the reference's -/
/-- all names are names -/
def Named (l : List Ra) : Prop := ∀ x, x ∈ l → (splitS x.f0).2.2 = true
theorem Named.get {l : List Ra} (h : Named l) {i : Nat} (hi : i < l.length) : (splitS l[i].f0).2.2 = true := h _ (List.getElem_mem _)
end Go.Proofs.Ytjhchjjpopbieaa.Sc
