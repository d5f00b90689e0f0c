/- Layer 7: the reference's Enter; the same event. -/
import Derived.Test.YtjhchjjpopbieaaX6
import Derived.Test.YtjhchjjpopbieaaX12
import Derived.Test.YtjhchjjpopbieaaX13
import Derived.Test.YtjhchjjpopbieaaScopeD
set_option linter.unusedVariables false
set_option linter.unusedSimpArgs false
namespace Go.Proofs.Ytjhchjjpopbieaa.Sc
open Go.RowKit Go.Proofs.YtjhchjjpopbieaaW.PrintWords Go.Proofs.YtjhchjjpopbieaaW.PrintLast Go.Proofs.YtjhchjjpopbieaaW.XConv Go.Proofs.Ytjhchjjpopbieaa.E Go.Proofs.Ytjhchjjpopbieaa.X Go.Proofs.Ytjhchjjpopbieaa.Nm
theorem refEnter_l2 (out : List Bi) (ra : List Ra) (nm : ByteArray) (i : Nat) (hi : i < ra.length) (a b : ByteArray) (c d : ByteArray) (acc : List At) (ha : acc.length ≤ 1000000) (R : Ans)
    (HR : Evn (fun k => if (0 : Int) ≤ (i : Int) then (if (i : Int) < (ra.length : Int) then (if acc.length < 2932031007402 then (orielref07_Enter.l1 k out (wrap64 ((i : Int) + 1)) nm ra 1 a b (acc ++ [(⟨(⟨c, d⟩ : S29), (rd_T51 ra (i : Int)).f1⟩ : At)]) ⟨#[]⟩) else none) else none) else none) R) :
    ∀ n j, acc.length - j ≤ n → j ≤ acc.length → Evn (fun k => orielref07_Enter.l2 k out (i : Int) (j : Int) nm ra 1 a b acc ⟨#[]⟩ c d) (if (acc.drop j).any (cfE1 c d) = true then failS 8 else R) := by
  intro n
  have fin : Evn (fun k => orielref07_Enter.l2 k out (i : Int) (acc.length : Int) nm ra 1 a b acc ⟨#[]⟩ c d) (if (acc.drop acc.length).any (cfE1 c d) = true then failS 8 else R) := by
    rw [List.drop_length, if_neg (by simp)]
    refine Evn.succ (fun k => by rw [orielref07_Enter.l2]) ?_
    exact Evn.iteF (by omega) HR
  induction n with
  | zero =>
    intro j h1 h2
    obtain rfl : j = acc.length := by omega
    exact fin
  | succ n ih =>
    intro j h1 h2
    by_cases h : j < acc.length
    · refine Evn.succ (fun k => by rw [orielref07_Enter.l2]) ?_
      refine Evn.iteT (by omega) (Evn.iteT (by omega) ?_)
      rw [rdAt h, up1 h (by omega), List.drop_eq_getElem_cons h, List.any_cons]
      by_cases h3 : cfE1 c d acc[j] = true
      · rw [h3, Bool.true_or, if_pos rfl]
        exact Evn.iteT h3 (Evn.ret _)
      · rw [Bool.eq_false_iff.mpr h3, Bool.false_or]
        exact Evn.iteF h3 (ih (j + 1) (by omega) (by omega))
    · obtain rfl : j = acc.length := by omega
      exact fin
theorem refEnter_l1 (out : List Bi) (ra : List Ra) (nm a b : ByteArray) (ho : out.length ≤ 1000000000) (hs : Short ra) (hm : Named ra) (hl : ra.length ≤ 1000) : ∀ n i, ra.length - i ≤ n → i ≤ ra.length → ∀ acc : List At, acc.length ≤ i →
    Evn (fun k => orielref07_Enter.l1 k out (i : Int) nm ra 1 a b acc ⟨#[]⟩) (endS out a b acc (restS (ra.drop i))) := by
  intro n
  have fin : ∀ acc : List At, Evn (fun k => orielref07_Enter.l1 k out (ra.length : Int) nm ra 1 a b acc ⟨#[]⟩) (endS out a b acc (restS (ra.drop ra.length))) := by
    intro acc
    rw [List.drop_length]
    refine Evn.succ (fun k => by rw [orielref07_Enter.l1]) ?_
    exact Evn.iteF (by omega) (Evn.ret _)
  induction n with
  | zero =>
    intro i h1 h2 acc _
    obtain rfl : i = ra.length := by omega
    exact fin acc
  | succ n ih =>
    intro i h1 h2 acc ha
    by_cases h : i < ra.length
    · refine Evn.succ (fun k => by rw [orielref07_Enter.l1]) ?_
      refine Evn.iteT (by omega) (Evn.iteT (by omega) ?_)
      refine Evn.bind (b := bndS ra[i]) (Evn.congr (fun _ => by rw [rdRa h, binds_eq _ (hm.get h)]) ?_) ?_
      refine Evn.ret _
      rw [List.drop_eq_getElem_cons h]
      cases hb : (bndS ra[i]).2 with
      | true =>
        rw [restS_cons_go hb]
        rw [up1 h (by omega)]
        exact Evn.iteT rfl (ih (i + 1) (by omega) (by omega) acc (by omega))
      | false =>
        rw [restS_cons_no hb]
        refine Evn.iteF Bool.false_ne_true ?_
        rw [rdRa h]
        refine Evn.bind (refResolve_ev out _ false (hs.get h) ho) ?_
        by_cases h3 : (resolveS out ra[i].f0 true).2.2 = true
        · refine Evn.iteT h3 ?_
          have := refEnter_l2 out ra nm i h a b (resolveS out ra[i].f0 true).1 (resolveS out ra[i].f0 true).2.1 acc (by omega) (endS out a b (acc ++ [⟨⟨(resolveS out ra[i].f0 true).1, (resolveS out ra[i].f0 true).2.1⟩, ra[i].f1⟩]) (restS (ra.drop (i + 1))))
            (Evn.iteT (by omega) (Evn.iteT (by omega) (Evn.iteT (by omega) (by rw [rdRa h, up1 h (by omega)]; exact ih (i + 1) (by omega) (by omega) _ (by simp; omega))))) acc.length 0 (by omega) (by omega)
          rw [List.drop_zero] at this
          by_cases h4 : acc.any (cfE1 (resolveS out ra[i].f0 true).1 (resolveS out ra[i].f0 true).2.1) = true
          · rw [if_pos h4] at this
            rw [endS_dup h3 h4]
            exact this
          · rw [if_neg h4] at this
            rw [endS_go h3 h4]
            exact this
        · rw [endS_bad h3]
          exact Evn.iteF h3 (Evn.ret _)
    · obtain rfl : i = ra.length := by omega
      exact fin acc
theorem refEnter_j2 (out : List Bi) (i : Int) (p s nm : ByteArray) (ra : List Ra) (wr w2 : Bool) (R : Ans) (HR : Evn (fun k => if out.length < 4398046511104 then (orielref07_Enter.l0 k (out ++ [(⟨p, s⟩ : Bi)]) (wrap64 (i + 1)) nm ra) else none) R) :
    Evn (fun k => orielref07_Enter.j2 k out i p s wr w2 nm ra) (if (w2 || wr) = true then failS 9 else R) := by
  refine Evn.succ (fun k => by rw [orielref07_Enter.j2]) ?_
  cases w2 with
  | true => exact Evn.iteT rfl (Evn.ret _)
  | false =>
    refine Evn.iteF Bool.false_ne_true ?_
    cases wr with
    | true => exact Evn.iteT rfl (Evn.ret _)
    | false => exact Evn.iteF Bool.false_ne_true HR
theorem refEnter_j1 (out : List Bi) (i : Int) (p s nm : ByteArray) (ra : List Ra) (wr : Bool) (R : Ans) (HR : Evn (fun k => if out.length < 4398046511104 then (orielref07_Enter.l0 k (out ++ [(⟨p, s⟩ : Bi)]) (wrap64 (i + 1)) nm ra) else none) R) :
    Evn (fun k => orielref07_Enter.j1 k out i p s wr nm ra) (if (((p.toList == xmlL) != (s.toList == xmlSp)) || wr) = true then failS 9 else R) := by
  refine Evn.succ (fun k => by rw [orielref07_Enter.j1]) ?_
  by_cases h : p.toList = xmlL
  · refine Evn.iteT h ?_
    rw [h]
    by_cases h2 : s.toList = xmlSp
    · rw [h2]
      exact Evn.iteT rfl (refEnter_j2 out i p s nm ra wr false R HR)
    · rw [beq_eq_false_iff_ne.mpr h2]
      exact Evn.iteF h2 (refEnter_j2 out i p s nm ra wr true R HR)
  · rw [beq_eq_false_iff_ne.mpr h]
    refine Evn.iteF h ?_
    have := refEnter_j2 out i p s nm ra wr (s.toList == xmlSp) R HR
    rw [show (false != (s.toList == xmlSp)) = (s.toList == xmlSp) by cases (s.toList == xmlSp) <;> rfl]
    exact this
theorem refEnter_bind (out : List Bi) (i : Int) (p s nm : ByteArray) (ra : List Ra) (R : Ans) (HR : Evn (fun k => if out.length < 4398046511104 then (orielref07_Enter.l0 k (out ++ [(⟨p, s⟩ : Bi)]) (wrap64 (i + 1)) nm ra) else none) R) :
    Evn (fun k => if p.toList = xmlnsL then (orielref07_Enter.j1 k out i p s true nm ra) else (if s.toList = xmlnsSp then (orielref07_Enter.j1 k out i p s true nm ra) else (if p.toList = ([] : List UInt8) then (orielref07_Enter.j1 k out i p s false nm ra) else (orielref07_Enter.j1 k out i p s (s.toList == ([] : List UInt8)) nm ra))))
      (if mayS p.toList s.toList = true then R else failS 9) := by
  have key : ∀ wr : Bool, mayS p.toList s.toList = !(((p.toList == xmlL) != (s.toList == xmlSp)) || wr) → Evn (fun k => orielref07_Enter.j1 k out i p s wr nm ra) (if mayS p.toList s.toList = true then R else failS 9) := by
    intro wr h
    rw [h]
    have := refEnter_j1 out i p s nm ra wr R HR
    cases hb : (((p.toList == xmlL) != (s.toList == xmlSp)) || wr) with
    | true => rw [hb] at this; exact this
    | false => rw [hb] at this; exact this
  unfold mayS at key ⊢
  by_cases h1 : p.toList = xmlnsL
  · refine Evn.iteT h1 (key true ?_)
    rw [h1, Bool.or_true]; rfl
  · refine Evn.iteF h1 ?_
    rw [beq_eq_false_iff_ne.mpr h1] at key ⊢
    by_cases h2 : s.toList = xmlnsSp
    · refine Evn.iteT h2 (key true ?_)
      rw [h2, Bool.or_true]; rfl
    · refine Evn.iteF h2 ?_
      rw [beq_eq_false_iff_ne.mpr h2] at key ⊢
      by_cases h3 : p.toList = []
      · refine Evn.iteT h3 (key false ?_)
        rw [h3]
        cases (s.toList == xmlSp) <;> rfl
      · refine Evn.iteF h3 (key _ ?_)
        rw [beq_eq_false_iff_ne.mpr h3]
        cases (s.toList == xmlSp) <;> cases (p.toList == xmlL) <;> cases (s.toList == []) <;> rfl
theorem refEnter_l0 (ra : List Ra) (nm : ByteArray) (hn : nm.size ≤ 1000000000) (hs : Short ra) (hm : Named ra) (hl : ra.length ≤ 1000) : ∀ n i, ra.length - i ≤ n → i ≤ ra.length → ∀ acc : List Bi, acc.length ≤ 100000 + i →
    Evn (fun k => orielref07_Enter.l0 k acc (i : Int) nm ra) (contS nm (restS ra) (outS acc (ra.drop i))) := by
  intro n
  have fin : ∀ acc : List Bi, acc.length ≤ 100000 + ra.length → Evn (fun k => orielref07_Enter.l0 k acc (ra.length : Int) nm ra) (contS nm (restS ra) (outS acc (ra.drop ra.length))) := by
    intro acc h1
    rw [List.drop_length]
    show Evn _ (nameS acc nm (restS ra))
    refine Evn.succ (fun k => by rw [orielref07_Enter.l0]) ?_
    refine Evn.iteF (by omega) (Evn.bind (refResolve_ev acc nm true hn (by omega)) ?_)
    unfold nameS
    show Evn _ (if (resolveS acc nm false).2.2 = true then _ else _)
    by_cases h : (resolveS acc nm false).2.2 = true
    · refine Evn.toT h (Evn.iteT h ?_)
      have := refEnter_l1 acc ra nm (resolveS acc nm false).1 (resolveS acc nm false).2.1 (by omega) hs hm hl ra.length 0 (by omega) (by omega) [] (by simp)
      rw [List.drop_zero] at this
      exact this
    · exact Evn.toF h (Evn.iteF h (Evn.ret _))
  induction n with
  | zero =>
    intro i h1 h2 acc h3
    obtain rfl : i = ra.length := by omega
    exact fin acc h3
  | succ n ih =>
    intro i h1 h2 acc h3
    by_cases h : i < ra.length
    · refine Evn.succ (fun k => by rw [orielref07_Enter.l0]) ?_
      refine Evn.iteT (by omega) (Evn.iteT (by omega) ?_)
      refine Evn.bind (b := bndS ra[i]) (Evn.congr (fun _ => by rw [rdRa h, binds_eq _ (hm.get h)]) (Evn.ret _)) ?_
      rw [List.drop_eq_getElem_cons h, rdRa h]
      cases hb : (bndS ra[i]).2 with
      | true =>
        refine Evn.iteT rfl ?_
        have := refEnter_bind acc (i : Int) (bndS ra[i]).1 ra[i].f1 nm ra (contS nm (restS ra) (outS (acc ++ [⟨(bndS ra[i]).1, ra[i].f1⟩]) (ra.drop (i + 1)))) (Evn.iteT (by omega) (by rw [up1 h (by omega)]; exact ih (i + 1) (by omega) (by omega) _ (by simp; omega)))
        cases hq : mayS (bndS ra[i]).1.toList ra[i].f1.toList with
        | true =>
          rw [hq, if_pos rfl] at this
          rw [outS_go hb hq]
          exact this
        | false =>
          rw [hq, if_neg Bool.false_ne_true] at this
          rw [outS_bad hb hq]
          exact this
      | false =>
        rw [outS_no hb, up1 h (by omega)]
        exact Evn.iteF Bool.false_ne_true (ih (i + 1) (by omega) (by omega) acc (by omega))
    · obtain rfl : i = ra.length := by omega
      exact fin acc h3
theorem refEnter_ev (l : List Bi) (nm : ByteArray) (ra : List Ra) (hn : nm.size ≤ 1000000000) (hs : Short ra) (hm : Named ra) (hl : ra.length ≤ 1000) (hb : l.length ≤ 100000) : Evn (fun k => orielref07_Enter.f k l nm ra) (enterS l nm ra) := by
  refine Evn.congr (fun k => by rw [orielref07_Enter.f]) ?_
  refine Evn.bind (b := ([] : List Bi)) (Evn.ret _) (Evn.iteT (by simp; omega) ?_)
  have := refEnter_l0 ra nm hn hs hm hl ra.length 0 (by omega) (by omega) l (by omega)
  rw [List.drop_zero] at this
  exact this
theorem sameEvent_l (z : Int) (a b : ByteArray) (l : List At) (c : ByteArray) (hl : l.length ≤ 1000000000) : ∀ n i, l.length - i ≤ n → i ≤ l.length → Evn (fun k => orielref07_SameEvent.l0 k (i : Int) z a b l c z a b l c) true := by
  intro n
  have fin : Evn (fun k => orielref07_SameEvent.l0 k (l.length : Int) z a b l c z a b l c) true := by
    refine Evn.succ (fun k => by rw [orielref07_SameEvent.l0]) ?_
    exact Evn.iteF (by omega) (Evn.ret _)
  induction n with
  | zero => intro i h1 h2; obtain rfl : i = l.length := by omega
            exact fin
  | succ n ih =>
    intro i h1 h2
    by_cases h : i < l.length
    · refine Evn.succ (fun k => by rw [orielref07_SameEvent.l0]) ?_
      refine Evn.iteT (by omega) (Evn.iteT (by omega) (Evn.iteT (by omega) (Evn.iteF (by simp) ?_)))
      rw [up1 h hl]
      exact ih (i + 1) (by omega) (by omega)
    · obtain rfl : i = l.length := by omega
      exact fin
theorem sameEvent_refl (z : Int) (a b : ByteArray) (l : List At) (c : ByteArray) (hl : l.length ≤ 1000000000) : Evn (fun k => orielref07_SameEvent.f k z a b l c z a b l c) true := by
  refine Evn.congr (fun k => by rw [orielref07_SameEvent.f]) ?_
  refine Evn.iteT rfl (Evn.iteF (by simp) (Evn.iteT rfl ?_))
  refine Evn.succ (fun k => by rw [orielref07_SameEvent.j0]) ?_
  exact Evn.iteF (by simp) (sameEvent_l z a b l c hl l.length 0 (by omega) (by omega))
end Go.Proofs.Ytjhchjjpopbieaa.Sc
