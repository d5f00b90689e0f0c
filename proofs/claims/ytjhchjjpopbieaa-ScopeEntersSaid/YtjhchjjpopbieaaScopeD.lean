/- Layer 7: whether a tag is right; what is the same; awake; what Enter answers. -/
import Derived.Test.YtjhchjjpopbieaaX8
import Derived.Test.YtjhchjjpopbieaaX10
import Derived.Test.YtjhchjjpopbieaaX13
import Derived.Test.YtjhchjjpopbieaaScopeC
set_option linter.unusedVariables false
set_option linter.unusedSimpArgs false
namespace Go.Proofs.Ytjhchjjpopbieaa.Sc
open Go.RowKit Go.Proofs.YtjhchjjpopbieaaW.PrintWords Go.Proofs.YtjhchjjpopbieaaW.PrintLast Go.Proofs.YtjhchjjpopbieaaW.XConv Go.Proofs.Ytjhchjjpopbieaa.E Go.Proofs.Ytjhchjjpopbieaa.X Go.Proofs.Ytjhchjjpopbieaa.Nm
/-! the same -/
theorem same_l (l : List Bi) (hl : l.length ≤ 1000000000) : ∀ n i, l.length - i ≤ n → i ≤ l.length → Evn (fun k => orielref07_Same.l0 k l l (i : Int)) true := by
  intro n
  have fin : Evn (fun k => orielref07_Same.l0 k l l (l.length : Int)) true := by
    refine Evn.succ (fun k => by rw [orielref07_Same.l0]) ?_
    exact Evn.iteF (by omega) (Evn.ret _)
  induction n with
  | zero => intro i h1 h2; obtain rfl : i = l.length := by omega
            exact fin
  | succ n ih =>
    intro i h1 h2
    by_cases h : i < l.length
    · refine Evn.succ (fun k => by rw [orielref07_Same.l0]) ?_
      refine Evn.iteT (by omega) (Evn.iteT (by omega) (Evn.iteT (by omega) (Evn.iteF (by simp) ?_)))
      rw [up1 h hl]
      exact ih (i + 1) (by omega) (by omega)
    · obtain rfl : i = l.length := by omega
      exact fin
theorem same_refl (l : List Bi) (hl : l.length ≤ 1000000000) : Evn (fun k => orielref07_Same.f k l l) true := by
  refine Evn.congr (fun k => by rw [orielref07_Same.f]) ?_
  exact Evn.iteT rfl (same_l l hl l.length 0 (by omega) (by omega))
/-! little, and right -/
theorem few_l (nm : ByteArray) (ra : List Ra) (hl : ra.length ≤ 60) : ∀ n i, ra.length - i ≤ n → i ≤ ra.length → ∃ b, Evn (fun k => orielref06_Few.l0 k (i : Int) nm ra) b ∧ (b = true → ∀ x, x ∈ ra.drop i → x.f0.size ≤ 200 ∧ x.f1.size ≤ 200) := by
  intro n
  have fin : ∃ b, Evn (fun k => orielref06_Few.l0 k (ra.length : Int) nm ra) b ∧ (b = true → ∀ x, x ∈ ra.drop ra.length → x.f0.size ≤ 200 ∧ x.f1.size ≤ 200) := by
    refine ⟨true, ?_, fun _ x hx => by simp at hx⟩
    refine Evn.succ (fun k => by rw [orielref06_Few.l0]) ?_
    exact Evn.iteF (by omega) (Evn.ret _)
  induction n with
  | zero => intro i h1 h2; obtain rfl : i = ra.length := by omega
            exact fin
  | succ n ih =>
    intro i h1 h2
    by_cases h : i < ra.length
    · by_cases g1 : (ra[i].f0.size : Int) > 200
      · refine ⟨false, ?_, fun h => by cases h⟩
        refine Evn.succ (fun k => by rw [orielref06_Few.l0]) ?_
        refine Evn.iteT (by omega) (Evn.iteT (by omega) ?_)
        rw [rdRa h]
        exact Evn.iteT g1 (Evn.ret _)
      by_cases g2 : (ra[i].f1.size : Int) > 200
      · refine ⟨false, ?_, fun h => by cases h⟩
        refine Evn.succ (fun k => by rw [orielref06_Few.l0]) ?_
        refine Evn.iteT (by omega) (Evn.iteT (by omega) ?_)
        rw [rdRa h]
        exact Evn.iteF g1 (Evn.iteT g2 (Evn.ret _))
      obtain ⟨b, hb, hq⟩ := ih (i + 1) (by omega) (by omega)
      refine ⟨b, ?_, fun hbt x hx => ?_⟩
      · refine Evn.succ (fun k => by rw [orielref06_Few.l0]) ?_
        refine Evn.iteT (by omega) (Evn.iteT (by omega) ?_)
        rw [rdRa h, up1 h (by omega)]
        exact Evn.iteF g1 (Evn.iteF g2 hb)
      · rw [List.drop_eq_getElem_cons h] at hx
        rcases List.mem_cons.1 hx with rfl | hx
        · omega
        · exact hq hbt x hx
    · obtain rfl : i = ra.length := by omega
      exact fin
theorem fewTag_ev (nm : ByteArray) (ra : List Ra) : ∃ b, Evn (fun k => orielref06_Few.f k nm ra) b ∧ (b = true → nm.size ≤ 200 ∧ ra.length ≤ 60 ∧ ∀ x, x ∈ ra → x.f0.size ≤ 200 ∧ x.f1.size ≤ 200) := by
  by_cases h1 : (nm.size : Int) > 200
  · refine ⟨false, ?_, fun h => by cases h⟩
    refine Evn.congr (fun k => by rw [orielref06_Few.f]) ?_
    refine Evn.iteT h1 ?_
    refine Evn.succ (fun k => by rw [orielref06_Few.j0]) ?_
    exact Evn.iteT rfl (Evn.ret _)
  by_cases h2 : (ra.length : Int) > 60
  · refine ⟨false, ?_, fun h => by cases h⟩
    refine Evn.congr (fun k => by rw [orielref06_Few.f]) ?_
    refine Evn.iteF h1 ?_
    refine Evn.succ (fun k => by rw [orielref06_Few.j0]) ?_
    exact Evn.iteT (decide_eq_true h2) (Evn.ret _)
  obtain ⟨b, hb, hq⟩ := few_l nm ra (by omega) ra.length 0 (by omega) (by omega)
  refine ⟨b, ?_, fun h => ⟨by omega, by omega, fun x hx => hq h x (by rw [List.drop_zero]; exact hx)⟩⟩
  refine Evn.congr (fun k => by rw [orielref06_Few.f]) ?_
  refine Evn.iteF h1 ?_
  refine Evn.succ (fun k => by rw [orielref06_Few.j0]) ?_
  exact Evn.iteF (by simpa using h2) hb
theorem right_l (nm : ByteArray) (ra : List Ra) (hs : Short ra) (hl : ra.length ≤ 1000) : ∀ n i, ra.length - i ≤ n → i ≤ ra.length → ∀ b : Bool, ∃ r, Evn (fun k => orielref07_Right.l0 k b (i : Int) nm ra) r ∧ (r = true → b = true ∧ ∀ x, x ∈ ra.drop i → (splitS x.f0).2.2 = true) := by
  intro n
  have fin : ∀ b : Bool, ∃ r, Evn (fun k => orielref07_Right.l0 k b (ra.length : Int) nm ra) r ∧ (r = true → b = true ∧ ∀ x, x ∈ ra.drop ra.length → (splitS x.f0).2.2 = true) := by
    intro b
    refine ⟨b, ?_, fun h => ⟨h, fun x hx => by simp at hx⟩⟩
    refine Evn.succ (fun k => by rw [orielref07_Right.l0]) ?_
    exact Evn.iteF (by omega) (Evn.ret _)
  induction n with
  | zero => intro i h1 h2; obtain rfl : i = ra.length := by omega
            exact fin
  | succ n ih =>
    intro i h1 h2 b
    by_cases h : i < ra.length
    · cases b with
      | true =>
        obtain ⟨r, hr, hq⟩ := ih (i + 1) (by omega) (by omega) (splitS ra[i].f0).2.2
        refine ⟨r, ?_, fun h3 => ⟨rfl, fun x hx => ?_⟩⟩
        · refine Evn.succ (fun k => by rw [orielref07_Right.l0]) ?_
          refine Evn.iteT (by omega) (Evn.iteT (by omega) ?_)
          rw [rdRa h, up1 h (by omega)]
          exact Evn.bind (refSplit_ev _ (hs.get h)) (Evn.iteT rfl hr)
        · rw [List.drop_eq_getElem_cons h] at hx
          rcases List.mem_cons.1 hx with rfl | hx
          · exact (hq h3).1
          · exact (hq h3).2 x hx
      | false =>
        obtain ⟨r, hr, hq⟩ := ih (i + 1) (by omega) (by omega) false
        refine ⟨r, ?_, fun h3 => absurd (hq h3).1 Bool.false_ne_true⟩
        refine Evn.succ (fun k => by rw [orielref07_Right.l0]) ?_
        refine Evn.iteT (by omega) (Evn.iteT (by omega) ?_)
        rw [rdRa h, up1 h (by omega)]
        exact Evn.bind (refSplit_ev _ (hs.get h)) (Evn.iteF Bool.false_ne_true hr)
    · obtain rfl : i = ra.length := by omega
      exact fin b
structure Little (l : List Bi) (nm : ByteArray) (ra : List Ra) : Prop where
  hl : l.length ≤ 60
  hn : nm.size ≤ 200
  len : ra.length ≤ 60
  short : ∀ x, x ∈ ra → x.f0.size ≤ 200 ∧ x.f1.size ≤ 200
  ok : (splitS nm).2.2 = true
  named : Named ra
theorem Little.hs {l nm ra} (h : Little l nm ra) : Short ra := fun x hx => by have := (h.short x hx).1; omega
theorem few_ev (l : List Bi) (nm : ByteArray) (ra : List Ra) : ∃ b, Evn (fun k => oriellaw07_few.f k l nm ra) b ∧ (b = true → Little l nm ra) := by
  by_cases h1 : (l.length : Int) ≤ 60
  · obtain ⟨b, hb, hq⟩ := fewTag_ev nm ra
    cases b with
    | false =>
      refine ⟨false, ?_, fun h => by cases h⟩
      refine Evn.congr (fun k => by rw [oriellaw07_few.f]) ?_
      exact Evn.iteT h1 (Evn.bind hb (Evn.iteF Bool.false_ne_true (Evn.ret _)))
    | true =>
      obtain ⟨g1, g2, g3⟩ := hq rfl
      obtain ⟨r, hr, hq2⟩ := right_l nm ra (fun x hx => by have := (g3 x hx).1; omega) (by omega) ra.length 0 (by omega) (by omega) (splitS nm).2.2
      refine ⟨r, ?_, fun h => ⟨by omega, g1, g2, g3, (hq2 h).1, fun x hx => (hq2 h).2 x (by rw [List.drop_zero]; exact hx)⟩⟩
      refine Evn.congr (fun k => by rw [oriellaw07_few.f]) ?_
      refine Evn.iteT h1 (Evn.bind hb (Evn.iteT rfl ?_))
      refine Evn.bind (b := r) ?_ (Evn.ret _)
      refine Evn.congr (fun k => by rw [orielref07_Right.f]) ?_
      exact Evn.bind (refSplit_ev nm (by omega)) hr
  · refine ⟨false, ?_, fun h => by cases h⟩
    refine Evn.congr (fun k => by rw [oriellaw07_few.f]) ?_
    exact Evn.iteF h1 (Evn.ret _)
theorem awake_ev : Evn (fun k => oriellaw07_awake.f k) true := Evn.of_mono (k := 40) (fun k => oriellaw07_awake.mono k) (by decide +kernel)
/-! what Enter answers -/
theorem outS_prefix : ∀ (ra : List Ra) (acc out : List Bi), outS acc ra = some out → acc <+: out ∧ out.length ≤ acc.length + ra.length
  | [], acc, out, h => by
    have : acc = out := Option.some.inj h
    subst this
    exact ⟨List.prefix_refl _, by simp⟩
  | x :: ra, acc, out, h => by
    rw [outS] at h
    split at h
    · split at h
      · obtain ⟨h1, h2⟩ := outS_prefix ra _ _ h
        exact ⟨(List.prefix_append _ _).trans h1, by simp at h2 ⊢; omega⟩
      · cases h
    · obtain ⟨h1, h2⟩ := outS_prefix ra _ _ h
      exact ⟨h1, by simp; omega⟩
theorem attrsS_len (out : List Bi) : ∀ (l : List Ra) (acc : List At), (attrsS out acc l).2.length ≤ acc.length + l.length
  | [], acc => by simp [attrsS]
  | x :: l, acc => by
    rw [attrsS]
    split
    · split
      · simp
      · have := attrsS_len out l (acc ++ [⟨⟨(resolveS out x.f0 true).1, (resolveS out x.f0 true).2.1⟩, x.f1⟩])
        simp at this ⊢
        omega
    · simp
theorem enterS_cases (l : List Bi) (nm : ByteArray) (ra : List Ra) : (∃ out a b atts, l <+: out ∧ out.length ≤ l.length + ra.length ∧ atts.length ≤ ra.length ∧ enterS l nm ra = (out, 1, a, b, atts, ⟨#[]⟩, 0)) ∨ ∃ e, e ≠ 0 ∧ enterS l nm ra = failS e := by
  unfold enterS
  cases h : outS l ra with
  | none => exact .inr ⟨9, by decide, rfl⟩
  | some out =>
    obtain ⟨h1, h2⟩ := outS_prefix ra l out h
    show (∃ _, _) ∨ _
    unfold contS nameS endS
    simp only
    split
    · split
      · refine .inl ⟨out, _, _, _, h1, h2, ?_, rfl⟩
        have := attrsS_len out (restS ra) []
        have := restS_len ra
        simp at *
        omega
      · rename_i he
        exact .inr ⟨_, he, rfl⟩
    · exact .inr ⟨9, by decide, rfl⟩
end Go.Proofs.Ytjhchjjpopbieaa.Sc
