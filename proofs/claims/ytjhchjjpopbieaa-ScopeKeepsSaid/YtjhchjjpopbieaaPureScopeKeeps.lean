/- ScopeKeeps: what is handed in stays; what is answered is new memory. -/
import Derived.Test.YtjhchjjpopbieaaX7
import Derived.Test.YtjhchjjpopbieaaX15
import Derived.Test.YtjhchjjpopbieaaX16
import Derived.Test.YtjhchjjpopbieaaScopeD
set_option linter.unusedVariables false
set_option linter.unusedSimpArgs false
namespace Go.Proofs.Ytjhchjjpopbieaa.Pure
open Go.RowKit Go.Proofs.YtjhchjjpopbieaaW.PrintWords Go.Proofs.YtjhchjjpopbieaaW.PrintLast Go.Proofs.YtjhchjjpopbieaaW.XConv Go.Proofs.Ytjhchjjpopbieaa.X Go.Proofs.Ytjhchjjpopbieaa.E Go.Proofs.Ytjhchjjpopbieaa.Nm Go.Proofs.Ytjhchjjpopbieaa.Sc
theorem sameTag_l (a : ByteArray) (l : List Ra) (hl : l.length ≤ 1000000000) : ∀ n i, l.length - i ≤ n → i ≤ l.length → Evn (fun k => orielref06_Same.l0 k (i : Int) a l a l) true := by
  intro n
  have fin : Evn (fun k => orielref06_Same.l0 k (l.length : Int) a l a l) true := by
    refine Evn.succ (fun k => by rw [orielref06_Same.l0]) ?_
    exact Evn.iteF (by omega) (Evn.ret _)
  induction n with
  | zero => intro i h1 h2; obtain rfl : i = l.length := by omega
            exact fin
  | succ n ih =>
    intro i h1 h2
    by_cases h : i < l.length
    · refine Evn.succ (fun k => by rw [orielref06_Same.l0]) ?_
      refine Evn.iteT (by omega) (Evn.iteT (by omega) (Evn.iteT (by omega) (Evn.iteF (by simp) ?_)))
      rw [up1 h hl]
      exact ih (i + 1) (by omega) (by omega)
    · obtain rfl : i = l.length := by omega
      exact fin
theorem sameTag_refl (a : ByteArray) (l : List Ra) (hl : l.length ≤ 1000000000) : Evn (fun k => orielref06_Same.f k a l a l) true := by
  refine Evn.congr (fun k => by rw [orielref06_Same.f]) ?_
  refine Evn.iteT rfl ?_
  refine Evn.succ (fun k => by rw [orielref06_Same.j0]) ?_
  exact Evn.iteF (by simp) (sameTag_l a l hl l.length 0 (by omega) (by omega))
theorem keeps_end (l : List Bi) (nm : ByteArray) (ra : List Ra) (hl : l.length ≤ 60) (hr : ra.length ≤ 60) : ∀ n (m : List Bi) i, m.length - i ≤ n → i ≤ m.length → m.length ≤ 1000000 → Evn (fun k => oriellaw07_ScopeKeeps.l2 k l l m (i : Int) nm ra nm ra) true := by
  intro n
  have fin : ∀ m : List Bi, Evn (fun k => oriellaw07_ScopeKeeps.l2 k l l m (m.length : Int) nm ra nm ra) true := by
    intro m
    refine Evn.succ (fun k => by rw [oriellaw07_ScopeKeeps.l2]) ?_
    refine Evn.iteF (by omega) ?_
    refine Evn.bind (b := [(⟨(⟨#[120, 109, 108]⟩ : ByteArray), (⟨#[104, 116, 116, 112, 58, 47, 47, 119, 119, 119, 46, 119, 51, 46, 111, 114, 103, 47, 88, 77, 76, 47, 49, 57, 57, 56, 47, 110, 97, 109, 101, 115, 112, 97, 99, 101]⟩ : ByteArray)⟩ : Bi)]) (Evn.congr (fun _ => by rw [scope_New.f]) (Evn.ret _)) ?_
    refine Evn.bind (same_refl l (by omega)) (Evn.iteT rfl (Evn.bind (sameTag_refl nm ra (by omega)) (Evn.iteT rfl (Evn.iteT rfl (Evn.iteT (by decide) ?_)))))
    rw [show (_ == _ : Bool) = true from by decide +kernel]
    exact Evn.ret _
  induction n with
  | zero => intro m i h1 h2 _; obtain rfl : i = m.length := by omega
            exact fin m
  | succ n ih =>
    intro m i h1 h2 h3
    by_cases h : i < m.length
    · refine Evn.succ (fun k => by rw [oriellaw07_ScopeKeeps.l2]) ?_
      refine Evn.iteT (by omega) (Evn.iteT (by omega) ?_)
      rw [up1 h (by omega)]
      exact ih _ (i + 1) (by simp; omega) (by simp; omega) (by simp; omega)
    · obtain rfl : i = m.length := by omega
      exact fin m
theorem keeps_l1 (l : List Bi) (nm : ByteArray) (ra : List Ra) (hl : l.length ≤ 60) (hr : ra.length ≤ 60) (z : Int) (a b c : ByteArray) : ∀ n (m : List At) i, m.length - i ≤ n → i ≤ m.length → m.length ≤ 1000000 → Evn (fun k => oriellaw07_ScopeKeeps.l1 k l l (i : Int) nm ra nm ra z a b m c) true := by
  intro n
  have fin : ∀ m : List At, Evn (fun k => oriellaw07_ScopeKeeps.l1 k l l (m.length : Int) nm ra nm ra z a b m c) true := by
    intro m
    refine Evn.succ (fun k => by rw [oriellaw07_ScopeKeeps.l1]) ?_
    refine Evn.iteF (by omega) ?_
    refine Evn.bind (b := [(⟨(⟨#[120, 109, 108]⟩ : ByteArray), (⟨#[104, 116, 116, 112, 58, 47, 47, 119, 119, 119, 46, 119, 51, 46, 111, 114, 103, 47, 88, 77, 76, 47, 49, 57, 57, 56, 47, 110, 97, 109, 101, 115, 112, 97, 99, 101]⟩ : ByteArray)⟩ : Bi)]) (Evn.congr (fun _ => by rw [scope_New.f]) (Evn.ret _)) ?_
    exact keeps_end l nm ra hl hr 1 _ 0 (by simp) (by simp) (by simp)
  induction n with
  | zero => intro m i h1 h2 _; obtain rfl : i = m.length := by omega
            exact fin m
  | succ n ih =>
    intro m i h1 h2 h3
    by_cases h : i < m.length
    · refine Evn.succ (fun k => by rw [oriellaw07_ScopeKeeps.l1]) ?_
      refine Evn.iteT (by omega) (Evn.iteT (by omega) ?_)
      rw [up1 h (by omega)]
      exact ih _ (i + 1) (by simp; omega) (by simp; omega) (by simp; omega)
    · obtain rfl : i = m.length := by omega
      exact fin m
theorem keeps_l0 (l : List Bi) (nm : ByteArray) (ra : List Ra) (hl : l.length ≤ 60) (hr : ra.length ≤ 60) (z : Int) (a b c : ByteArray) (at_ : List At) (ha : at_.length ≤ 1000000) : ∀ n (m : List Bi) i, m.length - i ≤ n → i ≤ m.length → m.length ≤ 1000000 → Evn (fun k => oriellaw07_ScopeKeeps.l0 k l l m (i : Int) nm ra nm ra z a b at_ c) true := by
  intro n
  have fin : ∀ m : List Bi, Evn (fun k => oriellaw07_ScopeKeeps.l0 k l l m (m.length : Int) nm ra nm ra z a b at_ c) true := by
    intro m
    refine Evn.succ (fun k => by rw [oriellaw07_ScopeKeeps.l0]) ?_
    refine Evn.iteF (by omega) ?_
    exact keeps_l1 l nm ra hl hr z a b c at_.length at_ 0 (by omega) (by omega) ha
  induction n with
  | zero => intro m i h1 h2 _; obtain rfl : i = m.length := by omega
            exact fin m
  | succ n ih =>
    intro m i h1 h2 h3
    by_cases h : i < m.length
    · refine Evn.succ (fun k => by rw [oriellaw07_ScopeKeeps.l0]) ?_
      refine Evn.iteT (by omega) (Evn.iteT (by omega) ?_)
      rw [up1 h (by omega)]
      exact ih _ (i + 1) (by simp; omega) (by simp; omega) (by simp; omega)
    · obtain rfl : i = m.length := by omega
      exact fin m
theorem ScopeKeeps : oriellaw07_ScopeKeeps.Pure := by
  intro x0 x1 _ _ _
  apply Evn.get
  refine Evn.congr (fun k => by rw [oriellaw07_ScopeKeeps.f]) ?_
  refine Evn.bind awake_ev (Evn.iteT rfl ?_)
  obtain ⟨b, hb, hq⟩ := few_ev x0 x1.f0 x1.f1
  refine Evn.bind hb ?_
  refine Evn.succ (fun k => by rw [oriellaw07_ScopeKeeps.j0]) ?_
  cases b with
  | false => exact Evn.iteT rfl (Evn.bind awake_ev (Evn.ret _))
  | true =>
    have L := hq rfl
    have h1 := L.hl
    have h2 := L.hn
    have h3 := L.len
    refine Evn.iteF (by decide) (Evn.bind (b := ([] : List Bi)) (Evn.ret _) (Evn.iteT (by simp; omega) (Evn.bind (b := ([] : List Ra)) (Evn.ret _) (Evn.iteT (by simp; omega) (Evn.bind (enter_ev x0 x1.f0 x1.f1 (by omega) L.hs (by omega) (by omega)) ?_)))))
    have hlen : (enterS x0 x1.f0 x1.f1).1.length ≤ 1000000 ∧ (enterS x0 x1.f0 x1.f1).2.2.2.2.1.length ≤ 1000000 := by
      rcases enterS_cases x0 x1.f0 x1.f1 with ⟨out, a, b, atts, _, g1, g2, e⟩ | ⟨e, _, e⟩
      · rw [e]; exact ⟨by simp only; omega, by simp only; omega⟩
      · rw [e]; exact ⟨by simp [failS], by simp [failS]⟩
    exact keeps_l0 x0 x1.f0 x1.f1 h1 h3 _ _ _ _ _ hlen.2 _ _ 0 (Nat.le_refl _) (Nat.zero_le _) hlen.1
end Go.Proofs.Ytjhchjjpopbieaa.Pure
