/- Which runes a name is made of: both answers. -/
import Derived.Test.YtjhchjjpopbieaaX5
import Derived.Test.YtjhchjjpopbieaaX9
import Derived.Test.YtjhchjjpopbieaaNameA
set_option linter.unusedVariables false
set_option linter.unusedSimpArgs false
namespace Go.Proofs.Ytjhchjjpopbieaa.Nm
open Go.RowKit Go.Proofs.YtjhchjjpopbieaaW.PrintWords Go.Proofs.YtjhchjjpopbieaaW.XConv Go.Proofs.Ytjhchjjpopbieaa.E Go.Proofs.Ytjhchjjpopbieaa.X
def startB (r : Int) : Bool := decide ((65 ≤ r ∧ r ≤ 90) ∨ (97 ≤ r ∧ r ≤ 122) ∨ r = 95 ∨ (192 ≤ r ∧ r ≤ 214) ∨ (216 ≤ r ∧ r ≤ 246) ∨ (248 ≤ r ∧ r ≤ 767) ∨ (880 ≤ r ∧ r ≤ 893) ∨ (895 ≤ r ∧ r ≤ 8191) ∨ (8204 ≤ r ∧ r ≤ 8205) ∨ (8304 ≤ r ∧ r ≤ 8591) ∨ (11264 ≤ r ∧ r ≤ 12271) ∨ (12289 ≤ r ∧ r ≤ 55295) ∨ (63744 ≤ r ∧ r ≤ 64975) ∨ (65008 ≤ r ∧ r ≤ 65533) ∨ (65536 ≤ r ∧ r ≤ 983039))
def partB (r : Int) : Bool := startB r || decide ((45 ≤ r ∧ r ≤ 46) ∨ (48 ≤ r ∧ r ≤ 57) ∨ r = 183 ∨ (768 ≤ r ∧ r ≤ 879) ∨ (8255 ≤ r ∧ r ≤ 8256))
theorem charIn_from (r : Int) (l : List S81) (hl : l.length ≤ 1000000) : ∀ n i : Nat, l.length - i ≤ n → Evn (fun k => char_in.l0 k r l l.length i) ((l.drop i).any fun s => decide (s.f0 ≤ r ∧ r ≤ s.f1)) := by
  intro n
  induction n with
  | zero =>
    intro i hi
    rw [List.drop_of_length_le (by omega)]
    refine Evn.succ (fun k => by rw [char_in.l0]) ?_
    exact Evn.iteF (by omega) (Evn.ret _)
  | succ n ih =>
    intro i hi
    refine Evn.succ (fun k => by rw [char_in.l0]) ?_
    by_cases c : i < l.length
    · rw [List.drop_eq_getElem_cons c, List.any_cons]
      have e : rd_T81 l (i : Int) = l[i] := by
        show l.getD (i : Int).toNat _ = _
        rw [Int.toNat_natCast, List.getD_eq_getElem?_getD, List.getElem?_eq_getElem c]
        rfl
      have e2 : wrap64 ((i : Int) + 1) = ((i + 1 : Nat) : Int) := w64 (by omega) (by omega)
      simp only [e, e2]
      refine Evn.iteT (by omega) (Evn.iteT (by omega) (Evn.iteT (by omega) ?_))
      by_cases d : r ≥ l[i].f0
      · by_cases d2 : r ≤ l[i].f1
        · rw [decide_eq_true (show l[i].f0 ≤ r ∧ r ≤ l[i].f1 from ⟨d, d2⟩), Bool.true_or]
          exact Evn.iteT d (Evn.iteT d2 (Evn.ret _))
        · rw [decide_eq_false (show ¬ (l[i].f0 ≤ r ∧ r ≤ l[i].f1) from fun h => d2 h.2), Bool.false_or]
          exact Evn.iteT d (Evn.iteF d2 (ih (i + 1) (by omega)))
      · rw [decide_eq_false (show ¬ (l[i].f0 ≤ r ∧ r ≤ l[i].f1) from fun h => d h.1), Bool.false_or]
        exact Evn.iteF d (ih (i + 1) (by omega))
    · rw [List.drop_of_length_le (by omega)]
      exact Evn.iteF (by omega) (Evn.ret _)
theorem charIn_ev (r : Int) (l : List S81) (hl : l.length ≤ 1000000) : Evn (fun k => char_in.f k r l) (l.any fun s => decide (s.f0 ≤ r ∧ r ≤ s.f1)) := charIn_from r l hl l.length 0 (by omega)
theorem start_ev (r : Int) : Evn (fun k => char_Start.f k r) (startB r) := by
  refine Evn.congr (fun k => by rw [char_Start.f]) (Evn.bind (b := startB r) ?_ (Evn.ret _))
  have h := charIn_ev r [(⟨65, 90⟩ : S81), ⟨97, 122⟩, ⟨95, 95⟩, ⟨192, 214⟩, ⟨216, 246⟩, ⟨248, 767⟩, ⟨880, 893⟩, ⟨895, 8191⟩, ⟨8204, 8205⟩, ⟨8304, 8591⟩, ⟨11264, 12271⟩, ⟨12289, 55295⟩, ⟨63744, 64975⟩, ⟨65008, 65533⟩, ⟨65536, 983039⟩] (by decide)
  have e : startB r = ([(⟨65, 90⟩ : S81), ⟨97, 122⟩, ⟨95, 95⟩, ⟨192, 214⟩, ⟨216, 246⟩, ⟨248, 767⟩, ⟨880, 893⟩, ⟨895, 8191⟩, ⟨8204, 8205⟩, ⟨8304, 8591⟩, ⟨11264, 12271⟩, ⟨12289, 55295⟩, ⟨63744, 64975⟩, ⟨65008, 65533⟩, ⟨65536, 983039⟩].any fun s => decide (s.f0 ≤ r ∧ r ≤ s.f1)) := by
    rw [Bool.eq_iff_iff]
    simp only [startB, List.any_cons, List.any_nil, Bool.or_eq_true, decide_eq_true_eq, Bool.or_false]
    omega
  rw [e]
  exact h
theorem part_ev (r : Int) : Evn (fun k => char_Part.f k r) (partB r) := by
  refine Evn.congr (fun k => by rw [char_Part.f]) (Evn.bind (start_ev r) ?_)
  unfold partB
  by_cases h : startB r = true
  · rw [h, Bool.true_or]
    exact Evn.iteT rfl (Evn.ret _)
  · rw [Bool.eq_false_iff.mpr h, Bool.false_or]
    refine Evn.iteF (by decide) (Evn.bind (charIn_ev r _ (by decide)) ?_)
    have e : (List.any [(⟨45, 46⟩ : S81), ⟨48, 57⟩, ⟨183, 183⟩, ⟨768, 879⟩, ⟨8255, 8256⟩] fun s => decide (s.f0 ≤ r ∧ r ≤ s.f1)) = decide ((45 ≤ r ∧ r ≤ 46) ∨ (48 ≤ r ∧ r ≤ 57) ∨ r = 183 ∨ (768 ≤ r ∧ r ≤ 879) ∨ (8255 ≤ r ∧ r ≤ 8256)) := by
      rw [Bool.eq_iff_iff]
      simp only [List.any_cons, List.any_nil, Bool.or_eq_true, decide_eq_true_eq, Bool.or_false]
      omega
    rw [e]
    exact Evn.ret _
theorem ite_some {p : Prop} [Decidable p] {a b : Option Bool} {v : Bool} (h1 : p → a = some v) (h2 : ¬ p → b = some v) : (if p then a else b) = some v := by
  by_cases h : p
  · rw [if_pos h]; exact h1 h
  · rw [if_neg h]; exact h2 h
theorem refStart_ev (r : Int) : Evn (fun k => orielref02_Start.f k r) (startB r) := by
  refine ⟨3, fun k hk => ?_⟩
  obtain ⟨m, rfl⟩ : ∃ m, k = m + 3 := ⟨k - 3, by omega⟩
  simp only [orielref02_Start.f, orielref02_Start.j0, orielref02_Start.j1, orielref02_Start.j2, decide_eq_true_eq, beq_iff_eq, if_true]
  repeat' (refine ite_some (fun _ => ?_) (fun _ => ?_))
  all_goals (rw [Option.some.injEq, Bool.eq_iff_iff]; simp only [startB, decide_eq_true_eq, beq_iff_eq, Bool.false_eq_true, false_iff, true_iff]; omega)
theorem refPart_ev (r : Int) : Evn (fun k => orielref02_Part.f k r) (partB r) := by
  refine Evn.congr (fun k => by rw [orielref02_Part.f]) (Evn.bind (refStart_ev r) ?_)
  unfold partB
  by_cases h : startB r = true
  · rw [h, Bool.true_or]
    exact Evn.iteT rfl (Evn.ret _)
  · rw [Bool.eq_false_iff.mpr h, Bool.false_or]
    refine ⟨0, fun k _ => ?_⟩
    rw [if_neg (by decide)]
    repeat' (refine ite_some (fun _ => ?_) (fun _ => ?_))
    all_goals (rw [Option.some.injEq, Bool.eq_iff_iff]; simp only [decide_eq_true_eq, beq_iff_eq, Bool.false_eq_true, false_iff, true_iff]; omega)
theorem start_part {r : Int} (h : startB r = true) : partB r = true := by unfold partB; rw [h]; rfl
end Go.Proofs.Ytjhchjjpopbieaa.Nm
