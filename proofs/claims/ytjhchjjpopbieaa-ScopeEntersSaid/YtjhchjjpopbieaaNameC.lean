/- What the functions on names answer. -/
import Derived.Test.YtjhchjjpopbieaaX5
import Derived.Test.YtjhchjjpopbieaaX10
import Derived.Test.YtjhchjjpopbieaaNameB
set_option linter.unusedVariables false
set_option linter.unusedSimpArgs false
namespace Go.Proofs.Ytjhchjjpopbieaa.Nm
open Go.RowKit Go.Proofs.YtjhchjjpopbieaaW.PrintWords Go.Proofs.YtjhchjjpopbieaaW.XConv Go.Proofs.Ytjhchjjpopbieaa.E Go.Proofs.Ytjhchjjpopbieaa.X
def stopF (ok : Int → Bool) (s : ByteArray) : Nat → Nat → Nat
  | 0, p => p
  | b + 1, p => if p < s.size then (if ok (ru s p) = true then stopF ok s b (p + wd s p) else p) else p
def stp (ok : Int → Bool) (s : ByteArray) (p : Nat) : Nat := stopF ok s s.size p
theorem stopF_stop (ok : Int → Bool) (s : ByteArray) : ∀ b p, s.size - p ≤ b → p ≤ s.size → Stop ok s p (stopF ok s b p) := by
  intro b
  induction b with
  | zero => intro p h hp; exact ⟨.nil p, hp, fun h => by simp only [stopF] at h; omega⟩
  | succ b ih =>
    intro p h hp
    unfold stopF
    by_cases c : p < s.size
    · rw [if_pos c]
      by_cases d : ok (ru s p) = true
      · rw [if_pos d]
        have := wd_pos c
        obtain ⟨h1, h2, h3⟩ := ih (p + wd s p) (by omega) (wd_fits c)
        exact ⟨.cons _ _ c d h1, h2, h3⟩
      · rw [if_neg d]
        exact ⟨.nil p, hp, fun _ => by simpa using d⟩
    · rw [if_neg c]
      exact ⟨.nil p, hp, fun h => by omega⟩
theorem stp_stop (ok : Int → Bool) (s : ByteArray) (p : Nat) (hp : p ≤ s.size) : Stop ok s p (stp ok s p) := stopF_stop ok s s.size p (by omega) hp
theorem stp_eq {ok : Int → Bool} {s : ByteArray} {p q : Nat} (hp : p ≤ s.size) (h : Stop ok s p q) : stp ok s p = q := (stp_stop ok s p hp).uniq h
theorem stp_step {ok : Int → Bool} {s : ByteArray} {p : Nat} (hp : p < s.size) (h : ok (ru s p) = true) : stp ok s p = stp ok s (p + wd s p) := by
  have := stp_stop ok s (p + wd s p) (wd_fits hp)
  exact stp_eq (by omega) ⟨.cons _ _ hp h this.walk, this.le, this.stop⟩
theorem stp_here {ok : Int → Bool} {s : ByteArray} {p : Nat} (hp : p < s.size) (h : ok (ru s p) = false) : stp ok s p = p := stp_eq (by omega) ⟨.nil p, by omega, fun _ => h⟩
theorem stp_end (ok : Int → Bool) (s : ByteArray) : stp ok s s.size = s.size := stp_eq (Nat.le_refl _) ⟨.nil _, Nat.le_refl _, fun h => by omega⟩
/-! ### a plain name -/
def plainB (s : ByteArray) : Bool := decide (0 < s.size) && (startB (ru s 0) && decide (stp partB s 0 = s.size))
theorem plainFrom_ev (s : ByteArray) (h0 : 0 < s.size) : ∀ b p, s.size - p ≤ b → p ≤ s.size → 0 < p → Evn (fun k => name_Plain.l0 k s p) (decide (stp partB s p = s.size)) := by
  intro b
  induction b with
  | zero =>
    intro p h hp h1
    refine Evn.succ (fun k => by rw [name_Plain.l0]) ?_
    obtain rfl : p = s.size := by omega
    rw [stp_end, decide_eq_true rfl]
    refine Evn.iteF (by omega) ?_
    rw [decide_eq_false (by omega : ¬ s.size = 0)]
    exact Evn.ret _
  | succ b ih =>
    intro p h hp h1
    refine Evn.succ (fun k => by rw [name_Plain.l0]) ?_
    by_cases c : p < s.size
    · refine Evn.iteT c (Evn.iteF (by omega) (Evn.bind (part_ev (ru s p)) ?_))
      by_cases d : partB (ru s p) = true
      · rw [d, stp_step c d]
        have := wd_pos c
        exact Evn.iteT rfl (ih (p + wd s p) (by omega) (wd_fits c) (by omega))
      · have d := Bool.eq_false_iff.mpr d
        rw [d, stp_here c d, decide_eq_false (by omega)]
        exact Evn.iteF (by decide) (Evn.ret _)
    · obtain rfl : p = s.size := by omega
      rw [stp_end, decide_eq_true rfl]
      refine Evn.iteF (by omega) ?_
      rw [decide_eq_false (by omega : ¬ s.size = 0)]
      exact Evn.ret _
theorem plain_ev (s : ByteArray) : Evn (fun k => name_Plain.f k s) (plainB s) := by
  refine Evn.congr (fun k => by rw [name_Plain.f]) ?_
  refine Evn.succ (fun k => by rw [name_Plain.l0]) ?_
  unfold plainB
  by_cases c : 0 < s.size
  · rw [decide_eq_true c, Bool.true_and]
    refine Evn.iteT c (Evn.iteT rfl (Evn.bind (start_ev (ru s 0)) ?_))
    by_cases e : startB (ru s 0) = true
    · rw [e, Bool.true_and]
      refine Evn.iteT rfl (Evn.bind (part_ev (ru s 0)) ?_)
      have d := start_part e
      rw [d, stp_step c d]
      have := wd_pos c
      exact Evn.iteT rfl (plainFrom_ev s c s.size (0 + wd s 0) (by omega) (wd_fits c) (by omega))
    · rw [Bool.eq_false_iff.mpr e, Bool.false_and]
      exact Evn.iteF (by decide) (Evn.ret _)
  · rw [decide_eq_false c, Bool.false_and]
    refine Evn.iteF c ?_
    rw [decide_eq_true (by omega : s.size = 0)]
    exact Evn.ret _
theorem runes_at {s : ByteArray} {l : List Int} {i b p : Nat} (h : l.drop i = runesAux s b p) (hb : s.size - p ≤ b) (hp : p ≤ s.size) : if p < s.size then i < l.length ∧ rd l i = ru s p ∧ (∃ b', l.drop (i + 1) = runesAux s b' (p + wd s p) ∧ s.size - (p + wd s p) ≤ b' ∧ b' < b) else l.length ≤ i := by
  split
  · rename_i c
    obtain ⟨b', rfl⟩ : ∃ b', b = b' + 1 := ⟨b - 1, by omega⟩
    unfold runesAux at h
    rw [if_pos c] at h
    have hl : i < l.length := by
      rcases Nat.lt_or_ge i l.length with h' | h'
      · exact h'
      · rw [List.drop_of_length_le h'] at h; cases h
    rw [List.drop_eq_getElem_cons hl] at h
    obtain ⟨h1, h2⟩ := List.cons.inj h
    refine ⟨hl, ?_, b', h2, ?_, by omega⟩
    · rw [rd_at _ _ hl, h1]; rfl
    · have := wd_pos c; omega
  · rename_i c
    have : runesAux s b p = [] := by cases b <;> simp [runesAux, c]
    rw [this] at h
    exact List.drop_eq_nil_iff.mp h
theorem runesOf_len (s : ByteArray) : (runesOf s).length ≤ s.size := runesAux_length s s.size 0
theorem refPlainFrom_ev (s : ByteArray) (hz : s.size ≤ 1000000000) : ∀ b i p, (runesOf s).drop i = runesAux s b p → s.size - p ≤ b → p ≤ s.size → Evn (fun k => orielref03_Plain.l0 k (runesOf s) i) (decide (stp partB s p = s.size)) := by
  intro b
  induction b using Nat.strongRecOn with
  | ind b ih =>
    intro i p h hb hp
    have hl := runesOf_len s
    have hat := runes_at h hb hp
    refine Evn.succ (fun k => by rw [orielref03_Plain.l0]) ?_
    by_cases c : p < s.size
    · rw [if_pos c] at hat
      obtain ⟨h1, h2, b', h3, h4, h5⟩ := hat
      have hr := ru_range s p
      have e : wrap64 (ru s p) = ru s p := w64 (by omega) (by omega)
      have e2 : wrap64 ((i : Int) + 1) = ((i + 1 : Nat) : Int) := w64 (by omega) (by omega)
      simp only [h2, e, e2]
      clear e e2 h2
      refine Evn.iteT (Int.ofNat_lt.mpr h1) (Evn.iteT (Int.natCast_nonneg i) (Evn.bind (refPart_ev (ru s p)) ?_))
      by_cases d : partB (ru s p) = true
      · rw [d, stp_step c d]
        exact Evn.iteT rfl (ih b' h5 (i + 1) (p + wd s p) h3 h4 (wd_fits c))
      · have d := Bool.eq_false_iff.mpr d
        rw [d, stp_here c d, decide_eq_false (by omega)]
        exact Evn.iteF (by decide) (Evn.ret _)
    · rw [if_neg c] at hat
      obtain rfl : p = s.size := by omega
      rw [stp_end, decide_eq_true rfl]
      exact Evn.iteF (by omega) (Evn.ret _)
theorem convRunes_some (s : ByteArray) (hz : s.size ≤ 1000000000) : convRunes.f s = some (runesOf s) := if_pos (by omega)
theorem refPlain_ev (s : ByteArray) (hz : s.size ≤ 1000000000) : Evn (fun k => orielref03_Plain.f k s) (plainB s) := by
  refine Evn.congr (fun k => by rw [orielref03_Plain.f, convRunes_some s hz, Option.bind_some]) ?_
  have hat := runes_at (s := s) (l := runesOf s) (i := 0) (b := s.size) (p := 0) rfl (by omega) (by omega)
  unfold plainB
  by_cases c : 0 < s.size
  · rw [if_pos c] at hat
    obtain ⟨h1, h2, b', h3, h4, h5⟩ := hat
    have h2 : rd (runesOf s) 0 = ru s 0 := h2
    have hr := ru_range s 0
    have e : wrap64 (ru s 0) = ru s 0 := w64 (by omega) (by omega)
    rw [decide_eq_true c, Bool.true_and]
    simp only [h2, e]
    clear h2 e
    refine Evn.iteF (by omega) (Evn.iteT (by omega) (Evn.bind (refStart_ev (ru s 0)) ?_))
    by_cases d : startB (ru s 0) = true
    · rw [d, Bool.true_and]
      refine Evn.succ (fun k => by rw [orielref03_Plain.j0]) ?_
      refine Evn.iteF (by decide) ?_
      exact refPlainFrom_ev s hz s.size 0 0 rfl (by omega) (by omega)
    · rw [Bool.eq_false_iff.mpr d, Bool.false_and]
      refine Evn.succ (fun k => by rw [orielref03_Plain.j0]) ?_
      exact Evn.iteT rfl (Evn.ret _)
  · rw [if_neg c] at hat
    rw [decide_eq_false c, Bool.false_and]
    refine Evn.iteT (by omega) ?_
    refine Evn.succ (fun k => by rw [orielref03_Plain.j0]) ?_
    exact Evn.iteT rfl (Evn.ret _)
/-! ### a stretch -/
theorem tail_size (s : ByteArray) (a : Nat) : (s.extract a s.size).size = s.size - a := by rw [ByteArray.size_extract]; omega
end Go.Proofs.Ytjhchjjpopbieaa.Nm
