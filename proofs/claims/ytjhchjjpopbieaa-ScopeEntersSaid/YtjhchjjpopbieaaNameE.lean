/- A name's parts: both answers; awake. -/
import Derived.Test.YtjhchjjpopbieaaX5
import Derived.Test.YtjhchjjpopbieaaX10
import Derived.Test.YtjhchjjpopbieaaNameC
set_option linter.unusedVariables false
set_option linter.unusedSimpArgs false
namespace Go.Proofs.Ytjhchjjpopbieaa.Nm
open Go.RowKit Go.Proofs.YtjhchjjpopbieaaW.PrintWords Go.Proofs.YtjhchjjpopbieaaW.XConv Go.Proofs.Ytjhchjjpopbieaa.E Go.Proofs.Ytjhchjjpopbieaa.X
attribute [local irreducible] ru wd
theorem ib_spec (l : List UInt8) (c : UInt8) : (Lib.indexByte l c = -1 ∧ ∀ j, j < l.length → l.getD j 0 ≠ c) ∨ (∃ i : Nat, Lib.indexByte l c = i ∧ i < l.length ∧ l.getD i 0 = c ∧ ∀ j, j < i → l.getD j 0 ≠ c) := by
  induction l with
  | nil => exact .inl ⟨rfl, fun j h => by simp at h⟩
  | cons b l ih =>
    unfold Lib.indexByte
    by_cases h : b = c
    · refine .inr ⟨0, by simp [h], by simp, by simpa using h, fun j hj => by omega⟩
    · rw [if_neg (by simpa using h)]
      rcases ih with ⟨h1, h2⟩ | ⟨i, h1, h2, h3, h4⟩
      · refine .inl ⟨by rw [h1]; rfl, fun j hj => ?_⟩
        cases j with
        | zero => simpa using h
        | succ j => simpa using h2 j (by simpa using hj)
      · refine .inr ⟨i + 1, ?_, by simpa using h2, by simpa using h3, fun j hj => ?_⟩
        · rw [h1, if_neg (by first | (simp; done) | (simp; omega))]; omega
        · cases j with
          | zero => simpa using h
          | succ j => simpa using h4 j (by omega)
theorem by_getD (s : ByteArray) (i : Nat) : by_ s i = (s.data.toList.getD i 0).toNat := by unfold by_; rw [Lib.getD_get!']
/-- the first colon -/
def fc (s : ByteArray) : Int := Lib.indexByte s.data.toList 58
theorem fc_spec (s : ByteArray) : (fc s = -1 ∧ ∀ j, j < s.size → by_ s j ≠ 58) ∨ (∃ i : Nat, fc s = i ∧ i < s.size ∧ by_ s i = 58 ∧ ∀ j, j < i → by_ s j ≠ 58) := by
  have ne : ∀ j, s.data.toList.getD j 0 ≠ 58 → by_ s j ≠ 58 := fun j h e => by
    rw [by_getD] at e
    exact h (UInt8.toNat_inj.1 e)
  rcases ib_spec s.data.toList 58 with ⟨h1, h2⟩ | ⟨i, h1, h2, h3, h4⟩
  · exact .inl ⟨h1, fun j hj => ne j (h2 j hj)⟩
  · exact .inr ⟨i, h1, h2, by rw [by_getD, h3]; rfl, fun j hj => ne j (h4 j hj)⟩
def splitS (s : ByteArray) : ByteArray × ByteArray × Bool :=
  if 0 ≤ fc s then (if plainB (s.extract ((fc s).toNat + 1) s.size) = true then (if plainB (s.extract 0 (fc s).toNat) = true then (s.extract 0 (fc s).toNat, s.extract ((fc s).toNat + 1) s.size, true) else (⟨#[]⟩, ⟨#[]⟩, false)) else (⟨#[]⟩, ⟨#[]⟩, false))
  else (if plainB s = true then (⟨#[]⟩, s, true) else (⟨#[]⟩, ⟨#[]⟩, false))
theorem split_ev (s : ByteArray) (hz : s.size ≤ 1000000000) : Evn (fun k => name_Split.f k s) (splitS s) := by
  have hc : strings_Cut.f s ⟨#[58]⟩ = some (cutB s 58) := by
    show (if s.size ≤ 140737488351232 then some (cutB s 58) else none) = _
    exact if_pos (by omega)
  refine Evn.congr (fun k => by rw [name_Split.f, hc, Option.bind_some]) ?_
  unfold cutB splitS
  show Evn _ (if 0 ≤ fc s then _ else _)
  by_cases c : 0 ≤ fc s
  · rw [if_pos c]
    have c2 : 0 ≤ Lib.indexByte s.data.toList 58 := c
    simp only [if_pos c2]
    refine Evn.iteT (by trivial) ?_
    refine Evn.succ (fun k => by rw [name_Split.j0]) ?_
    show Evn (fun k => (name_Plain.f k (s.extract ((fc s).toNat + 1) s.size)).bind _) _
    refine Evn.bind (plain_ev _) ?_
    by_cases d : plainB (s.extract ((fc s).toNat + 1) s.size) = true
    · rw [if_pos d]
      refine Evn.iteT d (Evn.iteT rfl ?_)
      refine Evn.bind (plain_ev _) ?_
      by_cases g : plainB (s.extract 0 (fc s).toNat) = true
      · rw [if_pos g]
        exact Evn.iteT g (Evn.ret _)
      · rw [if_neg g]
        exact Evn.iteF g (Evn.ret _)
    · rw [if_neg d]
      exact Evn.iteF d (Evn.ret _)
  · rw [if_neg c]
    have c2 : ¬ 0 ≤ Lib.indexByte s.data.toList 58 := c
    simp only [if_neg c2]
    refine Evn.iteF (by decide) ?_
    refine Evn.succ (fun k => by rw [name_Split.j0]) ?_
    refine Evn.bind (plain_ev _) ?_
    by_cases g : plainB s = true
    · rw [if_pos g]
      exact Evn.iteT g (Evn.iteF (by decide) (Evn.ret _))
    · rw [if_neg g]
      exact Evn.iteF g (Evn.ret _)
theorem part58 : partB ((58 : Nat) : Int) = false := by decide
/-- a plain name has no colon -/
theorem plain_no (s : ByteArray) (h : plainB s = true) : ∀ j, j < s.size → by_ s j ≠ 58 := by
  unfold plainB at h
  simp only [Bool.and_eq_true, decide_eq_true_eq] at h
  obtain ⟨h0, h1, h2⟩ := h
  have := stp_stop partB s 0 (Nat.zero_le _)
  rw [h2] at this
  intro j hj
  exact this.walk.none 58 (by decide) part58 j (Nat.zero_le _) hj
theorem plain_ne (s : ByteArray) (h : plainB s = true) : 0 < s.size := by
  unfold plainB at h
  simp only [Bool.and_eq_true, decide_eq_true_eq] at h
  exact h.1
theorem head_size (s : ByteArray) (i : Nat) (h : i ≤ s.size) : (s.extract 0 i).size = i := by rw [ByteArray.size_extract]; omega
/-- with a colon at i, what is ahead of a later place is no plain name; what is behind an earlier place neither -/
theorem head_colon (s : ByteArray) (i j : Nat) (hi : by_ s i = 58) (hij : i < j) (hj : j ≤ s.size) : plainB (s.extract 0 j) = false := by
  apply Bool.eq_false_iff.mpr
  intro h
  have := plain_no _ h i (by rw [head_size s j hj]; exact hij)
  rw [by_extract _ _ _ _ (by omega), Nat.zero_add] at this
  exact this hi
theorem refSplit_none (s : ByteArray) (hz : s.size ≤ 1000000000) (hj : ∀ j, j < s.size → by_ s j = 58 → ∃ i, i < j ∧ by_ s i = 58) : ∀ b j, s.size - j ≤ b → Evn (fun k => orielref03_Split.l0 k s j) ((⟨#[]⟩ : ByteArray), (⟨#[]⟩ : ByteArray), false) := by
  intro b
  induction b with
  | zero =>
    intro j h
    refine Evn.succ (fun k => by rw [orielref03_Split.l0]) ?_
    exact Evn.iteF (by omega) (Evn.ret _)
  | succ b ih =>
    intro j h
    refine Evn.succ (fun k => by rw [orielref03_Split.l0]) ?_
    by_cases c : j < s.size
    · have e2 : wrap64 ((j : Int) + 1) = ((j + 1 : Nat) : Int) := w64 (by omega) (by omega)
      rw [e2, by_bt, Int.toNat_natCast]
      clear e2
      refine Evn.iteT (by omega) (Evn.iteT (by omega) ?_)
      by_cases d : by_ s j = 58
      · obtain ⟨i, h1, h2⟩ := hj j c d
        refine Evn.iteT (by omega) (Evn.iteT (by omega) (Evn.bind (refPlain_ev _ (by rw [head_size s j (by omega)]; omega)) ?_))
        rw [head_colon s i j h2 h1 (by omega)]
        exact Evn.iteF (by decide) (ih (j + 1) (by omega))
      · exact Evn.iteF (by omega) (ih (j + 1) (by omega))
    · exact Evn.iteF (by omega) (Evn.ret _)
theorem refSplit_later (s : ByteArray) (hz : s.size ≤ 1000000000) (i : Nat) (hi : by_ s i = 58) : ∀ b j, s.size - j ≤ b → i < j → Evn (fun k => orielref03_Split.l0 k s j) ((⟨#[]⟩ : ByteArray), (⟨#[]⟩ : ByteArray), false) := by
  intro b
  induction b with
  | zero =>
    intro j h hj
    refine Evn.succ (fun k => by rw [orielref03_Split.l0]) ?_
    exact Evn.iteF (by omega) (Evn.ret _)
  | succ b ih =>
    intro j h hj
    refine Evn.succ (fun k => by rw [orielref03_Split.l0]) ?_
    by_cases c : j < s.size
    · have e2 : wrap64 ((j : Int) + 1) = ((j + 1 : Nat) : Int) := w64 (by omega) (by omega)
      rw [e2, by_bt, Int.toNat_natCast]
      clear e2
      refine Evn.iteT (by omega) (Evn.iteT (by omega) ?_)
      by_cases d : by_ s j = 58
      · refine Evn.iteT (by omega) (Evn.iteT (by omega) (Evn.bind (refPlain_ev _ (by rw [head_size s j (by omega)]; omega)) ?_))
        rw [head_colon s i j hi hj (by omega)]
        exact Evn.iteF (by decide) (ih (j + 1) (by omega) (by omega))
      · exact Evn.iteF (by omega) (ih (j + 1) (by omega) (by omega))
    · exact Evn.iteF (by omega) (Evn.ret _)
theorem refSplit_at (s : ByteArray) (hz : s.size ≤ 1000000000) (i : Nat) (hi : by_ s i = 58) (hs : i < s.size) (hn : ∀ j, j < i → by_ s j ≠ 58) (r : ByteArray × ByteArray × Bool)
    (hr : r = if plainB (s.extract (i + 1) s.size) = true then (if plainB (s.extract 0 i) = true then (s.extract 0 i, s.extract (i + 1) s.size, true) else (⟨#[]⟩, ⟨#[]⟩, false)) else (⟨#[]⟩, ⟨#[]⟩, false)) : ∀ b j, i - j ≤ b → j ≤ i → Evn (fun k => orielref03_Split.l0 k s j) r := by
  intro b
  induction b with
  | zero =>
    intro j h hj
    obtain rfl : j = i := by omega
    refine Evn.succ (fun k => by rw [orielref03_Split.l0]) ?_
    have e2 : wrap64 ((j : Int) + 1) = ((j + 1 : Nat) : Int) := w64 (by omega) (by omega)
    rw [e2, by_bt, Int.toNat_natCast, Int.toNat_natCast]
    clear e2
    have later := refSplit_later s hz j hi s.size (j + 1) (by omega) (by omega)
    refine Evn.iteT (by omega) (Evn.iteT (by omega) (Evn.iteT (by omega) (Evn.iteT (by omega) (Evn.bind (refPlain_ev _ (by rw [head_size s j (by omega)]; omega)) ?_))))
    by_cases g : plainB (s.extract 0 j) = true
    · refine Evn.iteT g (Evn.iteT (by omega) (Evn.iteT (by omega) (Evn.bind (refPlain_ev _ (by rw [tail_size]; omega)) ?_)))
      by_cases d : plainB (s.extract (j + 1) s.size) = true
      · rw [hr, if_pos d, if_pos g]
        exact Evn.iteT d (Evn.ret _)
      · rw [hr, if_neg d]
        exact Evn.iteF d later
    · have : r = (⟨#[]⟩, ⟨#[]⟩, false) := by rw [hr, if_neg g]; split <;> rfl
      rw [this]
      exact Evn.iteF g later
  | succ b ih =>
    intro j h hj
    by_cases c : j = i
    · exact ih j (by omega) hj
    · refine Evn.succ (fun k => by rw [orielref03_Split.l0]) ?_
      have e2 : wrap64 ((j : Int) + 1) = ((j + 1 : Nat) : Int) := w64 (by omega) (by omega)
      rw [e2, by_bt, Int.toNat_natCast]
      clear e2
      have := hn j (by omega)
      exact Evn.iteT (by omega) (Evn.iteT (by omega) (Evn.iteF (by omega) (ih (j + 1) (by omega) (by omega))))
theorem refSplit_ev (s : ByteArray) (hz : s.size ≤ 1000000000) : Evn (fun k => orielref03_Split.f k s) (splitS s) := by
  refine Evn.congr (fun k => by rw [orielref03_Split.f]) (Evn.bind (refPlain_ev s hz) ?_)
  unfold splitS
  rcases fc_spec s with ⟨h1, h2⟩ | ⟨i, h1, h2, h3, h4⟩
  · rw [h1, if_neg (by decide)]
    by_cases g : plainB s = true
    · rw [if_pos g]
      exact Evn.iteT g (Evn.ret _)
    · rw [if_neg g]
      exact Evn.iteF g (refSplit_none s hz (fun j hj hc => absurd hc (h2 j hj)) s.size 0 (by omega))
  · rw [h1, if_pos (by omega), Int.toNat_natCast]
    have g : plainB s = false := Bool.eq_false_iff.mpr fun h => plain_no s h i h2 h3
    rw [g]
    exact Evn.iteF (by decide) (refSplit_at s hz i h3 h2 h4 _ rfl i 0 (by omega) (by omega))
end Go.Proofs.Ytjhchjjpopbieaa.Nm
