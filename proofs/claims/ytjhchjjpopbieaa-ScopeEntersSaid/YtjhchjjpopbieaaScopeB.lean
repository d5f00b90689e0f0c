/- Layer 7: what an attribute binds, by the reference. -/
import Derived.Test.YtjhchjjpopbieaaX11
import Derived.Test.YtjhchjjpopbieaaScopeA
set_option linter.unusedVariables false
set_option linter.unusedSimpArgs false
namespace Go.Proofs.Ytjhchjjpopbieaa.Sc
open Go.RowKit Go.Proofs.YtjhchjjpopbieaaW.PrintWords Go.Proofs.YtjhchjjpopbieaaW.PrintLast Go.Proofs.YtjhchjjpopbieaaW.XConv Go.Proofs.Ytjhchjjpopbieaa.E Go.Proofs.Ytjhchjjpopbieaa.X Go.Proofs.Ytjhchjjpopbieaa.Nm
theorem tl_data (s : ByteArray) : s.toList = s.data.toList := Lib.toList_data s
theorem tl_extract (s : ByteArray) (a b : Nat) : (s.extract a b).toList = (s.toList.take b).drop a := by
  rw [tl_data, tl_data, ByteArray.data_extract, Array.toList_extract, List.extract_eq_take_drop, List.drop_take]
theorem by_tl (s : ByteArray) (i : Nat) : by_ s i = (s.toList.getD i 0).toNat := by rw [by_getD, tl_data]
theorem size_tl (s : ByteArray) : s.size = s.toList.length := by rw [tl_data]; rfl
theorem tl_inj {s t : ByteArray} (h : s.toList = t.toList) : s = t := by
  rw [tl_data, tl_data] at h
  obtain ⟨⟨x⟩⟩ := s
  obtain ⟨⟨y⟩⟩ := t
  have : x = y := h
  rw [this]
abbrev xmlnsC : List UInt8 := [120, 109, 108, 110, 115, 58]
theorem take_getD {l m : List UInt8} {n : Nat} (h : l.take n = m) (i : Nat) (hi : i < n) : l.getD i 0 = m.getD i 0 := by
  rw [← h, List.getD_eq_getElem?_getD, List.getD_eq_getElem?_getD, List.getElem?_take, if_pos hi]
theorem fc5 (s : ByteArray) (h : s.toList.take 6 = xmlnsC) : fc s = 5 := by
  have hsz : 6 ≤ s.size := by
    have := congrArg List.length h
    rw [List.length_take] at this
    rw [size_tl]
    simp at this
    omega
  have g : ∀ i, i < 6 → by_ s i = (xmlnsC.getD i 0).toNat := fun i hi => by rw [by_tl, take_getD h i hi]
  rcases fc_spec s with ⟨h1, h2⟩ | ⟨i, h1, h2, h3, h4⟩
  · exact absurd (g 5 (by omega)) (h2 5 (by omega))
  · have hi : ¬ 5 < i := fun h5 => h4 5 h5 (g 5 (by omega))
    rw [h1]
    have := g i (by omega)
    rw [h3] at this
    match i, hi with
    | 5, _ => rfl
    | 0, _ => exact absurd this (by decide)
    | 1, _ => exact absurd this (by decide)
    | 2, _ => exact absurd this (by decide)
    | 3, _ => exact absurd this (by decide)
    | 4, _ => exact absurd this (by decide)
    | i + 6, hi => exact absurd (by omega) hi
theorem split_colon (s : ByteArray) (i : Nat) (h : fc s = i) (ok : (splitS s).2.2 = true) : splitS s = (s.extract 0 i, s.extract (i + 1) s.size, true) ∧ 0 < (s.extract (i + 1) s.size).size := by
  unfold splitS at ok ⊢
  rw [h, if_pos (by omega), Int.toNat_natCast] at ok ⊢
  split at ok
  · rename_i h1
    split at ok
    · rename_i h2
      rw [if_pos h1, if_pos h2]
      exact ⟨rfl, plain_ne _ h1⟩
    · cases ok
  · cases ok
theorem split_none (s : ByteArray) (h : fc s < 0) (ok : (splitS s).2.2 = true) : splitS s = (⟨#[]⟩, s, true) := by
  unfold splitS at ok ⊢
  rw [if_neg (by omega)] at ok ⊢
  split at ok
  · rename_i h1
    rw [if_pos h1]
  · cases ok
theorem nil_tl : ((⟨#[]⟩ : ByteArray)).toList = [] := by rw [tl_data]
theorem fc_xmlns (s : ByteArray) (h : s.toList = xmlnsL) : fc s < 0 := by
  unfold fc
  rw [← tl_data, h]
  decide
theorem binds_eq (x : Ra) (ok : (splitS x.f0).2.2 = true) : orielref07_binds.f x.f0 x.f1 = some (bndS x) := by
  unfold orielref07_binds.f bndS
  by_cases h1 : x.f0.toList = xmlnsL
  · rw [if_pos h1, split_none x.f0 (fc_xmlns _ h1) ok]
    rw [if_neg (by rw [nil_tl]; decide), h1]; rfl
  · rw [if_neg h1]
    by_cases h2 : (x.f0.size : Int) > 6
    · rw [if_pos h2, if_pos (by decide), if_pos (by omega)]
      by_cases h3 : (x.f0.extract 0 6).toList = xmlnsC
      · rw [if_pos h3]
        rw [tl_extract, List.drop_zero] at h3
        rw [(split_colon x.f0 5 (fc5 _ h3) ok).1, if_pos]
        rw [tl_extract, List.drop_zero]
        have := congrArg (List.take 5) h3
        rw [List.take_take] at this
        exact this
      · rw [if_neg h3, if_neg, beq_eq_false_iff_ne.mpr h1]
        intro h4
        apply h3
        rcases fc_spec x.f0 with ⟨h5, _⟩ | ⟨i, h5, h6, h7, _⟩
        · rw [split_none x.f0 (by omega) ok] at h4
          exact absurd h4 (by rw [nil_tl]; decide)
        · rw [(split_colon x.f0 i h5 ok).1] at h4
          have h8 : i = 5 := by
            have := congrArg List.length h4
            rw [← size_tl, head_size _ _ (by omega)] at this
            exact this
          subst h8
          rw [tl_extract, List.drop_zero] at h4 ⊢
          rw [List.take_succ_eq_append_getElem (by rw [← size_tl]; omega), h4]
          rw [by_tl, List.getD_eq_getElem?_getD, List.getElem?_eq_getElem (by rw [← size_tl]; omega)] at h7
          have : x.f0.toList[5]'(by rw [← size_tl]; omega) = 58 := UInt8.toNat_inj.1 (by simpa using h7)
          rw [this]; rfl
    · rw [if_neg h2, if_neg, beq_eq_false_iff_ne.mpr h1]
      intro h4
      rcases fc_spec x.f0 with ⟨h5, _⟩ | ⟨i, h5, h6, h7, _⟩
      · rw [split_none x.f0 (by omega) ok] at h4
        exact absurd h4 (by rw [nil_tl]; decide)
      · obtain ⟨h9, h10⟩ := split_colon x.f0 i h5 ok
        rw [h9] at h4
        have h8 : i = 5 := by
          have := congrArg List.length h4
          rw [← size_tl, head_size _ _ (by omega)] at this
          exact this
        subst h8
        rw [ByteArray.size_extract] at h10
        omega
end Go.Proofs.Ytjhchjjpopbieaa.Sc
