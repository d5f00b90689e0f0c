/- UtfCuts: bytes that are cut anywhere, the end of the first part that begins a rune laid ahead of the second one, are decoded to the same. -/
import Derived.Test.YtblofllbbcpeiaaX1
import Derived.Test.YtblofllbbcpeiaaX6
import Derived.Test.YtblofllbbcpeiaaX9
import Derived.Test.YtblofllbbcpeiaaUtfJ
set_option linter.unusedVariables false
set_option linter.unusedSimpArgs false
namespace Go.Proofs.Ytblofllbbcpeiaa.Pure
open Go.RowKit Go.Proofs.YtblofllbbcpeiaaW.PrintWords Go.Proofs.YtblofllbbcpeiaaW.PrintLast Go.Proofs.Ytblofllbbcpeiaa.X Go.Proofs.Ytblofllbbcpeiaa.E Go.Proofs.Ytblofllbbcpeiaa.Utf
/-- a part of a rune's bytes begins a rune -/
theorem RL_part (r : Int) (o : Nat) (h : putL r ≠ []) (h0 : 0 < o) (h1 : o < (putL r).length) : (RL ((putL r).take o)).2.2 = 7 := by
  have hv := putL_val h
  have key : ∀ b0 b1 b2 b3 : Int, ∀ n : Nat, RL ((putL r).take o) = R b0 b1 b2 b3 n → 0 ≤ b0 → b0 ≤ 255 → 1 ≤ n → cutS b0 b1 b2 n = true → (RL ((putL r).take o)).2.2 = 7 := by
    intro b0 b1 b2 b3 n e g0 g1 hn hc
    rw [e]
    exact (R_cut _ _ _ _ _ g0 g1 (by omega)).2 hc
  by_cases c1 : r < 128
  · rw [put1 r (by omega)] at h1; simp at h1; omega
  by_cases c2 : r < 2048
  · have hp := put2 r (by omega)
    rw [hp] at h1
    simp at h1
    obtain rfl : o = 1 := by omega
    refine key (192 + r / 64) 0 0 0 1 (by rw [hp]; rfl) (by omega) (by omega) (by omega) ?_
    unfold cutS
    rw [if_pos (by rfl), decide_eq_true_eq]
    omega
  by_cases c3 : r < 65536
  · have hp := put3 r (by omega)
    rw [hp] at h1
    simp at h1
    have ho : o = 1 ∨ o = 2 := by omega
    rcases ho with rfl | rfl
    · refine key (224 + r / 4096) 0 0 0 1 (by rw [hp]; rfl) (by omega) (by omega) (by omega) ?_
      unfold cutS
      rw [if_pos (by rfl), decide_eq_true_eq]
      omega
    · refine key (224 + r / 4096) (128 + r / 64 % 64) 0 0 2 (by rw [hp]; rfl) (by omega) (by omega) (by omega) ?_
      unfold cutS
      rw [if_neg (by decide), if_pos (by rfl), decide_eq_true_eq]
      omega
  · have hp := put4 r (by omega)
    rw [hp] at h1
    simp at h1
    have ho : o = 1 ∨ o = 2 ∨ o = 3 := by omega
    rcases ho with rfl | rfl | rfl
    · refine key (240 + r / 262144) 0 0 0 1 (by rw [hp]; rfl) (by omega) (by omega) (by omega) ?_
      unfold cutS
      rw [if_pos (by rfl), decide_eq_true_eq]
      omega
    · refine key (240 + r / 262144) (128 + r / 4096 % 64) 0 0 2 (by rw [hp]; rfl) (by omega) (by omega) (by omega) ?_
      unfold cutS
      rw [if_neg (by decide), if_pos (by rfl), decide_eq_true_eq]
      omega
    · refine key (240 + r / 262144) (128 + r / 4096 % 64) (128 + r / 64 % 64) 0 3 (by rw [hp]; rfl) (by omega) (by omega) (by omega) ?_
      unfold cutS
      rw [if_neg (by decide), if_neg (by decide), if_pos (by rfl), decide_eq_true_eq]
      omega
/-- a byte behind a rune's first one begins none -/
theorem putL_tail (r : Int) (o : Nat) (h0 : 0 < o) (h1 : o < (putL r).length) : 128 ≤ (putL r).getD o 0 ∧ (putL r).getD o 0 < 192 := by
  by_cases h : putL r = []
  · rw [h] at h1; simp at h1
  have hv := putL_val h
  by_cases c1 : r < 128
  · rw [put1 r (by omega)] at h1; simp at h1; omega
  by_cases c2 : r < 2048
  · rw [put2 r (by omega)] at h1 ⊢
    simp at h1
    obtain rfl : o = 1 := by omega
    show 128 ≤ 128 + r % 64 ∧ 128 + r % 64 < 192
    omega
  by_cases c3 : r < 65536
  · rw [put3 r (by omega)] at h1 ⊢
    simp at h1
    have ho : o = 1 ∨ o = 2 := by omega
    rcases ho with rfl | rfl
    · show 128 ≤ 128 + r / 64 % 64 ∧ 128 + r / 64 % 64 < 192
      omega
    · show 128 ≤ 128 + r % 64 ∧ 128 + r % 64 < 192
      omega
  · rw [put4 r (by omega)] at h1 ⊢
    simp at h1
    have ho : o = 1 ∨ o = 2 ∨ o = 3 := by omega
    rcases ho with rfl | rfl | rfl
    · show 128 ≤ 128 + r / 4096 % 64 ∧ 128 + r / 4096 % 64 < 192
      omega
    · show 128 ≤ 128 + r / 64 % 64 ∧ 128 + r / 64 % 64 < 192
      omega
    · show 128 ≤ 128 + r % 64 ∧ 128 + r % 64 < 192
      omega
theorem RL_tail (l : List Int) (h : 128 ≤ l.getD 0 0 ∧ l.getD 0 0 < 192) : (RL l).2.2 = 2 := by
  unfold RL R
  rw [if_neg (by omega), if_pos (by omega)]
/-- what Whole tells of a text: all of it, and none of its ends begins a rune; or an end that does -/
theorem wh_cases (s : ByteArray) (d : Nat) : ∀ (n : Int), 1 ≤ n → (wh s d n = s.size ∧ ∀ m : Int, n ≤ m → m < n + d → m ≤ s.size → (runeAt s (s.size - m)).2.2 ≠ 7) ∨ (∃ m : Int, n ≤ m ∧ m < n + d ∧ m ≤ s.size ∧ wh s d n = s.size - m ∧ (runeAt s (s.size - m)).2.2 = 7) := by
  induction d with
  | zero => intro n hn; exact .inl ⟨rfl, fun m h1 h2 => by omega⟩
  | succ d ih =>
    intro n hn
    unfold wh
    by_cases h : n ≤ s.size
    · rw [if_pos h]
      by_cases he : (runeAt s (s.size - n)).2.2 = 7
      · rw [if_pos he]
        exact .inr ⟨n, by omega, by omega, h, rfl, he⟩
      · rw [if_neg he]
        rcases ih (n + 1) (by omega) with ⟨h1, h2⟩ | ⟨m, h1, h2, h3, h4, h5⟩
        · refine .inl ⟨h1, fun m a b c => ?_⟩
          by_cases e : m = n
          · subst e; exact he
          · exact h2 m (by omega) (by omega) c
        · exact .inr ⟨m, by omega, by omega, h3, h4, h5⟩
    · rw [if_neg h]
      exact .inl ⟨rfl, fun m a b c => by omega⟩
/-- a place within runes' bytes is a border, or lies within a rune -/
theorem border (rs : List Int) (hok : ∀ r ∈ rs, putL r ≠ []) : ∀ n : Nat, n ≤ (rs.flatMap putL).length → (∃ a b, rs = a ++ b ∧ n = (a.flatMap putL).length) ∨ (∃ a r b o, rs = a ++ r :: b ∧ n = (a.flatMap putL).length + o ∧ 0 < o ∧ o < (putL r).length) := by
  induction rs with
  | nil => intro n hn; exact .inl ⟨[], [], rfl, by simpa using hn⟩
  | cons r t ih =>
    intro n hn
    simp only [List.flatMap_cons, List.length_append] at hn
    by_cases h0 : n = 0
    · exact .inl ⟨[], r :: t, rfl, by simpa using h0⟩
    by_cases h1 : n < (putL r).length
    · exact .inr ⟨[], r, t, n, rfl, by simp, by omega, h1⟩
    rcases ih (fun x hx => hok x (List.mem_cons_of_mem _ hx)) (n - (putL r).length) (by omega) with ⟨a, b, h2, h3⟩ | ⟨a, q, b, o, h2, h3, h4, h5⟩
    · exact .inl ⟨r :: a, b, by rw [h2]; rfl, by simp only [List.flatMap_cons, List.length_append]; omega⟩
    · exact .inr ⟨r :: a, q, b, o, by rw [h2]; rfl, by simp only [List.flatMap_cons, List.length_append]; omega, h4, h5⟩
theorem len_le (l : List Int) (h : ∀ r ∈ l, putL r ≠ []) : l.length ≤ (l.flatMap putL).length := by
  induction l with
  | nil => simp
  | cons a t ih =>
    have h1 := putL_pos (h a List.mem_cons_self)
    have h2 := ih (fun r hr => h r (List.mem_cons_of_mem _ hr))
    simp only [List.flatMap_cons, List.length_append, List.length_cons]
    omega
theorem UtfCuts : oriellaw01_UtfCuts.Pure := by
  intro s a1 hs ha1
  apply Evn.get
  refine Evn.bind awake_ev ?_
  simp only [if_true]
  have hb := wf_bd_u8 ha1
  by_cases h : (s.size : Int) > 200
  · rw [decide_eq_true h]
    exact Evn.succ (fun k => by simp only [oriellaw01_UtfCuts.j0, if_true]) (Evn.bind awake_ev (Evn.ret _))
  rw [decide_eq_false h]
  have hz : s.size ≤ 1000000000 := by omega
  have hL := size_bytesOf s
  obtain ⟨rs, rest, hd⟩ := Dec.exists (bytesOf s).length (bytesOf s) (Nat.le_refl _) (bytesOf_range s)
  have hlen := congrArg List.length hd.eq
  rw [bytesOf_length, List.length_append] at hlen
  have hrl := len_le rs hd.ok
  -- the cut
  have e1 : wrap64 ((s.size : Int) + 1) = s.size + 1 := w64 (by omega) (by omega)
  have e2 : wrap64 a1 = a1 := w64 (by omega) (by omega)
  have e3 : Int.tmod a1 ((s.size : Int) + 1) = a1 % (s.size + 1) := Int.tmod_eq_emod_of_nonneg hb.1
  have hc0 : 0 ≤ a1 % ((s.size : Int) + 1) := Int.emod_nonneg _ (by omega)
  have hc1 : a1 % ((s.size : Int) + 1) < s.size + 1 := Int.emod_lt_of_pos _ (by omega)
  obtain ⟨c, hc⟩ : ∃ c : Nat, a1 % ((s.size : Int) + 1) = c := ⟨_, (Int.toNat_of_nonneg hc0).symm⟩
  have hcN : c ≤ s.size := by omega
  have e4 : wrap64 ((c : Int) - 3) = c - 3 := w64 (by omega) (by omega)
  refine Evn.succ (h := fun k => (utf_All.f k s).bind fun bt255 => ((utf_Whole.f k (s.extract 0 c)).bind fun t260 => (if 0 ≤ t260 then (if t260 ≤ (s.size : Int) then ((utf_All.f k (s.extract 0 (t260 : Int).toNat)).bind fun bt261 => ((utf_All.f k (s.extract (t260 : Int).toNat s.size)).bind fun bt266 => ((utf_All.f k s).bind fun bt271 => (if bt255.2.2 = 0 then (if t260 ≥ (c : Int) - 3 then (if bt261.2.2 = 0 then (if bt266.2.2 = 0 then ((some (([] : List Int) : List Int)).bind fun y276 => (if y276.length + bt261.1.length < 35184372088832 then ((some (y276 ++ bt261.1 : List Int)).bind fun y279 => (if y279.length + bt266.1.length < 35184372088832 then ((orielref01_Same.f k (y279 ++ bt266.1) bt271.1).bind fun t285 => (some t285)) else (none))) else (none))) else (some false)) else (some false)) else (some false)) else (if bt261.2.2 = 0 then (some (bt266.2.2 == bt255.2.2)) else (if bt261.2.1 < t260 then (some true) else (some (bt266.2.2 == bt255.2.2)))))))) else (none)) else (none)))) (fun k => ?_) ?_
  · simp only [oriellaw01_UtfCuts.j0, e1, e2, e3, hc, e4, Int.toNat_natCast]
    rw [if_neg (by decide)]
    congr 1
    funext t
    rw [if_neg (by omega), if_pos (by omega), if_pos (by omega)]
  have hxs : (s.extract 0 c).size = c := by rw [ByteArray.size_extract]; omega
  have hxb : bytesOf (s.extract 0 c) = (bytesOf s).take c := by rw [bytesOf_extract]; simp
  refine Evn.bind (utfAll_ev s hz rs rest hd) (Evn.bind (utfWhole_ev (s.extract 0 c) (by omega)) ?_)
  -- where it is cut
  obtain ⟨n, hn, hnc, hn3, hW⟩ : ∃ n : Nat, wh (s.extract 0 c) 3 1 = n ∧ n ≤ c ∧ c ≤ n + 3 ∧ ((n = c ∧ ∀ m : Nat, 1 ≤ m → m ≤ 3 → m ≤ c → (RL (((bytesOf s).take c).drop (c - m))).2.2 ≠ 7) ∨ (n < c ∧ (RL (((bytesOf s).take c).drop n)).2.2 = 7)) := by
    rcases wh_cases (s.extract 0 c) 3 1 (by omega) with ⟨h1, h2⟩ | ⟨m, h1, h2, h3, h4, h5⟩
    · rw [hxs] at h1 h2
      refine ⟨c, h1, Nat.le_refl _, by omega, .inl ⟨rfl, fun m g1 g2 g3 => ?_⟩⟩
      have := h2 m (by omega) (by omega) (by omega)
      rw [runeAt_RL _ _ (by omega) (by rw [hxs]; omega), hxb] at this
      have e : ((c : Int) - m).toNat = c - m := by omega
      rw [e] at this
      exact this
    · rw [hxs] at h3 h4 h5
      refine ⟨((c : Int) - m).toNat, by omega, by omega, by omega, .inr ⟨by omega, ?_⟩⟩
      rw [runeAt_RL _ _ (by omega) (by rw [hxs]; omega), hxb] at h5
      exact h5
  rw [hn]
  refine Evn.iteT (by omega) (Evn.iteT (by omega) ?_)
  rw [Int.toNat_natCast]
  have hps : (s.extract 0 n).size = n := by rw [ByteArray.size_extract]; omega
  have hpb : bytesOf (s.extract 0 n) = (bytesOf s).take n := by rw [bytesOf_extract]; simp
  have hqs : (s.extract n s.size).size = s.size - n := by rw [ByteArray.size_extract]; omega
  have hqb : bytesOf (s.extract n s.size) = (bytesOf s).drop n := by
    rw [bytesOf_extract, hL, List.take_of_length_le (Nat.le_refl _)]
  by_cases hin : n ≤ (rs.flatMap putL).length
  · -- within the runes that are: a border
    have hbord : ∃ a b, rs = a ++ b ∧ n = (a.flatMap putL).length := by
      rcases border rs hd.ok n hin with hh | ⟨a, r, b, o, h1, h2, h3, h4⟩
      · exact hh
      exfalso
      have hr : putL r ≠ [] := hd.ok r (by rw [h1]; simp)
      have heq : bytesOf s = a.flatMap putL ++ (putL r ++ (b.flatMap putL ++ rest)) := by rw [hd.eq, h1]; simp
      rcases hW with ⟨w1, w2⟩ | ⟨w1, w2⟩
      · have l4 := putL_len r
        have := w2 o (by omega) (by omega) (by omega)
        apply this
        have e : ((bytesOf s).take c).drop (c - o) = (putL r).take o := by
          rw [heq, ← w1, show n - o = (a.flatMap putL).length by omega, h2, List.take_length_add_append, List.drop_left, List.take_append_of_le_length (by omega)]
        rw [e]
        exact RL_part r o hr h3 h4
      · have ht := putL_tail r o h3 h4
        have e : (((bytesOf s).take c).drop n).getD 0 0 = (putL r).getD o 0 := by
          rw [List.getD_eq_getElem?_getD, List.getElem?_drop, List.getElem?_take, if_pos (by omega), heq, h2, List.getElem?_append_right (by omega), List.getElem?_append_left (by omega), List.getD_eq_getElem?_getD]
          congr 2
          omega
        have := RL_tail (((bytesOf s).take c).drop n) (by rw [e]; exact ht)
        rw [this] at w2
        exact absurd w2 (by decide)
    obtain ⟨a, b, hab, hna⟩ := hbord
    have heq : bytesOf s = a.flatMap putL ++ (b.flatMap putL ++ rest) := by rw [hd.eq, hab]; simp
    have d1 : Dec (bytesOf (s.extract 0 n)) a [] := by
      rw [hpb, heq, hna, List.take_left]
      exact ⟨by simp, fun r hr => hd.ok r (by rw [hab]; exact List.mem_append_left _ hr), .inl rfl⟩
    have d2 : Dec (bytesOf (s.extract n s.size)) b rest := by
      rw [hqb, heq, hna, List.drop_left]
      exact ⟨rfl, fun r hr => hd.ok r (by rw [hab]; exact List.mem_append_right _ hr), hd.stop⟩
    have hla : a.length + b.length = rs.length := by rw [hab, List.length_append]
    refine Evn.bind (utfAll_ev _ (by omega) a [] d1) (Evn.bind (utfAll_ev _ (by omega) b rest d2) (Evn.bind (utfAll_ev s hz rs rest hd) ?_))
    by_cases he : errL rest = 0
    · refine Evn.iteT he (Evn.iteT (by omega) (Evn.iteT rfl (Evn.iteT he ?_)))
      simp only [Option.bind_some, List.nil_append]
      refine Evn.iteT (by simp; omega) (Evn.iteT (by omega) (Evn.bind (same_ev _ _ (by rw [List.length_append]; omega)) ?_))
      rw [hab]
      simp only [beq_self_eq_true]
      exact Evn.ret _
    · refine Evn.iteF he (Evn.iteT rfl ?_)
      simp only [beq_self_eq_true]
      exact Evn.ret _
  · -- behind them: what is wrong is wrong in the first part, too
    have hrn : rest ≠ [] := by
      intro hh
      rw [hh, List.length_nil] at hlen
      omega
    have hst := hd.stop.resolve_left hrn
    have hbr : Bytes rest := fun x hx => bytesOf_range s x (by rw [hd.eq]; exact List.mem_append_right _ hx)
    obtain ⟨o, ho⟩ : ∃ o, n = (rs.flatMap putL).length + o := ⟨n - (rs.flatMap putL).length, by omega⟩
    have htk : rest.take o ≠ [] := by
      intro hh
      have := congrArg List.length hh
      rw [List.length_take, List.length_nil] at this
      omega
    have hst2 : (RL (rest.take o)).2.2 ≠ 0 := by
      intro hh
      obtain ⟨r, m, e⟩ : ∃ r m, RL (rest.take o) = (r, m, 0) := ⟨(RL (rest.take o)).1, (RL (rest.take o)).2.1, by rw [← hh]⟩
      obtain ⟨hr, hm, heq⟩ := RL_ok (rest.take o) (fun x hx => hbr x (List.mem_of_mem_take hx)) htk r m e
      apply hst
      have : rest = putL r ++ ((rest.take o).drop (putL r).length ++ rest.drop o) := by
        rw [← List.append_assoc, ← heq, List.take_append_drop]
      rw [this, RL_put r _ hr]
    have d1 : Dec (bytesOf (s.extract 0 n)) rs (rest.take o) := by
      rw [hpb, hd.eq, ho, List.take_length_add_append]
      exact ⟨rfl, hd.ok, .inr hst2⟩
    obtain ⟨rs2, rest2, d2⟩ := Dec.exists (bytesOf (s.extract n s.size)).length (bytesOf (s.extract n s.size)) (Nat.le_refl _) (bytesOf_range _)
    refine Evn.bind (utfAll_ev _ (by omega) rs (rest.take o) d1) (Evn.bind (utfAll_ev _ (by omega) rs2 rest2 d2) (Evn.bind (utfAll_ev s hz rs rest hd) ?_))
    refine Evn.iteF (by unfold errL; rw [if_neg hrn]; exact hst) (Evn.iteF (by unfold errL; rw [if_neg htk]; exact hst2) (Evn.iteT ?_ (Evn.ret _)))
    simp only
    omega
end Go.Proofs.Ytblofllbbcpeiaa.Pure
