/- Runes of lists of bytes: decoding and encoding undo one another. -/
import Derived.Test.YtblofllbbcpeiaaUtfF
set_option linter.unusedVariables false
set_option linter.unusedSimpArgs false
namespace Go.Proofs.Ytblofllbbcpeiaa.Utf
open Go.RowKit Go.Proofs.YtblofllbbcpeiaaW.PrintWords Go.Proofs.YtblofllbbcpeiaaW.PrintLast Go.Proofs.YtblofllbbcpeiaaW.XConv Go.Proofs.Ytblofllbbcpeiaa.X Go.Proofs.Ytblofllbbcpeiaa.E
/-- the first rune of bytes -/
def RL (l : List Int) : Int × Int × Int := R (l.getD 0 0) (l.getD 1 0) (l.getD 2 0) (l.getD 3 0) l.length
def Bytes (l : List Int) : Prop := ∀ x ∈ l, 0 ≤ x ∧ x ≤ 255
theorem runeAt_RL (s : ByteArray) (p : Int) (h0 : 0 ≤ p) (hp : p < s.size) : runeAt s p = RL ((bytesOf s).drop p.toNat) := by
  unfold runeAt RL
  rw [if_neg (by omega)]
  have hl := size_bytesOf s
  have g : ∀ i : Nat, ((bytesOf s).drop p.toNat).getD i 0 = bt s (p + i) := by
    intro i
    rw [bt_get]
    simp only [List.getD_eq_getElem?_getD, List.getElem?_drop]
    congr 2
    omega
  rw [g 0, g 1, g 2, g 3]
  have e : ((((bytesOf s).drop p.toNat).length : Nat) : Int) = s.size - p := by rw [List.length_drop]; omega
  rw [e]
  simp
theorem puts_range (rs : List Int) : Bytes (rs.flatMap putL) := by
  intro x hx
  obtain ⟨r, _, hr⟩ := List.mem_flatMap.1 hx
  exact putL_range r x hr
/-- the cases in which a rune stands there -/
theorem RL_ok (l : List Int) (hb : Bytes l) (hn : l ≠ []) (r n : Int) (h : RL l = (r, n, 0)) : putL r ≠ [] ∧ n = (putL r).length ∧ l = putL r ++ l.drop (putL r).length := by
  unfold RL at h
  have hlen : 1 ≤ l.length := by cases l with
    | nil => exact absurd rfl hn
    | cons a t => simp
  have hg : ∀ i : Nat, 0 ≤ l.getD i 0 ∧ l.getD i 0 ≤ 255 := by
    intro i
    rw [List.getD_eq_getElem?_getD]
    by_cases hi : i < l.length
    · rw [List.getElem?_eq_getElem hi]; exact hb _ (List.getElem_mem hi)
    · rw [List.getElem?_eq_none (by omega)]; simp
  have hs : ∀ (m : Nat) (q : List Int), q.length = m → m ≤ l.length → (∀ i : Nat, i < m → l.getD i 0 = q.getD i 0) → l = q ++ l.drop m := by
    intro m q hq hm hh
    conv => lhs; rw [← List.take_append_drop m l]
    congr 1
    apply List.ext_getElem?
    intro i
    rw [List.getElem?_take]
    by_cases hi : i < m
    · rw [if_pos hi]
      have := hh i hi
      rw [List.getD_eq_getElem?_getD, List.getD_eq_getElem?_getD, List.getElem?_eq_getElem (by omega), List.getElem?_eq_getElem (by omega)] at this
      rw [List.getElem?_eq_getElem (by omega), List.getElem?_eq_getElem (by omega)]
      simpa using this
    · rw [if_neg hi, List.getElem?_eq_none (by omega)]
  have g0 := hg 0
  have g1 := hg 1
  have g2 := hg 2
  have g3 := hg 3
  rw [R_ref _ _ _ _ _ g0.1 g0.2 (by omega)] at h
  split at h
  · rename_i c
    simp only [Prod.mk.injEq] at h
    obtain ⟨rfl, rfl, _⟩ := h
    rw [put1 _ ⟨g0.1, c⟩]
    refine ⟨by simp, rfl, hs 1 _ rfl hlen (fun i hi => ?_)⟩
    obtain rfl : i = 0 := by omega
    rfl
  split at h
  · rename_i c
    simp only [Prod.mk.injEq] at h
    obtain ⟨rfl, rfl, _⟩ := h
    rw [put2 _ (by omega)]
    refine ⟨by simp, rfl, hs 2 _ rfl (by omega) (fun i hi => ?_)⟩
    have : i = 0 ∨ i = 1 := by omega
    rcases this with rfl | rfl
    · show l.getD 0 0 = 192 + _ / 64; omega
    · show l.getD 1 0 = 128 + _ % 64; omega
  split at h
  · rename_i c
    simp only [Prod.mk.injEq] at h
    obtain ⟨rfl, rfl, _⟩ := h
    rw [put3 _ (by omega)]
    refine ⟨by simp, rfl, hs 3 _ rfl (by omega) (fun i hi => ?_)⟩
    have : i = 0 ∨ i = 1 ∨ i = 2 := by omega
    rcases this with rfl | rfl | rfl
    · show l.getD 0 0 = 224 + _ / 4096; omega
    · show l.getD 1 0 = 128 + _ / 64 % 64; omega
    · show l.getD 2 0 = 128 + _ % 64; omega
  split at h
  · rename_i c
    simp only [Prod.mk.injEq] at h
    obtain ⟨rfl, rfl, _⟩ := h
    rw [put4 _ (by omega)]
    refine ⟨by simp, rfl, hs 4 _ rfl (by omega) (fun i hi => ?_)⟩
    have : i = 0 ∨ i = 1 ∨ i = 2 ∨ i = 3 := by omega
    rcases this with rfl | rfl | rfl | rfl
    · show l.getD 0 0 = 240 + _ / 262144; omega
    · show l.getD 1 0 = 128 + _ / 4096 % 64; omega
    · show l.getD 2 0 = 128 + _ / 64 % 64; omega
    · show l.getD 3 0 = 128 + _ % 64; omega
  split at h
  · simp at h
  · simp at h
theorem RL_put (r : Int) (t : List Int) (h : putL r ≠ []) : RL (putL r ++ t) = (r, ((putL r).length : Int), 0) := by
  have hv : 0 ≤ r ∧ r ≤ 1114111 ∧ ¬ (55296 ≤ r ∧ r ≤ 57343) := by
    unfold putL at h
    by_cases c : r < 0 ∨ r > 1114111 ∨ (55296 ≤ r ∧ r ≤ 57343)
    · rw [if_pos c] at h; exact absurd rfl h
    · omega
  by_cases c1 : r < 128
  · rw [put1 r (by omega)]
    show R r _ _ _ _ = _
    rw [R_ref _ _ _ _ _ (by omega) (by omega) (by simp; omega), if_pos c1]
    rfl
  by_cases c2 : r < 2048
  · rw [put2 r (by omega)]
    show R (192 + r / 64) (128 + r % 64) _ _ _ = _
    rw [R_ref _ _ _ _ _ (by omega) (by omega) (by simp; omega), if_neg (by omega), if_pos (by simp; omega)]
    simp only [Prod.mk.injEq, and_true]
    exact ⟨by omega, rfl⟩
  by_cases c3 : r < 65536
  · rw [put3 r (by omega)]
    show R (224 + r / 4096) (128 + r / 64 % 64) (128 + r % 64) _ _ = _
    rw [R_ref _ _ _ _ _ (by omega) (by omega) (by simp; omega), if_neg (by omega), if_neg (by omega), if_pos (by simp; omega)]
    simp only [Prod.mk.injEq, and_true]
    exact ⟨by omega, rfl⟩
  · rw [put4 r (by omega)]
    show R (240 + r / 262144) (128 + r / 4096 % 64) (128 + r / 64 % 64) (128 + r % 64) _ = _
    rw [R_ref _ _ _ _ _ (by omega) (by omega) (by simp; omega), if_neg (by omega), if_neg (by omega), if_neg (by omega), if_pos (by simp; omega)]
    simp only [Prod.mk.injEq, and_true]
    exact ⟨by omega, rfl⟩
/-- what decoding all comes to: these runes' bytes, and what is left -/
structure Dec (l rs rest : List Int) : Prop where
  eq : l = rs.flatMap putL ++ rest
  ok : ∀ r ∈ rs, putL r ≠ []
  stop : rest = [] ∨ (RL rest).2.2 ≠ 0
def errL (rest : List Int) : Int := if rest = [] then 0 else (RL rest).2.2
theorem Dec.cons {l rs rest : List Int} (h : Dec l rs rest) (r : Int) (hr : putL r ≠ []) : Dec (putL r ++ l) (r :: rs) rest :=
  ⟨by rw [h.eq]; simp, by intro x hx; rcases List.mem_cons.1 hx with rfl | hx; exact hr; exact h.ok x hx, h.stop⟩
theorem Dec.uniq : ∀ {rs rest rs' rest' l : List Int}, Dec l rs rest → Dec l rs' rest' → rs = rs' ∧ rest = rest' := by
  intro rs
  induction rs with
  | nil =>
    intro rest rs' rest' l h h'
    have he := h.eq
    simp only [List.flatMap_nil, List.nil_append] at he
    subst he
    cases rs' with
    | nil =>
      have := h'.eq
      simp at this
      exact ⟨rfl, this⟩
    | cons r t =>
      exfalso
      have hr := h'.ok r List.mem_cons_self
      have he := h'.eq
      simp only [List.flatMap_cons, List.append_assoc] at he
      have := RL_put r (t.flatMap putL ++ rest') hr
      rw [← he] at this
      rcases h.stop with hs | hs
      · rw [hs] at he
        have := congrArg List.length he
        simp only [List.length_append, List.length_nil] at this
        exact hr (List.eq_nil_of_length_eq_zero (by omega))
      · exact hs (by rw [this])
  | cons r t ih =>
    intro rest rs' rest' l h h'
    have hr := h.ok r List.mem_cons_self
    have he := h.eq
    simp only [List.flatMap_cons, List.append_assoc] at he
    have hR := RL_put r (t.flatMap putL ++ rest) hr
    cases rs' with
    | nil =>
      exfalso
      have he' := h'.eq
      simp only [List.flatMap_nil, List.nil_append] at he'
      rcases h'.stop with hs | hs
      · rw [← he', he] at hs
        have := congrArg List.length hs
        simp at this
        exact hr this.1
      · apply hs
        rw [← he', he, hR]
    | cons r' t' =>
      have hr' := h'.ok r' List.mem_cons_self
      have he' := h'.eq
      simp only [List.flatMap_cons, List.append_assoc] at he'
      have hR' := RL_put r' (t'.flatMap putL ++ rest') hr'
      rw [← he] at hR
      rw [← he'] at hR'
      rw [hR] at hR'
      simp only [Prod.mk.injEq] at hR'
      obtain ⟨rfl, _, _⟩ := hR'
      rw [he] at he'
      have h1 : Dec (t.flatMap putL ++ rest) t rest := ⟨rfl, fun x hx => h.ok x (List.mem_cons_of_mem _ hx), h.stop⟩
      have h2 : Dec (t.flatMap putL ++ rest) t' rest' := ⟨List.append_cancel_left he', fun x hx => h'.ok x (List.mem_cons_of_mem _ hx), h'.stop⟩
      obtain ⟨rfl, rfl⟩ := ih h1 h2
      exact ⟨rfl, rfl⟩
theorem Dec.exists : ∀ (n : Nat) (l : List Int), l.length ≤ n → Bytes l → ∃ rs rest, Dec l rs rest := by
  intro n
  induction n with
  | zero =>
    intro l hl _
    have : l = [] := List.eq_nil_of_length_eq_zero (by omega)
    subst this
    exact ⟨[], [], rfl, by simp, .inl rfl⟩
  | succ n ih =>
    intro l hl hb
    by_cases hn : l = []
    · subst hn
      exact ⟨[], [], rfl, by simp, .inl rfl⟩
    by_cases he : (RL l).2.2 = 0
    · obtain ⟨r, m, e⟩ : ∃ r m, RL l = (r, m, 0) := ⟨(RL l).1, (RL l).2.1, by rw [← he]⟩
      obtain ⟨hr, hm, heq⟩ := RL_ok l hb hn r m e
      have hlen : 1 ≤ (putL r).length := by
        cases hp : putL r with
        | nil => exact absurd hp hr
        | cons a t => simp
      obtain ⟨rs, rest, h⟩ := ih (l.drop (putL r).length) (by rw [List.length_drop]; omega) (fun x hx => hb x (List.mem_of_mem_drop hx))
      refine ⟨r :: rs, rest, ?_⟩
      have := h.cons r hr
      rw [← heq] at this
      exact this
    · exact ⟨[], l, by simp, by simp, .inr he⟩
end Go.Proofs.Ytblofllbbcpeiaa.Utf
