/- utf.All, utf.Put and the reference's All, over what the bytes say. -/
import Derived.Test.YtblofllbbcpeiaaX1
import Derived.Test.YtblofllbbcpeiaaX2
import Derived.Test.YtblofllbbcpeiaaX6
import Derived.Test.YtblofllbbcpeiaaUtfG
import Derived.Test.YtblofllbbcpeiaaUtfH
set_option linter.unusedVariables false
set_option linter.unusedSimpArgs false
namespace Go.Proofs.Ytblofllbbcpeiaa.Utf
open Go.RowKit Go.Proofs.YtblofllbbcpeiaaW.PrintWords Go.Proofs.YtblofllbbcpeiaaW.PrintLast Go.Proofs.YtblofllbbcpeiaaW.PrintMore Go.Proofs.YtblofllbbcpeiaaW.XConv Go.Proofs.Ytblofllbbcpeiaa.X Go.Proofs.Ytblofllbbcpeiaa.E
theorem putL_pos {r : Int} (h : putL r ≠ []) : 1 ≤ (putL r).length := by
  cases hp : putL r with
  | nil => exact absurd hp h
  | cons a t => simp
theorem putL_val {r : Int} (h : putL r ≠ []) : 0 ≤ r ∧ r ≤ 1114111 ∧ ¬ (55296 ≤ r ∧ r ≤ 57343) := by
  unfold putL at h
  by_cases c : r < 0 ∨ r > 1114111 ∨ (55296 ≤ r ∧ r ≤ 57343)
  · rw [if_pos c] at h; exact absurd rfl h
  · omega
/-- decoding all from a place on, whatever function tells the rune there (g), and how a rune is kept (c) -/
theorem all_loop (s : ByteArray) (hz : s.size ≤ 1000000000) (L : Nat → List Int → Int → Option (List Int × Int × Int))
    (hend : ∀ k acc (p : Nat), (s.size : Int) ≤ p → L (k + 1) acc p = some (acc, (p : Int), 0))
    (hok : ∀ acc (p n : Nat) (r : Int) (R : List Int × Int × Int), p < s.size → acc.length ≤ p → p + n ≤ s.size → putL r ≠ [] → runeAt s p = (r, (n : Int), 0) → Evn (fun k => L k (acc ++ [r]) ((p + n : Nat) : Int)) R → Evn (fun k => L k acc p) R)
    (herr : ∀ acc (p : Nat), p < s.size → (runeAt s p).2.2 ≠ 0 → Evn (fun k => L k acc p) (acc, (p : Int), (runeAt s p).2.2)) :
    ∀ (rs rest : List Int) (p : Nat) (acc : List Int), p ≤ s.size → acc.length ≤ p → Dec ((bytesOf s).drop p) rs rest → Evn (fun k => L k acc p) (acc ++ rs, ((p + (rs.flatMap putL).length : Nat) : Int), errL rest) := by
  have hl := size_bytesOf s
  intro rs
  induction rs with
  | nil =>
    intro rest p acc hp ha h
    have he := h.eq
    simp only [List.flatMap_nil, List.nil_append] at he
    simp only [List.append_nil, List.flatMap_nil, List.length_nil, Nat.add_zero]
    by_cases hps : p < s.size
    · have hne : rest ≠ [] := by
        intro hh
        rw [hh] at he
        have := congrArg List.length he
        rw [List.length_drop] at this
        simp at this
        omega
      have hr := runeAt_RL s p (by omega) (by omega)
      rw [Int.toNat_natCast, he] at hr
      have hst := h.stop.resolve_left hne
      have := herr acc p hps (by rw [hr]; exact hst)
      rw [hr] at this
      unfold errL
      rw [if_neg hne]
      exact this
    · have hne : rest = [] := by
        rw [← he]
        apply List.drop_eq_nil_of_le
        omega
      unfold errL
      rw [if_pos hne]
      exact Evn.succ (h := fun _ => some (acc, (p : Int), 0)) (fun k => hend k acc p (by omega)) (Evn.ret _)
  | cons r t ih =>
    intro rest p acc hp ha h
    have he := h.eq
    have hr := h.ok r List.mem_cons_self
    have hpos := putL_pos hr
    simp only [List.flatMap_cons, List.append_assoc] at he
    have hlen := congrArg List.length he
    rw [List.length_drop, List.length_append] at hlen
    have hR := RL_put r (t.flatMap putL ++ rest) hr
    rw [← he] at hR
    have hps : p < s.size := by omega
    have hat := runeAt_RL s p (by omega) (by omega)
    rw [Int.toNat_natCast, hR] at hat
    refine hok acc p (putL r).length r _ hps ha (by omega) hr hat ?_
    have hd : Dec ((bytesOf s).drop (p + (putL r).length)) t rest := by
      refine ⟨?_, fun x hx => h.ok x (List.mem_cons_of_mem _ hx), h.stop⟩
      rw [← List.drop_drop, he, List.drop_left]
    have := ih rest (p + (putL r).length) (acc ++ [r]) (by omega) (by simp; omega) hd
    have e1 : (acc ++ [r]) ++ t = acc ++ (r :: t) := by simp
    have e2 : p + (putL r).length + (t.flatMap putL).length = p + ((r :: t).flatMap putL).length := by simp [List.length_flatMap]; omega
    rw [e1, e2] at this
    exact this
theorem utfAll_ev (s : ByteArray) (hz : s.size ≤ 1000000000) (rs rest : List Int) (h : Dec (bytesOf s) rs rest) : Evn (fun k => utf_All.f k s) (rs, ((rs.flatMap putL).length : Int), errL rest) := by
  have := all_loop s hz (fun k acc p => utf_All.l0 k s acc p) ?_ ?_ ?_ rs rest 0 [] (by omega) (by simp) (by simpa using h)
  · simpa [utf_All.f] using this
  · intro k acc p hp
    simp only [utf_All.l0]
    rw [if_neg (by omega)]
  · intro acc p n r R hp ha hn hr hat hev
    have hs := runeAt_small s p
    refine Evn.succ (fun k => ?_) hev
    simp only [utf_All.l0]
    rw [if_pos (by omega), utfRune_ev s p hz, Option.bind_some, hat]
    simp only
    rw [if_pos trivial, if_pos (by omega), w64 (by omega) (by omega)]
    congr 1
  · intro acc p hp he
    refine Evn.succ (h := fun _ => some (acc, (p : Int), (runeAt s p).2.2)) (fun k => ?_) (Evn.ret _)
    simp only [utf_All.l0]
    rw [if_pos (by omega), utfRune_ev s p hz, Option.bind_some, if_neg he]
theorem refAll_ev (s : ByteArray) (hz : s.size ≤ 1000000000) (rs rest : List Int) (h : Dec (bytesOf s) rs rest) : Evn (fun k => orielref01_All.f k s) (rs, ((rs.flatMap putL).length : Int), errL rest) := by
  have := all_loop s hz (fun k acc p => orielref01_All.l0 k s acc p) ?_ ?_ ?_ rs rest 0 [] (by omega) (by simp) (by simpa using h)
  · simpa [orielref01_All.f] using this
  · intro k acc p hp
    simp only [orielref01_All.l0]
    rw [if_neg (by omega)]
  · intro acc p n r R hp ha hn hr hat hev
    have hv := putL_val hr
    refine Evn.succ (h := fun k => (orielref01_Rune.f k s p).bind fun bt194 => (if bt194.2.2 = 0 then (if acc.length < 35184372088832 then (orielref01_All.l0 k s (acc ++ [wrap32 (bt194.1)]) (wrap64 (p + bt194.2.1))) else (none)) else (some (acc, (p : Int), bt194.2.2)))) (fun k => by simp only [orielref01_All.l0]; rw [if_pos (by omega)]) ?_
    refine Evn.bind (refRune_ev s p hz) ?_
    rw [hat]
    refine Evn.iteT rfl (Evn.iteT (by omega) ?_)
    simp only
    rw [w32 (by omega) (by omega), w64 (by omega) (by omega)]
    exact hev
  · intro acc p hp he
    refine Evn.succ (h := fun k => (orielref01_Rune.f k s p).bind fun bt194 => (if bt194.2.2 = 0 then (if acc.length < 35184372088832 then (orielref01_All.l0 k s (acc ++ [wrap32 (bt194.1)]) (wrap64 (p + bt194.2.1))) else (none)) else (some (acc, (p : Int), bt194.2.2)))) (fun k => by simp only [orielref01_All.l0]; rw [if_pos (by omega)]) ?_
    refine Evn.bind (refRune_ev s p hz) ?_
    exact Evn.iteF he (Evn.ret _)
/-- the bytes of a rune; of what has none, those of fffd -/
def putR (r : Int) : List Int := if putL r = [] then putL 65533 else putL r
theorem putR_range (l : List Int) : Bytes (l.flatMap putR) := by
  intro x hx
  obtain ⟨r, _, hr⟩ := List.mem_flatMap.1 hx
  unfold putR at hr
  split at hr
  · exact putL_range _ x hr
  · exact putL_range _ x hr
theorem may_eq (r : Int) : utf_may.f r = some (decide (putL r ≠ [])) := by
  unfold utf_may.f
  by_cases h : putL r ≠ []
  · have hv := putL_val h
    rw [decide_eq_true h, if_pos (by omega), if_pos (by omega)]
    split
    · rfl
    · rw [decide_eq_true (by omega)]
  · rw [decide_eq_false h]
    have hv : r < 0 ∨ r > 1114111 ∨ (55296 ≤ r ∧ r ≤ 57343) := by
      by_cases c : r < 0 ∨ r > 1114111 ∨ (55296 ≤ r ∧ r ≤ 57343)
      · exact c
      · exfalso
        apply h
        unfold putL
        rw [if_neg c]
        repeat' split
        all_goals simp
    split
    · split
      · rw [if_neg (by omega), decide_eq_false (by omega)]
      · rfl
    · rfl
theorem or0 (y : Int) (h0 : 0 ≤ y) (h1 : y < 256) : bits .or .u8 0 y = y := by
  have := bits_join .u8 8 (by decide) wraps_u8 8 0 y (by decide) (by decide) (by decide) h0 (by omega) (by omega)
  omega
theorem shr0 (r : Int) : shr .i32 r 0 = r := by
  show r / 2 ^ 0 = r
  simp
theorem shr6 (r : Int) : shr .i32 r 6 = r / 64 := rfl
theorem shr12 (r : Int) : shr .i32 r 12 = r / 4096 := rfl
theorem shr18 (r : Int) : shr .i32 r 18 = r / 262144 := rfl
section
variable (l acc : List Int) (r i : Int) (R : ByteArray) (ha : acc.length ≤ 100000000000) (hi0 : 0 ≤ i) (hi : i ≤ 1000000000)
theorem l2_neg (acc : List Int) (hi0 : 0 ≤ i) (hi : i ≤ 1000000000) (h : Evn (fun k => utf_Put.l0 k acc l (l.length : Int) (i + 1)) R) : Evn (fun k => utf_Put.l2 k acc r (-1) l (l.length : Int) i) R :=
  Evn.succ (fun k => by simp only [utf_Put.l2]; rw [if_neg (by omega), w64 (by omega) (by omega)]) h
theorem l2_0 (acc : List Int) (ha : acc.length ≤ 100000000009) (h : Evn (fun k => utf_Put.l2 k (acc ++ [128 + r % 64]) r (-1) l (l.length : Int) i) R) : Evn (fun k => utf_Put.l2 k acc r 0 l (l.length : Int) i) R :=
  Evn.succ (fun k => by
    simp only [utf_Put.l2]
    have e : wrap64 (6 * 0) = 0 := w64 (by omega) (by omega)
    have e2 : wrap64 ((0 : Int) - 1) = -1 := w64 (by omega) (by omega)
    rw [if_pos (by omega), e, if_pos (by omega), if_pos (by omega), e2, shr0]) h
theorem l2_1 (acc : List Int) (ha : acc.length ≤ 100000000009) (h : Evn (fun k => utf_Put.l2 k (acc ++ [128 + r / 64 % 64]) r 0 l (l.length : Int) i) R) : Evn (fun k => utf_Put.l2 k acc r 1 l (l.length : Int) i) R :=
  Evn.succ (fun k => by
    simp only [utf_Put.l2]
    have e : wrap64 (6 * 1) = 6 := w64 (by omega) (by omega)
    have e2 : wrap64 ((1 : Int) - 1) = 0 := w64 (by omega) (by omega)
    rw [if_pos (by omega), e, if_pos (by omega), if_pos (by omega), e2, shr6]) h
theorem l2_2 (acc : List Int) (ha : acc.length ≤ 100000000009) (h : Evn (fun k => utf_Put.l2 k (acc ++ [128 + r / 4096 % 64]) r 1 l (l.length : Int) i) R) : Evn (fun k => utf_Put.l2 k acc r 2 l (l.length : Int) i) R :=
  Evn.succ (fun k => by
    simp only [utf_Put.l2]
    have e : wrap64 (6 * 2) = 12 := w64 (by omega) (by omega)
    have e2 : wrap64 ((2 : Int) - 1) = 1 := w64 (by omega) (by omega)
    rw [if_pos (by omega), e, if_pos (by omega), if_pos (by omega), e2, shr12]) h
include ha hi0 hi
theorem put_one_rune (hr : putL r ≠ []) (h : Evn (fun k => utf_Put.l0 k (acc ++ putL r) l (l.length : Int) (i + 1)) R) : Evn (fun k => utf_Put.j1 k acc r l (l.length : Int) i) R := by
  have hv := putL_val hr
  have hla : ∀ x : Int, (acc ++ [x]).length ≤ 100000000009 := fun x => by simp; omega
  refine Evn.succ (h := fun k => utf_Put.l1 k acc r 0 l (l.length : Int) i) (fun k => by simp only [utf_Put.j1]) ?_
  have n0 : wrap64 ((0 : Int) + 1) = 1 := w64 (by omega) (by omega)
  have n1 : wrap64 ((1 : Int) + 1) = 2 := w64 (by omega) (by omega)
  have n2 : wrap64 ((2 : Int) + 1) = 3 := w64 (by omega) (by omega)
  by_cases c1 : r < 128
  · rw [put1 r (by omega)] at h
    refine Evn.succ (h := fun k => utf_Put.j3 k acc r 0 l (l.length : Int) i) (fun k => by simp only [utf_Put.l1]; rw [if_pos (by omega), if_pos trivial, if_neg (by omega)]) ?_
    refine Evn.succ (h := fun k => utf_Put.l2 k (acc ++ [r]) r (-1) l (l.length : Int) i) (fun k => ?_) (l2_neg l r i R _ hi0 hi h)
    simp only [utf_Put.j3, utf_forms.f, Option.bind_some]
    have e : wrap64 (6 * 0) = 0 := w64 (by omega) (by omega)
    have e2 : wrap64 ((0 : Int) - 1) = -1 := w64 (by omega) (by omega)
    rw [if_pos trivial, e, if_pos (by omega), if_pos (by omega), e2, shr0, Int.emod_eq_of_lt (by omega) (by omega), or0 r (by omega) (by omega)]
  by_cases c2 : r < 2048
  · rw [put2 r (by omega)] at h
    refine Evn.succ (h := fun k => utf_Put.l1 k acc r 1 l (l.length : Int) i) (fun k => by simp only [utf_Put.l1]; rw [if_pos (by omega), if_pos trivial, if_pos (by omega), n0]) ?_
    refine Evn.succ (h := fun k => utf_Put.j3 k acc r 1 l (l.length : Int) i) (fun k => by simp only [utf_Put.l1]; rw [if_pos (by omega), if_neg (by omega), if_pos trivial, if_neg (by omega)]) ?_
    refine Evn.succ (h := fun k => utf_Put.l2 k (acc ++ [192 + r / 64]) r 0 l (l.length : Int) i) (fun k => ?_) (l2_0 l r i R _ (hla _) (l2_neg l r i R _ hi0 hi (by simpa using h)))
    simp only [utf_Put.j3, utf_forms.f, Option.bind_some]
    have e : wrap64 (6 * 1) = 6 := w64 (by omega) (by omega)
    have e2 : wrap64 ((1 : Int) - 1) = 0 := w64 (by omega) (by omega)
    rw [if_neg (by omega), if_pos trivial, e, if_pos (by omega), if_pos (by omega), e2, shr6, Int.emod_eq_of_lt (by omega) (by omega), u8_or192 _ (by omega) (by omega)]
  by_cases c3 : r < 65536
  · rw [put3 r (by omega)] at h
    refine Evn.succ (h := fun k => utf_Put.l1 k acc r 1 l (l.length : Int) i) (fun k => by simp only [utf_Put.l1]; rw [if_pos (by omega), if_pos trivial, if_pos (by omega), n0]) ?_
    refine Evn.succ (h := fun k => utf_Put.l1 k acc r 2 l (l.length : Int) i) (fun k => by simp only [utf_Put.l1]; rw [if_pos (by omega), if_neg (by omega), if_pos trivial, if_pos (by omega), n1]) ?_
    refine Evn.succ (h := fun k => utf_Put.j3 k acc r 2 l (l.length : Int) i) (fun k => by simp only [utf_Put.l1]; rw [if_pos (by omega), if_neg (by omega), if_neg (by omega), if_pos trivial, if_neg (by omega)]) ?_
    refine Evn.succ (h := fun k => utf_Put.l2 k (acc ++ [224 + r / 4096]) r 1 l (l.length : Int) i) (fun k => ?_) (l2_1 l r i R _ (hla _) (l2_0 l r i R _ (by simp; omega) (l2_neg l r i R _ hi0 hi (by simpa using h))))
    simp only [utf_Put.j3, utf_forms.f, Option.bind_some]
    have e : wrap64 (6 * 2) = 12 := w64 (by omega) (by omega)
    have e2 : wrap64 ((2 : Int) - 1) = 1 := w64 (by omega) (by omega)
    rw [if_neg (by omega), if_neg (by omega), if_pos trivial, e, if_pos (by omega), if_pos (by omega), e2, shr12, Int.emod_eq_of_lt (by omega) (by omega), u8_or224 _ (by omega) (by omega)]
  · rw [put4 r (by omega)] at h
    refine Evn.succ (h := fun k => utf_Put.l1 k acc r 1 l (l.length : Int) i) (fun k => by simp only [utf_Put.l1]; rw [if_pos (by omega), if_pos trivial, if_pos (by omega), n0]) ?_
    refine Evn.succ (h := fun k => utf_Put.l1 k acc r 2 l (l.length : Int) i) (fun k => by simp only [utf_Put.l1]; rw [if_pos (by omega), if_neg (by omega), if_pos trivial, if_pos (by omega), n1]) ?_
    refine Evn.succ (h := fun k => utf_Put.l1 k acc r 3 l (l.length : Int) i) (fun k => by simp only [utf_Put.l1]; rw [if_pos (by omega), if_neg (by omega), if_neg (by omega), if_pos trivial, if_pos (by omega), n2]) ?_
    refine Evn.succ (h := fun k => utf_Put.j3 k acc r 3 l (l.length : Int) i) (fun k => by simp only [utf_Put.l1]; rw [if_neg (by omega)]) ?_
    refine Evn.succ (h := fun k => utf_Put.l2 k (acc ++ [240 + r / 262144]) r 2 l (l.length : Int) i) (fun k => ?_) (l2_2 l r i R _ (hla _) (l2_1 l r i R _ (by simp; omega) (l2_0 l r i R _ (by simp; omega) (l2_neg l r i R _ hi0 hi (by simpa using h)))))
    simp only [utf_Put.j3, utf_forms.f, Option.bind_some]
    have e : wrap64 (6 * 3) = 18 := w64 (by omega) (by omega)
    have e2 : wrap64 ((3 : Int) - 1) = 2 := w64 (by omega) (by omega)
    rw [if_neg (by omega), if_neg (by omega), if_neg (by omega), if_pos trivial, e, if_pos (by omega), if_pos (by omega), e2, shr18, Int.emod_eq_of_lt (by omega) (by omega), u8_or240 _ (by omega) (by omega)]
end
theorem fffd : putL 65533 ≠ [] := by rw [put3 65533 (by omega)]; simp
theorem putR_len (r : Int) : (putR r).length ≤ 4 := by
  unfold putR
  split
  · exact putL_len _
  · exact putL_len _
theorem utfPut_ev (l : List Int) (hl : l.length ≤ 1000000000) : Evn (fun k => utf_Put.f k l) (strOfNums (l.flatMap putR)) := by
  have loop : ∀ (t : List Int) (i : Nat) (acc : List Int), l.drop i = t → acc.length ≤ 4 * i → i ≤ l.length → Evn (fun k => utf_Put.l0 k acc l (l.length : Int) i) (strOfNums (acc ++ t.flatMap putR)) := by
    intro t
    induction t with
    | nil =>
      intro i acc ht ha hi
      have : l.length ≤ i := by
        have := congrArg List.length ht
        rw [List.length_drop] at this
        simp at this
        omega
      refine Evn.succ (h := fun _ => some (strOfNums acc)) (fun k => ?_) (by simpa using Evn.ret _)
      simp only [utf_Put.l0]
      rw [if_neg (by omega)]
    | cons r t ih =>
      intro i acc ht ha hi
      have hlt : i < l.length := by
        have := congrArg List.length ht
        rw [List.length_drop] at this
        simp at this
        omega
      have hri : rd l (i : Int) = r := by
        rw [rd_at l i hlt]
        have := List.drop_eq_getElem_cons hlt
        rw [ht] at this
        exact (List.cons.inj this).1.symm
      have ht' : l.drop (i + 1) = t := by
        have := List.drop_eq_getElem_cons hlt
        rw [ht] at this
        exact (List.cons.inj this).2.symm
      have hlen := putR_len r
      have hrec := ih (i + 1) (acc ++ putR r) ht' (by rw [List.length_append]; omega) (by omega)
      have ee : (acc ++ putR r) ++ t.flatMap putR = acc ++ (r :: t).flatMap putR := by simp
      rw [ee, Int.natCast_add] at hrec
      by_cases hr : putL r = []
      · have hR : putR r = putL 65533 := by unfold putR; rw [if_pos hr]
        rw [hR] at hrec
        refine Evn.succ (h := fun k => utf_Put.j1 k acc 65533 l (l.length : Int) i) (fun k => ?_) (put_one_rune l acc 65533 i _ (by omega) (by omega) (by omega) fffd hrec)
        simp only [utf_Put.l0]
        rw [if_pos (by omega), if_pos (by omega), if_pos (by omega), hri, may_eq, Option.bind_some, decide_eq_false (by simpa using hr), if_neg (by decide)]
      · have hR : putR r = putL r := by unfold putR; rw [if_neg hr]
        rw [hR] at hrec
        refine Evn.succ (h := fun k => utf_Put.j1 k acc r l (l.length : Int) i) (fun k => ?_) (put_one_rune l acc r i _ (by omega) (by omega) (by omega) hr hrec)
        simp only [utf_Put.l0]
        rw [if_pos (by omega), if_pos (by omega), if_pos (by omega), hri, may_eq, Option.bind_some, decide_eq_true hr, if_pos rfl]
  exact Evn.congr (fun k => by unfold utf_Put.f; rfl) (by simpa using loop l 0 [] (by simp) (by simp) (by omega))
theorem flatMap_putR (rs : List Int) (h : ∀ r ∈ rs, putL r ≠ []) : rs.flatMap putR = rs.flatMap putL := by
  induction rs with
  | nil => rfl
  | cons r t ih =>
    simp only [List.flatMap_cons]
    rw [ih (fun x hx => h x (List.mem_cons_of_mem _ hx))]
    congr 1
    unfold putR
    rw [if_neg (h r List.mem_cons_self)]
end Go.Proofs.Ytblofllbbcpeiaa.Utf
