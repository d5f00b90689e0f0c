/- The document's stretch. -/
import Derived.Test.YtccjkjmhmbcleaaX4
import Derived.Test.YtccjkjmhmbcleaaNameC
set_option linter.unusedVariables false
set_option linter.unusedSimpArgs false
namespace Go.Proofs.Ytccjkjmhmbcleaa.Nm
open Go.RowKit Go.Proofs.YtccjkjmhmbcleaaW.PrintWords Go.Proofs.YtccjkjmhmbcleaaW.XConv Go.Proofs.Ytccjkjmhmbcleaa.E Go.Proofs.Ytccjkjmhmbcleaa.X
/-- how many bytes a rune has -/
def encW (r : Nat) : Nat := if r < 128 then 1 else if r < 2048 then 2 else if r < 65536 then 3 else 4
theorem decN_w (n b0 b1 b2 b3 : Nat) (h0 : b0 < 256) (h1 : b1 < 256) (h2 : b2 < 256) (h3 : b3 < 256) : ((Lib.decodeN n b0 b1 b2 b3).1 = 65533 ∧ (Lib.decodeN n b0 b1 b2 b3).2 = 1 ∧ ¬ (2 < n ∧ b0 = 239 ∧ b1 = 191 ∧ b2 = 189)) ∨ ((Lib.decodeN n b0 b1 b2 b3).2 = encW (Lib.decodeN n b0 b1 b2 b3).1 ∧ ((Lib.decodeN n b0 b1 b2 b3).1 = 65533 → 2 < n ∧ b0 = 239 ∧ b1 = 191 ∧ b2 = 189)) := by
  by_cases c1 : b0 < 128
  · unfold Lib.decodeN
    rw [if_pos c1]
    exact .inr ⟨by unfold encW; rw [if_pos c1], fun h => absurd h (by show ¬ b0 = 65533; omega)⟩
  by_cases c2 : b0 / 32 = 6 ∧ (1 < n ∧ b1 / 64 = 2)
  · unfold Lib.decodeN
    rw [if_neg c1, if_pos c2]
    by_cases d : b0 % 32 * 64 + b1 % 64 ≥ 128
    · rw [if_pos d]
      refine .inr ⟨?_, fun h => absurd h (by simp only; omega)⟩
      unfold encW
      rw [if_neg (by simp only; omega), if_pos (by simp only; omega)]
    · rw [if_neg d]
      exact .inl ⟨rfl, rfl, by omega⟩
  by_cases c3 : b0 / 16 = 14 ∧ (1 < n ∧ b1 / 64 = 2) ∧ (2 < n ∧ b2 / 64 = 2)
  · unfold Lib.decodeN
    rw [if_neg c1, if_neg c2, if_pos c3]
    split
    · rename_i d
      refine .inr ⟨?_, fun h => ?_⟩
      · unfold encW
        rw [if_neg (by simp only; omega), if_neg (by simp only; omega), if_pos (by simp only; omega)]
      · simp only at h
        omega
    · rename_i d
      exact .inl ⟨rfl, rfl, by omega⟩
  by_cases c4 : b0 / 8 = 30 ∧ (1 < n ∧ b1 / 64 = 2) ∧ (2 < n ∧ b2 / 64 = 2) ∧ (3 < n ∧ b3 / 64 = 2)
  · unfold Lib.decodeN
    rw [if_neg c1, if_neg c2, if_neg c3, if_pos c4]
    split
    · rename_i d
      refine .inr ⟨?_, fun h => ?_⟩
      · unfold encW
        rw [if_neg (by simp only; omega), if_neg (by simp only; omega), if_neg (by simp only; omega)]
      · simp only at h
        omega
    · rename_i d
      exact .inl ⟨rfl, rfl, by omega⟩
  · unfold Lib.decodeN
    rw [if_neg c1, if_neg c2, if_neg c3, if_neg c4]
    exact .inl ⟨rfl, rfl, by omega⟩
theorem enc_size (r : Nat) (h : r < 55296 ∨ (57343 < r ∧ r ≤ 1114111)) : (Utf8.encode (r : Int)).size = encW r := by
  have hv : Utf8.valid (r : Int) = true := by
    simp only [Utf8.valid, Bool.and_eq_true, Bool.or_eq_true, decide_eq_true_eq]
    omega
  unfold Utf8.encode encW
  simp only [hv, if_true, Int.toNat_natCast]
  repeat' split
  all_goals rfl
theorem one_size (r : Int) : (strOfRunes [r]).size = (Utf8.encode r).size := by
  unfold strOfRunes runesBytes
  show (ByteArray.empty ++ Utf8.encode r).size = _
  rw [ByteArray.size_append]
  simp
/-- the bytes of the rune that stands for none -/
def bad3 (s : ByteArray) (p : Nat) : Prop := p + 2 < s.size ∧ by_ s p = 239 ∧ by_ s (p + 1) = 191 ∧ by_ s (p + 2) = 189
theorem wd_cases (s : ByteArray) (p : Nat) (hp : p < s.size) : (ru s p = 65533 ∧ wd s p = 1 ∧ ¬ bad3 s p) ∨ (((strOfRunes [ru s p]).size = wd s p) ∧ (ru s p = 65533 → bad3 s p)) := by
  have h := decN_w (s.size - p) (by_ s p) (by_ s (p + 1)) (by_ s (p + 2)) (by_ s (p + 3)) (by_lt _ _) (by_lt _ _) (by_lt _ _) (by_lt _ _)
  have hr := decN_range (s.size - p) (by_ s p) (by_ s (p + 1)) (by_ s (p + 2)) (by_ s (p + 3))
  rw [← dec_at] at h hr
  rcases h with ⟨h1, h2, h3⟩ | ⟨h1, h2⟩
  · refine .inl ⟨?_, h2, fun hb => h3 ⟨by have := hb.1; omega, hb.2⟩⟩
    show ((Utf8.decode s p).1 : Int) = 65533
    rw [h1]; rfl
  · refine .inr ⟨?_, fun hu => ?_⟩
    · rw [one_size]
      show (Utf8.encode ((Utf8.decode s p).1 : Int)).size = (Utf8.decode s p).2
      rw [enc_size _ hr, h1]
    · have hu2 : (Utf8.decode s p).1 = 65533 := by
        have : ((Utf8.decode s p).1 : Int) = 65533 := hu
        omega
      have := h2 hu2
      exact ⟨by omega, this.2⟩
theorem three (s : ByteArray) (x : Nat) (hx : x + 3 ≤ s.size) : ((s.extract x (x + 3)).toList = ([239, 191, 189] : List UInt8)) ↔ (by_ s x = 239 ∧ by_ s (x + 1) = 191 ∧ by_ s (x + 2) = 189) := by
  have hb : ∀ j, j < 3 → by_ (s.extract x (x + 3)) j = by_ s (x + j) := fun j h => by_extract _ _ _ _ (by omega)
  have hz : (s.extract x (x + 3)).data.toList.length = 3 := by
    show (s.extract x (x + 3)).size = 3
    rw [ByteArray.size_extract]; omega
  rw [Lib.toList_data]
  have hg : ∀ j, by_ (s.extract x (x + 3)) j = ((s.extract x (x + 3)).data.toList.getD j 0).toNat := fun j => by rw [Lib.getD_get!']; rfl
  have b0 := hb 0 (by omega); have b1 := hb 1 (by omega); have b2 := hb 2 (by omega)
  rw [hg] at b0 b1 b2
  have b0 : ((s.extract x (x + 3)).data.toList.getD 0 0).toNat = by_ s x := b0
  rw [← b0, ← b1, ← b2]
  generalize (s.extract x (x + 3)).data.toList = l at hz
  match l, hz with
  | [u, v, z], _ =>
    simp only [List.getD_cons_zero, List.getD_cons_succ, List.cons.injEq, and_true]
    constructor
    · rintro ⟨rfl, rfl, rfl⟩; exact ⟨rfl, rfl, rfl⟩
    · rintro ⟨h1, h2, h3⟩
      exact ⟨UInt8.toNat_inj.1 h1, UInt8.toNat_inj.1 h2, UInt8.toNat_inj.1 h3⟩
theorem by_tail (s : ByteArray) (a j : Nat) : by_ (s.extract a s.size) j = by_ s (a + j) := by
  unfold by_
  rw [Lib.tail_get!]
theorem take_drop_one (l : List Int) (i : Nat) (h : i < l.length) : (l.take (i + 1)).drop i = [rd l i] := by
  rw [rd_at l i h, List.drop_take, show i + 1 - i = 1 by omega, List.drop_eq_getElem_cons h, List.take_succ_cons, List.take_zero]
attribute [local irreducible] ru wd
theorem refCutFrom_ev (s : ByteArray) (hs : s.size ≤ 1000000000) (a : Nat) (ha : a ≤ s.size) : ∀ b i p, (runesOf (s.extract a s.size)).drop i = runesAux (s.extract a s.size) b p → (s.extract a s.size).size - p ≤ b → p ≤ (s.extract a s.size).size → Evn (fun k => orielref03_Cut.l0 k s (a : Int) (runesOf (s.extract a s.size)) p i) (s.extract a (a + stp cutOK (s.extract a s.size) p), ((a + stp cutOK (s.extract a s.size) p : Nat) : Int)) := by
  intro b
  induction b using Nat.strongRecOn with
  | ind b ih =>
    intro i p h hb hp
    have hl := runesOf_len (s.extract a s.size)
    have hz := tail_size s a
    have hat := runes_at h hb hp
    have hbt := by_tail s a
    generalize ht : s.extract a s.size = t at *
    refine Evn.succ (fun k => by rw [orielref03_Cut.l0]) ?_
    by_cases c : p < t.size
    · rw [if_pos c] at hat
      obtain ⟨h1, h2, b', h3, h4, h5⟩ := hat
      have hr := ru_range t p
      have hwc := wd_cases t p c
      have hwf := wd_fits c
      have hnext := ih b' h5 (i + 1) (p + wd t p) h3 h4 hwf
      have htd := take_drop_one (runesOf t) i h1
      rw [h2] at htd
      have e : wrap64 (ru t p) = ru t p := w64 (by omega) (by omega)
      rw [h2, e]
      clear e
      refine Evn.iteT (Int.ofNat_lt.mpr h1) (Evn.iteT (Int.natCast_nonneg i) ?_)
      generalize hru : ru t p = r at *
      generalize hwd : wd t p = v at *
      have e1 : Aside0 (wrap64 ((a : Int) + p) = ((a + p : Nat) : Int)) := ⟨w64 (by omega) (by omega)⟩
      have e2 : Aside0 (wrap64 ((i : Int) + 1) = ((i + 1 : Nat) : Int)) := ⟨w64 (by omega) (by omega)⟩
      have e3 : Aside0 (wrap64 (((a + p : Nat) : Int) + 3) = ((a + p + 3 : Nat) : Int)) := ⟨w64 (by omega) (by omega)⟩
      have go : cutOK r = true → Evn (fun k => orielref03_Cut.j2 k s (a : Int) (runesOf t) p i false) (s.extract a (a + stp cutOK t p), ((a + stp cutOK t p : Nat) : Int)) := by
        intro hok
        rw [stp_step c (by rw [hru]; exact hok), hwd]
        refine Evn.succ (fun k => by rw [orielref03_Cut.j2, if_neg (by decide), e1.out, e2.out, e3.out, Int.toNat_natCast, Int.toNat_natCast, Int.toNat_natCast, Int.toNat_natCast, htd, Option.bind_some, h2]) ?_
        refine Evn.iteT (Int.natCast_nonneg i) (Evn.iteT (by omega) (Evn.iteT (by omega) (Evn.iteT (Int.ofNat_lt.mpr h1) ?_)))
        have step : ∀ x : Nat, x = v → Evn (fun k => orielref03_Cut.l0 k s (a : Int) (runesOf t) (wrap64 ((p : Int) + (x : Int))) ((i + 1 : Nat) : Int)) (s.extract a (a + stp cutOK t (p + v)), ((a + stp cutOK t (p + v) : Nat) : Int)) := by
          intro x hx
          subst hx
          have e5 : wrap64 ((p : Int) + (x : Int)) = ((p + x : Nat) : Int) := w64 (by omega) (by omega)
          rw [e5]
          exact hnext
        have sz : bad3 t p ↔ (a + p + 3 ≤ s.size ∧ by_ s (a + p) = 239 ∧ by_ s (a + p + 1) = 191 ∧ by_ s (a + p + 2) = 189) := by
          unfold bad3
          rw [hbt, hbt, hbt, hz, ← Nat.add_assoc, ← Nat.add_assoc]
          constructor
          · rintro ⟨g1, g2⟩; exact ⟨by omega, g2⟩
          · rintro ⟨g1, g2⟩; exact ⟨by omega, g2⟩
        by_cases d : r = 65533
        · refine Evn.iteT d ?_
          rcases hwc with ⟨w1, w2, w3⟩ | ⟨w1, w2⟩
          · by_cases g : ((a + p + 3 : Nat) : Int) > s.size
            · exact Evn.iteT g (step 1 w2.symm)
            · refine Evn.iteF g (Evn.iteT (Int.natCast_nonneg _) (Evn.iteT (by omega) (Evn.iteT (by omega) (Evn.iteF ?_ (step 1 w2.symm)))))
              rw [three s (a + p) (by omega)]
              intro hh
              exact w3 (sz.mpr ⟨by omega, hh⟩)
          · have hb3 := sz.mp (w2 d)
            refine Evn.iteF (by omega) (Evn.iteT (Int.natCast_nonneg _) (Evn.iteT (by omega) (Evn.iteT (by omega) (Evn.iteT ?_ (step _ w1)))))
            rw [three s (a + p) (by omega)]
            exact hb3.2
        · refine Evn.iteF d ?_
          rcases hwc with ⟨w1, w2, w3⟩ | ⟨w1, w2⟩
          · exact absurd w1 d
          · exact step _ w1
      by_cases d : r = 58
      · exact Evn.iteT d (go (by rw [d]; rfl))
      · refine Evn.iteF d (Evn.bind (refPart_ev r) ?_)
        by_cases g : partB r = true
        · rw [g]
          exact go (part_cut g)
        · have g := Bool.eq_false_iff.mpr g
          rw [g]
          rw [stp_here c (by rw [hru]; unfold cutOK; rw [g, beq_eq_false_iff_ne.mpr d]; rfl)]
          refine Evn.succ (fun k => by rw [orielref03_Cut.j2, if_pos (by decide), e1.out, Int.toNat_natCast, Int.toNat_natCast]) ?_
          exact Evn.iteT (Int.natCast_nonneg a) (Evn.iteT (by omega) (Evn.iteT (by omega) (Evn.ret _)))
    · rw [if_neg c] at hat
      obtain rfl : p = t.size := by omega
      rw [stp_end, hz, show a + (s.size - a) = s.size by omega]
      refine Evn.iteF (by omega) (Evn.iteT (Int.natCast_nonneg a) (Evn.iteT (by omega) ?_))
      rw [Int.toNat_natCast]
      exact Evn.ret _
theorem refCut_ev (s : ByteArray) (hz : s.size ≤ 1000000000) (a : Nat) (ha : a ≤ s.size) : Evn (fun k => orielref03_Cut.f k s (a : Int)) (cutS s a) := by
  have ht := tail_size s a
  refine Evn.congr (fun k => by rw [orielref03_Cut.f]) ?_
  refine Evn.iteF (by omega) ?_
  rw [decide_eq_false (by omega)]
  refine Evn.succ (fun k => by rw [orielref03_Cut.j0, if_neg (by decide), Int.toNat_natCast, convRunes_some (s.extract a s.size) (by omega), Option.bind_some]) ?_
  exact Evn.iteT (Int.natCast_nonneg a) (Evn.iteT (by omega) (refCutFrom_ev s hz a ha _ 0 0 rfl (Nat.le_refl _) (Nat.zero_le _)))
theorem refCut_out (s : ByteArray) (a : Int) (h : a < 0 ∨ (s.size : Int) < a) : Evn (fun k => orielref03_Cut.f k s a) (ByteArray.empty, a) := by
  refine Evn.congr (fun k => by rw [orielref03_Cut.f]) ?_
  have hj : Evn (fun k => orielref03_Cut.j0 k s a true) (ByteArray.empty, a) := by
    refine Evn.succ (fun k => by rw [orielref03_Cut.j0]) ?_
    exact Evn.iteT rfl (Evn.ret _)
  by_cases c : a < 0
  · exact Evn.iteT c hj
  · refine Evn.iteF c ?_
    rw [decide_eq_true (by omega : a > (s.size : Int))]
    exact hj
end Go.Proofs.Ytccjkjmhmbcleaa.Nm
