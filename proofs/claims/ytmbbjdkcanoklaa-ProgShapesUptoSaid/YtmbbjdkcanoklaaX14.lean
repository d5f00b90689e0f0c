/- Printed by a program of this session (xprint) out of the kit's print, with functions proved by hand. -/
import Derived.Test.YtmbbjdkcanoklaaX0
import Derived.Test.YtmbbjdkcanoklaaX11
import Derived.Test.YtmbbjdkcanoklaaX13
namespace Go.Proofs.Ytmbbjdkcanoklaa.X
open Go.RowKit Go.Proofs.YtmbbjdkcanoklaaW.PrintWords Go.Proofs.YtmbbjdkcanoklaaW.PrintLast Go.Proofs.YtmbbjdkcanoklaaW.PrintMore Go.Proofs.YtmbbjdkcanoklaaW.XConv
attribute [local go_sem] max2_int min2_int max_two min_two max_three min_three max_four min_four   -- for this text's walks alone
set_option linter.unusedVariables false
set_option linter.unusedSimpArgs false

mutual
def orielref12_path.j0 : Nat → Int → Bool → Int → List (S25) → List (S51) → Option (Bool)
 | 0, _, _, _, _, _ => none
 | k + 1, x1, x19, x260000, x260001, x260002 => if x19 = true then (some false) else (if x260000 = 4 then (orielref12_path.j1 k x1 0 0 true x260000 x260001 x260002) else (orielref12_path.j1 k x1 0 0 (x260000 == 5) x260000 x260001 x260002))
def orielref12_path.j1 : Nat → Int → Int → Int → Bool → Int → List (S25) → List (S51) → Option (Bool)
 | 0, _, _, _, _, _, _, _ => none
 | k + 1, x1, x5, x6, x27, x260000, x260001, x260002 => if x27 = true then (orielref12_path.j2 k x1 2 64 x260000 x260001 x260002) else (orielref12_path.j2 k x1 x5 x6 x260000 x260001 x260002)
def orielref12_path.j2 : Nat → Int → Int → Int → Int → List (S25) → List (S51) → Option (Bool)
 | 0, _, _, _, _, _, _ => none
 | k + 1, x1, x5, x6, x260000, x260001, x260002 => if x260000 = 6 then (orielref12_path.j3 k x1 1 1 x260000 x260001 x260002) else (orielref12_path.j3 k x1 x5 x6 x260000 x260001 x260002)
def orielref12_path.j3 : Nat → Int → Int → Int → Int → List (S25) → List (S51) → Option (Bool)
 | 0, _, _, _, _, _, _ => none
 | k + 1, x1, x5, x6, x260000, x260001, x260002 => if (x260001.length : Int) < x5 then (orielref12_path.j4 k x1 true x260000 x260001 x260002) else (if (x260001.length : Int) > x6 then (orielref12_path.j4 k x1 true x260000 x260001 x260002) else (if ((x260000 == 7) != ((x260002.length : Int) == 1)) = true then (orielref12_path.j4 k x1 true x260000 x260001 x260002) else (orielref12_path.j4 k x1 (decide ((x260002.length : Int) > 1)) x260000 x260001 x260002)))
def orielref12_path.j4 : Nat → Int → Bool → Int → List (S25) → List (S51) → Option (Bool)
 | 0, _, _, _, _, _ => none
 | k + 1, x1, x58, x260000, x260001, x260002 => if x58 = true then (some false) else (orielref12_path.l0 k x1 0 x260000 x260001 x260002)
def orielref12_path.l0 : Nat → Int → Int → Int → List (S25) → List (S51) → Option (Bool)
 | 0, _, _, _, _, _ => none
 | k + 1, x1, x7, x260000, x260001, x260002 => if x7 < (x260001.length : Int) then (if 0 ≤ x7 then ((orielref12_path.f k ((rd_T25 x260001 x7).f0) ((rd_T25 x260001 x7).f1) ((rd_T25 x260001 x7).f2) (wrap64 (x1 - 1))).bind fun t261 => (if t261 = true then (orielref12_path.l0 k x1 (wrap64 (x7 + 1)) x260000 x260001 x260002) else (some false))) else (none)) else (if (x260002.length : Int) = 0 then (some true) else (if 0 < (x260002.length : Int) then ((orielref12_filter.f k ((rd_T51 x260002 0).f0) ((rd_T51 x260002 0).f1.f0) ((rd_T51 x260002 0).f1.f1) ((rd_T51 x260002 0).f2) ((rd_T51 x260002 0).f3) ((rd_T51 x260002 0).f4) (wrap64 (x1 - 1))).bind fun t263 => (some t263)) else (none)))
def orielref12_path.f : Nat → Int → List (S25) → List (S51) → Int → Option (Bool)
 | 0, _, _, _, _ => none
 | k + 1, a0_0, l0_1, l0_2, a1 => if a1 = 0 then (orielref12_path.j0 k a1 true a0_0 l0_1 l0_2) else (if a0_0 < 1 then (orielref12_path.j0 k a1 true a0_0 l0_1 l0_2) else (orielref12_path.j0 k a1 (decide (a0_0 > 7)) a0_0 l0_1 l0_2))
def orielref12_filter.j0 : Nat → Int → Bool → Int → ByteArray → ByteArray → ByteArray → List (S51) → List (S25) → Option (Bool)
 | 0, _, _, _, _, _, _, _, _ => none
 | k + 1, x1, x21, x265000, x265001, x265002, x265003, x265004, x265005 => if x21 = true then (some false) else (if x265000 ≥ 4 then (orielref12_filter.j1 k x1 (decide (x265000 ≤ 6)) x265000 x265001 x265002 x265003 x265004 x265005) else (orielref12_filter.j1 k x1 false x265000 x265001 x265002 x265003 x265004 x265005))
def orielref12_filter.j1 : Nat → Int → Bool → Int → ByteArray → ByteArray → ByteArray → List (S51) → List (S25) → Option (Bool)
 | 0, _, _, _, _, _, _, _, _ => none
 | k + 1, x1, x5, x265000, x265001, x265002, x265003, x265004, x265005 => if x265000 = 6 then (orielref12_filter.j2 k x1 x5 true x265000 x265001 x265002 x265003 x265004 x265005) else (orielref12_filter.j2 k x1 x5 (x265000 == 7) x265000 x265001 x265002 x265003 x265004 x265005)
def orielref12_filter.j2 : Nat → Int → Bool → Bool → Int → ByteArray → ByteArray → ByteArray → List (S51) → List (S25) → Option (Bool)
 | 0, _, _, _, _, _, _, _, _, _ => none
 | k + 1, x1, x5, x6, x265000, x265001, x265002, x265003, x265004, x265005 => if (x5 != (!(x265001.toList == ([] : List UInt8)) || (!(x265002.toList == ([] : List UInt8))))) = true then (orielref12_filter.j3 k x1 x6 true x265000 x265001 x265002 x265003 x265004 x265005) else (if x5 = true then ((orielref12_named.f k x265001 x265002).bind fun t265 => (orielref12_filter.j3 k x1 x6 (!t265) x265000 x265001 x265002 x265003 x265004 x265005)) else (orielref12_filter.j3 k x1 x6 false x265000 x265001 x265002 x265003 x265004 x265005))
def orielref12_filter.j3 : Nat → Int → Bool → Bool → Int → ByteArray → ByteArray → ByteArray → List (S51) → List (S25) → Option (Bool)
 | 0, _, _, _, _, _, _, _, _, _ => none
 | k + 1, x1, x6, x52, x265000, x265001, x265002, x265003, x265004, x265005 => if x52 = true then (some false) else (if x6 = true then (if x265000 = 7 then (if x265003.toList = ([] : List UInt8) then (orielref12_filter.j4 k x1 true x265000 x265001 x265002 x265003 x265004 x265005) else ((orielref04_Right.f k x265003).bind fun t266 => (orielref12_filter.j4 k x1 (!t266) x265000 x265001 x265002 x265003 x265004 x265005))) else ((orielref04_Right.f k x265003).bind fun t267 => (orielref12_filter.j4 k x1 (!t267) x265000 x265001 x265002 x265003 x265004 x265005))) else (if x265003.toList = ([] : List UInt8) then (if x265000 = 7 then (orielref12_filter.j4 k x1 true x265000 x265001 x265002 x265003 x265004 x265005) else ((orielref04_Right.f k x265003).bind fun t268 => (orielref12_filter.j4 k x1 (!t268) x265000 x265001 x265002 x265003 x265004 x265005))) else (orielref12_filter.j4 k x1 true x265000 x265001 x265002 x265003 x265004 x265005)))
def orielref12_filter.j4 : Nat → Int → Bool → Int → ByteArray → ByteArray → ByteArray → List (S51) → List (S25) → Option (Bool)
 | 0, _, _, _, _, _, _, _, _ => none
 | k + 1, x1, x75, x265000, x265001, x265002, x265003, x265004, x265005 => if x75 = true then (some false) else (if x265000 = 8 then (orielref12_filter.j5 k x1 1 1 x265000 x265001 x265002 x265003 x265004 x265005) else (orielref12_filter.j5 k x1 0 0 x265000 x265001 x265002 x265003 x265004 x265005))
def orielref12_filter.j5 : Nat → Int → Int → Int → Int → ByteArray → ByteArray → ByteArray → List (S51) → List (S25) → Option (Bool)
 | 0, _, _, _, _, _, _, _, _, _ => none
 | k + 1, x1, x7, x8, x265000, x265001, x265002, x265003, x265004, x265005 => if x265000 = 9 then (orielref12_filter.j6 k x1 x7 x8 true x265000 x265001 x265002 x265003 x265004 x265005) else (orielref12_filter.j6 k x1 x7 x8 (x265000 == 10) x265000 x265001 x265002 x265003 x265004 x265005)
def orielref12_filter.j6 : Nat → Int → Int → Int → Bool → Int → ByteArray → ByteArray → ByteArray → List (S51) → List (S25) → Option (Bool)
 | 0, _, _, _, _, _, _, _, _, _, _ => none
 | k + 1, x1, x7, x8, x86, x265000, x265001, x265002, x265003, x265004, x265005 => if x86 = true then (orielref12_filter.j7 k x1 2 64 x265000 x265001 x265002 x265003 x265004 x265005) else (orielref12_filter.j7 k x1 x7 x8 x265000 x265001 x265002 x265003 x265004 x265005)
def orielref12_filter.j7 : Nat → Int → Int → Int → Int → ByteArray → ByteArray → ByteArray → List (S51) → List (S25) → Option (Bool)
 | 0, _, _, _, _, _, _, _, _, _ => none
 | k + 1, x1, x7, x8, x265000, x265001, x265002, x265003, x265004, x265005 => if (x265004.length : Int) < x7 then (orielref12_filter.j8 k x1 true x265000 x265001 x265002 x265003 x265004 x265005) else (if (x265004.length : Int) > x8 then (orielref12_filter.j8 k x1 true x265000 x265001 x265002 x265003 x265004 x265005) else (if ((x265000 == 11) != ((x265005.length : Int) == 1)) = true then (orielref12_filter.j8 k x1 true x265000 x265001 x265002 x265003 x265004 x265005) else (orielref12_filter.j8 k x1 (decide ((x265005.length : Int) > 1)) x265000 x265001 x265002 x265003 x265004 x265005)))
def orielref12_filter.j8 : Nat → Int → Bool → Int → ByteArray → ByteArray → ByteArray → List (S51) → List (S25) → Option (Bool)
 | 0, _, _, _, _, _, _, _, _ => none
 | k + 1, x1, x114, x265000, x265001, x265002, x265003, x265004, x265005 => if x114 = true then (some false) else (orielref12_filter.l0 k x1 0 x265000 x265001 x265002 x265003 x265004 x265005)
def orielref12_filter.l0 : Nat → Int → Int → Int → ByteArray → ByteArray → ByteArray → List (S51) → List (S25) → Option (Bool)
 | 0, _, _, _, _, _, _, _, _ => none
 | k + 1, x1, x9, x265000, x265001, x265002, x265003, x265004, x265005 => if x9 < (x265004.length : Int) then (if 0 ≤ x9 then ((orielref12_filter.f k ((rd_T51 x265004 x9).f0) ((rd_T51 x265004 x9).f1.f0) ((rd_T51 x265004 x9).f1.f1) ((rd_T51 x265004 x9).f2) ((rd_T51 x265004 x9).f3) ((rd_T51 x265004 x9).f4) (wrap64 (x1 - 1))).bind fun t270 => (if t270 = true then (orielref12_filter.l0 k x1 (wrap64 (x9 + 1)) x265000 x265001 x265002 x265003 x265004 x265005) else (some false))) else (none)) else (if (x265005.length : Int) = 0 then (some true) else (if 0 < (x265005.length : Int) then ((orielref12_path.f k ((rd_T25 x265005 0).f0) ((rd_T25 x265005 0).f1) ((rd_T25 x265005 0).f2) (wrap64 (x1 - 1))).bind fun t272 => (some t272)) else (none)))
def orielref12_filter.f : Nat → Int → ByteArray → ByteArray → ByteArray → List (S51) → List (S25) → Int → Option (Bool)
 | 0, _, _, _, _, _, _, _ => none
 | k + 1, a0_0, a0_1, a0_2, a0_3, l0_4, l0_5, a1 => if a1 = 0 then (orielref12_filter.j0 k a1 true a0_0 a0_1 a0_2 a0_3 l0_4 l0_5) else (if a0_0 < 1 then (orielref12_filter.j0 k a1 true a0_0 a0_1 a0_2 a0_3 l0_4 l0_5) else (orielref12_filter.j0 k a1 (decide (a0_0 > 11)) a0_0 a0_1 a0_2 a0_3 l0_4 l0_5))
end
theorem grp_orielref12_path.mono_l : ∀ k, (∀ y0 y1 y2 y3, LeO (orielref12_path.f k y0 y1 y2 y3) (orielref12_path.f (k + 1) y0 y1 y2 y3)) ∧ (∀ y0 y1 y2 y3 y4, LeO (orielref12_path.j0 k y0 y1 y2 y3 y4) (orielref12_path.j0 (k + 1) y0 y1 y2 y3 y4)) ∧ (∀ y0 y1 y2 y3 y4 y5 y6, LeO (orielref12_path.j1 k y0 y1 y2 y3 y4 y5 y6) (orielref12_path.j1 (k + 1) y0 y1 y2 y3 y4 y5 y6)) ∧ (∀ y0 y1 y2 y3 y4 y5, LeO (orielref12_path.j2 k y0 y1 y2 y3 y4 y5) (orielref12_path.j2 (k + 1) y0 y1 y2 y3 y4 y5)) ∧ (∀ y0 y1 y2 y3 y4 y5, LeO (orielref12_path.j3 k y0 y1 y2 y3 y4 y5) (orielref12_path.j3 (k + 1) y0 y1 y2 y3 y4 y5)) ∧ (∀ y0 y1 y2 y3 y4, LeO (orielref12_path.j4 k y0 y1 y2 y3 y4) (orielref12_path.j4 (k + 1) y0 y1 y2 y3 y4)) ∧ (∀ y0 y1 y2 y3 y4, LeO (orielref12_path.l0 k y0 y1 y2 y3 y4) (orielref12_path.l0 (k + 1) y0 y1 y2 y3 y4)) ∧ (∀ y0 y1 y2 y3 y4 y5 y6, LeO (orielref12_filter.f k y0 y1 y2 y3 y4 y5 y6) (orielref12_filter.f (k + 1) y0 y1 y2 y3 y4 y5 y6)) ∧ (∀ y0 y1 y2 y3 y4 y5 y6 y7, LeO (orielref12_filter.j0 k y0 y1 y2 y3 y4 y5 y6 y7) (orielref12_filter.j0 (k + 1) y0 y1 y2 y3 y4 y5 y6 y7)) ∧ (∀ y0 y1 y2 y3 y4 y5 y6 y7, LeO (orielref12_filter.j1 k y0 y1 y2 y3 y4 y5 y6 y7) (orielref12_filter.j1 (k + 1) y0 y1 y2 y3 y4 y5 y6 y7)) ∧ (∀ y0 y1 y2 y3 y4 y5 y6 y7 y8, LeO (orielref12_filter.j2 k y0 y1 y2 y3 y4 y5 y6 y7 y8) (orielref12_filter.j2 (k + 1) y0 y1 y2 y3 y4 y5 y6 y7 y8)) ∧ (∀ y0 y1 y2 y3 y4 y5 y6 y7 y8, LeO (orielref12_filter.j3 k y0 y1 y2 y3 y4 y5 y6 y7 y8) (orielref12_filter.j3 (k + 1) y0 y1 y2 y3 y4 y5 y6 y7 y8)) ∧ (∀ y0 y1 y2 y3 y4 y5 y6 y7, LeO (orielref12_filter.j4 k y0 y1 y2 y3 y4 y5 y6 y7) (orielref12_filter.j4 (k + 1) y0 y1 y2 y3 y4 y5 y6 y7)) ∧ (∀ y0 y1 y2 y3 y4 y5 y6 y7 y8, LeO (orielref12_filter.j5 k y0 y1 y2 y3 y4 y5 y6 y7 y8) (orielref12_filter.j5 (k + 1) y0 y1 y2 y3 y4 y5 y6 y7 y8)) ∧ (∀ y0 y1 y2 y3 y4 y5 y6 y7 y8 y9, LeO (orielref12_filter.j6 k y0 y1 y2 y3 y4 y5 y6 y7 y8 y9) (orielref12_filter.j6 (k + 1) y0 y1 y2 y3 y4 y5 y6 y7 y8 y9)) ∧ (∀ y0 y1 y2 y3 y4 y5 y6 y7 y8, LeO (orielref12_filter.j7 k y0 y1 y2 y3 y4 y5 y6 y7 y8) (orielref12_filter.j7 (k + 1) y0 y1 y2 y3 y4 y5 y6 y7 y8)) ∧ (∀ y0 y1 y2 y3 y4 y5 y6 y7, LeO (orielref12_filter.j8 k y0 y1 y2 y3 y4 y5 y6 y7) (orielref12_filter.j8 (k + 1) y0 y1 y2 y3 y4 y5 y6 y7)) ∧ (∀ y0 y1 y2 y3 y4 y5 y6 y7, LeO (orielref12_filter.l0 k y0 y1 y2 y3 y4 y5 y6 y7) (orielref12_filter.l0 (k + 1) y0 y1 y2 y3 y4 y5 y6 y7))
 | 0 => ⟨fun _ _ _ _ r h => by simp [orielref12_path.f] at h, fun _ _ _ _ _ r h => by simp [orielref12_path.j0] at h, fun _ _ _ _ _ _ _ r h => by simp [orielref12_path.j1] at h, fun _ _ _ _ _ _ r h => by simp [orielref12_path.j2] at h, fun _ _ _ _ _ _ r h => by simp [orielref12_path.j3] at h, fun _ _ _ _ _ r h => by simp [orielref12_path.j4] at h, fun _ _ _ _ _ r h => by simp [orielref12_path.l0] at h, fun _ _ _ _ _ _ _ r h => by simp [orielref12_filter.f] at h, fun _ _ _ _ _ _ _ _ r h => by simp [orielref12_filter.j0] at h, fun _ _ _ _ _ _ _ _ r h => by simp [orielref12_filter.j1] at h, fun _ _ _ _ _ _ _ _ _ r h => by simp [orielref12_filter.j2] at h, fun _ _ _ _ _ _ _ _ _ r h => by simp [orielref12_filter.j3] at h, fun _ _ _ _ _ _ _ _ r h => by simp [orielref12_filter.j4] at h, fun _ _ _ _ _ _ _ _ _ r h => by simp [orielref12_filter.j5] at h, fun _ _ _ _ _ _ _ _ _ _ r h => by simp [orielref12_filter.j6] at h, fun _ _ _ _ _ _ _ _ _ r h => by simp [orielref12_filter.j7] at h, fun _ _ _ _ _ _ _ _ r h => by simp [orielref12_filter.j8] at h, fun _ _ _ _ _ _ _ _ r h => by simp [orielref12_filter.l0] at h⟩
 | k + 1 => by
  obtain ⟨ih0, ih1, ih2, ih3, ih4, ih5, ih6, ih7, ih8, ih9, ih10, ih11, ih12, ih13, ih14, ih15, ih16, ih17⟩ := grp_orielref12_path.mono_l k
  refine ⟨?_, ?_, ?_, ?_, ?_, ?_, ?_, ?_, ?_, ?_, ?_, ?_, ?_, ?_, ?_, ?_, ?_, ?_⟩
  ·
   intro y0 y1 y2 y3
   unfold orielref12_path.f
   repeat' first
   | (with_reducible exact ih0 _ _ _ _)
   | (with_reducible exact ih1 _ _ _ _ _)
   | (with_reducible exact ih2 _ _ _ _ _ _ _)
   | (with_reducible exact ih3 _ _ _ _ _ _)
   | (with_reducible exact ih4 _ _ _ _ _ _)
   | (with_reducible exact ih5 _ _ _ _ _)
   | (with_reducible exact ih6 _ _ _ _ _)
   | (with_reducible exact ih7 _ _ _ _ _ _ _)
   | (with_reducible exact ih8 _ _ _ _ _ _ _ _)
   | (with_reducible exact ih9 _ _ _ _ _ _ _ _)
   | (with_reducible exact ih10 _ _ _ _ _ _ _ _ _)
   | (with_reducible exact ih11 _ _ _ _ _ _ _ _ _)
   | (with_reducible exact ih12 _ _ _ _ _ _ _ _)
   | (with_reducible exact ih13 _ _ _ _ _ _ _ _ _)
   | (with_reducible exact ih14 _ _ _ _ _ _ _ _ _ _)
   | (with_reducible exact ih15 _ _ _ _ _ _ _ _ _)
   | (with_reducible exact ih16 _ _ _ _ _ _ _ _)
   | (with_reducible exact ih17 _ _ _ _ _ _ _ _)
   | (with_reducible exact orielref04_Right.mono _ _)
   | (with_reducible exact orielref12_named.mono _ _ _)
   | (with_reducible exact LeO.refl _)
   | (with_reducible exact LeO.none _)
   | (with_reducible refine LeO.ite ?_ ?_)
   | (with_reducible refine LeO.bind ?_ (fun _ => ?_))
   | exact ih0 _ _ _ _
   | exact ih1 _ _ _ _ _
   | exact ih2 _ _ _ _ _ _ _
   | exact ih3 _ _ _ _ _ _
   | exact ih4 _ _ _ _ _ _
   | exact ih5 _ _ _ _ _
   | exact ih6 _ _ _ _ _
   | exact ih7 _ _ _ _ _ _ _
   | exact ih8 _ _ _ _ _ _ _ _
   | exact ih9 _ _ _ _ _ _ _ _
   | exact ih10 _ _ _ _ _ _ _ _ _
   | exact ih11 _ _ _ _ _ _ _ _ _
   | exact ih12 _ _ _ _ _ _ _ _
   | exact ih13 _ _ _ _ _ _ _ _ _
   | exact ih14 _ _ _ _ _ _ _ _ _ _
   | exact ih15 _ _ _ _ _ _ _ _ _
   | exact ih16 _ _ _ _ _ _ _ _
   | exact ih17 _ _ _ _ _ _ _ _
   | exact orielref04_Right.mono _ _
   | exact orielref12_named.mono _ _ _
   | exact LeO.none _
   | refine LeO.ite ?_ ?_
   | refine LeO.bind ?_ (fun _ => ?_)
  ·
   intro y0 y1 y2 y3 y4
   unfold orielref12_path.j0
   repeat' first
   | (with_reducible exact ih0 _ _ _ _)
   | (with_reducible exact ih1 _ _ _ _ _)
   | (with_reducible exact ih2 _ _ _ _ _ _ _)
   | (with_reducible exact ih3 _ _ _ _ _ _)
   | (with_reducible exact ih4 _ _ _ _ _ _)
   | (with_reducible exact ih5 _ _ _ _ _)
   | (with_reducible exact ih6 _ _ _ _ _)
   | (with_reducible exact ih7 _ _ _ _ _ _ _)
   | (with_reducible exact ih8 _ _ _ _ _ _ _ _)
   | (with_reducible exact ih9 _ _ _ _ _ _ _ _)
   | (with_reducible exact ih10 _ _ _ _ _ _ _ _ _)
   | (with_reducible exact ih11 _ _ _ _ _ _ _ _ _)
   | (with_reducible exact ih12 _ _ _ _ _ _ _ _)
   | (with_reducible exact ih13 _ _ _ _ _ _ _ _ _)
   | (with_reducible exact ih14 _ _ _ _ _ _ _ _ _ _)
   | (with_reducible exact ih15 _ _ _ _ _ _ _ _ _)
   | (with_reducible exact ih16 _ _ _ _ _ _ _ _)
   | (with_reducible exact ih17 _ _ _ _ _ _ _ _)
   | (with_reducible exact orielref04_Right.mono _ _)
   | (with_reducible exact orielref12_named.mono _ _ _)
   | (with_reducible exact LeO.refl _)
   | (with_reducible exact LeO.none _)
   | (with_reducible refine LeO.ite ?_ ?_)
   | (with_reducible refine LeO.bind ?_ (fun _ => ?_))
   | exact ih0 _ _ _ _
   | exact ih1 _ _ _ _ _
   | exact ih2 _ _ _ _ _ _ _
   | exact ih3 _ _ _ _ _ _
   | exact ih4 _ _ _ _ _ _
   | exact ih5 _ _ _ _ _
   | exact ih6 _ _ _ _ _
   | exact ih7 _ _ _ _ _ _ _
   | exact ih8 _ _ _ _ _ _ _ _
   | exact ih9 _ _ _ _ _ _ _ _
   | exact ih10 _ _ _ _ _ _ _ _ _
   | exact ih11 _ _ _ _ _ _ _ _ _
   | exact ih12 _ _ _ _ _ _ _ _
   | exact ih13 _ _ _ _ _ _ _ _ _
   | exact ih14 _ _ _ _ _ _ _ _ _ _
   | exact ih15 _ _ _ _ _ _ _ _ _
   | exact ih16 _ _ _ _ _ _ _ _
   | exact ih17 _ _ _ _ _ _ _ _
   | exact orielref04_Right.mono _ _
   | exact orielref12_named.mono _ _ _
   | exact LeO.none _
   | refine LeO.ite ?_ ?_
   | refine LeO.bind ?_ (fun _ => ?_)
  ·
   intro y0 y1 y2 y3 y4 y5 y6
   unfold orielref12_path.j1
   repeat' first
   | (with_reducible exact ih0 _ _ _ _)
   | (with_reducible exact ih1 _ _ _ _ _)
   | (with_reducible exact ih2 _ _ _ _ _ _ _)
   | (with_reducible exact ih3 _ _ _ _ _ _)
   | (with_reducible exact ih4 _ _ _ _ _ _)
   | (with_reducible exact ih5 _ _ _ _ _)
   | (with_reducible exact ih6 _ _ _ _ _)
   | (with_reducible exact ih7 _ _ _ _ _ _ _)
   | (with_reducible exact ih8 _ _ _ _ _ _ _ _)
   | (with_reducible exact ih9 _ _ _ _ _ _ _ _)
   | (with_reducible exact ih10 _ _ _ _ _ _ _ _ _)
   | (with_reducible exact ih11 _ _ _ _ _ _ _ _ _)
   | (with_reducible exact ih12 _ _ _ _ _ _ _ _)
   | (with_reducible exact ih13 _ _ _ _ _ _ _ _ _)
   | (with_reducible exact ih14 _ _ _ _ _ _ _ _ _ _)
   | (with_reducible exact ih15 _ _ _ _ _ _ _ _ _)
   | (with_reducible exact ih16 _ _ _ _ _ _ _ _)
   | (with_reducible exact ih17 _ _ _ _ _ _ _ _)
   | (with_reducible exact orielref04_Right.mono _ _)
   | (with_reducible exact orielref12_named.mono _ _ _)
   | (with_reducible exact LeO.refl _)
   | (with_reducible exact LeO.none _)
   | (with_reducible refine LeO.ite ?_ ?_)
   | (with_reducible refine LeO.bind ?_ (fun _ => ?_))
   | exact ih0 _ _ _ _
   | exact ih1 _ _ _ _ _
   | exact ih2 _ _ _ _ _ _ _
   | exact ih3 _ _ _ _ _ _
   | exact ih4 _ _ _ _ _ _
   | exact ih5 _ _ _ _ _
   | exact ih6 _ _ _ _ _
   | exact ih7 _ _ _ _ _ _ _
   | exact ih8 _ _ _ _ _ _ _ _
   | exact ih9 _ _ _ _ _ _ _ _
   | exact ih10 _ _ _ _ _ _ _ _ _
   | exact ih11 _ _ _ _ _ _ _ _ _
   | exact ih12 _ _ _ _ _ _ _ _
   | exact ih13 _ _ _ _ _ _ _ _ _
   | exact ih14 _ _ _ _ _ _ _ _ _ _
   | exact ih15 _ _ _ _ _ _ _ _ _
   | exact ih16 _ _ _ _ _ _ _ _
   | exact ih17 _ _ _ _ _ _ _ _
   | exact orielref04_Right.mono _ _
   | exact orielref12_named.mono _ _ _
   | exact LeO.none _
   | refine LeO.ite ?_ ?_
   | refine LeO.bind ?_ (fun _ => ?_)
  ·
   intro y0 y1 y2 y3 y4 y5
   unfold orielref12_path.j2
   repeat' first
   | (with_reducible exact ih0 _ _ _ _)
   | (with_reducible exact ih1 _ _ _ _ _)
   | (with_reducible exact ih2 _ _ _ _ _ _ _)
   | (with_reducible exact ih3 _ _ _ _ _ _)
   | (with_reducible exact ih4 _ _ _ _ _ _)
   | (with_reducible exact ih5 _ _ _ _ _)
   | (with_reducible exact ih6 _ _ _ _ _)
   | (with_reducible exact ih7 _ _ _ _ _ _ _)
   | (with_reducible exact ih8 _ _ _ _ _ _ _ _)
   | (with_reducible exact ih9 _ _ _ _ _ _ _ _)
   | (with_reducible exact ih10 _ _ _ _ _ _ _ _ _)
   | (with_reducible exact ih11 _ _ _ _ _ _ _ _ _)
   | (with_reducible exact ih12 _ _ _ _ _ _ _ _)
   | (with_reducible exact ih13 _ _ _ _ _ _ _ _ _)
   | (with_reducible exact ih14 _ _ _ _ _ _ _ _ _ _)
   | (with_reducible exact ih15 _ _ _ _ _ _ _ _ _)
   | (with_reducible exact ih16 _ _ _ _ _ _ _ _)
   | (with_reducible exact ih17 _ _ _ _ _ _ _ _)
   | (with_reducible exact orielref04_Right.mono _ _)
   | (with_reducible exact orielref12_named.mono _ _ _)
   | (with_reducible exact LeO.refl _)
   | (with_reducible exact LeO.none _)
   | (with_reducible refine LeO.ite ?_ ?_)
   | (with_reducible refine LeO.bind ?_ (fun _ => ?_))
   | exact ih0 _ _ _ _
   | exact ih1 _ _ _ _ _
   | exact ih2 _ _ _ _ _ _ _
   | exact ih3 _ _ _ _ _ _
   | exact ih4 _ _ _ _ _ _
   | exact ih5 _ _ _ _ _
   | exact ih6 _ _ _ _ _
   | exact ih7 _ _ _ _ _ _ _
   | exact ih8 _ _ _ _ _ _ _ _
   | exact ih9 _ _ _ _ _ _ _ _
   | exact ih10 _ _ _ _ _ _ _ _ _
   | exact ih11 _ _ _ _ _ _ _ _ _
   | exact ih12 _ _ _ _ _ _ _ _
   | exact ih13 _ _ _ _ _ _ _ _ _
   | exact ih14 _ _ _ _ _ _ _ _ _ _
   | exact ih15 _ _ _ _ _ _ _ _ _
   | exact ih16 _ _ _ _ _ _ _ _
   | exact ih17 _ _ _ _ _ _ _ _
   | exact orielref04_Right.mono _ _
   | exact orielref12_named.mono _ _ _
   | exact LeO.none _
   | refine LeO.ite ?_ ?_
   | refine LeO.bind ?_ (fun _ => ?_)
  ·
   intro y0 y1 y2 y3 y4 y5
   unfold orielref12_path.j3
   repeat' first
   | (with_reducible exact ih0 _ _ _ _)
   | (with_reducible exact ih1 _ _ _ _ _)
   | (with_reducible exact ih2 _ _ _ _ _ _ _)
   | (with_reducible exact ih3 _ _ _ _ _ _)
   | (with_reducible exact ih4 _ _ _ _ _ _)
   | (with_reducible exact ih5 _ _ _ _ _)
   | (with_reducible exact ih6 _ _ _ _ _)
   | (with_reducible exact ih7 _ _ _ _ _ _ _)
   | (with_reducible exact ih8 _ _ _ _ _ _ _ _)
   | (with_reducible exact ih9 _ _ _ _ _ _ _ _)
   | (with_reducible exact ih10 _ _ _ _ _ _ _ _ _)
   | (with_reducible exact ih11 _ _ _ _ _ _ _ _ _)
   | (with_reducible exact ih12 _ _ _ _ _ _ _ _)
   | (with_reducible exact ih13 _ _ _ _ _ _ _ _ _)
   | (with_reducible exact ih14 _ _ _ _ _ _ _ _ _ _)
   | (with_reducible exact ih15 _ _ _ _ _ _ _ _ _)
   | (with_reducible exact ih16 _ _ _ _ _ _ _ _)
   | (with_reducible exact ih17 _ _ _ _ _ _ _ _)
   | (with_reducible exact orielref04_Right.mono _ _)
   | (with_reducible exact orielref12_named.mono _ _ _)
   | (with_reducible exact LeO.refl _)
   | (with_reducible exact LeO.none _)
   | (with_reducible refine LeO.ite ?_ ?_)
   | (with_reducible refine LeO.bind ?_ (fun _ => ?_))
   | exact ih0 _ _ _ _
   | exact ih1 _ _ _ _ _
   | exact ih2 _ _ _ _ _ _ _
   | exact ih3 _ _ _ _ _ _
   | exact ih4 _ _ _ _ _ _
   | exact ih5 _ _ _ _ _
   | exact ih6 _ _ _ _ _
   | exact ih7 _ _ _ _ _ _ _
   | exact ih8 _ _ _ _ _ _ _ _
   | exact ih9 _ _ _ _ _ _ _ _
   | exact ih10 _ _ _ _ _ _ _ _ _
   | exact ih11 _ _ _ _ _ _ _ _ _
   | exact ih12 _ _ _ _ _ _ _ _
   | exact ih13 _ _ _ _ _ _ _ _ _
   | exact ih14 _ _ _ _ _ _ _ _ _ _
   | exact ih15 _ _ _ _ _ _ _ _ _
   | exact ih16 _ _ _ _ _ _ _ _
   | exact ih17 _ _ _ _ _ _ _ _
   | exact orielref04_Right.mono _ _
   | exact orielref12_named.mono _ _ _
   | exact LeO.none _
   | refine LeO.ite ?_ ?_
   | refine LeO.bind ?_ (fun _ => ?_)
  ·
   intro y0 y1 y2 y3 y4
   unfold orielref12_path.j4
   repeat' first
   | (with_reducible exact ih0 _ _ _ _)
   | (with_reducible exact ih1 _ _ _ _ _)
   | (with_reducible exact ih2 _ _ _ _ _ _ _)
   | (with_reducible exact ih3 _ _ _ _ _ _)
   | (with_reducible exact ih4 _ _ _ _ _ _)
   | (with_reducible exact ih5 _ _ _ _ _)
   | (with_reducible exact ih6 _ _ _ _ _)
   | (with_reducible exact ih7 _ _ _ _ _ _ _)
   | (with_reducible exact ih8 _ _ _ _ _ _ _ _)
   | (with_reducible exact ih9 _ _ _ _ _ _ _ _)
   | (with_reducible exact ih10 _ _ _ _ _ _ _ _ _)
   | (with_reducible exact ih11 _ _ _ _ _ _ _ _ _)
   | (with_reducible exact ih12 _ _ _ _ _ _ _ _)
   | (with_reducible exact ih13 _ _ _ _ _ _ _ _ _)
   | (with_reducible exact ih14 _ _ _ _ _ _ _ _ _ _)
   | (with_reducible exact ih15 _ _ _ _ _ _ _ _ _)
   | (with_reducible exact ih16 _ _ _ _ _ _ _ _)
   | (with_reducible exact ih17 _ _ _ _ _ _ _ _)
   | (with_reducible exact orielref04_Right.mono _ _)
   | (with_reducible exact orielref12_named.mono _ _ _)
   | (with_reducible exact LeO.refl _)
   | (with_reducible exact LeO.none _)
   | (with_reducible refine LeO.ite ?_ ?_)
   | (with_reducible refine LeO.bind ?_ (fun _ => ?_))
   | exact ih0 _ _ _ _
   | exact ih1 _ _ _ _ _
   | exact ih2 _ _ _ _ _ _ _
   | exact ih3 _ _ _ _ _ _
   | exact ih4 _ _ _ _ _ _
   | exact ih5 _ _ _ _ _
   | exact ih6 _ _ _ _ _
   | exact ih7 _ _ _ _ _ _ _
   | exact ih8 _ _ _ _ _ _ _ _
   | exact ih9 _ _ _ _ _ _ _ _
   | exact ih10 _ _ _ _ _ _ _ _ _
   | exact ih11 _ _ _ _ _ _ _ _ _
   | exact ih12 _ _ _ _ _ _ _ _
   | exact ih13 _ _ _ _ _ _ _ _ _
   | exact ih14 _ _ _ _ _ _ _ _ _ _
   | exact ih15 _ _ _ _ _ _ _ _ _
   | exact ih16 _ _ _ _ _ _ _ _
   | exact ih17 _ _ _ _ _ _ _ _
   | exact orielref04_Right.mono _ _
   | exact orielref12_named.mono _ _ _
   | exact LeO.none _
   | refine LeO.ite ?_ ?_
   | refine LeO.bind ?_ (fun _ => ?_)
  ·
   intro y0 y1 y2 y3 y4
   unfold orielref12_path.l0
   repeat' first
   | (with_reducible exact ih0 _ _ _ _)
   | (with_reducible exact ih1 _ _ _ _ _)
   | (with_reducible exact ih2 _ _ _ _ _ _ _)
   | (with_reducible exact ih3 _ _ _ _ _ _)
   | (with_reducible exact ih4 _ _ _ _ _ _)
   | (with_reducible exact ih5 _ _ _ _ _)
   | (with_reducible exact ih6 _ _ _ _ _)
   | (with_reducible exact ih7 _ _ _ _ _ _ _)
   | (with_reducible exact ih8 _ _ _ _ _ _ _ _)
   | (with_reducible exact ih9 _ _ _ _ _ _ _ _)
   | (with_reducible exact ih10 _ _ _ _ _ _ _ _ _)
   | (with_reducible exact ih11 _ _ _ _ _ _ _ _ _)
   | (with_reducible exact ih12 _ _ _ _ _ _ _ _)
   | (with_reducible exact ih13 _ _ _ _ _ _ _ _ _)
   | (with_reducible exact ih14 _ _ _ _ _ _ _ _ _ _)
   | (with_reducible exact ih15 _ _ _ _ _ _ _ _ _)
   | (with_reducible exact ih16 _ _ _ _ _ _ _ _)
   | (with_reducible exact ih17 _ _ _ _ _ _ _ _)
   | (with_reducible exact orielref04_Right.mono _ _)
   | (with_reducible exact orielref12_named.mono _ _ _)
   | (with_reducible exact LeO.refl _)
   | (with_reducible exact LeO.none _)
   | (with_reducible refine LeO.ite ?_ ?_)
   | (with_reducible refine LeO.bind ?_ (fun _ => ?_))
   | exact ih0 _ _ _ _
   | exact ih1 _ _ _ _ _
   | exact ih2 _ _ _ _ _ _ _
   | exact ih3 _ _ _ _ _ _
   | exact ih4 _ _ _ _ _ _
   | exact ih5 _ _ _ _ _
   | exact ih6 _ _ _ _ _
   | exact ih7 _ _ _ _ _ _ _
   | exact ih8 _ _ _ _ _ _ _ _
   | exact ih9 _ _ _ _ _ _ _ _
   | exact ih10 _ _ _ _ _ _ _ _ _
   | exact ih11 _ _ _ _ _ _ _ _ _
   | exact ih12 _ _ _ _ _ _ _ _
   | exact ih13 _ _ _ _ _ _ _ _ _
   | exact ih14 _ _ _ _ _ _ _ _ _ _
   | exact ih15 _ _ _ _ _ _ _ _ _
   | exact ih16 _ _ _ _ _ _ _ _
   | exact ih17 _ _ _ _ _ _ _ _
   | exact orielref04_Right.mono _ _
   | exact orielref12_named.mono _ _ _
   | exact LeO.none _
   | refine LeO.ite ?_ ?_
   | refine LeO.bind ?_ (fun _ => ?_)
  ·
   intro y0 y1 y2 y3 y4 y5 y6
   unfold orielref12_filter.f
   repeat' first
   | (with_reducible exact ih0 _ _ _ _)
   | (with_reducible exact ih1 _ _ _ _ _)
   | (with_reducible exact ih2 _ _ _ _ _ _ _)
   | (with_reducible exact ih3 _ _ _ _ _ _)
   | (with_reducible exact ih4 _ _ _ _ _ _)
   | (with_reducible exact ih5 _ _ _ _ _)
   | (with_reducible exact ih6 _ _ _ _ _)
   | (with_reducible exact ih7 _ _ _ _ _ _ _)
   | (with_reducible exact ih8 _ _ _ _ _ _ _ _)
   | (with_reducible exact ih9 _ _ _ _ _ _ _ _)
   | (with_reducible exact ih10 _ _ _ _ _ _ _ _ _)
   | (with_reducible exact ih11 _ _ _ _ _ _ _ _ _)
   | (with_reducible exact ih12 _ _ _ _ _ _ _ _)
   | (with_reducible exact ih13 _ _ _ _ _ _ _ _ _)
   | (with_reducible exact ih14 _ _ _ _ _ _ _ _ _ _)
   | (with_reducible exact ih15 _ _ _ _ _ _ _ _ _)
   | (with_reducible exact ih16 _ _ _ _ _ _ _ _)
   | (with_reducible exact ih17 _ _ _ _ _ _ _ _)
   | (with_reducible exact orielref04_Right.mono _ _)
   | (with_reducible exact orielref12_named.mono _ _ _)
   | (with_reducible exact LeO.refl _)
   | (with_reducible exact LeO.none _)
   | (with_reducible refine LeO.ite ?_ ?_)
   | (with_reducible refine LeO.bind ?_ (fun _ => ?_))
   | exact ih0 _ _ _ _
   | exact ih1 _ _ _ _ _
   | exact ih2 _ _ _ _ _ _ _
   | exact ih3 _ _ _ _ _ _
   | exact ih4 _ _ _ _ _ _
   | exact ih5 _ _ _ _ _
   | exact ih6 _ _ _ _ _
   | exact ih7 _ _ _ _ _ _ _
   | exact ih8 _ _ _ _ _ _ _ _
   | exact ih9 _ _ _ _ _ _ _ _
   | exact ih10 _ _ _ _ _ _ _ _ _
   | exact ih11 _ _ _ _ _ _ _ _ _
   | exact ih12 _ _ _ _ _ _ _ _
   | exact ih13 _ _ _ _ _ _ _ _ _
   | exact ih14 _ _ _ _ _ _ _ _ _ _
   | exact ih15 _ _ _ _ _ _ _ _ _
   | exact ih16 _ _ _ _ _ _ _ _
   | exact ih17 _ _ _ _ _ _ _ _
   | exact orielref04_Right.mono _ _
   | exact orielref12_named.mono _ _ _
   | exact LeO.none _
   | refine LeO.ite ?_ ?_
   | refine LeO.bind ?_ (fun _ => ?_)
  ·
   intro y0 y1 y2 y3 y4 y5 y6 y7
   unfold orielref12_filter.j0
   repeat' first
   | (with_reducible exact ih0 _ _ _ _)
   | (with_reducible exact ih1 _ _ _ _ _)
   | (with_reducible exact ih2 _ _ _ _ _ _ _)
   | (with_reducible exact ih3 _ _ _ _ _ _)
   | (with_reducible exact ih4 _ _ _ _ _ _)
   | (with_reducible exact ih5 _ _ _ _ _)
   | (with_reducible exact ih6 _ _ _ _ _)
   | (with_reducible exact ih7 _ _ _ _ _ _ _)
   | (with_reducible exact ih8 _ _ _ _ _ _ _ _)
   | (with_reducible exact ih9 _ _ _ _ _ _ _ _)
   | (with_reducible exact ih10 _ _ _ _ _ _ _ _ _)
   | (with_reducible exact ih11 _ _ _ _ _ _ _ _ _)
   | (with_reducible exact ih12 _ _ _ _ _ _ _ _)
   | (with_reducible exact ih13 _ _ _ _ _ _ _ _ _)
   | (with_reducible exact ih14 _ _ _ _ _ _ _ _ _ _)
   | (with_reducible exact ih15 _ _ _ _ _ _ _ _ _)
   | (with_reducible exact ih16 _ _ _ _ _ _ _ _)
   | (with_reducible exact ih17 _ _ _ _ _ _ _ _)
   | (with_reducible exact orielref04_Right.mono _ _)
   | (with_reducible exact orielref12_named.mono _ _ _)
   | (with_reducible exact LeO.refl _)
   | (with_reducible exact LeO.none _)
   | (with_reducible refine LeO.ite ?_ ?_)
   | (with_reducible refine LeO.bind ?_ (fun _ => ?_))
   | exact ih0 _ _ _ _
   | exact ih1 _ _ _ _ _
   | exact ih2 _ _ _ _ _ _ _
   | exact ih3 _ _ _ _ _ _
   | exact ih4 _ _ _ _ _ _
   | exact ih5 _ _ _ _ _
   | exact ih6 _ _ _ _ _
   | exact ih7 _ _ _ _ _ _ _
   | exact ih8 _ _ _ _ _ _ _ _
   | exact ih9 _ _ _ _ _ _ _ _
   | exact ih10 _ _ _ _ _ _ _ _ _
   | exact ih11 _ _ _ _ _ _ _ _ _
   | exact ih12 _ _ _ _ _ _ _ _
   | exact ih13 _ _ _ _ _ _ _ _ _
   | exact ih14 _ _ _ _ _ _ _ _ _ _
   | exact ih15 _ _ _ _ _ _ _ _ _
   | exact ih16 _ _ _ _ _ _ _ _
   | exact ih17 _ _ _ _ _ _ _ _
   | exact orielref04_Right.mono _ _
   | exact orielref12_named.mono _ _ _
   | exact LeO.none _
   | refine LeO.ite ?_ ?_
   | refine LeO.bind ?_ (fun _ => ?_)
  ·
   intro y0 y1 y2 y3 y4 y5 y6 y7
   unfold orielref12_filter.j1
   repeat' first
   | (with_reducible exact ih0 _ _ _ _)
   | (with_reducible exact ih1 _ _ _ _ _)
   | (with_reducible exact ih2 _ _ _ _ _ _ _)
   | (with_reducible exact ih3 _ _ _ _ _ _)
   | (with_reducible exact ih4 _ _ _ _ _ _)
   | (with_reducible exact ih5 _ _ _ _ _)
   | (with_reducible exact ih6 _ _ _ _ _)
   | (with_reducible exact ih7 _ _ _ _ _ _ _)
   | (with_reducible exact ih8 _ _ _ _ _ _ _ _)
   | (with_reducible exact ih9 _ _ _ _ _ _ _ _)
   | (with_reducible exact ih10 _ _ _ _ _ _ _ _ _)
   | (with_reducible exact ih11 _ _ _ _ _ _ _ _ _)
   | (with_reducible exact ih12 _ _ _ _ _ _ _ _)
   | (with_reducible exact ih13 _ _ _ _ _ _ _ _ _)
   | (with_reducible exact ih14 _ _ _ _ _ _ _ _ _ _)
   | (with_reducible exact ih15 _ _ _ _ _ _ _ _ _)
   | (with_reducible exact ih16 _ _ _ _ _ _ _ _)
   | (with_reducible exact ih17 _ _ _ _ _ _ _ _)
   | (with_reducible exact orielref04_Right.mono _ _)
   | (with_reducible exact orielref12_named.mono _ _ _)
   | (with_reducible exact LeO.refl _)
   | (with_reducible exact LeO.none _)
   | (with_reducible refine LeO.ite ?_ ?_)
   | (with_reducible refine LeO.bind ?_ (fun _ => ?_))
   | exact ih0 _ _ _ _
   | exact ih1 _ _ _ _ _
   | exact ih2 _ _ _ _ _ _ _
   | exact ih3 _ _ _ _ _ _
   | exact ih4 _ _ _ _ _ _
   | exact ih5 _ _ _ _ _
   | exact ih6 _ _ _ _ _
   | exact ih7 _ _ _ _ _ _ _
   | exact ih8 _ _ _ _ _ _ _ _
   | exact ih9 _ _ _ _ _ _ _ _
   | exact ih10 _ _ _ _ _ _ _ _ _
   | exact ih11 _ _ _ _ _ _ _ _ _
   | exact ih12 _ _ _ _ _ _ _ _
   | exact ih13 _ _ _ _ _ _ _ _ _
   | exact ih14 _ _ _ _ _ _ _ _ _ _
   | exact ih15 _ _ _ _ _ _ _ _ _
   | exact ih16 _ _ _ _ _ _ _ _
   | exact ih17 _ _ _ _ _ _ _ _
   | exact orielref04_Right.mono _ _
   | exact orielref12_named.mono _ _ _
   | exact LeO.none _
   | refine LeO.ite ?_ ?_
   | refine LeO.bind ?_ (fun _ => ?_)
  ·
   intro y0 y1 y2 y3 y4 y5 y6 y7 y8
   unfold orielref12_filter.j2
   repeat' first
   | (with_reducible exact ih0 _ _ _ _)
   | (with_reducible exact ih1 _ _ _ _ _)
   | (with_reducible exact ih2 _ _ _ _ _ _ _)
   | (with_reducible exact ih3 _ _ _ _ _ _)
   | (with_reducible exact ih4 _ _ _ _ _ _)
   | (with_reducible exact ih5 _ _ _ _ _)
   | (with_reducible exact ih6 _ _ _ _ _)
   | (with_reducible exact ih7 _ _ _ _ _ _ _)
   | (with_reducible exact ih8 _ _ _ _ _ _ _ _)
   | (with_reducible exact ih9 _ _ _ _ _ _ _ _)
   | (with_reducible exact ih10 _ _ _ _ _ _ _ _ _)
   | (with_reducible exact ih11 _ _ _ _ _ _ _ _ _)
   | (with_reducible exact ih12 _ _ _ _ _ _ _ _)
   | (with_reducible exact ih13 _ _ _ _ _ _ _ _ _)
   | (with_reducible exact ih14 _ _ _ _ _ _ _ _ _ _)
   | (with_reducible exact ih15 _ _ _ _ _ _ _ _ _)
   | (with_reducible exact ih16 _ _ _ _ _ _ _ _)
   | (with_reducible exact ih17 _ _ _ _ _ _ _ _)
   | (with_reducible exact orielref04_Right.mono _ _)
   | (with_reducible exact orielref12_named.mono _ _ _)
   | (with_reducible exact LeO.refl _)
   | (with_reducible exact LeO.none _)
   | (with_reducible refine LeO.ite ?_ ?_)
   | (with_reducible refine LeO.bind ?_ (fun _ => ?_))
   | exact ih0 _ _ _ _
   | exact ih1 _ _ _ _ _
   | exact ih2 _ _ _ _ _ _ _
   | exact ih3 _ _ _ _ _ _
   | exact ih4 _ _ _ _ _ _
   | exact ih5 _ _ _ _ _
   | exact ih6 _ _ _ _ _
   | exact ih7 _ _ _ _ _ _ _
   | exact ih8 _ _ _ _ _ _ _ _
   | exact ih9 _ _ _ _ _ _ _ _
   | exact ih10 _ _ _ _ _ _ _ _ _
   | exact ih11 _ _ _ _ _ _ _ _ _
   | exact ih12 _ _ _ _ _ _ _ _
   | exact ih13 _ _ _ _ _ _ _ _ _
   | exact ih14 _ _ _ _ _ _ _ _ _ _
   | exact ih15 _ _ _ _ _ _ _ _ _
   | exact ih16 _ _ _ _ _ _ _ _
   | exact ih17 _ _ _ _ _ _ _ _
   | exact orielref04_Right.mono _ _
   | exact orielref12_named.mono _ _ _
   | exact LeO.none _
   | refine LeO.ite ?_ ?_
   | refine LeO.bind ?_ (fun _ => ?_)
  ·
   intro y0 y1 y2 y3 y4 y5 y6 y7 y8
   unfold orielref12_filter.j3
   repeat' first
   | (with_reducible exact ih0 _ _ _ _)
   | (with_reducible exact ih1 _ _ _ _ _)
   | (with_reducible exact ih2 _ _ _ _ _ _ _)
   | (with_reducible exact ih3 _ _ _ _ _ _)
   | (with_reducible exact ih4 _ _ _ _ _ _)
   | (with_reducible exact ih5 _ _ _ _ _)
   | (with_reducible exact ih6 _ _ _ _ _)
   | (with_reducible exact ih7 _ _ _ _ _ _ _)
   | (with_reducible exact ih8 _ _ _ _ _ _ _ _)
   | (with_reducible exact ih9 _ _ _ _ _ _ _ _)
   | (with_reducible exact ih10 _ _ _ _ _ _ _ _ _)
   | (with_reducible exact ih11 _ _ _ _ _ _ _ _ _)
   | (with_reducible exact ih12 _ _ _ _ _ _ _ _)
   | (with_reducible exact ih13 _ _ _ _ _ _ _ _ _)
   | (with_reducible exact ih14 _ _ _ _ _ _ _ _ _ _)
   | (with_reducible exact ih15 _ _ _ _ _ _ _ _ _)
   | (with_reducible exact ih16 _ _ _ _ _ _ _ _)
   | (with_reducible exact ih17 _ _ _ _ _ _ _ _)
   | (with_reducible exact orielref04_Right.mono _ _)
   | (with_reducible exact orielref12_named.mono _ _ _)
   | (with_reducible exact LeO.refl _)
   | (with_reducible exact LeO.none _)
   | (with_reducible refine LeO.ite ?_ ?_)
   | (with_reducible refine LeO.bind ?_ (fun _ => ?_))
   | exact ih0 _ _ _ _
   | exact ih1 _ _ _ _ _
   | exact ih2 _ _ _ _ _ _ _
   | exact ih3 _ _ _ _ _ _
   | exact ih4 _ _ _ _ _ _
   | exact ih5 _ _ _ _ _
   | exact ih6 _ _ _ _ _
   | exact ih7 _ _ _ _ _ _ _
   | exact ih8 _ _ _ _ _ _ _ _
   | exact ih9 _ _ _ _ _ _ _ _
   | exact ih10 _ _ _ _ _ _ _ _ _
   | exact ih11 _ _ _ _ _ _ _ _ _
   | exact ih12 _ _ _ _ _ _ _ _
   | exact ih13 _ _ _ _ _ _ _ _ _
   | exact ih14 _ _ _ _ _ _ _ _ _ _
   | exact ih15 _ _ _ _ _ _ _ _ _
   | exact ih16 _ _ _ _ _ _ _ _
   | exact ih17 _ _ _ _ _ _ _ _
   | exact orielref04_Right.mono _ _
   | exact orielref12_named.mono _ _ _
   | exact LeO.none _
   | refine LeO.ite ?_ ?_
   | refine LeO.bind ?_ (fun _ => ?_)
  ·
   intro y0 y1 y2 y3 y4 y5 y6 y7
   unfold orielref12_filter.j4
   repeat' first
   | (with_reducible exact ih0 _ _ _ _)
   | (with_reducible exact ih1 _ _ _ _ _)
   | (with_reducible exact ih2 _ _ _ _ _ _ _)
   | (with_reducible exact ih3 _ _ _ _ _ _)
   | (with_reducible exact ih4 _ _ _ _ _ _)
   | (with_reducible exact ih5 _ _ _ _ _)
   | (with_reducible exact ih6 _ _ _ _ _)
   | (with_reducible exact ih7 _ _ _ _ _ _ _)
   | (with_reducible exact ih8 _ _ _ _ _ _ _ _)
   | (with_reducible exact ih9 _ _ _ _ _ _ _ _)
   | (with_reducible exact ih10 _ _ _ _ _ _ _ _ _)
   | (with_reducible exact ih11 _ _ _ _ _ _ _ _ _)
   | (with_reducible exact ih12 _ _ _ _ _ _ _ _)
   | (with_reducible exact ih13 _ _ _ _ _ _ _ _ _)
   | (with_reducible exact ih14 _ _ _ _ _ _ _ _ _ _)
   | (with_reducible exact ih15 _ _ _ _ _ _ _ _ _)
   | (with_reducible exact ih16 _ _ _ _ _ _ _ _)
   | (with_reducible exact ih17 _ _ _ _ _ _ _ _)
   | (with_reducible exact orielref04_Right.mono _ _)
   | (with_reducible exact orielref12_named.mono _ _ _)
   | (with_reducible exact LeO.refl _)
   | (with_reducible exact LeO.none _)
   | (with_reducible refine LeO.ite ?_ ?_)
   | (with_reducible refine LeO.bind ?_ (fun _ => ?_))
   | exact ih0 _ _ _ _
   | exact ih1 _ _ _ _ _
   | exact ih2 _ _ _ _ _ _ _
   | exact ih3 _ _ _ _ _ _
   | exact ih4 _ _ _ _ _ _
   | exact ih5 _ _ _ _ _
   | exact ih6 _ _ _ _ _
   | exact ih7 _ _ _ _ _ _ _
   | exact ih8 _ _ _ _ _ _ _ _
   | exact ih9 _ _ _ _ _ _ _ _
   | exact ih10 _ _ _ _ _ _ _ _ _
   | exact ih11 _ _ _ _ _ _ _ _ _
   | exact ih12 _ _ _ _ _ _ _ _
   | exact ih13 _ _ _ _ _ _ _ _ _
   | exact ih14 _ _ _ _ _ _ _ _ _ _
   | exact ih15 _ _ _ _ _ _ _ _ _
   | exact ih16 _ _ _ _ _ _ _ _
   | exact ih17 _ _ _ _ _ _ _ _
   | exact orielref04_Right.mono _ _
   | exact orielref12_named.mono _ _ _
   | exact LeO.none _
   | refine LeO.ite ?_ ?_
   | refine LeO.bind ?_ (fun _ => ?_)
  ·
   intro y0 y1 y2 y3 y4 y5 y6 y7 y8
   unfold orielref12_filter.j5
   repeat' first
   | (with_reducible exact ih0 _ _ _ _)
   | (with_reducible exact ih1 _ _ _ _ _)
   | (with_reducible exact ih2 _ _ _ _ _ _ _)
   | (with_reducible exact ih3 _ _ _ _ _ _)
   | (with_reducible exact ih4 _ _ _ _ _ _)
   | (with_reducible exact ih5 _ _ _ _ _)
   | (with_reducible exact ih6 _ _ _ _ _)
   | (with_reducible exact ih7 _ _ _ _ _ _ _)
   | (with_reducible exact ih8 _ _ _ _ _ _ _ _)
   | (with_reducible exact ih9 _ _ _ _ _ _ _ _)
   | (with_reducible exact ih10 _ _ _ _ _ _ _ _ _)
   | (with_reducible exact ih11 _ _ _ _ _ _ _ _ _)
   | (with_reducible exact ih12 _ _ _ _ _ _ _ _)
   | (with_reducible exact ih13 _ _ _ _ _ _ _ _ _)
   | (with_reducible exact ih14 _ _ _ _ _ _ _ _ _ _)
   | (with_reducible exact ih15 _ _ _ _ _ _ _ _ _)
   | (with_reducible exact ih16 _ _ _ _ _ _ _ _)
   | (with_reducible exact ih17 _ _ _ _ _ _ _ _)
   | (with_reducible exact orielref04_Right.mono _ _)
   | (with_reducible exact orielref12_named.mono _ _ _)
   | (with_reducible exact LeO.refl _)
   | (with_reducible exact LeO.none _)
   | (with_reducible refine LeO.ite ?_ ?_)
   | (with_reducible refine LeO.bind ?_ (fun _ => ?_))
   | exact ih0 _ _ _ _
   | exact ih1 _ _ _ _ _
   | exact ih2 _ _ _ _ _ _ _
   | exact ih3 _ _ _ _ _ _
   | exact ih4 _ _ _ _ _ _
   | exact ih5 _ _ _ _ _
   | exact ih6 _ _ _ _ _
   | exact ih7 _ _ _ _ _ _ _
   | exact ih8 _ _ _ _ _ _ _ _
   | exact ih9 _ _ _ _ _ _ _ _
   | exact ih10 _ _ _ _ _ _ _ _ _
   | exact ih11 _ _ _ _ _ _ _ _ _
   | exact ih12 _ _ _ _ _ _ _ _
   | exact ih13 _ _ _ _ _ _ _ _ _
   | exact ih14 _ _ _ _ _ _ _ _ _ _
   | exact ih15 _ _ _ _ _ _ _ _ _
   | exact ih16 _ _ _ _ _ _ _ _
   | exact ih17 _ _ _ _ _ _ _ _
   | exact orielref04_Right.mono _ _
   | exact orielref12_named.mono _ _ _
   | exact LeO.none _
   | refine LeO.ite ?_ ?_
   | refine LeO.bind ?_ (fun _ => ?_)
  ·
   intro y0 y1 y2 y3 y4 y5 y6 y7 y8 y9
   unfold orielref12_filter.j6
   repeat' first
   | (with_reducible exact ih0 _ _ _ _)
   | (with_reducible exact ih1 _ _ _ _ _)
   | (with_reducible exact ih2 _ _ _ _ _ _ _)
   | (with_reducible exact ih3 _ _ _ _ _ _)
   | (with_reducible exact ih4 _ _ _ _ _ _)
   | (with_reducible exact ih5 _ _ _ _ _)
   | (with_reducible exact ih6 _ _ _ _ _)
   | (with_reducible exact ih7 _ _ _ _ _ _ _)
   | (with_reducible exact ih8 _ _ _ _ _ _ _ _)
   | (with_reducible exact ih9 _ _ _ _ _ _ _ _)
   | (with_reducible exact ih10 _ _ _ _ _ _ _ _ _)
   | (with_reducible exact ih11 _ _ _ _ _ _ _ _ _)
   | (with_reducible exact ih12 _ _ _ _ _ _ _ _)
   | (with_reducible exact ih13 _ _ _ _ _ _ _ _ _)
   | (with_reducible exact ih14 _ _ _ _ _ _ _ _ _ _)
   | (with_reducible exact ih15 _ _ _ _ _ _ _ _ _)
   | (with_reducible exact ih16 _ _ _ _ _ _ _ _)
   | (with_reducible exact ih17 _ _ _ _ _ _ _ _)
   | (with_reducible exact orielref04_Right.mono _ _)
   | (with_reducible exact orielref12_named.mono _ _ _)
   | (with_reducible exact LeO.refl _)
   | (with_reducible exact LeO.none _)
   | (with_reducible refine LeO.ite ?_ ?_)
   | (with_reducible refine LeO.bind ?_ (fun _ => ?_))
   | exact ih0 _ _ _ _
   | exact ih1 _ _ _ _ _
   | exact ih2 _ _ _ _ _ _ _
   | exact ih3 _ _ _ _ _ _
   | exact ih4 _ _ _ _ _ _
   | exact ih5 _ _ _ _ _
   | exact ih6 _ _ _ _ _
   | exact ih7 _ _ _ _ _ _ _
   | exact ih8 _ _ _ _ _ _ _ _
   | exact ih9 _ _ _ _ _ _ _ _
   | exact ih10 _ _ _ _ _ _ _ _ _
   | exact ih11 _ _ _ _ _ _ _ _ _
   | exact ih12 _ _ _ _ _ _ _ _
   | exact ih13 _ _ _ _ _ _ _ _ _
   | exact ih14 _ _ _ _ _ _ _ _ _ _
   | exact ih15 _ _ _ _ _ _ _ _ _
   | exact ih16 _ _ _ _ _ _ _ _
   | exact ih17 _ _ _ _ _ _ _ _
   | exact orielref04_Right.mono _ _
   | exact orielref12_named.mono _ _ _
   | exact LeO.none _
   | refine LeO.ite ?_ ?_
   | refine LeO.bind ?_ (fun _ => ?_)
  ·
   intro y0 y1 y2 y3 y4 y5 y6 y7 y8
   unfold orielref12_filter.j7
   repeat' first
   | (with_reducible exact ih0 _ _ _ _)
   | (with_reducible exact ih1 _ _ _ _ _)
   | (with_reducible exact ih2 _ _ _ _ _ _ _)
   | (with_reducible exact ih3 _ _ _ _ _ _)
   | (with_reducible exact ih4 _ _ _ _ _ _)
   | (with_reducible exact ih5 _ _ _ _ _)
   | (with_reducible exact ih6 _ _ _ _ _)
   | (with_reducible exact ih7 _ _ _ _ _ _ _)
   | (with_reducible exact ih8 _ _ _ _ _ _ _ _)
   | (with_reducible exact ih9 _ _ _ _ _ _ _ _)
   | (with_reducible exact ih10 _ _ _ _ _ _ _ _ _)
   | (with_reducible exact ih11 _ _ _ _ _ _ _ _ _)
   | (with_reducible exact ih12 _ _ _ _ _ _ _ _)
   | (with_reducible exact ih13 _ _ _ _ _ _ _ _ _)
   | (with_reducible exact ih14 _ _ _ _ _ _ _ _ _ _)
   | (with_reducible exact ih15 _ _ _ _ _ _ _ _ _)
   | (with_reducible exact ih16 _ _ _ _ _ _ _ _)
   | (with_reducible exact ih17 _ _ _ _ _ _ _ _)
   | (with_reducible exact orielref04_Right.mono _ _)
   | (with_reducible exact orielref12_named.mono _ _ _)
   | (with_reducible exact LeO.refl _)
   | (with_reducible exact LeO.none _)
   | (with_reducible refine LeO.ite ?_ ?_)
   | (with_reducible refine LeO.bind ?_ (fun _ => ?_))
   | exact ih0 _ _ _ _
   | exact ih1 _ _ _ _ _
   | exact ih2 _ _ _ _ _ _ _
   | exact ih3 _ _ _ _ _ _
   | exact ih4 _ _ _ _ _ _
   | exact ih5 _ _ _ _ _
   | exact ih6 _ _ _ _ _
   | exact ih7 _ _ _ _ _ _ _
   | exact ih8 _ _ _ _ _ _ _ _
   | exact ih9 _ _ _ _ _ _ _ _
   | exact ih10 _ _ _ _ _ _ _ _ _
   | exact ih11 _ _ _ _ _ _ _ _ _
   | exact ih12 _ _ _ _ _ _ _ _
   | exact ih13 _ _ _ _ _ _ _ _ _
   | exact ih14 _ _ _ _ _ _ _ _ _ _
   | exact ih15 _ _ _ _ _ _ _ _ _
   | exact ih16 _ _ _ _ _ _ _ _
   | exact ih17 _ _ _ _ _ _ _ _
   | exact orielref04_Right.mono _ _
   | exact orielref12_named.mono _ _ _
   | exact LeO.none _
   | refine LeO.ite ?_ ?_
   | refine LeO.bind ?_ (fun _ => ?_)
  ·
   intro y0 y1 y2 y3 y4 y5 y6 y7
   unfold orielref12_filter.j8
   repeat' first
   | (with_reducible exact ih0 _ _ _ _)
   | (with_reducible exact ih1 _ _ _ _ _)
   | (with_reducible exact ih2 _ _ _ _ _ _ _)
   | (with_reducible exact ih3 _ _ _ _ _ _)
   | (with_reducible exact ih4 _ _ _ _ _ _)
   | (with_reducible exact ih5 _ _ _ _ _)
   | (with_reducible exact ih6 _ _ _ _ _)
   | (with_reducible exact ih7 _ _ _ _ _ _ _)
   | (with_reducible exact ih8 _ _ _ _ _ _ _ _)
   | (with_reducible exact ih9 _ _ _ _ _ _ _ _)
   | (with_reducible exact ih10 _ _ _ _ _ _ _ _ _)
   | (with_reducible exact ih11 _ _ _ _ _ _ _ _ _)
   | (with_reducible exact ih12 _ _ _ _ _ _ _ _)
   | (with_reducible exact ih13 _ _ _ _ _ _ _ _ _)
   | (with_reducible exact ih14 _ _ _ _ _ _ _ _ _ _)
   | (with_reducible exact ih15 _ _ _ _ _ _ _ _ _)
   | (with_reducible exact ih16 _ _ _ _ _ _ _ _)
   | (with_reducible exact ih17 _ _ _ _ _ _ _ _)
   | (with_reducible exact orielref04_Right.mono _ _)
   | (with_reducible exact orielref12_named.mono _ _ _)
   | (with_reducible exact LeO.refl _)
   | (with_reducible exact LeO.none _)
   | (with_reducible refine LeO.ite ?_ ?_)
   | (with_reducible refine LeO.bind ?_ (fun _ => ?_))
   | exact ih0 _ _ _ _
   | exact ih1 _ _ _ _ _
   | exact ih2 _ _ _ _ _ _ _
   | exact ih3 _ _ _ _ _ _
   | exact ih4 _ _ _ _ _ _
   | exact ih5 _ _ _ _ _
   | exact ih6 _ _ _ _ _
   | exact ih7 _ _ _ _ _ _ _
   | exact ih8 _ _ _ _ _ _ _ _
   | exact ih9 _ _ _ _ _ _ _ _
   | exact ih10 _ _ _ _ _ _ _ _ _
   | exact ih11 _ _ _ _ _ _ _ _ _
   | exact ih12 _ _ _ _ _ _ _ _
   | exact ih13 _ _ _ _ _ _ _ _ _
   | exact ih14 _ _ _ _ _ _ _ _ _ _
   | exact ih15 _ _ _ _ _ _ _ _ _
   | exact ih16 _ _ _ _ _ _ _ _
   | exact ih17 _ _ _ _ _ _ _ _
   | exact orielref04_Right.mono _ _
   | exact orielref12_named.mono _ _ _
   | exact LeO.none _
   | refine LeO.ite ?_ ?_
   | refine LeO.bind ?_ (fun _ => ?_)
  ·
   intro y0 y1 y2 y3 y4 y5 y6 y7
   unfold orielref12_filter.l0
   repeat' first
   | (with_reducible exact ih0 _ _ _ _)
   | (with_reducible exact ih1 _ _ _ _ _)
   | (with_reducible exact ih2 _ _ _ _ _ _ _)
   | (with_reducible exact ih3 _ _ _ _ _ _)
   | (with_reducible exact ih4 _ _ _ _ _ _)
   | (with_reducible exact ih5 _ _ _ _ _)
   | (with_reducible exact ih6 _ _ _ _ _)
   | (with_reducible exact ih7 _ _ _ _ _ _ _)
   | (with_reducible exact ih8 _ _ _ _ _ _ _ _)
   | (with_reducible exact ih9 _ _ _ _ _ _ _ _)
   | (with_reducible exact ih10 _ _ _ _ _ _ _ _ _)
   | (with_reducible exact ih11 _ _ _ _ _ _ _ _ _)
   | (with_reducible exact ih12 _ _ _ _ _ _ _ _)
   | (with_reducible exact ih13 _ _ _ _ _ _ _ _ _)
   | (with_reducible exact ih14 _ _ _ _ _ _ _ _ _ _)
   | (with_reducible exact ih15 _ _ _ _ _ _ _ _ _)
   | (with_reducible exact ih16 _ _ _ _ _ _ _ _)
   | (with_reducible exact ih17 _ _ _ _ _ _ _ _)
   | (with_reducible exact orielref04_Right.mono _ _)
   | (with_reducible exact orielref12_named.mono _ _ _)
   | (with_reducible exact LeO.refl _)
   | (with_reducible exact LeO.none _)
   | (with_reducible refine LeO.ite ?_ ?_)
   | (with_reducible refine LeO.bind ?_ (fun _ => ?_))
   | exact ih0 _ _ _ _
   | exact ih1 _ _ _ _ _
   | exact ih2 _ _ _ _ _ _ _
   | exact ih3 _ _ _ _ _ _
   | exact ih4 _ _ _ _ _ _
   | exact ih5 _ _ _ _ _
   | exact ih6 _ _ _ _ _
   | exact ih7 _ _ _ _ _ _ _
   | exact ih8 _ _ _ _ _ _ _ _
   | exact ih9 _ _ _ _ _ _ _ _
   | exact ih10 _ _ _ _ _ _ _ _ _
   | exact ih11 _ _ _ _ _ _ _ _ _
   | exact ih12 _ _ _ _ _ _ _ _
   | exact ih13 _ _ _ _ _ _ _ _ _
   | exact ih14 _ _ _ _ _ _ _ _ _ _
   | exact ih15 _ _ _ _ _ _ _ _ _
   | exact ih16 _ _ _ _ _ _ _ _
   | exact ih17 _ _ _ _ _ _ _ _
   | exact orielref04_Right.mono _ _
   | exact orielref12_named.mono _ _ _
   | exact LeO.none _
   | refine LeO.ite ?_ ?_
   | refine LeO.bind ?_ (fun _ => ?_)
theorem orielref12_path.mono : ∀ a0 a1 a2 a3 k, LeO (orielref12_path.f k a0 a1 a2 a3) (orielref12_path.f (k + 1) a0 a1 a2 a3) := by
 intro a0 a1 a2 a3 k; obtain ⟨ih0, ih1, ih2, ih3, ih4, ih5, ih6, ih7, ih8, ih9, ih10, ih11, ih12, ih13, ih14, ih15, ih16, ih17⟩ := grp_orielref12_path.mono_l k; exact ih0 a0 a1 a2 a3
theorem orielref12_filter.mono : ∀ a0 a1 a2 a3 a4 a5 a6 k, LeO (orielref12_filter.f k a0 a1 a2 a3 a4 a5 a6) (orielref12_filter.f (k + 1) a0 a1 a2 a3 a4 a5 a6) := by
 intro a0 a1 a2 a3 a4 a5 a6 k; obtain ⟨ih0, ih1, ih2, ih3, ih4, ih5, ih6, ih7, ih8, ih9, ih10, ih11, ih12, ih13, ih14, ih15, ih16, ih17⟩ := grp_orielref12_path.mono_l k; exact ih7 a0 a1 a2 a3 a4 a5 a6
abbrev orielref12_path.Spec_ (k : Nat) : Prop := ∀ (a0_0 : Int) (A0_1 : Option Addr) (c0_1 : Nat) (l0_1 : List (S25)) (A0_2 : Option Addr) (c0_2 : Nat) (l0_2 : List (S51)) (a1 : Int) (r : Bool) (w : World) (hr0_1 : Kd.C k25 w A0_1 l0_1.length l0_1) (hc0_1 : l0_1.length ≤ c0_1) (hr0_2 : Kd.C k51 w A0_2 l0_2.length l0_2) (hc0_2 : l0_2.length ≤ c0_2) (h : orielref12_path.f k a0_0 l0_1 l0_2 a1 = some r),
  Calls Try.prog 26 #[.agg #[.int .i64 a0_0, .slice A0_1 l0_1.length c0_1, .slice A0_2 l0_2.length c0_2], .int .i64 a1] w fun e w' => e = .returned (.bool r) ∧ Below w.heap.size w w'
abbrev orielref12_filter.Spec_ (k : Nat) : Prop := ∀ (a0_0 : Int) (a0_1 : ByteArray) (a0_2 : ByteArray) (a0_3 : ByteArray) (A0_4 : Option Addr) (c0_4 : Nat) (l0_4 : List (S51)) (A0_5 : Option Addr) (c0_5 : Nat) (l0_5 : List (S25)) (a1 : Int) (r : Bool) (w : World) (hr0_4 : Kd.C k51 w A0_4 l0_4.length l0_4) (hc0_4 : l0_4.length ≤ c0_4) (hr0_5 : Kd.C k25 w A0_5 l0_5.length l0_5) (hc0_5 : l0_5.length ≤ c0_5) (h : orielref12_filter.f k a0_0 a0_1 a0_2 a0_3 l0_4 l0_5 a1 = some r),
  Calls Try.prog 34 #[.agg #[.int .i64 a0_0, .string a0_1, .string a0_2, .string a0_3, .slice A0_4 l0_4.length c0_4, .slice A0_5 l0_5.length c0_5], .int .i64 a1] w fun e w' => e = .returned (.bool r) ∧ Below w.heap.size w w'

end Go.Proofs.Ytmbbjdkcanoklaa.X
