/- Printed by a program of this session (xprint) out of the kit's print, with functions proved by hand. -/
import Derived.Test.YtmbbjdkcanoklaaX0
import Derived.Test.YtmbbjdkcanoklaaX8
import Derived.Test.YtmbbjdkcanoklaaX9
namespace Go.Proofs.Ytmbbjdkcanoklaa.X
open Go.RowKit Go.Proofs.YtmbbjdkcanoklaaW.PrintWords Go.Proofs.YtmbbjdkcanoklaaW.PrintLast Go.Proofs.YtmbbjdkcanoklaaW.PrintMore Go.Proofs.YtmbbjdkcanoklaaW.XConv
attribute [local go_sem] max2_int min2_int max_two min_two max_three min_three max_four min_four   -- for this text's walks alone
set_option linter.unusedVariables false
set_option linter.unusedSimpArgs false

/-! ### orielref01_cut: function 63 -/
mutual
def orielref01_cut.j0 : Nat → ByteArray → Int → Int → Bool → Option (Bool)
 | 0, _, _, _, _ => none
 | k + 1, x0, x1, x5, x27 => if x27 = true then (some false) else (orielref01_cut.l0 k x0 x1 x5 (wrap64 (x5 + 1)))
def orielref01_cut.l0 : Nat → ByteArray → Int → Int → Int → Option (Bool)
 | 0, _, _, _, _ => none
 | k + 1, x0, x1, x5, x6 => if x6 ≤ 4 then (if 0 ≤ x1 then (if x1 ≤ (x0.size : Int) then (orielref01_cut.l1 k x0 x1 x5 x6 (x0.extract (x1 : Int).toNat x0.size) (x0.extract (x1 : Int).toNat x0.size) (x0.extract (x1 : Int).toNat x0.size)) else (none)) else (none)) else (some false)
def orielref01_cut.l1 : Nat → ByteArray → Int → Int → Int → ByteArray → ByteArray → ByteArray → Option (Bool)
 | 0, _, _, _, _, _, _, _ => none
 | k + 1, x0, x1, x5, x6, x7, x8, x9 => if (x8.size : Int) < x6 then (if x8.size + 1 ≤ 9223372036854775807 then (if x9.size + 1 ≤ 9223372036854775807 then (orielref01_cut.l1 k x0 x1 x5 x6 x7 (x8 ++ (⟨#[128]⟩ : ByteArray)) (x9 ++ (⟨#[191]⟩ : ByteArray))) else (none)) else (none)) else ((orielref01_value.f k x8 0 x6).bind fun t202 => ((orielref01_value.f k x9 0 x6).bind fun t203 => (orielref01_cut.l2 k x0 x1 x5 x6 x7 t202 t203 true 1)))
def orielref01_cut.l2 : Nat → ByteArray → Int → Int → Int → ByteArray → Int → Int → Bool → Int → Option (Bool)
 | 0, _, _, _, _, _, _, _, _, _ => none
 | k + 1, x0, x1, x5, x6, x7, x10, x11, x12, x13 => if x13 < x5 then (if x12 = true then (if 0 ≤ (wrap64 (x1 + x13)) then (if (wrap64 (x1 + x13)) < (x0.size : Int) then (if (bt x0 (wrap64 (x1 + x13))) ≥ 128 then (orielref01_cut.l2 k x0 x1 x5 x6 x7 x10 x11 (decide ((bt x0 (wrap64 (x1 + x13))) ≤ 191)) (wrap64 (x13 + 1))) else (orielref01_cut.l2 k x0 x1 x5 x6 x7 x10 x11 false (wrap64 (x13 + 1)))) else (none)) else (none)) else (orielref01_cut.l2 k x0 x1 x5 x6 x7 x10 x11 false (wrap64 (x13 + 1)))) else (if x6 = 2 then (if 0 ≤ x1 then (if x1 < (x0.size : Int) then (if (bt x0 x1) ≥ 192 then (if (bt x0 x1) < 224 then (orielref01_cut.j4 k x0 x1 x5 x6 x7 x10 x11 x12 true) else (if x6 = 3 then (if (bt x0 x1) ≥ 224 then (if (bt x0 x1) < 240 then (orielref01_cut.j4 k x0 x1 x5 x6 x7 x10 x11 x12 true) else (if x6 = 4 then (if (bt x0 x1) ≥ 240 then (orielref01_cut.j4 k x0 x1 x5 x6 x7 x10 x11 x12 (decide ((bt x0 x1) < 248))) else (orielref01_cut.j4 k x0 x1 x5 x6 x7 x10 x11 x12 false)) else (orielref01_cut.j4 k x0 x1 x5 x6 x7 x10 x11 x12 false))) else (if x6 = 4 then (if (bt x0 x1) ≥ 240 then (orielref01_cut.j4 k x0 x1 x5 x6 x7 x10 x11 x12 (decide ((bt x0 x1) < 248))) else (orielref01_cut.j4 k x0 x1 x5 x6 x7 x10 x11 x12 false)) else (orielref01_cut.j4 k x0 x1 x5 x6 x7 x10 x11 x12 false))) else (if x6 = 4 then (if (bt x0 x1) ≥ 240 then (orielref01_cut.j4 k x0 x1 x5 x6 x7 x10 x11 x12 (decide ((bt x0 x1) < 248))) else (orielref01_cut.j4 k x0 x1 x5 x6 x7 x10 x11 x12 false)) else (orielref01_cut.j4 k x0 x1 x5 x6 x7 x10 x11 x12 false)))) else (if x6 = 3 then (if (bt x0 x1) ≥ 224 then (if (bt x0 x1) < 240 then (orielref01_cut.j4 k x0 x1 x5 x6 x7 x10 x11 x12 true) else (if x6 = 4 then (if (bt x0 x1) ≥ 240 then (orielref01_cut.j4 k x0 x1 x5 x6 x7 x10 x11 x12 (decide ((bt x0 x1) < 248))) else (orielref01_cut.j4 k x0 x1 x5 x6 x7 x10 x11 x12 false)) else (orielref01_cut.j4 k x0 x1 x5 x6 x7 x10 x11 x12 false))) else (if x6 = 4 then (if (bt x0 x1) ≥ 240 then (orielref01_cut.j4 k x0 x1 x5 x6 x7 x10 x11 x12 (decide ((bt x0 x1) < 248))) else (orielref01_cut.j4 k x0 x1 x5 x6 x7 x10 x11 x12 false)) else (orielref01_cut.j4 k x0 x1 x5 x6 x7 x10 x11 x12 false))) else (if x6 = 4 then (if (bt x0 x1) ≥ 240 then (orielref01_cut.j4 k x0 x1 x5 x6 x7 x10 x11 x12 (decide ((bt x0 x1) < 248))) else (orielref01_cut.j4 k x0 x1 x5 x6 x7 x10 x11 x12 false)) else (orielref01_cut.j4 k x0 x1 x5 x6 x7 x10 x11 x12 false)))) else (none)) else (none)) else (if x6 = 3 then (if 0 ≤ x1 then (if x1 < (x0.size : Int) then (if (bt x0 x1) ≥ 224 then (if (bt x0 x1) < 240 then (orielref01_cut.j4 k x0 x1 x5 x6 x7 x10 x11 x12 true) else (if x6 = 4 then (if (bt x0 x1) ≥ 240 then (orielref01_cut.j4 k x0 x1 x5 x6 x7 x10 x11 x12 (decide ((bt x0 x1) < 248))) else (orielref01_cut.j4 k x0 x1 x5 x6 x7 x10 x11 x12 false)) else (orielref01_cut.j4 k x0 x1 x5 x6 x7 x10 x11 x12 false))) else (if x6 = 4 then (if (bt x0 x1) ≥ 240 then (orielref01_cut.j4 k x0 x1 x5 x6 x7 x10 x11 x12 (decide ((bt x0 x1) < 248))) else (orielref01_cut.j4 k x0 x1 x5 x6 x7 x10 x11 x12 false)) else (orielref01_cut.j4 k x0 x1 x5 x6 x7 x10 x11 x12 false))) else (none)) else (none)) else (if x6 = 4 then (if 0 ≤ x1 then (if x1 < (x0.size : Int) then (if (bt x0 x1) ≥ 240 then (orielref01_cut.j4 k x0 x1 x5 x6 x7 x10 x11 x12 (decide ((bt x0 x1) < 248))) else (orielref01_cut.j4 k x0 x1 x5 x6 x7 x10 x11 x12 false)) else (none)) else (none)) else (orielref01_cut.j4 k x0 x1 x5 x6 x7 x10 x11 x12 false))))
def orielref01_cut.j4 : Nat → ByteArray → Int → Int → Int → ByteArray → Int → Int → Bool → Bool → Option (Bool)
 | 0, _, _, _, _, _, _, _, _, _ => none
 | k + 1, x0, x1, x5, x6, x7, x10, x11, x12, x14 => if x12 = true then (orielref01_cut.j5 k x0 x1 x5 x6 x7 x10 x11 (!x14)) else (orielref01_cut.j5 k x0 x1 x5 x6 x7 x10 x11 true)
def orielref01_cut.j5 : Nat → ByteArray → Int → Int → Int → ByteArray → Int → Int → Bool → Option (Bool)
 | 0, _, _, _, _, _, _, _, _ => none
 | k + 1, x0, x1, x5, x6, x7, x10, x11, x126 => if x126 = true then (orielref01_cut.l0 k x0 x1 x5 (wrap64 (x6 + 1))) else (orielref01_cut.l3 k x0 x1 x5 x6 x7 x10 x11 0)
def orielref01_cut.l3 : Nat → ByteArray → Int → Int → Int → ByteArray → Int → Int → Int → Option (Bool)
 | 0, _, _, _, _, _, _, _, _ => none
 | k + 1, x0, x1, x5, x6, x7, x10, x11, x15 => if x15 < 64 then (if x15 = 63 then (orielref01_cut.j7 k x0 x1 x5 x6 x7 x10 x11 x15 x11) else (orielref01_cut.j7 k x0 x1 x5 x6 x7 x10 x11 x15 (wrap64 (x10 + (wrap64 ((wrap64 (Int.tdiv (wrap64 (x11 - x10)) 63)) * x15)))))) else (orielref01_cut.l0 k x0 x1 x5 (wrap64 (x6 + 1)))
def orielref01_cut.j7 : Nat → ByteArray → Int → Int → Int → ByteArray → Int → Int → Int → Int → Option (Bool)
 | 0, _, _, _, _, _, _, _, _, _ => none
 | k + 1, x0, x1, x5, x6, x7, x10, x11, x15, x16 => (orielref01_Put.f k x16).bind fun t204 => (if (t204.length : Int) = x6 then (if (strOfNums t204).size + 1 ≤ 9223372036854775807 then ((convBytes.f x7).bind fun t207 => ((orielref01_begins.f k ((strOfNums t204) ++ (⟨#[120]⟩ : ByteArray)) 0 t207).bind fun t210 => (if t210 = true then (some true) else (orielref01_cut.l3 k x0 x1 x5 x6 x7 x10 x11 (wrap64 (x15 + 1)))))) else (none)) else (orielref01_cut.l3 k x0 x1 x5 x6 x7 x10 x11 (wrap64 (x15 + 1))))
end
def orielref01_cut.f (k : Nat) (a0 : ByteArray) (a1 : Int) : Option (Bool) := if (wrap64 ((a0.size : Int) - a1)) < 1 then (orielref01_cut.j0 k a0 a1 (wrap64 ((a0.size : Int) - a1)) true) else (orielref01_cut.j0 k a0 a1 (wrap64 ((a0.size : Int) - a1)) (decide ((wrap64 ((a0.size : Int) - a1)) > 3)))
theorem orielref01_cut.mono_l : ∀ k, (∀ y0 y1 y2 y3, LeO (orielref01_cut.j0 k y0 y1 y2 y3) (orielref01_cut.j0 (k + 1) y0 y1 y2 y3)) ∧ (∀ y0 y1 y2 y3, LeO (orielref01_cut.l0 k y0 y1 y2 y3) (orielref01_cut.l0 (k + 1) y0 y1 y2 y3)) ∧ (∀ y0 y1 y2 y3 y4 y5 y6, LeO (orielref01_cut.l1 k y0 y1 y2 y3 y4 y5 y6) (orielref01_cut.l1 (k + 1) y0 y1 y2 y3 y4 y5 y6)) ∧ (∀ y0 y1 y2 y3 y4 y5 y6 y7 y8, LeO (orielref01_cut.l2 k y0 y1 y2 y3 y4 y5 y6 y7 y8) (orielref01_cut.l2 (k + 1) y0 y1 y2 y3 y4 y5 y6 y7 y8)) ∧ (∀ y0 y1 y2 y3 y4 y5 y6 y7 y8, LeO (orielref01_cut.j4 k y0 y1 y2 y3 y4 y5 y6 y7 y8) (orielref01_cut.j4 (k + 1) y0 y1 y2 y3 y4 y5 y6 y7 y8)) ∧ (∀ y0 y1 y2 y3 y4 y5 y6 y7, LeO (orielref01_cut.j5 k y0 y1 y2 y3 y4 y5 y6 y7) (orielref01_cut.j5 (k + 1) y0 y1 y2 y3 y4 y5 y6 y7)) ∧ (∀ y0 y1 y2 y3 y4 y5 y6 y7, LeO (orielref01_cut.l3 k y0 y1 y2 y3 y4 y5 y6 y7) (orielref01_cut.l3 (k + 1) y0 y1 y2 y3 y4 y5 y6 y7)) ∧ (∀ y0 y1 y2 y3 y4 y5 y6 y7 y8, LeO (orielref01_cut.j7 k y0 y1 y2 y3 y4 y5 y6 y7 y8) (orielref01_cut.j7 (k + 1) y0 y1 y2 y3 y4 y5 y6 y7 y8))
 | 0 => ⟨fun _ _ _ _ r h => by simp [orielref01_cut.j0] at h, fun _ _ _ _ r h => by simp [orielref01_cut.l0] at h, fun _ _ _ _ _ _ _ r h => by simp [orielref01_cut.l1] at h, fun _ _ _ _ _ _ _ _ _ r h => by simp [orielref01_cut.l2] at h, fun _ _ _ _ _ _ _ _ _ r h => by simp [orielref01_cut.j4] at h, fun _ _ _ _ _ _ _ _ r h => by simp [orielref01_cut.j5] at h, fun _ _ _ _ _ _ _ _ r h => by simp [orielref01_cut.l3] at h, fun _ _ _ _ _ _ _ _ _ r h => by simp [orielref01_cut.j7] at h⟩
 | k + 1 => by
  obtain ⟨ih0, ih1, ih2, ih3, ih4, ih5, ih6, ih7⟩ := orielref01_cut.mono_l k
  refine ⟨?_, ?_, ?_, ?_, ?_, ?_, ?_, ?_⟩
  ·
   intro y0 y1 y2 y3
   unfold orielref01_cut.j0
   repeat' first
   | (with_reducible exact ih0 _ _ _ _)
   | (with_reducible exact ih1 _ _ _ _)
   | (with_reducible exact ih2 _ _ _ _ _ _ _)
   | (with_reducible exact ih3 _ _ _ _ _ _ _ _ _)
   | (with_reducible exact ih4 _ _ _ _ _ _ _ _ _)
   | (with_reducible exact ih5 _ _ _ _ _ _ _ _)
   | (with_reducible exact ih6 _ _ _ _ _ _ _ _)
   | (with_reducible exact ih7 _ _ _ _ _ _ _ _ _)
   | (with_reducible exact orielref01_Put.mono _ _)
   | (with_reducible exact orielref01_begins.mono _ _ _ _)
   | (with_reducible exact orielref01_value.mono _ _ _ _)
   | (with_reducible exact LeO.refl _)
   | (with_reducible exact LeO.none _)
   | (with_reducible refine LeO.ite ?_ ?_)
   | (with_reducible refine LeO.bind ?_ (fun _ => ?_))
   | exact ih0 _ _ _ _
   | exact ih1 _ _ _ _
   | exact ih2 _ _ _ _ _ _ _
   | exact ih3 _ _ _ _ _ _ _ _ _
   | exact ih4 _ _ _ _ _ _ _ _ _
   | exact ih5 _ _ _ _ _ _ _ _
   | exact ih6 _ _ _ _ _ _ _ _
   | exact ih7 _ _ _ _ _ _ _ _ _
   | exact orielref01_Put.mono _ _
   | exact orielref01_begins.mono _ _ _ _
   | exact orielref01_value.mono _ _ _ _
   | exact LeO.none _
   | refine LeO.ite ?_ ?_
   | refine LeO.bind ?_ (fun _ => ?_)
  ·
   intro y0 y1 y2 y3
   unfold orielref01_cut.l0
   repeat' first
   | (with_reducible exact ih0 _ _ _ _)
   | (with_reducible exact ih1 _ _ _ _)
   | (with_reducible exact ih2 _ _ _ _ _ _ _)
   | (with_reducible exact ih3 _ _ _ _ _ _ _ _ _)
   | (with_reducible exact ih4 _ _ _ _ _ _ _ _ _)
   | (with_reducible exact ih5 _ _ _ _ _ _ _ _)
   | (with_reducible exact ih6 _ _ _ _ _ _ _ _)
   | (with_reducible exact ih7 _ _ _ _ _ _ _ _ _)
   | (with_reducible exact orielref01_Put.mono _ _)
   | (with_reducible exact orielref01_begins.mono _ _ _ _)
   | (with_reducible exact orielref01_value.mono _ _ _ _)
   | (with_reducible exact LeO.refl _)
   | (with_reducible exact LeO.none _)
   | (with_reducible refine LeO.ite ?_ ?_)
   | (with_reducible refine LeO.bind ?_ (fun _ => ?_))
   | exact ih0 _ _ _ _
   | exact ih1 _ _ _ _
   | exact ih2 _ _ _ _ _ _ _
   | exact ih3 _ _ _ _ _ _ _ _ _
   | exact ih4 _ _ _ _ _ _ _ _ _
   | exact ih5 _ _ _ _ _ _ _ _
   | exact ih6 _ _ _ _ _ _ _ _
   | exact ih7 _ _ _ _ _ _ _ _ _
   | exact orielref01_Put.mono _ _
   | exact orielref01_begins.mono _ _ _ _
   | exact orielref01_value.mono _ _ _ _
   | exact LeO.none _
   | refine LeO.ite ?_ ?_
   | refine LeO.bind ?_ (fun _ => ?_)
  ·
   intro y0 y1 y2 y3 y4 y5 y6
   unfold orielref01_cut.l1
   repeat' first
   | (with_reducible exact ih0 _ _ _ _)
   | (with_reducible exact ih1 _ _ _ _)
   | (with_reducible exact ih2 _ _ _ _ _ _ _)
   | (with_reducible exact ih3 _ _ _ _ _ _ _ _ _)
   | (with_reducible exact ih4 _ _ _ _ _ _ _ _ _)
   | (with_reducible exact ih5 _ _ _ _ _ _ _ _)
   | (with_reducible exact ih6 _ _ _ _ _ _ _ _)
   | (with_reducible exact ih7 _ _ _ _ _ _ _ _ _)
   | (with_reducible exact orielref01_Put.mono _ _)
   | (with_reducible exact orielref01_begins.mono _ _ _ _)
   | (with_reducible exact orielref01_value.mono _ _ _ _)
   | (with_reducible exact LeO.refl _)
   | (with_reducible exact LeO.none _)
   | (with_reducible refine LeO.ite ?_ ?_)
   | (with_reducible refine LeO.bind ?_ (fun _ => ?_))
   | exact ih0 _ _ _ _
   | exact ih1 _ _ _ _
   | exact ih2 _ _ _ _ _ _ _
   | exact ih3 _ _ _ _ _ _ _ _ _
   | exact ih4 _ _ _ _ _ _ _ _ _
   | exact ih5 _ _ _ _ _ _ _ _
   | exact ih6 _ _ _ _ _ _ _ _
   | exact ih7 _ _ _ _ _ _ _ _ _
   | exact orielref01_Put.mono _ _
   | exact orielref01_begins.mono _ _ _ _
   | exact orielref01_value.mono _ _ _ _
   | exact LeO.none _
   | refine LeO.ite ?_ ?_
   | refine LeO.bind ?_ (fun _ => ?_)
  ·
   intro y0 y1 y2 y3 y4 y5 y6 y7 y8
   unfold orielref01_cut.l2
   repeat' first
   | (with_reducible exact ih0 _ _ _ _)
   | (with_reducible exact ih1 _ _ _ _)
   | (with_reducible exact ih2 _ _ _ _ _ _ _)
   | (with_reducible exact ih3 _ _ _ _ _ _ _ _ _)
   | (with_reducible exact ih4 _ _ _ _ _ _ _ _ _)
   | (with_reducible exact ih5 _ _ _ _ _ _ _ _)
   | (with_reducible exact ih6 _ _ _ _ _ _ _ _)
   | (with_reducible exact ih7 _ _ _ _ _ _ _ _ _)
   | (with_reducible exact orielref01_Put.mono _ _)
   | (with_reducible exact orielref01_begins.mono _ _ _ _)
   | (with_reducible exact orielref01_value.mono _ _ _ _)
   | (with_reducible exact LeO.refl _)
   | (with_reducible exact LeO.none _)
   | (with_reducible refine LeO.ite ?_ ?_)
   | (with_reducible refine LeO.bind ?_ (fun _ => ?_))
   | exact ih0 _ _ _ _
   | exact ih1 _ _ _ _
   | exact ih2 _ _ _ _ _ _ _
   | exact ih3 _ _ _ _ _ _ _ _ _
   | exact ih4 _ _ _ _ _ _ _ _ _
   | exact ih5 _ _ _ _ _ _ _ _
   | exact ih6 _ _ _ _ _ _ _ _
   | exact ih7 _ _ _ _ _ _ _ _ _
   | exact orielref01_Put.mono _ _
   | exact orielref01_begins.mono _ _ _ _
   | exact orielref01_value.mono _ _ _ _
   | exact LeO.none _
   | refine LeO.ite ?_ ?_
   | refine LeO.bind ?_ (fun _ => ?_)
  ·
   intro y0 y1 y2 y3 y4 y5 y6 y7 y8
   unfold orielref01_cut.j4
   repeat' first
   | (with_reducible exact ih0 _ _ _ _)
   | (with_reducible exact ih1 _ _ _ _)
   | (with_reducible exact ih2 _ _ _ _ _ _ _)
   | (with_reducible exact ih3 _ _ _ _ _ _ _ _ _)
   | (with_reducible exact ih4 _ _ _ _ _ _ _ _ _)
   | (with_reducible exact ih5 _ _ _ _ _ _ _ _)
   | (with_reducible exact ih6 _ _ _ _ _ _ _ _)
   | (with_reducible exact ih7 _ _ _ _ _ _ _ _ _)
   | (with_reducible exact orielref01_Put.mono _ _)
   | (with_reducible exact orielref01_begins.mono _ _ _ _)
   | (with_reducible exact orielref01_value.mono _ _ _ _)
   | (with_reducible exact LeO.refl _)
   | (with_reducible exact LeO.none _)
   | (with_reducible refine LeO.ite ?_ ?_)
   | (with_reducible refine LeO.bind ?_ (fun _ => ?_))
   | exact ih0 _ _ _ _
   | exact ih1 _ _ _ _
   | exact ih2 _ _ _ _ _ _ _
   | exact ih3 _ _ _ _ _ _ _ _ _
   | exact ih4 _ _ _ _ _ _ _ _ _
   | exact ih5 _ _ _ _ _ _ _ _
   | exact ih6 _ _ _ _ _ _ _ _
   | exact ih7 _ _ _ _ _ _ _ _ _
   | exact orielref01_Put.mono _ _
   | exact orielref01_begins.mono _ _ _ _
   | exact orielref01_value.mono _ _ _ _
   | exact LeO.none _
   | refine LeO.ite ?_ ?_
   | refine LeO.bind ?_ (fun _ => ?_)
  ·
   intro y0 y1 y2 y3 y4 y5 y6 y7
   unfold orielref01_cut.j5
   repeat' first
   | (with_reducible exact ih0 _ _ _ _)
   | (with_reducible exact ih1 _ _ _ _)
   | (with_reducible exact ih2 _ _ _ _ _ _ _)
   | (with_reducible exact ih3 _ _ _ _ _ _ _ _ _)
   | (with_reducible exact ih4 _ _ _ _ _ _ _ _ _)
   | (with_reducible exact ih5 _ _ _ _ _ _ _ _)
   | (with_reducible exact ih6 _ _ _ _ _ _ _ _)
   | (with_reducible exact ih7 _ _ _ _ _ _ _ _ _)
   | (with_reducible exact orielref01_Put.mono _ _)
   | (with_reducible exact orielref01_begins.mono _ _ _ _)
   | (with_reducible exact orielref01_value.mono _ _ _ _)
   | (with_reducible exact LeO.refl _)
   | (with_reducible exact LeO.none _)
   | (with_reducible refine LeO.ite ?_ ?_)
   | (with_reducible refine LeO.bind ?_ (fun _ => ?_))
   | exact ih0 _ _ _ _
   | exact ih1 _ _ _ _
   | exact ih2 _ _ _ _ _ _ _
   | exact ih3 _ _ _ _ _ _ _ _ _
   | exact ih4 _ _ _ _ _ _ _ _ _
   | exact ih5 _ _ _ _ _ _ _ _
   | exact ih6 _ _ _ _ _ _ _ _
   | exact ih7 _ _ _ _ _ _ _ _ _
   | exact orielref01_Put.mono _ _
   | exact orielref01_begins.mono _ _ _ _
   | exact orielref01_value.mono _ _ _ _
   | exact LeO.none _
   | refine LeO.ite ?_ ?_
   | refine LeO.bind ?_ (fun _ => ?_)
  ·
   intro y0 y1 y2 y3 y4 y5 y6 y7
   unfold orielref01_cut.l3
   repeat' first
   | (with_reducible exact ih0 _ _ _ _)
   | (with_reducible exact ih1 _ _ _ _)
   | (with_reducible exact ih2 _ _ _ _ _ _ _)
   | (with_reducible exact ih3 _ _ _ _ _ _ _ _ _)
   | (with_reducible exact ih4 _ _ _ _ _ _ _ _ _)
   | (with_reducible exact ih5 _ _ _ _ _ _ _ _)
   | (with_reducible exact ih6 _ _ _ _ _ _ _ _)
   | (with_reducible exact ih7 _ _ _ _ _ _ _ _ _)
   | (with_reducible exact orielref01_Put.mono _ _)
   | (with_reducible exact orielref01_begins.mono _ _ _ _)
   | (with_reducible exact orielref01_value.mono _ _ _ _)
   | (with_reducible exact LeO.refl _)
   | (with_reducible exact LeO.none _)
   | (with_reducible refine LeO.ite ?_ ?_)
   | (with_reducible refine LeO.bind ?_ (fun _ => ?_))
   | exact ih0 _ _ _ _
   | exact ih1 _ _ _ _
   | exact ih2 _ _ _ _ _ _ _
   | exact ih3 _ _ _ _ _ _ _ _ _
   | exact ih4 _ _ _ _ _ _ _ _ _
   | exact ih5 _ _ _ _ _ _ _ _
   | exact ih6 _ _ _ _ _ _ _ _
   | exact ih7 _ _ _ _ _ _ _ _ _
   | exact orielref01_Put.mono _ _
   | exact orielref01_begins.mono _ _ _ _
   | exact orielref01_value.mono _ _ _ _
   | exact LeO.none _
   | refine LeO.ite ?_ ?_
   | refine LeO.bind ?_ (fun _ => ?_)
  ·
   intro y0 y1 y2 y3 y4 y5 y6 y7 y8
   unfold orielref01_cut.j7
   repeat' first
   | (with_reducible exact ih0 _ _ _ _)
   | (with_reducible exact ih1 _ _ _ _)
   | (with_reducible exact ih2 _ _ _ _ _ _ _)
   | (with_reducible exact ih3 _ _ _ _ _ _ _ _ _)
   | (with_reducible exact ih4 _ _ _ _ _ _ _ _ _)
   | (with_reducible exact ih5 _ _ _ _ _ _ _ _)
   | (with_reducible exact ih6 _ _ _ _ _ _ _ _)
   | (with_reducible exact ih7 _ _ _ _ _ _ _ _ _)
   | (with_reducible exact orielref01_Put.mono _ _)
   | (with_reducible exact orielref01_begins.mono _ _ _ _)
   | (with_reducible exact orielref01_value.mono _ _ _ _)
   | (with_reducible exact LeO.refl _)
   | (with_reducible exact LeO.none _)
   | (with_reducible refine LeO.ite ?_ ?_)
   | (with_reducible refine LeO.bind ?_ (fun _ => ?_))
   | exact ih0 _ _ _ _
   | exact ih1 _ _ _ _
   | exact ih2 _ _ _ _ _ _ _
   | exact ih3 _ _ _ _ _ _ _ _ _
   | exact ih4 _ _ _ _ _ _ _ _ _
   | exact ih5 _ _ _ _ _ _ _ _
   | exact ih6 _ _ _ _ _ _ _ _
   | exact ih7 _ _ _ _ _ _ _ _ _
   | exact orielref01_Put.mono _ _
   | exact orielref01_begins.mono _ _ _ _
   | exact orielref01_value.mono _ _ _ _
   | exact LeO.none _
   | refine LeO.ite ?_ ?_
   | refine LeO.bind ?_ (fun _ => ?_)
theorem orielref01_cut.mono : ∀ a0 a1 k, LeO (orielref01_cut.f k a0 a1) (orielref01_cut.f (k + 1) a0 a1) := by
 intro a0 a1 k; obtain ⟨ih0, ih1, ih2, ih3, ih4, ih5, ih6, ih7⟩ := orielref01_cut.mono_l k
 unfold orielref01_cut.f
 repeat' first
  | (with_reducible exact ih0 _ _ _ _)
  | (with_reducible exact ih1 _ _ _ _)
  | (with_reducible exact ih2 _ _ _ _ _ _ _)
  | (with_reducible exact ih3 _ _ _ _ _ _ _ _ _)
  | (with_reducible exact ih4 _ _ _ _ _ _ _ _ _)
  | (with_reducible exact ih5 _ _ _ _ _ _ _ _)
  | (with_reducible exact ih6 _ _ _ _ _ _ _ _)
  | (with_reducible exact ih7 _ _ _ _ _ _ _ _ _)
  | (with_reducible exact orielref01_Put.mono _ _)
  | (with_reducible exact orielref01_begins.mono _ _ _ _)
  | (with_reducible exact orielref01_value.mono _ _ _ _)
  | (with_reducible exact LeO.refl _)
  | (with_reducible exact LeO.none _)
  | (with_reducible refine LeO.ite ?_ ?_)
  | (with_reducible refine LeO.bind ?_ (fun _ => ?_))
  | exact ih0 _ _ _ _
  | exact ih1 _ _ _ _
  | exact ih2 _ _ _ _ _ _ _
  | exact ih3 _ _ _ _ _ _ _ _ _
  | exact ih4 _ _ _ _ _ _ _ _ _
  | exact ih5 _ _ _ _ _ _ _ _
  | exact ih6 _ _ _ _ _ _ _ _
  | exact ih7 _ _ _ _ _ _ _ _ _
  | exact orielref01_Put.mono _ _
  | exact orielref01_begins.mono _ _ _ _
  | exact orielref01_value.mono _ _ _ _
  | exact LeO.none _
  | refine LeO.ite ?_ ?_
  | refine LeO.bind ?_ (fun _ => ?_)
set_option maxHeartbeats 8000000 in
set_option maxRecDepth 100000 in
theorem orielref01_cut.calls (k : Nat) (a0 : ByteArray) (a1 : Int) (r : Bool) (w : World) (h : orielref01_cut.f k a0 a1 = some r) :
  Calls Try.prog 63 #[.string a0, .int .i64 a1] w fun e w' => e = .returned (.bool r) ∧ Below w.heap.size w w' := by
 have HB := Aside0.mk (Below.refl w.heap.size w); have H : (if (wrap64 ((a0.size : Int) - a1)) < 1 then (orielref01_cut.j0 k a0 a1 (wrap64 ((a0.size : Int) - a1)) true) else (orielref01_cut.j0 k a0 a1 (wrap64 ((a0.size : Int) - a1)) (decide ((wrap64 ((a0.size : Int) - a1)) > 3)))) = some r := h; clear h; have HC3 := Aside0.mk H; clear H
 go_enter Try.func63, Try.ntmps63
 go_upto_region 2 with (fail)
 go_cut [27] (fun v27 wc => ∃ (kq : Nat) (x27_2 : Bool), v27 = .bool x27_2 ∧ Aside0 (orielref01_cut.j0 kq a0 a1 (wrap64 ((a0.size : Int) - a1)) x27_2 = some r) ∧ Aside0 (kq ≤ k) ∧ Aside0 (Below w.heap.size w wc))
 case first => as_aux_lemma =>
  have H := HC3.out; clear HC3
  by_cases c4 : (wrap64 ((a0.size : Int) - a1)) < 1
  ·
   rw [if_pos c4] at H; have c4b0 : decide ((wrap64 ((a0.size : Int) - a1)) < 1) = true := decide_eq_true c4; clear c4; (first | rw [c4b0] | (simp only [i64_w, i32_w]; rw [c4b0]) | skip); have H' := Aside0.mk H; clear H
   go_wp2
   go_meet
   case rel => exact ⟨_, (true), (by first | rfl | (simp; done) | (simp [*]; done)), H', ⟨by first | omega | exact Nat.le_refl _⟩, ⟨be0_ HB⟩⟩
  rw [if_neg c4] at H; have c4b0 : decide ((wrap64 ((a0.size : Int) - a1)) < 1) = false := decide_eq_false c4; clear c4; (first | rw [c4b0] | (simp only [i64_w, i32_w]; rw [c4b0]) | skip); have H' := Aside0.mk H; clear H
  go_wp2
  go_meet
  case rel => exact ⟨_, (decide ((wrap64 ((a0.size : Int) - a1)) > 3)), (by first | rfl | (simp; done) | (simp [*]; done)), H', ⟨by first | omega | exact Nat.le_refl _⟩, ⟨be0_ HB⟩⟩
 case rest => as_aux_lemma =>
  clear HC3; (try clear p2); (try clear c4); (try clear c4b0); obtain ⟨kq, x27_2, rfl, HA, HJ2, HB⟩ := hcut
  cases kq with
  | zero => exact absurd HA.out (by simp [orielref01_cut.j0])
  | succ kj2 =>
   have H := HA.out; clear HA; simp only [orielref01_cut.j0] at H
   by_cases c5 : x27_2 = true
   ·
    subst c5; have H1 : (some false) = some r := by rw [if_pos rfl] at H; exact H
    clear H; have H := H1; clear H1; obtain rfl := Option.some.inj H
    go_wp2
    go_ret
    exact ⟨by first | rfl | exact congrArg (fun b => Ending.returned (Value.bool b)) (isE_ne _).symm | exact congrArg (fun b => Ending.returned (Value.bool b)) (isE_eq _).symm | (simp only [isE_ne, isE_eq, Bool.not_not]; done) | (simp [errW_none, errW_some] <;> rfl) | (simp [*, errW_none, errW_some] <;> rfl), be0_ HB⟩
   replace c5 := Bool.eq_false_iff.mpr c5; subst c5; have H1 : (orielref01_cut.l0 kj2 a0 a1 (wrap64 ((a0.size : Int) - a1)) (wrap64 ((wrap64 ((a0.size : Int) - a1)) + 1))) = some r := by rw [if_neg (show ¬ (false = true) by decide)] at H; exact H
   clear H; have H := H1; clear H1; have H' := Aside0.mk H; clear H
   go_wp2
   go_loopg [6] kj2 (fun kq v6 w' => ∃ (x6_2 : Int), v6 = .int .i64 x6_2 ∧ Aside0 (orielref01_cut.l0 kq a0 a1 (wrap64 ((a0.size : Int) - a1)) x6_2 = some r) ∧ Aside0 (kq ≤ kj2) ∧ Aside0 (Below w.heap.size w w'))
   case atStart => exact ⟨(wrap64 ((wrap64 ((a0.size : Int) - a1)) + 1)), (by first | rfl | (simp; done) | (simp [*]; done)), H', ⟨Nat.le_refl _⟩, ⟨be0_ HB⟩⟩
   case round => as_aux_lemma =>
    clear H'; (try clear p2); (try clear c4); (try clear c4b0); (try clear c5); (try clear p2); obtain ⟨x6_2, rfl, HA, HK2, HB⟩ := hrel
    cases gk with
    | zero => exact absurd HA.out (by simp [orielref01_cut.l0])
    | succ k2 =>
     have H := HA.out; clear HA; simp only [orielref01_cut.l0] at H
     by_cases c6 : x6_2 ≤ 4
     rotate_left
     ·
      rw [if_neg c6] at H; have c6b0 : decide (x6_2 ≤ 4) = false := decide_eq_false c6; clear c6; obtain rfl := Option.some.inj H
      go_wp2
      go_ret
      exact ⟨by first | rfl | exact congrArg (fun b => Ending.returned (Value.bool b)) (isE_ne _).symm | exact congrArg (fun b => Ending.returned (Value.bool b)) (isE_eq _).symm | (simp only [isE_ne, isE_eq, Bool.not_not]; done) | (simp [errW_none, errW_some] <;> rfl) | (simp [*, errW_none, errW_some] <;> rfl), be0_ HB⟩
     rw [if_pos c6] at H; have c6b0 : decide (x6_2 ≤ 4) = true := decide_eq_true c6; clear c6
     by_cases c7 : 0 ≤ a1
     rotate_left
     ·
      rw [if_neg c7] at H; exact absurd H (by simp)
     rw [if_pos c7] at H; have c7b0 := eq_true c7; have c7b1 : decide (0 ≤ a1) = true := decide_eq_true c7; clear c7
     by_cases c8 : a1 ≤ (a0.size : Int)
     rotate_left
     ·
      rw [if_neg c8] at H; exact absurd H (by simp)
     rw [if_pos c8] at H; have c8b0 := eq_true c8; have c8b1 : decide (a1 ≤ (a0.size : Int)) = true := decide_eq_true c8; clear c8; have H' := Aside0.mk H; clear H
     go_wp2
     go_loopg [8, 9] k2 (fun kq v8 v9 w' => ∃ (x8_3 : ByteArray) (x9_3 : ByteArray), v8 = .string x8_3 ∧ v9 = .string x9_3 ∧ Aside0 (orielref01_cut.l1 kq a0 a1 (wrap64 ((a0.size : Int) - a1)) x6_2 (a0.extract (a1 : Int).toNat a0.size) x8_3 x9_3 = some r) ∧ Aside0 (kq ≤ k2) ∧ Aside0 (Below w.heap.size w w'))
     case atStart => exact ⟨(a0.extract (a1 : Int).toNat a0.size), (a0.extract (a1 : Int).toNat a0.size), (by first | rfl | (simp; done) | (simp [*]; done)), (by first | rfl | (simp; done) | (simp [*]; done)), H', ⟨Nat.le_refl _⟩, ⟨be0_ HB⟩⟩
     case round => as_aux_lemma =>
      clear H'; (try clear p2); (try clear c4); (try clear c4b0); (try clear c5); (try clear c6); (try clear c6b0); (try clear p6); (try clear c7); (try clear c7b0); (try clear c7b1); (try clear c8); (try clear c8b0); (try clear c8b1); (try clear p2); obtain ⟨x8_3, x9_3, rfl, rfl, HA, HK3, HB⟩ := hrel
      cases gk with
      | zero => exact absurd HA.out (by simp [orielref01_cut.l1])
      | succ k3 =>
       have H := HA.out; clear HA; simp only [orielref01_cut.l1] at H
       by_cases c9 : (x8_3.size : Int) < x6_2
       ·
        rw [if_pos c9] at H; have c9b0 : decide ((x8_3.size : Int) < x6_2) = true := decide_eq_true c9; clear c9
        by_cases c10 : x8_3.size + 1 ≤ 9223372036854775807
        rotate_left
        ·
         rw [if_neg c10] at H; exact absurd H (by simp)
        rw [if_pos c10] at H; have c10b0 := eq_true c10; have c10b1 : decide (x8_3.size + 1 ≤ 9223372036854775807) = true := decide_eq_true c10
        try have c10b2 : (9223372036854775807 < x8_3.size + 1) = False := eq_false (Nat.not_lt.2 c10)
        by_cases c11 : x9_3.size + 1 ≤ 9223372036854775807
        rotate_left
        ·
         rw [if_neg c11] at H; exact absurd H (by simp)
        rw [if_pos c11] at H; have c11b0 := eq_true c11; have c11b1 : decide (x9_3.size + 1 ≤ 9223372036854775807) = true := decide_eq_true c11
        try have c11b2 : (9223372036854775807 < x9_3.size + 1) = False := eq_false (Nat.not_lt.2 c11)
        have H' := Aside0.mk H; clear H
        go_wp2
        go_roundg k3
        case measure => have := HJ2.out; have := HK2.out; have := HK3.out; omega
        case rel => exact ⟨(x8_3 ++ (⟨#[128]⟩ : ByteArray)), (x9_3 ++ (⟨#[191]⟩ : ByteArray)), (by first | rfl | (simp; done) | (simp [*]; done)), (by first | rfl | (simp; done) | (simp [*]; done)), H', ⟨by have := HJ2.out; have := HK2.out; have := HK3.out; omega⟩, ⟨be0_ HB⟩⟩
       rw [if_neg c9] at H; have c9b0 : decide ((x8_3.size : Int) < x6_2) = false := decide_eq_false c9; clear c9; replace H := Option.bind_eq_some_iff.mp H; obtain ⟨t202, A120, H⟩ := H; replace H : ((orielref01_value.f k3 x9_3 0 x6_2).bind fun t203 => (orielref01_cut.l2 k3 a0 a1 (wrap64 ((a0.size : Int) - a1)) x6_2 (a0.extract (a1 : Int).toNat a0.size) t202 t203 true 1)) = some r := H; have A12 := Aside0.mk A120; clear A120; replace H := Option.bind_eq_some_iff.mp H; obtain ⟨t203, A130, H⟩ := H; replace H : (orielref01_cut.l2 k3 a0 a1 (wrap64 ((a0.size : Int) - a1)) x6_2 (a0.extract (a1 : Int).toNat a0.size) t202 t203 true 1) = some r := H; have A13 := Aside0.mk A130; clear A130; have H' := Aside0.mk H; clear H
       go_wp2_with (first | ((with_reducible refine gate_callee (f := 60) rfl ?_); refine goesL_ (some 49) rfl rfl Try.func60 (by kernel_rfl) rfl #[.string x8_3, .int .i64 0, .int .i64 x6_2] rfl (by (try simp only [List.map_toArray, List.map_cons, List.map_nil]); first | done | rfl | (simp only [List.length_drop, List.length_take]; rfl)) ?_; (with_reducible refine (orielref01_value.calls k3 x8_3 0 x6_2 t202 _ A12.out).mono ?_); rintro e w' ⟨rfl, ⟨nd, rfl⟩⟩; refine ⟨_, rfl, ?_⟩) | ((with_reducible refine gate_callee (f := 60) rfl ?_); refine goesL_ (some 52) rfl rfl Try.func60 (by kernel_rfl) rfl #[.string x9_3, .int .i64 0, .int .i64 x6_2] rfl (by (try simp only [List.map_toArray, List.map_cons, List.map_nil]); first | done | rfl | (simp only [List.length_drop, List.length_take]; rfl)) ?_; (with_reducible refine (orielref01_value.calls k3 x9_3 0 x6_2 t203 _ A13.out).mono ?_); rintro e w' ⟨rfl, ⟨nd, rfl⟩⟩; refine ⟨_, rfl, ?_⟩))
       go_loopg [12, 13] k3 (fun kq v12 v13 w' => ∃ (x12_4 : Bool) (x13_4 : Int), v12 = .bool x12_4 ∧ v13 = .int .i64 x13_4 ∧ Aside0 (orielref01_cut.l2 kq a0 a1 (wrap64 ((a0.size : Int) - a1)) x6_2 (a0.extract (a1 : Int).toNat a0.size) t202 t203 x12_4 x13_4 = some r) ∧ Aside0 (kq ≤ k3) ∧ Aside0 (Below w.heap.size w w'))
       case atStart => exact ⟨(true), (1), (by first | rfl | (simp; done) | (simp [*]; done)), (by first | rfl | (simp; done) | (simp [*]; done)), H', ⟨Nat.le_refl _⟩, ⟨be0_ HB⟩⟩
       case round => as_aux_lemma =>
        clear H'; (try clear c1); (try clear p2); (try clear c4); (try clear c4b0); (try clear c5); (try clear c6); (try clear c6b0); (try clear p6); (try clear c7); (try clear c7b0); (try clear c7b1); (try clear c8); (try clear c8b0); (try clear c8b1); (try clear c9); (try clear c9b0); (try clear c10); (try clear c10b0); (try clear c10b1); (try clear c10b2); (try clear c11); (try clear c11b0); (try clear c11b1); (try clear c11b2); (try clear p2); (try clear p6); obtain ⟨x12_4, x13_4, rfl, rfl, HA, HK4, HB⟩ := hrel
        cases gk with
        | zero => exact absurd HA.out (by simp [orielref01_cut.l2])
        | succ k4 =>
         have H := HA.out; clear HA; simp only [orielref01_cut.l2] at H
         by_cases c14 : x13_4 < (wrap64 ((a0.size : Int) - a1))
         ·
          rw [if_pos c14] at H; have c14b0 : decide (x13_4 < (wrap64 ((a0.size : Int) - a1))) = true := decide_eq_true c14; clear c14
          by_cases c15 : x12_4 = true
          rotate_left
          ·
           replace c15 := Bool.eq_false_iff.mpr c15; subst c15; have H1 : (orielref01_cut.l2 k4 a0 a1 (wrap64 ((a0.size : Int) - a1)) x6_2 (a0.extract (a1 : Int).toNat a0.size) t202 t203 false (wrap64 (x13_4 + 1))) = some r := by rw [if_neg (show ¬ (false = true) by decide)] at H; exact H
           clear H; have H := H1; clear H1; have H' := Aside0.mk H; clear H
           go_wp2
           go_roundg k4
           case measure => have := HJ2.out; have := HK2.out; have := HK3.out; have := HK4.out; omega
           case rel => exact ⟨(false), (wrap64 (x13_4 + 1)), (by first | rfl | (simp; done) | (simp [*]; done)), (by first | rfl | (simp; done) | (simp [*]; done)), H', ⟨by have := HJ2.out; have := HK2.out; have := HK3.out; have := HK4.out; omega⟩, ⟨be0_ HB⟩⟩
          subst c15; have H1 : (if 0 ≤ (wrap64 (a1 + x13_4)) then (if (wrap64 (a1 + x13_4)) < (a0.size : Int) then (if (bt a0 (wrap64 (a1 + x13_4))) ≥ 128 then (orielref01_cut.l2 k4 a0 a1 (wrap64 ((a0.size : Int) - a1)) x6_2 (a0.extract (a1 : Int).toNat a0.size) t202 t203 (decide ((bt a0 (wrap64 (a1 + x13_4))) ≤ 191)) (wrap64 (x13_4 + 1))) else (orielref01_cut.l2 k4 a0 a1 (wrap64 ((a0.size : Int) - a1)) x6_2 (a0.extract (a1 : Int).toNat a0.size) t202 t203 false (wrap64 (x13_4 + 1)))) else (none)) else (none)) = some r := by rw [if_pos rfl] at H; exact H
          clear H; have H := H1; clear H1; obtain ⟨ji16, hji16⟩ : ∃ j_ : Int, (wrap64 (a1 + x13_4)) = j_ := ⟨_, rfl⟩; replace H : (if 0 ≤ (ji16) then (if (ji16) < (a0.size : Int) then (if (bt a0 (ji16)) ≥ 128 then (orielref01_cut.l2 k4 a0 a1 (wrap64 ((a0.size : Int) - a1)) x6_2 (a0.extract (a1 : Int).toNat a0.size) t202 t203 (decide ((bt a0 (ji16)) ≤ 191)) (wrap64 (x13_4 + 1))) else (orielref01_cut.l2 k4 a0 a1 (wrap64 ((a0.size : Int) - a1)) x6_2 (a0.extract (a1 : Int).toNat a0.size) t202 t203 false (wrap64 (x13_4 + 1)))) else (none)) else (none)) = some r := by first | (rw [hji16] at H; exact H) | (simp only [hji16] at H ⊢; exact H)
          have hji16w : (IntKind.i64.wrap (a1 + x13_4)) = ji16 := (i64_w _).trans hji16
          by_cases c17 : 0 ≤ (ji16)
          rotate_left
          ·
           rw [if_neg c17] at H; exact absurd H (by simp)
          rw [if_pos c17] at H; have c17b0 : decide (0 ≤ (ji16)) = true := decide_eq_true c17; clear c17
          by_cases c18 : (ji16) < (a0.size : Int)
          rotate_left
          ·
           rw [if_neg c18] at H; exact absurd H (by simp)
          rw [if_pos c18] at H; have c18b0 : decide ((ji16) < (a0.size : Int)) = true := decide_eq_true c18; clear c18
          by_cases c20 : (bt a0 (ji16)) ≥ 128
          rotate_left
          ·
           rw [if_neg c20] at H; have c20b0 : decide (128 ≤ (bt a0 (ji16))) = false := decide_eq_false c20; clear c20; have H' := Aside0.mk H; clear H; have p19 : 0 ≤ ((ji16) : Int) := of_decide_eq_true (by first | (with_reducible assumption) | assumption); have q19 : (ji16) < (a0.size : Int) := of_decide_eq_true (by first | (with_reducible assumption) | assumption); have hx19 := bt_at a0 (ji16); replace p19 := eq_true p19; replace q19 := eq_true q19
           go_wp2
           go_roundg k4
           case measure => have := HJ2.out; have := HK2.out; have := HK3.out; have := HK4.out; omega
           case rel => exact ⟨(false), (wrap64 (x13_4 + 1)), (by first | rfl | (simp; done) | (simp [*]; done)), (by first | rfl | (simp; done) | (simp [*]; done)), H', ⟨by have := HJ2.out; have := HK2.out; have := HK3.out; have := HK4.out; omega⟩, ⟨be0_ HB⟩⟩
          rw [if_pos c20] at H; have c20b0 : decide (128 ≤ (bt a0 (ji16))) = true := decide_eq_true c20; clear c20; have H' := Aside0.mk H; clear H; have p19 : 0 ≤ ((ji16) : Int) := of_decide_eq_true (by first | (with_reducible assumption) | assumption); have q19 : (ji16) < (a0.size : Int) := of_decide_eq_true (by first | (with_reducible assumption) | assumption); have hx19 := bt_at a0 (ji16); replace p19 := eq_true p19; replace q19 := eq_true q19; have p21 : 0 ≤ ((ji16) : Int) := of_decide_eq_true (by first | (with_reducible assumption) | assumption); have q21 : (ji16) < (a0.size : Int) := of_decide_eq_true (by first | (with_reducible assumption) | assumption); have hx21 := bt_at a0 (ji16); replace p21 := eq_true p21; replace q21 := eq_true q21
          go_wp2
          go_roundg k4
          case measure => have := HJ2.out; have := HK2.out; have := HK3.out; have := HK4.out; omega
          case rel => exact ⟨(decide ((bt a0 (ji16)) ≤ 191)), (wrap64 (x13_4 + 1)), (by first | rfl | (simp; done) | (simp only [← hji16] <;> (first | rfl | simp)) | (simp [*]; done)), (by first | rfl | (simp; done) | (simp [*]; done)), H', ⟨by have := HJ2.out; have := HK2.out; have := HK3.out; have := HK4.out; omega⟩, ⟨be0_ HB⟩⟩
         rw [if_neg c14] at H; have c14b0 : decide (x13_4 < (wrap64 ((a0.size : Int) - a1))) = false := decide_eq_false c14; clear c14; have HC22 := Aside0.mk H; clear H
         go_upto_region 20 with (fail)
         go_cut [14] (fun v14 wc => ∃ (kq : Nat) (x14_21 : Bool), v14 = .bool x14_21 ∧ Aside0 (orielref01_cut.j4 kq a0 a1 (wrap64 ((a0.size : Int) - a1)) x6_2 (a0.extract (a1 : Int).toNat a0.size) t202 t203 x12_4 x14_21 = some r) ∧ Aside0 (kq ≤ k4) ∧ Aside0 (Below w.heap.size w wc))
         case first => as_aux_lemma =>
          have H := HC22.out; clear HC22
          by_cases c23 : x6_2 = 2
          rotate_left
          ·
           rw [if_neg c23] at H; have c23b0 : (x6_2 == 2) = false := beq_eq_false_iff_ne.mpr c23; have c23b1 : (x6_2 != 2) = true := bne_iff_ne.mpr c23; (first | rw [c23b0] | (simp only [i64_w, i32_w]; rw [c23b0]) | skip)
           by_cases c64 : x6_2 = 3
           rotate_left
           ·
            rw [if_neg c64] at H; have c64b0 : (x6_2 == 3) = false := beq_eq_false_iff_ne.mpr c64; have c64b1 : (x6_2 != 3) = true := bne_iff_ne.mpr c64
            by_cases c79 : x6_2 = 4
            rotate_left
            ·
             rw [if_neg c79] at H; have c79b0 : (x6_2 == 4) = false := beq_eq_false_iff_ne.mpr c79; have c79b1 : (x6_2 != 4) = true := bne_iff_ne.mpr c79; have H' := Aside0.mk H; clear H
             go_wp2
             go_meet
             case rel => exact ⟨_, (false), (by first | rfl | (simp; done) | (simp [*]; done)), H', ⟨by have := HJ2.out; have := HK2.out; have := HK3.out; have := HK4.out; first | omega | exact Nat.le_refl _⟩, ⟨be0_ HB⟩⟩
            rw [if_pos c79] at H; have c79b0 : (x6_2 == 4) = true := beq_iff_eq.mpr c79; have c79b1 : (x6_2 != 4) = false := bne_eq_false_iff_eq.mpr c79; clear c79
            by_cases c80 : 0 ≤ a1
            rotate_left
            ·
             rw [if_neg c80] at H; exact absurd H (by simp)
            rw [if_pos c80] at H; have c80b0 : decide (0 ≤ a1) = true := decide_eq_true c80; clear c80
            by_cases c81 : a1 < (a0.size : Int)
            rotate_left
            ·
             rw [if_neg c81] at H; exact absurd H (by simp)
            rw [if_pos c81] at H; have c81b0 : decide (a1 < (a0.size : Int)) = true := decide_eq_true c81; clear c81
            by_cases c83 : (bt a0 a1) ≥ 240
            rotate_left
            ·
             rw [if_neg c83] at H; have c83b0 : decide (240 ≤ (bt a0 a1)) = false := decide_eq_false c83; clear c83; have H' := Aside0.mk H; clear H; have p82 : 0 ≤ (a1 : Int) := of_decide_eq_true (by first | (with_reducible assumption) | assumption); have q82 : a1 < (a0.size : Int) := of_decide_eq_true (by first | (with_reducible assumption) | assumption); have hx82 := bt_at a0 a1; replace p82 := eq_true p82; replace q82 := eq_true q82
             go_wp2
             go_meet
             case rel => exact ⟨_, (false), (by first | rfl | (simp; done) | (simp [*]; done)), H', ⟨by have := HJ2.out; have := HK2.out; have := HK3.out; have := HK4.out; first | omega | exact Nat.le_refl _⟩, ⟨be0_ HB⟩⟩
            rw [if_pos c83] at H; have c83b0 : decide (240 ≤ (bt a0 a1)) = true := decide_eq_true c83; clear c83; have H' := Aside0.mk H; clear H; have p82 : 0 ≤ (a1 : Int) := of_decide_eq_true (by first | (with_reducible assumption) | assumption); have q82 : a1 < (a0.size : Int) := of_decide_eq_true (by first | (with_reducible assumption) | assumption); have hx82 := bt_at a0 a1; replace p82 := eq_true p82; replace q82 := eq_true q82; have p84 : 0 ≤ (a1 : Int) := of_decide_eq_true (by first | (with_reducible assumption) | assumption); have q84 : a1 < (a0.size : Int) := of_decide_eq_true (by first | (with_reducible assumption) | assumption); have hx84 := bt_at a0 a1; replace p84 := eq_true p84; replace q84 := eq_true q84
            go_wp2
            go_meet
            case rel => exact ⟨_, (decide ((bt a0 a1) < 248)), (by first | rfl | (simp; done) | (simp [*]; done)), H', ⟨by have := HJ2.out; have := HK2.out; have := HK3.out; have := HK4.out; first | omega | exact Nat.le_refl _⟩, ⟨be0_ HB⟩⟩
           rw [if_pos c64] at H; have c64b0 : (x6_2 == 3) = true := beq_iff_eq.mpr c64; have c64b1 : (x6_2 != 3) = false := bne_eq_false_iff_eq.mpr c64; clear c64
           by_cases c65 : 0 ≤ a1
           rotate_left
           ·
            rw [if_neg c65] at H; exact absurd H (by simp)
           rw [if_pos c65] at H; have c65b0 : decide (0 ≤ a1) = true := decide_eq_true c65; clear c65
           by_cases c66 : a1 < (a0.size : Int)
           rotate_left
           ·
            rw [if_neg c66] at H; exact absurd H (by simp)
           rw [if_pos c66] at H; have c66b0 : decide (a1 < (a0.size : Int)) = true := decide_eq_true c66; clear c66
           by_cases c68 : (bt a0 a1) ≥ 224
           rotate_left
           ·
            rw [if_neg c68] at H; have c68b0 : decide (224 ≤ (bt a0 a1)) = false := decide_eq_false c68; clear c68
            by_cases c75 : x6_2 = 4
            rotate_left
            ·
             rw [if_neg c75] at H; have c75b0 : (x6_2 == 4) = false := beq_eq_false_iff_ne.mpr c75; have c75b1 : (x6_2 != 4) = true := bne_iff_ne.mpr c75; have H' := Aside0.mk H; clear H; have p67 : 0 ≤ (a1 : Int) := of_decide_eq_true (by first | (with_reducible assumption) | assumption); have q67 : a1 < (a0.size : Int) := of_decide_eq_true (by first | (with_reducible assumption) | assumption); have hx67 := bt_at a0 a1; replace p67 := eq_true p67; replace q67 := eq_true q67
             go_wp2
             go_meet
             case rel => exact ⟨_, (false), (by first | rfl | (simp; done) | (simp [*]; done)), H', ⟨by have := HJ2.out; have := HK2.out; have := HK3.out; have := HK4.out; first | omega | exact Nat.le_refl _⟩, ⟨be0_ HB⟩⟩
            rw [if_pos c75] at H; have c75b0 : (x6_2 == 4) = true := beq_iff_eq.mpr c75; have c75b1 : (x6_2 != 4) = false := bne_eq_false_iff_eq.mpr c75; clear c75
            by_cases c77 : (bt a0 a1) ≥ 240
            rotate_left
            ·
             rw [if_neg c77] at H; have c77b0 : decide (240 ≤ (bt a0 a1)) = false := decide_eq_false c77; clear c77; have H' := Aside0.mk H; clear H; have p67 : 0 ≤ (a1 : Int) := of_decide_eq_true (by first | (with_reducible assumption) | assumption); have q67 : a1 < (a0.size : Int) := of_decide_eq_true (by first | (with_reducible assumption) | assumption); have hx67 := bt_at a0 a1; replace p67 := eq_true p67; replace q67 := eq_true q67; have p76 : 0 ≤ (a1 : Int) := of_decide_eq_true (by first | (with_reducible assumption) | assumption); have q76 : a1 < (a0.size : Int) := of_decide_eq_true (by first | (with_reducible assumption) | assumption); have hx76 := bt_at a0 a1; replace p76 := eq_true p76; replace q76 := eq_true q76
             go_wp2
             go_meet
             case rel => exact ⟨_, (false), (by first | rfl | (simp; done) | (simp [*]; done)), H', ⟨by have := HJ2.out; have := HK2.out; have := HK3.out; have := HK4.out; first | omega | exact Nat.le_refl _⟩, ⟨be0_ HB⟩⟩
            rw [if_pos c77] at H; have c77b0 : decide (240 ≤ (bt a0 a1)) = true := decide_eq_true c77; clear c77; have H' := Aside0.mk H; clear H; have p67 : 0 ≤ (a1 : Int) := of_decide_eq_true (by first | (with_reducible assumption) | assumption); have q67 : a1 < (a0.size : Int) := of_decide_eq_true (by first | (with_reducible assumption) | assumption); have hx67 := bt_at a0 a1; replace p67 := eq_true p67; replace q67 := eq_true q67; have p76 : 0 ≤ (a1 : Int) := of_decide_eq_true (by first | (with_reducible assumption) | assumption); have q76 : a1 < (a0.size : Int) := of_decide_eq_true (by first | (with_reducible assumption) | assumption); have hx76 := bt_at a0 a1; replace p76 := eq_true p76; replace q76 := eq_true q76; have p78 : 0 ≤ (a1 : Int) := of_decide_eq_true (by first | (with_reducible assumption) | assumption); have q78 : a1 < (a0.size : Int) := of_decide_eq_true (by first | (with_reducible assumption) | assumption); have hx78 := bt_at a0 a1; replace p78 := eq_true p78; replace q78 := eq_true q78
            go_wp2
            go_meet
            case rel => exact ⟨_, (decide ((bt a0 a1) < 248)), (by first | rfl | (simp; done) | (simp [*]; done)), H', ⟨by have := HJ2.out; have := HK2.out; have := HK3.out; have := HK4.out; first | omega | exact Nat.le_refl _⟩, ⟨be0_ HB⟩⟩
           rw [if_pos c68] at H; have c68b0 : decide (224 ≤ (bt a0 a1)) = true := decide_eq_true c68; clear c68
           by_cases c70 : (bt a0 a1) < 240
           ·
            rw [if_pos c70] at H; have c70b0 : decide ((bt a0 a1) < 240) = true := decide_eq_true c70; clear c70; have H' := Aside0.mk H; clear H; have p67 : 0 ≤ (a1 : Int) := of_decide_eq_true (by first | (with_reducible assumption) | assumption); have q67 : a1 < (a0.size : Int) := of_decide_eq_true (by first | (with_reducible assumption) | assumption); have hx67 := bt_at a0 a1; replace p67 := eq_true p67; replace q67 := eq_true q67; have p69 : 0 ≤ (a1 : Int) := of_decide_eq_true (by first | (with_reducible assumption) | assumption); have q69 : a1 < (a0.size : Int) := of_decide_eq_true (by first | (with_reducible assumption) | assumption); have hx69 := bt_at a0 a1; replace p69 := eq_true p69; replace q69 := eq_true q69
            go_wp2
            go_meet
            case rel => exact ⟨_, (true), (by first | rfl | (simp; done) | (simp [*]; done)), H', ⟨by have := HJ2.out; have := HK2.out; have := HK3.out; have := HK4.out; first | omega | exact Nat.le_refl _⟩, ⟨be0_ HB⟩⟩
           rw [if_neg c70] at H; have c70b0 : decide ((bt a0 a1) < 240) = false := decide_eq_false c70; clear c70
           by_cases c71 : x6_2 = 4
           rotate_left
           ·
            rw [if_neg c71] at H; have c71b0 : (x6_2 == 4) = false := beq_eq_false_iff_ne.mpr c71; have c71b1 : (x6_2 != 4) = true := bne_iff_ne.mpr c71; have H' := Aside0.mk H; clear H; have p67 : 0 ≤ (a1 : Int) := of_decide_eq_true (by first | (with_reducible assumption) | assumption); have q67 : a1 < (a0.size : Int) := of_decide_eq_true (by first | (with_reducible assumption) | assumption); have hx67 := bt_at a0 a1; replace p67 := eq_true p67; replace q67 := eq_true q67; have p69 : 0 ≤ (a1 : Int) := of_decide_eq_true (by first | (with_reducible assumption) | assumption); have q69 : a1 < (a0.size : Int) := of_decide_eq_true (by first | (with_reducible assumption) | assumption); have hx69 := bt_at a0 a1; replace p69 := eq_true p69; replace q69 := eq_true q69
            go_wp2
            go_meet
            case rel => exact ⟨_, (false), (by first | rfl | (simp; done) | (simp [*]; done)), H', ⟨by have := HJ2.out; have := HK2.out; have := HK3.out; have := HK4.out; first | omega | exact Nat.le_refl _⟩, ⟨be0_ HB⟩⟩
           rw [if_pos c71] at H; have c71b0 : (x6_2 == 4) = true := beq_iff_eq.mpr c71; have c71b1 : (x6_2 != 4) = false := bne_eq_false_iff_eq.mpr c71; clear c71
           by_cases c73 : (bt a0 a1) ≥ 240
           rotate_left
           ·
            rw [if_neg c73] at H; have c73b0 : decide (240 ≤ (bt a0 a1)) = false := decide_eq_false c73; clear c73; have H' := Aside0.mk H; clear H; have p67 : 0 ≤ (a1 : Int) := of_decide_eq_true (by first | (with_reducible assumption) | assumption); have q67 : a1 < (a0.size : Int) := of_decide_eq_true (by first | (with_reducible assumption) | assumption); have hx67 := bt_at a0 a1; replace p67 := eq_true p67; replace q67 := eq_true q67; have p69 : 0 ≤ (a1 : Int) := of_decide_eq_true (by first | (with_reducible assumption) | assumption); have q69 : a1 < (a0.size : Int) := of_decide_eq_true (by first | (with_reducible assumption) | assumption); have hx69 := bt_at a0 a1; replace p69 := eq_true p69; replace q69 := eq_true q69; have p72 : 0 ≤ (a1 : Int) := of_decide_eq_true (by first | (with_reducible assumption) | assumption); have q72 : a1 < (a0.size : Int) := of_decide_eq_true (by first | (with_reducible assumption) | assumption); have hx72 := bt_at a0 a1; replace p72 := eq_true p72; replace q72 := eq_true q72
            go_wp2
            go_meet
            case rel => exact ⟨_, (false), (by first | rfl | (simp; done) | (simp [*]; done)), H', ⟨by have := HJ2.out; have := HK2.out; have := HK3.out; have := HK4.out; first | omega | exact Nat.le_refl _⟩, ⟨be0_ HB⟩⟩
           rw [if_pos c73] at H; have c73b0 : decide (240 ≤ (bt a0 a1)) = true := decide_eq_true c73; clear c73; have H' := Aside0.mk H; clear H; have p67 : 0 ≤ (a1 : Int) := of_decide_eq_true (by first | (with_reducible assumption) | assumption); have q67 : a1 < (a0.size : Int) := of_decide_eq_true (by first | (with_reducible assumption) | assumption); have hx67 := bt_at a0 a1; replace p67 := eq_true p67; replace q67 := eq_true q67; have p69 : 0 ≤ (a1 : Int) := of_decide_eq_true (by first | (with_reducible assumption) | assumption); have q69 : a1 < (a0.size : Int) := of_decide_eq_true (by first | (with_reducible assumption) | assumption); have hx69 := bt_at a0 a1; replace p69 := eq_true p69; replace q69 := eq_true q69; have p72 : 0 ≤ (a1 : Int) := of_decide_eq_true (by first | (with_reducible assumption) | assumption); have q72 : a1 < (a0.size : Int) := of_decide_eq_true (by first | (with_reducible assumption) | assumption); have hx72 := bt_at a0 a1; replace p72 := eq_true p72; replace q72 := eq_true q72; have p74 : 0 ≤ (a1 : Int) := of_decide_eq_true (by first | (with_reducible assumption) | assumption); have q74 : a1 < (a0.size : Int) := of_decide_eq_true (by first | (with_reducible assumption) | assumption); have hx74 := bt_at a0 a1; replace p74 := eq_true p74; replace q74 := eq_true q74
           go_wp2
           go_meet
           case rel => exact ⟨_, (decide ((bt a0 a1) < 248)), (by first | rfl | (simp; done) | (simp [*]; done)), H', ⟨by have := HJ2.out; have := HK2.out; have := HK3.out; have := HK4.out; first | omega | exact Nat.le_refl _⟩, ⟨be0_ HB⟩⟩
          rw [if_pos c23] at H; have c23b0 : (x6_2 == 2) = true := beq_iff_eq.mpr c23; have c23b1 : (x6_2 != 2) = false := bne_eq_false_iff_eq.mpr c23; clear c23; (first | rw [c23b0] | (simp only [i64_w, i32_w]; rw [c23b0]) | skip)
          by_cases c24 : 0 ≤ a1
          rotate_left
          ·
           rw [if_neg c24] at H; exact absurd H (by simp)
          rw [if_pos c24] at H; have c24b0 : decide (0 ≤ a1) = true := decide_eq_true c24; clear c24
          by_cases c25 : a1 < (a0.size : Int)
          rotate_left
          ·
           rw [if_neg c25] at H; exact absurd H (by simp)
          rw [if_pos c25] at H; have c25b0 : decide (a1 < (a0.size : Int)) = true := decide_eq_true c25; clear c25
          by_cases c27 : (bt a0 a1) ≥ 192
          rotate_left
          ·
           rw [if_neg c27] at H; have c27b0 : decide (192 ≤ (bt a0 a1)) = false := decide_eq_false c27; clear c27
           by_cases c47 : x6_2 = 3
           rotate_left
           ·
            rw [if_neg c47] at H; have c47b0 : (x6_2 == 3) = false := beq_eq_false_iff_ne.mpr c47; have c47b1 : (x6_2 != 3) = true := bne_iff_ne.mpr c47
            by_cases c60 : x6_2 = 4
            rotate_left
            ·
             rw [if_neg c60] at H; have c60b0 : (x6_2 == 4) = false := beq_eq_false_iff_ne.mpr c60; have c60b1 : (x6_2 != 4) = true := bne_iff_ne.mpr c60; have H' := Aside0.mk H; clear H; have p26 : 0 ≤ (a1 : Int) := of_decide_eq_true (by first | (with_reducible assumption) | assumption); have q26 : a1 < (a0.size : Int) := of_decide_eq_true (by first | (with_reducible assumption) | assumption); have hx26 := bt_at a0 a1; replace p26 := eq_true p26; replace q26 := eq_true q26
             go_wp2
             go_meet
             case rel => exact ⟨_, (false), (by first | rfl | (simp; done) | (simp [*]; done)), H', ⟨by have := HJ2.out; have := HK2.out; have := HK3.out; have := HK4.out; first | omega | exact Nat.le_refl _⟩, ⟨be0_ HB⟩⟩
            rw [if_pos c60] at H; have c60b0 : (x6_2 == 4) = true := beq_iff_eq.mpr c60; have c60b1 : (x6_2 != 4) = false := bne_eq_false_iff_eq.mpr c60; clear c60
            by_cases c62 : (bt a0 a1) ≥ 240
            rotate_left
            ·
             rw [if_neg c62] at H; have c62b0 : decide (240 ≤ (bt a0 a1)) = false := decide_eq_false c62; clear c62; have H' := Aside0.mk H; clear H; have p26 : 0 ≤ (a1 : Int) := of_decide_eq_true (by first | (with_reducible assumption) | assumption); have q26 : a1 < (a0.size : Int) := of_decide_eq_true (by first | (with_reducible assumption) | assumption); have hx26 := bt_at a0 a1; replace p26 := eq_true p26; replace q26 := eq_true q26; have p61 : 0 ≤ (a1 : Int) := of_decide_eq_true (by first | (with_reducible assumption) | assumption); have q61 : a1 < (a0.size : Int) := of_decide_eq_true (by first | (with_reducible assumption) | assumption); have hx61 := bt_at a0 a1; replace p61 := eq_true p61; replace q61 := eq_true q61
             go_wp2
             go_meet
             case rel => exact ⟨_, (false), (by first | rfl | (simp; done) | (simp [*]; done)), H', ⟨by have := HJ2.out; have := HK2.out; have := HK3.out; have := HK4.out; first | omega | exact Nat.le_refl _⟩, ⟨be0_ HB⟩⟩
            rw [if_pos c62] at H; have c62b0 : decide (240 ≤ (bt a0 a1)) = true := decide_eq_true c62; clear c62; have H' := Aside0.mk H; clear H; have p26 : 0 ≤ (a1 : Int) := of_decide_eq_true (by first | (with_reducible assumption) | assumption); have q26 : a1 < (a0.size : Int) := of_decide_eq_true (by first | (with_reducible assumption) | assumption); have hx26 := bt_at a0 a1; replace p26 := eq_true p26; replace q26 := eq_true q26; have p61 : 0 ≤ (a1 : Int) := of_decide_eq_true (by first | (with_reducible assumption) | assumption); have q61 : a1 < (a0.size : Int) := of_decide_eq_true (by first | (with_reducible assumption) | assumption); have hx61 := bt_at a0 a1; replace p61 := eq_true p61; replace q61 := eq_true q61; have p63 : 0 ≤ (a1 : Int) := of_decide_eq_true (by first | (with_reducible assumption) | assumption); have q63 : a1 < (a0.size : Int) := of_decide_eq_true (by first | (with_reducible assumption) | assumption); have hx63 := bt_at a0 a1; replace p63 := eq_true p63; replace q63 := eq_true q63
            go_wp2
            go_meet
            case rel => exact ⟨_, (decide ((bt a0 a1) < 248)), (by first | rfl | (simp; done) | (simp [*]; done)), H', ⟨by have := HJ2.out; have := HK2.out; have := HK3.out; have := HK4.out; first | omega | exact Nat.le_refl _⟩, ⟨be0_ HB⟩⟩
           rw [if_pos c47] at H; have c47b0 : (x6_2 == 3) = true := beq_iff_eq.mpr c47; have c47b1 : (x6_2 != 3) = false := bne_eq_false_iff_eq.mpr c47; clear c47
           by_cases c49 : (bt a0 a1) ≥ 224
           rotate_left
           ·
            rw [if_neg c49] at H; have c49b0 : decide (224 ≤ (bt a0 a1)) = false := decide_eq_false c49; clear c49
            by_cases c56 : x6_2 = 4
            rotate_left
            ·
             rw [if_neg c56] at H; have c56b0 : (x6_2 == 4) = false := beq_eq_false_iff_ne.mpr c56; have c56b1 : (x6_2 != 4) = true := bne_iff_ne.mpr c56; have H' := Aside0.mk H; clear H; have p26 : 0 ≤ (a1 : Int) := of_decide_eq_true (by first | (with_reducible assumption) | assumption); have q26 : a1 < (a0.size : Int) := of_decide_eq_true (by first | (with_reducible assumption) | assumption); have hx26 := bt_at a0 a1; replace p26 := eq_true p26; replace q26 := eq_true q26; have p48 : 0 ≤ (a1 : Int) := of_decide_eq_true (by first | (with_reducible assumption) | assumption); have q48 : a1 < (a0.size : Int) := of_decide_eq_true (by first | (with_reducible assumption) | assumption); have hx48 := bt_at a0 a1; replace p48 := eq_true p48; replace q48 := eq_true q48
             go_wp2
             go_meet
             case rel => exact ⟨_, (false), (by first | rfl | (simp; done) | (simp [*]; done)), H', ⟨by have := HJ2.out; have := HK2.out; have := HK3.out; have := HK4.out; first | omega | exact Nat.le_refl _⟩, ⟨be0_ HB⟩⟩
            rw [if_pos c56] at H; have c56b0 : (x6_2 == 4) = true := beq_iff_eq.mpr c56; have c56b1 : (x6_2 != 4) = false := bne_eq_false_iff_eq.mpr c56; clear c56
            by_cases c58 : (bt a0 a1) ≥ 240
            rotate_left
            ·
             rw [if_neg c58] at H; have c58b0 : decide (240 ≤ (bt a0 a1)) = false := decide_eq_false c58; clear c58; have H' := Aside0.mk H; clear H; have p26 : 0 ≤ (a1 : Int) := of_decide_eq_true (by first | (with_reducible assumption) | assumption); have q26 : a1 < (a0.size : Int) := of_decide_eq_true (by first | (with_reducible assumption) | assumption); have hx26 := bt_at a0 a1; replace p26 := eq_true p26; replace q26 := eq_true q26; have p48 : 0 ≤ (a1 : Int) := of_decide_eq_true (by first | (with_reducible assumption) | assumption); have q48 : a1 < (a0.size : Int) := of_decide_eq_true (by first | (with_reducible assumption) | assumption); have hx48 := bt_at a0 a1; replace p48 := eq_true p48; replace q48 := eq_true q48; have p57 : 0 ≤ (a1 : Int) := of_decide_eq_true (by first | (with_reducible assumption) | assumption); have q57 : a1 < (a0.size : Int) := of_decide_eq_true (by first | (with_reducible assumption) | assumption); have hx57 := bt_at a0 a1; replace p57 := eq_true p57; replace q57 := eq_true q57
             go_wp2
             go_meet
             case rel => exact ⟨_, (false), (by first | rfl | (simp; done) | (simp [*]; done)), H', ⟨by have := HJ2.out; have := HK2.out; have := HK3.out; have := HK4.out; first | omega | exact Nat.le_refl _⟩, ⟨be0_ HB⟩⟩
            rw [if_pos c58] at H; have c58b0 : decide (240 ≤ (bt a0 a1)) = true := decide_eq_true c58; clear c58; have H' := Aside0.mk H; clear H; have p26 : 0 ≤ (a1 : Int) := of_decide_eq_true (by first | (with_reducible assumption) | assumption); have q26 : a1 < (a0.size : Int) := of_decide_eq_true (by first | (with_reducible assumption) | assumption); have hx26 := bt_at a0 a1; replace p26 := eq_true p26; replace q26 := eq_true q26; have p48 : 0 ≤ (a1 : Int) := of_decide_eq_true (by first | (with_reducible assumption) | assumption); have q48 : a1 < (a0.size : Int) := of_decide_eq_true (by first | (with_reducible assumption) | assumption); have hx48 := bt_at a0 a1; replace p48 := eq_true p48; replace q48 := eq_true q48; have p57 : 0 ≤ (a1 : Int) := of_decide_eq_true (by first | (with_reducible assumption) | assumption); have q57 : a1 < (a0.size : Int) := of_decide_eq_true (by first | (with_reducible assumption) | assumption); have hx57 := bt_at a0 a1; replace p57 := eq_true p57; replace q57 := eq_true q57; have p59 : 0 ≤ (a1 : Int) := of_decide_eq_true (by first | (with_reducible assumption) | assumption); have q59 : a1 < (a0.size : Int) := of_decide_eq_true (by first | (with_reducible assumption) | assumption); have hx59 := bt_at a0 a1; replace p59 := eq_true p59; replace q59 := eq_true q59
            go_wp2
            go_meet
            case rel => exact ⟨_, (decide ((bt a0 a1) < 248)), (by first | rfl | (simp; done) | (simp [*]; done)), H', ⟨by have := HJ2.out; have := HK2.out; have := HK3.out; have := HK4.out; first | omega | exact Nat.le_refl _⟩, ⟨be0_ HB⟩⟩
           rw [if_pos c49] at H; have c49b0 : decide (224 ≤ (bt a0 a1)) = true := decide_eq_true c49; clear c49
           by_cases c51 : (bt a0 a1) < 240
           ·
            rw [if_pos c51] at H; have c51b0 : decide ((bt a0 a1) < 240) = true := decide_eq_true c51; clear c51; have H' := Aside0.mk H; clear H; have p26 : 0 ≤ (a1 : Int) := of_decide_eq_true (by first | (with_reducible assumption) | assumption); have q26 : a1 < (a0.size : Int) := of_decide_eq_true (by first | (with_reducible assumption) | assumption); have hx26 := bt_at a0 a1; replace p26 := eq_true p26; replace q26 := eq_true q26; have p48 : 0 ≤ (a1 : Int) := of_decide_eq_true (by first | (with_reducible assumption) | assumption); have q48 : a1 < (a0.size : Int) := of_decide_eq_true (by first | (with_reducible assumption) | assumption); have hx48 := bt_at a0 a1; replace p48 := eq_true p48; replace q48 := eq_true q48; have p50 : 0 ≤ (a1 : Int) := of_decide_eq_true (by first | (with_reducible assumption) | assumption); have q50 : a1 < (a0.size : Int) := of_decide_eq_true (by first | (with_reducible assumption) | assumption); have hx50 := bt_at a0 a1; replace p50 := eq_true p50; replace q50 := eq_true q50
            go_wp2
            go_meet
            case rel => exact ⟨_, (true), (by first | rfl | (simp; done) | (simp [*]; done)), H', ⟨by have := HJ2.out; have := HK2.out; have := HK3.out; have := HK4.out; first | omega | exact Nat.le_refl _⟩, ⟨be0_ HB⟩⟩
           rw [if_neg c51] at H; have c51b0 : decide ((bt a0 a1) < 240) = false := decide_eq_false c51; clear c51
           by_cases c52 : x6_2 = 4
           rotate_left
           ·
            rw [if_neg c52] at H; have c52b0 : (x6_2 == 4) = false := beq_eq_false_iff_ne.mpr c52; have c52b1 : (x6_2 != 4) = true := bne_iff_ne.mpr c52; have H' := Aside0.mk H; clear H; have p26 : 0 ≤ (a1 : Int) := of_decide_eq_true (by first | (with_reducible assumption) | assumption); have q26 : a1 < (a0.size : Int) := of_decide_eq_true (by first | (with_reducible assumption) | assumption); have hx26 := bt_at a0 a1; replace p26 := eq_true p26; replace q26 := eq_true q26; have p48 : 0 ≤ (a1 : Int) := of_decide_eq_true (by first | (with_reducible assumption) | assumption); have q48 : a1 < (a0.size : Int) := of_decide_eq_true (by first | (with_reducible assumption) | assumption); have hx48 := bt_at a0 a1; replace p48 := eq_true p48; replace q48 := eq_true q48; have p50 : 0 ≤ (a1 : Int) := of_decide_eq_true (by first | (with_reducible assumption) | assumption); have q50 : a1 < (a0.size : Int) := of_decide_eq_true (by first | (with_reducible assumption) | assumption); have hx50 := bt_at a0 a1; replace p50 := eq_true p50; replace q50 := eq_true q50
            go_wp2
            go_meet
            case rel => exact ⟨_, (false), (by first | rfl | (simp; done) | (simp [*]; done)), H', ⟨by have := HJ2.out; have := HK2.out; have := HK3.out; have := HK4.out; first | omega | exact Nat.le_refl _⟩, ⟨be0_ HB⟩⟩
           rw [if_pos c52] at H; have c52b0 : (x6_2 == 4) = true := beq_iff_eq.mpr c52; have c52b1 : (x6_2 != 4) = false := bne_eq_false_iff_eq.mpr c52; clear c52
           by_cases c54 : (bt a0 a1) ≥ 240
           rotate_left
           ·
            rw [if_neg c54] at H; have c54b0 : decide (240 ≤ (bt a0 a1)) = false := decide_eq_false c54; clear c54; have H' := Aside0.mk H; clear H; have p26 : 0 ≤ (a1 : Int) := of_decide_eq_true (by first | (with_reducible assumption) | assumption); have q26 : a1 < (a0.size : Int) := of_decide_eq_true (by first | (with_reducible assumption) | assumption); have hx26 := bt_at a0 a1; replace p26 := eq_true p26; replace q26 := eq_true q26; have p48 : 0 ≤ (a1 : Int) := of_decide_eq_true (by first | (with_reducible assumption) | assumption); have q48 : a1 < (a0.size : Int) := of_decide_eq_true (by first | (with_reducible assumption) | assumption); have hx48 := bt_at a0 a1; replace p48 := eq_true p48; replace q48 := eq_true q48; have p50 : 0 ≤ (a1 : Int) := of_decide_eq_true (by first | (with_reducible assumption) | assumption); have q50 : a1 < (a0.size : Int) := of_decide_eq_true (by first | (with_reducible assumption) | assumption); have hx50 := bt_at a0 a1; replace p50 := eq_true p50; replace q50 := eq_true q50; have p53 : 0 ≤ (a1 : Int) := of_decide_eq_true (by first | (with_reducible assumption) | assumption); have q53 : a1 < (a0.size : Int) := of_decide_eq_true (by first | (with_reducible assumption) | assumption); have hx53 := bt_at a0 a1; replace p53 := eq_true p53; replace q53 := eq_true q53
            go_wp2
            go_meet
            case rel => exact ⟨_, (false), (by first | rfl | (simp; done) | (simp [*]; done)), H', ⟨by have := HJ2.out; have := HK2.out; have := HK3.out; have := HK4.out; first | omega | exact Nat.le_refl _⟩, ⟨be0_ HB⟩⟩
           rw [if_pos c54] at H; have c54b0 : decide (240 ≤ (bt a0 a1)) = true := decide_eq_true c54; clear c54; have H' := Aside0.mk H; clear H; have p26 : 0 ≤ (a1 : Int) := of_decide_eq_true (by first | (with_reducible assumption) | assumption); have q26 : a1 < (a0.size : Int) := of_decide_eq_true (by first | (with_reducible assumption) | assumption); have hx26 := bt_at a0 a1; replace p26 := eq_true p26; replace q26 := eq_true q26; have p48 : 0 ≤ (a1 : Int) := of_decide_eq_true (by first | (with_reducible assumption) | assumption); have q48 : a1 < (a0.size : Int) := of_decide_eq_true (by first | (with_reducible assumption) | assumption); have hx48 := bt_at a0 a1; replace p48 := eq_true p48; replace q48 := eq_true q48; have p50 : 0 ≤ (a1 : Int) := of_decide_eq_true (by first | (with_reducible assumption) | assumption); have q50 : a1 < (a0.size : Int) := of_decide_eq_true (by first | (with_reducible assumption) | assumption); have hx50 := bt_at a0 a1; replace p50 := eq_true p50; replace q50 := eq_true q50; have p53 : 0 ≤ (a1 : Int) := of_decide_eq_true (by first | (with_reducible assumption) | assumption); have q53 : a1 < (a0.size : Int) := of_decide_eq_true (by first | (with_reducible assumption) | assumption); have hx53 := bt_at a0 a1; replace p53 := eq_true p53; replace q53 := eq_true q53; have p55 : 0 ≤ (a1 : Int) := of_decide_eq_true (by first | (with_reducible assumption) | assumption); have q55 : a1 < (a0.size : Int) := of_decide_eq_true (by first | (with_reducible assumption) | assumption); have hx55 := bt_at a0 a1; replace p55 := eq_true p55; replace q55 := eq_true q55
           go_wp2
           go_meet
           case rel => exact ⟨_, (decide ((bt a0 a1) < 248)), (by first | rfl | (simp; done) | (simp [*]; done)), H', ⟨by have := HJ2.out; have := HK2.out; have := HK3.out; have := HK4.out; first | omega | exact Nat.le_refl _⟩, ⟨be0_ HB⟩⟩
          rw [if_pos c27] at H; have c27b0 : decide (192 ≤ (bt a0 a1)) = true := decide_eq_true c27; clear c27
          by_cases c29 : (bt a0 a1) < 224
          ·
           rw [if_pos c29] at H; have c29b0 : decide ((bt a0 a1) < 224) = true := decide_eq_true c29; clear c29; have H' := Aside0.mk H; clear H; have p26 : 0 ≤ (a1 : Int) := of_decide_eq_true (by first | (with_reducible assumption) | assumption); have q26 : a1 < (a0.size : Int) := of_decide_eq_true (by first | (with_reducible assumption) | assumption); have hx26 := bt_at a0 a1; replace p26 := eq_true p26; replace q26 := eq_true q26; have p28 : 0 ≤ (a1 : Int) := of_decide_eq_true (by first | (with_reducible assumption) | assumption); have q28 : a1 < (a0.size : Int) := of_decide_eq_true (by first | (with_reducible assumption) | assumption); have hx28 := bt_at a0 a1; replace p28 := eq_true p28; replace q28 := eq_true q28
           go_wp2
           go_meet
           case rel => exact ⟨_, (true), (by first | rfl | (simp; done) | (simp [*]; done)), H', ⟨by have := HJ2.out; have := HK2.out; have := HK3.out; have := HK4.out; first | omega | exact Nat.le_refl _⟩, ⟨be0_ HB⟩⟩
          rw [if_neg c29] at H; have c29b0 : decide ((bt a0 a1) < 224) = false := decide_eq_false c29; clear c29
          by_cases c30 : x6_2 = 3
          rotate_left
          ·
           rw [if_neg c30] at H; have c30b0 : (x6_2 == 3) = false := beq_eq_false_iff_ne.mpr c30; have c30b1 : (x6_2 != 3) = true := bne_iff_ne.mpr c30
           by_cases c43 : x6_2 = 4
           rotate_left
           ·
            rw [if_neg c43] at H; have c43b0 : (x6_2 == 4) = false := beq_eq_false_iff_ne.mpr c43; have c43b1 : (x6_2 != 4) = true := bne_iff_ne.mpr c43; have H' := Aside0.mk H; clear H; have p26 : 0 ≤ (a1 : Int) := of_decide_eq_true (by first | (with_reducible assumption) | assumption); have q26 : a1 < (a0.size : Int) := of_decide_eq_true (by first | (with_reducible assumption) | assumption); have hx26 := bt_at a0 a1; replace p26 := eq_true p26; replace q26 := eq_true q26; have p28 : 0 ≤ (a1 : Int) := of_decide_eq_true (by first | (with_reducible assumption) | assumption); have q28 : a1 < (a0.size : Int) := of_decide_eq_true (by first | (with_reducible assumption) | assumption); have hx28 := bt_at a0 a1; replace p28 := eq_true p28; replace q28 := eq_true q28
            go_wp2
            go_meet
            case rel => exact ⟨_, (false), (by first | rfl | (simp; done) | (simp [*]; done)), H', ⟨by have := HJ2.out; have := HK2.out; have := HK3.out; have := HK4.out; first | omega | exact Nat.le_refl _⟩, ⟨be0_ HB⟩⟩
           rw [if_pos c43] at H; have c43b0 : (x6_2 == 4) = true := beq_iff_eq.mpr c43; have c43b1 : (x6_2 != 4) = false := bne_eq_false_iff_eq.mpr c43; clear c43
           by_cases c45 : (bt a0 a1) ≥ 240
           rotate_left
           ·
            rw [if_neg c45] at H; have c45b0 : decide (240 ≤ (bt a0 a1)) = false := decide_eq_false c45; clear c45; have H' := Aside0.mk H; clear H; have p26 : 0 ≤ (a1 : Int) := of_decide_eq_true (by first | (with_reducible assumption) | assumption); have q26 : a1 < (a0.size : Int) := of_decide_eq_true (by first | (with_reducible assumption) | assumption); have hx26 := bt_at a0 a1; replace p26 := eq_true p26; replace q26 := eq_true q26; have p28 : 0 ≤ (a1 : Int) := of_decide_eq_true (by first | (with_reducible assumption) | assumption); have q28 : a1 < (a0.size : Int) := of_decide_eq_true (by first | (with_reducible assumption) | assumption); have hx28 := bt_at a0 a1; replace p28 := eq_true p28; replace q28 := eq_true q28; have p44 : 0 ≤ (a1 : Int) := of_decide_eq_true (by first | (with_reducible assumption) | assumption); have q44 : a1 < (a0.size : Int) := of_decide_eq_true (by first | (with_reducible assumption) | assumption); have hx44 := bt_at a0 a1; replace p44 := eq_true p44; replace q44 := eq_true q44
            go_wp2
            go_meet
            case rel => exact ⟨_, (false), (by first | rfl | (simp; done) | (simp [*]; done)), H', ⟨by have := HJ2.out; have := HK2.out; have := HK3.out; have := HK4.out; first | omega | exact Nat.le_refl _⟩, ⟨be0_ HB⟩⟩
           rw [if_pos c45] at H; have c45b0 : decide (240 ≤ (bt a0 a1)) = true := decide_eq_true c45; clear c45; have H' := Aside0.mk H; clear H; have p26 : 0 ≤ (a1 : Int) := of_decide_eq_true (by first | (with_reducible assumption) | assumption); have q26 : a1 < (a0.size : Int) := of_decide_eq_true (by first | (with_reducible assumption) | assumption); have hx26 := bt_at a0 a1; replace p26 := eq_true p26; replace q26 := eq_true q26; have p28 : 0 ≤ (a1 : Int) := of_decide_eq_true (by first | (with_reducible assumption) | assumption); have q28 : a1 < (a0.size : Int) := of_decide_eq_true (by first | (with_reducible assumption) | assumption); have hx28 := bt_at a0 a1; replace p28 := eq_true p28; replace q28 := eq_true q28; have p44 : 0 ≤ (a1 : Int) := of_decide_eq_true (by first | (with_reducible assumption) | assumption); have q44 : a1 < (a0.size : Int) := of_decide_eq_true (by first | (with_reducible assumption) | assumption); have hx44 := bt_at a0 a1; replace p44 := eq_true p44; replace q44 := eq_true q44; have p46 : 0 ≤ (a1 : Int) := of_decide_eq_true (by first | (with_reducible assumption) | assumption); have q46 : a1 < (a0.size : Int) := of_decide_eq_true (by first | (with_reducible assumption) | assumption); have hx46 := bt_at a0 a1; replace p46 := eq_true p46; replace q46 := eq_true q46
           go_wp2
           go_meet
           case rel => exact ⟨_, (decide ((bt a0 a1) < 248)), (by first | rfl | (simp; done) | (simp [*]; done)), H', ⟨by have := HJ2.out; have := HK2.out; have := HK3.out; have := HK4.out; first | omega | exact Nat.le_refl _⟩, ⟨be0_ HB⟩⟩
          rw [if_pos c30] at H; have c30b0 : (x6_2 == 3) = true := beq_iff_eq.mpr c30; have c30b1 : (x6_2 != 3) = false := bne_eq_false_iff_eq.mpr c30; clear c30
          by_cases c32 : (bt a0 a1) ≥ 224
          rotate_left
          ·
           rw [if_neg c32] at H; have c32b0 : decide (224 ≤ (bt a0 a1)) = false := decide_eq_false c32; clear c32
           by_cases c39 : x6_2 = 4
           rotate_left
           ·
            rw [if_neg c39] at H; have c39b0 : (x6_2 == 4) = false := beq_eq_false_iff_ne.mpr c39; have c39b1 : (x6_2 != 4) = true := bne_iff_ne.mpr c39; have H' := Aside0.mk H; clear H; have p26 : 0 ≤ (a1 : Int) := of_decide_eq_true (by first | (with_reducible assumption) | assumption); have q26 : a1 < (a0.size : Int) := of_decide_eq_true (by first | (with_reducible assumption) | assumption); have hx26 := bt_at a0 a1; replace p26 := eq_true p26; replace q26 := eq_true q26; have p28 : 0 ≤ (a1 : Int) := of_decide_eq_true (by first | (with_reducible assumption) | assumption); have q28 : a1 < (a0.size : Int) := of_decide_eq_true (by first | (with_reducible assumption) | assumption); have hx28 := bt_at a0 a1; replace p28 := eq_true p28; replace q28 := eq_true q28; have p31 : 0 ≤ (a1 : Int) := of_decide_eq_true (by first | (with_reducible assumption) | assumption); have q31 : a1 < (a0.size : Int) := of_decide_eq_true (by first | (with_reducible assumption) | assumption); have hx31 := bt_at a0 a1; replace p31 := eq_true p31; replace q31 := eq_true q31
            go_wp2
            go_meet
            case rel => exact ⟨_, (false), (by first | rfl | (simp; done) | (simp [*]; done)), H', ⟨by have := HJ2.out; have := HK2.out; have := HK3.out; have := HK4.out; first | omega | exact Nat.le_refl _⟩, ⟨be0_ HB⟩⟩
           rw [if_pos c39] at H; have c39b0 : (x6_2 == 4) = true := beq_iff_eq.mpr c39; have c39b1 : (x6_2 != 4) = false := bne_eq_false_iff_eq.mpr c39; clear c39
           by_cases c41 : (bt a0 a1) ≥ 240
           rotate_left
           ·
            rw [if_neg c41] at H; have c41b0 : decide (240 ≤ (bt a0 a1)) = false := decide_eq_false c41; clear c41; have H' := Aside0.mk H; clear H; have p26 : 0 ≤ (a1 : Int) := of_decide_eq_true (by first | (with_reducible assumption) | assumption); have q26 : a1 < (a0.size : Int) := of_decide_eq_true (by first | (with_reducible assumption) | assumption); have hx26 := bt_at a0 a1; replace p26 := eq_true p26; replace q26 := eq_true q26; have p28 : 0 ≤ (a1 : Int) := of_decide_eq_true (by first | (with_reducible assumption) | assumption); have q28 : a1 < (a0.size : Int) := of_decide_eq_true (by first | (with_reducible assumption) | assumption); have hx28 := bt_at a0 a1; replace p28 := eq_true p28; replace q28 := eq_true q28; have p31 : 0 ≤ (a1 : Int) := of_decide_eq_true (by first | (with_reducible assumption) | assumption); have q31 : a1 < (a0.size : Int) := of_decide_eq_true (by first | (with_reducible assumption) | assumption); have hx31 := bt_at a0 a1; replace p31 := eq_true p31; replace q31 := eq_true q31; have p40 : 0 ≤ (a1 : Int) := of_decide_eq_true (by first | (with_reducible assumption) | assumption); have q40 : a1 < (a0.size : Int) := of_decide_eq_true (by first | (with_reducible assumption) | assumption); have hx40 := bt_at a0 a1; replace p40 := eq_true p40; replace q40 := eq_true q40
            go_wp2
            go_meet
            case rel => exact ⟨_, (false), (by first | rfl | (simp; done) | (simp [*]; done)), H', ⟨by have := HJ2.out; have := HK2.out; have := HK3.out; have := HK4.out; first | omega | exact Nat.le_refl _⟩, ⟨be0_ HB⟩⟩
           rw [if_pos c41] at H; have c41b0 : decide (240 ≤ (bt a0 a1)) = true := decide_eq_true c41; clear c41; have H' := Aside0.mk H; clear H; have p26 : 0 ≤ (a1 : Int) := of_decide_eq_true (by first | (with_reducible assumption) | assumption); have q26 : a1 < (a0.size : Int) := of_decide_eq_true (by first | (with_reducible assumption) | assumption); have hx26 := bt_at a0 a1; replace p26 := eq_true p26; replace q26 := eq_true q26; have p28 : 0 ≤ (a1 : Int) := of_decide_eq_true (by first | (with_reducible assumption) | assumption); have q28 : a1 < (a0.size : Int) := of_decide_eq_true (by first | (with_reducible assumption) | assumption); have hx28 := bt_at a0 a1; replace p28 := eq_true p28; replace q28 := eq_true q28; have p31 : 0 ≤ (a1 : Int) := of_decide_eq_true (by first | (with_reducible assumption) | assumption); have q31 : a1 < (a0.size : Int) := of_decide_eq_true (by first | (with_reducible assumption) | assumption); have hx31 := bt_at a0 a1; replace p31 := eq_true p31; replace q31 := eq_true q31; have p40 : 0 ≤ (a1 : Int) := of_decide_eq_true (by first | (with_reducible assumption) | assumption); have q40 : a1 < (a0.size : Int) := of_decide_eq_true (by first | (with_reducible assumption) | assumption); have hx40 := bt_at a0 a1; replace p40 := eq_true p40; replace q40 := eq_true q40; have p42 : 0 ≤ (a1 : Int) := of_decide_eq_true (by first | (with_reducible assumption) | assumption); have q42 : a1 < (a0.size : Int) := of_decide_eq_true (by first | (with_reducible assumption) | assumption); have hx42 := bt_at a0 a1; replace p42 := eq_true p42; replace q42 := eq_true q42
           go_wp2
           go_meet
           case rel => exact ⟨_, (decide ((bt a0 a1) < 248)), (by first | rfl | (simp; done) | (simp [*]; done)), H', ⟨by have := HJ2.out; have := HK2.out; have := HK3.out; have := HK4.out; first | omega | exact Nat.le_refl _⟩, ⟨be0_ HB⟩⟩
          rw [if_pos c32] at H; have c32b0 : decide (224 ≤ (bt a0 a1)) = true := decide_eq_true c32; clear c32
          by_cases c34 : (bt a0 a1) < 240
          ·
           rw [if_pos c34] at H; have c34b0 : decide ((bt a0 a1) < 240) = true := decide_eq_true c34; clear c34; have H' := Aside0.mk H; clear H; have p26 : 0 ≤ (a1 : Int) := of_decide_eq_true (by first | (with_reducible assumption) | assumption); have q26 : a1 < (a0.size : Int) := of_decide_eq_true (by first | (with_reducible assumption) | assumption); have hx26 := bt_at a0 a1; replace p26 := eq_true p26; replace q26 := eq_true q26; have p28 : 0 ≤ (a1 : Int) := of_decide_eq_true (by first | (with_reducible assumption) | assumption); have q28 : a1 < (a0.size : Int) := of_decide_eq_true (by first | (with_reducible assumption) | assumption); have hx28 := bt_at a0 a1; replace p28 := eq_true p28; replace q28 := eq_true q28; have p31 : 0 ≤ (a1 : Int) := of_decide_eq_true (by first | (with_reducible assumption) | assumption); have q31 : a1 < (a0.size : Int) := of_decide_eq_true (by first | (with_reducible assumption) | assumption); have hx31 := bt_at a0 a1; replace p31 := eq_true p31; replace q31 := eq_true q31; have p33 : 0 ≤ (a1 : Int) := of_decide_eq_true (by first | (with_reducible assumption) | assumption); have q33 : a1 < (a0.size : Int) := of_decide_eq_true (by first | (with_reducible assumption) | assumption); have hx33 := bt_at a0 a1; replace p33 := eq_true p33; replace q33 := eq_true q33
           go_wp2
           go_meet
           case rel => exact ⟨_, (true), (by first | rfl | (simp; done) | (simp [*]; done)), H', ⟨by have := HJ2.out; have := HK2.out; have := HK3.out; have := HK4.out; first | omega | exact Nat.le_refl _⟩, ⟨be0_ HB⟩⟩
          rw [if_neg c34] at H; have c34b0 : decide ((bt a0 a1) < 240) = false := decide_eq_false c34; clear c34
          by_cases c35 : x6_2 = 4
          rotate_left
          ·
           rw [if_neg c35] at H; have c35b0 : (x6_2 == 4) = false := beq_eq_false_iff_ne.mpr c35; have c35b1 : (x6_2 != 4) = true := bne_iff_ne.mpr c35; have H' := Aside0.mk H; clear H; have p26 : 0 ≤ (a1 : Int) := of_decide_eq_true (by first | (with_reducible assumption) | assumption); have q26 : a1 < (a0.size : Int) := of_decide_eq_true (by first | (with_reducible assumption) | assumption); have hx26 := bt_at a0 a1; replace p26 := eq_true p26; replace q26 := eq_true q26; have p28 : 0 ≤ (a1 : Int) := of_decide_eq_true (by first | (with_reducible assumption) | assumption); have q28 : a1 < (a0.size : Int) := of_decide_eq_true (by first | (with_reducible assumption) | assumption); have hx28 := bt_at a0 a1; replace p28 := eq_true p28; replace q28 := eq_true q28; have p31 : 0 ≤ (a1 : Int) := of_decide_eq_true (by first | (with_reducible assumption) | assumption); have q31 : a1 < (a0.size : Int) := of_decide_eq_true (by first | (with_reducible assumption) | assumption); have hx31 := bt_at a0 a1; replace p31 := eq_true p31; replace q31 := eq_true q31; have p33 : 0 ≤ (a1 : Int) := of_decide_eq_true (by first | (with_reducible assumption) | assumption); have q33 : a1 < (a0.size : Int) := of_decide_eq_true (by first | (with_reducible assumption) | assumption); have hx33 := bt_at a0 a1; replace p33 := eq_true p33; replace q33 := eq_true q33
           go_wp2
           go_meet
           case rel => exact ⟨_, (false), (by first | rfl | (simp; done) | (simp [*]; done)), H', ⟨by have := HJ2.out; have := HK2.out; have := HK3.out; have := HK4.out; first | omega | exact Nat.le_refl _⟩, ⟨be0_ HB⟩⟩
          rw [if_pos c35] at H; have c35b0 : (x6_2 == 4) = true := beq_iff_eq.mpr c35; have c35b1 : (x6_2 != 4) = false := bne_eq_false_iff_eq.mpr c35; clear c35
          by_cases c37 : (bt a0 a1) ≥ 240
          rotate_left
          ·
           rw [if_neg c37] at H; have c37b0 : decide (240 ≤ (bt a0 a1)) = false := decide_eq_false c37; clear c37; have H' := Aside0.mk H; clear H; have p26 : 0 ≤ (a1 : Int) := of_decide_eq_true (by first | (with_reducible assumption) | assumption); have q26 : a1 < (a0.size : Int) := of_decide_eq_true (by first | (with_reducible assumption) | assumption); have hx26 := bt_at a0 a1; replace p26 := eq_true p26; replace q26 := eq_true q26; have p28 : 0 ≤ (a1 : Int) := of_decide_eq_true (by first | (with_reducible assumption) | assumption); have q28 : a1 < (a0.size : Int) := of_decide_eq_true (by first | (with_reducible assumption) | assumption); have hx28 := bt_at a0 a1; replace p28 := eq_true p28; replace q28 := eq_true q28; have p31 : 0 ≤ (a1 : Int) := of_decide_eq_true (by first | (with_reducible assumption) | assumption); have q31 : a1 < (a0.size : Int) := of_decide_eq_true (by first | (with_reducible assumption) | assumption); have hx31 := bt_at a0 a1; replace p31 := eq_true p31; replace q31 := eq_true q31; have p33 : 0 ≤ (a1 : Int) := of_decide_eq_true (by first | (with_reducible assumption) | assumption); have q33 : a1 < (a0.size : Int) := of_decide_eq_true (by first | (with_reducible assumption) | assumption); have hx33 := bt_at a0 a1; replace p33 := eq_true p33; replace q33 := eq_true q33; have p36 : 0 ≤ (a1 : Int) := of_decide_eq_true (by first | (with_reducible assumption) | assumption); have q36 : a1 < (a0.size : Int) := of_decide_eq_true (by first | (with_reducible assumption) | assumption); have hx36 := bt_at a0 a1; replace p36 := eq_true p36; replace q36 := eq_true q36
           go_wp2
           go_meet
           case rel => exact ⟨_, (false), (by first | rfl | (simp; done) | (simp [*]; done)), H', ⟨by have := HJ2.out; have := HK2.out; have := HK3.out; have := HK4.out; first | omega | exact Nat.le_refl _⟩, ⟨be0_ HB⟩⟩
          rw [if_pos c37] at H; have c37b0 : decide (240 ≤ (bt a0 a1)) = true := decide_eq_true c37; clear c37; have H' := Aside0.mk H; clear H; have p26 : 0 ≤ (a1 : Int) := of_decide_eq_true (by first | (with_reducible assumption) | assumption); have q26 : a1 < (a0.size : Int) := of_decide_eq_true (by first | (with_reducible assumption) | assumption); have hx26 := bt_at a0 a1; replace p26 := eq_true p26; replace q26 := eq_true q26; have p28 : 0 ≤ (a1 : Int) := of_decide_eq_true (by first | (with_reducible assumption) | assumption); have q28 : a1 < (a0.size : Int) := of_decide_eq_true (by first | (with_reducible assumption) | assumption); have hx28 := bt_at a0 a1; replace p28 := eq_true p28; replace q28 := eq_true q28; have p31 : 0 ≤ (a1 : Int) := of_decide_eq_true (by first | (with_reducible assumption) | assumption); have q31 : a1 < (a0.size : Int) := of_decide_eq_true (by first | (with_reducible assumption) | assumption); have hx31 := bt_at a0 a1; replace p31 := eq_true p31; replace q31 := eq_true q31; have p33 : 0 ≤ (a1 : Int) := of_decide_eq_true (by first | (with_reducible assumption) | assumption); have q33 : a1 < (a0.size : Int) := of_decide_eq_true (by first | (with_reducible assumption) | assumption); have hx33 := bt_at a0 a1; replace p33 := eq_true p33; replace q33 := eq_true q33; have p36 : 0 ≤ (a1 : Int) := of_decide_eq_true (by first | (with_reducible assumption) | assumption); have q36 : a1 < (a0.size : Int) := of_decide_eq_true (by first | (with_reducible assumption) | assumption); have hx36 := bt_at a0 a1; replace p36 := eq_true p36; replace q36 := eq_true q36; have p38 : 0 ≤ (a1 : Int) := of_decide_eq_true (by first | (with_reducible assumption) | assumption); have q38 : a1 < (a0.size : Int) := of_decide_eq_true (by first | (with_reducible assumption) | assumption); have hx38 := bt_at a0 a1; replace p38 := eq_true p38; replace q38 := eq_true q38
          go_wp2
          go_meet
          case rel => exact ⟨_, (decide ((bt a0 a1) < 248)), (by first | rfl | (simp; done) | (simp [*]; done)), H', ⟨by have := HJ2.out; have := HK2.out; have := HK3.out; have := HK4.out; first | omega | exact Nat.le_refl _⟩, ⟨be0_ HB⟩⟩
         case rest => as_aux_lemma =>
          clear HC22; (try clear c2); (try clear p2); (try clear q2); (try clear hx2); (try clear c3); (try clear c4); (try clear p4); (try clear q4); (try clear hx4); (try clear c5); (try clear p5); (try clear q5); (try clear hx5); (try clear c6); (try clear p6); (try clear q6); (try clear hx6); (try clear c7); (try clear p7); (try clear q7); (try clear hx7); (try clear c8); (try clear p8); (try clear q8); (try clear hx8); (try clear c23); (try clear c23b0); (try clear c23b1); (try clear c24); (try clear c25); (try clear p26); (try clear q26); (try clear hx26); (try clear c27); (try clear c27b0); (try clear p28); (try clear q28); (try clear hx28); (try clear c30); (try clear c30b0); (try clear c30b1); (try clear c43); (try clear c43b0); (try clear c43b1); (try clear p44); (try clear q44); (try clear hx44); (try clear c45); (try clear c45b0); (try clear p46); (try clear q46); (try clear hx46); (try clear c47); (try clear c47b0); (try clear c47b1); (try clear p48); (try clear q48); (try clear hx48); (try clear c49); (try clear c49b0); (try clear p50); (try clear q50); (try clear hx50); (try clear c51); (try clear c51b0); (try clear c52); (try clear c52b0); (try clear c52b1); (try clear p53); (try clear q53); (try clear hx53); (try clear c54); (try clear c54b0); (try clear p55); (try clear q55); (try clear hx55); (try clear c56); (try clear c56b0); (try clear c56b1); (try clear p57); (try clear q57); (try clear hx57); (try clear c58); (try clear c58b0); (try clear p59); (try clear q59); (try clear hx59); (try clear c60); (try clear c60b0); (try clear c60b1); (try clear p61); (try clear q61); (try clear hx61); (try clear c62); (try clear c62b0); (try clear p63); (try clear q63); (try clear hx63); (try clear c64); (try clear c64b0); (try clear c64b1); (try clear c65); (try clear c65b0); (try clear c66); (try clear c66b0); (try clear p67); (try clear q67); (try clear hx67); (try clear c68); (try clear c68b0); (try clear p69); (try clear q69); (try clear hx69); (try clear c70); (try clear c70b0); (try clear c71); (try clear c71b0); (try clear c71b1); (try clear p72); (try clear q72); (try clear hx72); (try clear c73); (try clear c73b0); (try clear p74); (try clear q74); (try clear hx74); (try clear c75); (try clear c75b0); (try clear c75b1); (try clear p76); (try clear q76); (try clear hx76); (try clear c77); (try clear c77b0); (try clear p78); (try clear q78); (try clear hx78); (try clear c79); (try clear c79b0); (try clear c79b1); (try clear c80); (try clear c80b0); (try clear c81); (try clear c81b0); (try clear p82); (try clear q82); (try clear hx82); (try clear c83); (try clear c83b0); (try clear p84); (try clear q84); (try clear hx84); (try clear p26); (try clear p28); (try clear p44); (try clear p46); (try clear p48); (try clear p50); (try clear p53); (try clear p55); (try clear p57); (try clear p59); (try clear p61); (try clear p63); (try clear p67); (try clear p69); (try clear p72); (try clear p74); (try clear p76); (try clear p78); (try clear p82); (try clear p84); (try clear q26); (try clear q28); (try clear q44); (try clear q46); (try clear q48); (try clear q50); (try clear q53); (try clear q55); (try clear q57); (try clear q59); (try clear q61); (try clear q63); (try clear q67); (try clear q69); (try clear q72); (try clear q74); (try clear q76); (try clear q78); (try clear q82); (try clear q84); obtain ⟨kq, x14_21, rfl, HA, HJ21, HB⟩ := hcut
          cases kq with
          | zero => exact absurd HA.out (by simp [orielref01_cut.j4])
          | succ kj21 =>
           have H := HA.out; clear HA; simp only [orielref01_cut.j4] at H; have HC85 := Aside0.mk H; clear H
           go_upto_region 21 with (fail)
           go_cut [126] (fun v126 wc => ∃ (kq : Nat) (x126_84 : Bool), v126 = .bool x126_84 ∧ Aside0 (orielref01_cut.j5 kq a0 a1 (wrap64 ((a0.size : Int) - a1)) x6_2 (a0.extract (a1 : Int).toNat a0.size) t202 t203 x126_84 = some r) ∧ Aside0 (kq ≤ kj21) ∧ Aside0 (Below w.heap.size w wc))
           case first => as_aux_lemma =>
            have H := HC85.out; clear HC85
            by_cases c86 : x12_4 = true
            ·
             subst c86; have H1 : (orielref01_cut.j5 kj21 a0 a1 (wrap64 ((a0.size : Int) - a1)) x6_2 (a0.extract (a1 : Int).toNat a0.size) t202 t203 (!x14_21)) = some r := by rw [if_pos rfl] at H; exact H
             clear H; have H := H1; clear H1; have H' := Aside0.mk H; clear H
             go_wp2
             go_meet
             case rel => exact ⟨_, (!x14_21), (by first | rfl | (simp; done) | (simp [*]; done)), H', ⟨by have := HJ2.out; have := HK2.out; have := HK3.out; have := HK4.out; have := HJ21.out; first | omega | exact Nat.le_refl _⟩, ⟨be0_ HB⟩⟩
            replace c86 := Bool.eq_false_iff.mpr c86; subst c86; have H1 : (orielref01_cut.j5 kj21 a0 a1 (wrap64 ((a0.size : Int) - a1)) x6_2 (a0.extract (a1 : Int).toNat a0.size) t202 t203 true) = some r := by rw [if_neg (show ¬ (false = true) by decide)] at H; exact H
            clear H; have H := H1; clear H1; have H' := Aside0.mk H; clear H
            go_wp2
            go_meet
            case rel => exact ⟨_, (true), (by first | rfl | (simp; done) | (simp [*]; done)), H', ⟨by have := HJ2.out; have := HK2.out; have := HK3.out; have := HK4.out; have := HJ21.out; first | omega | exact Nat.le_refl _⟩, ⟨be0_ HB⟩⟩
           case rest => as_aux_lemma =>
            clear HC85; (try clear c2); (try clear p2); (try clear q2); (try clear hx2); (try clear c3); (try clear c4); (try clear p4); (try clear q4); (try clear hx4); (try clear c5); (try clear p5); (try clear q5); (try clear hx5); (try clear c6); (try clear p6); (try clear q6); (try clear hx6); (try clear c7); (try clear p7); (try clear q7); (try clear hx7); (try clear c8); (try clear p8); (try clear q8); (try clear hx8); (try clear c23); (try clear c23b0); (try clear c23b1); (try clear c24); (try clear c25); (try clear p26); (try clear q26); (try clear hx26); (try clear c27); (try clear c27b0); (try clear p28); (try clear q28); (try clear hx28); (try clear c30); (try clear c30b0); (try clear c30b1); (try clear c43); (try clear c43b0); (try clear c43b1); (try clear p44); (try clear q44); (try clear hx44); (try clear c45); (try clear c45b0); (try clear p46); (try clear q46); (try clear hx46); (try clear c47); (try clear c47b0); (try clear c47b1); (try clear p48); (try clear q48); (try clear hx48); (try clear c49); (try clear c49b0); (try clear p50); (try clear q50); (try clear hx50); (try clear c51); (try clear c51b0); (try clear c52); (try clear c52b0); (try clear c52b1); (try clear p53); (try clear q53); (try clear hx53); (try clear c54); (try clear c54b0); (try clear p55); (try clear q55); (try clear hx55); (try clear c56); (try clear c56b0); (try clear c56b1); (try clear p57); (try clear q57); (try clear hx57); (try clear c58); (try clear c58b0); (try clear p59); (try clear q59); (try clear hx59); (try clear c60); (try clear c60b0); (try clear c60b1); (try clear p61); (try clear q61); (try clear hx61); (try clear c62); (try clear c62b0); (try clear p63); (try clear q63); (try clear hx63); (try clear c64); (try clear c64b0); (try clear c64b1); (try clear p64); (try clear c65); (try clear c65b0); (try clear c66); (try clear c66b0); (try clear p67); (try clear q67); (try clear hx67); (try clear c68); (try clear c68b0); (try clear p69); (try clear q69); (try clear hx69); (try clear c70); (try clear c70b0); (try clear c71); (try clear c71b0); (try clear c71b1); (try clear p72); (try clear q72); (try clear hx72); (try clear c73); (try clear c73b0); (try clear p74); (try clear q74); (try clear hx74); (try clear c75); (try clear c75b0); (try clear c75b1); (try clear p76); (try clear q76); (try clear hx76); (try clear c77); (try clear c77b0); (try clear p78); (try clear q78); (try clear hx78); (try clear c79); (try clear c79b0); (try clear c79b1); (try clear c80); (try clear c80b0); (try clear c81); (try clear c81b0); (try clear p82); (try clear q82); (try clear hx82); (try clear c83); (try clear c83b0); (try clear p84); (try clear q84); (try clear hx84); (try clear c86); (try clear p2); (try clear p26); (try clear p28); (try clear p4); (try clear p44); (try clear p46); (try clear p48); (try clear p5); (try clear p50); (try clear p53); (try clear p55); (try clear p57); (try clear p59); (try clear p6); (try clear p61); (try clear p63); (try clear p67); (try clear p69); (try clear p7); (try clear p72); (try clear p74); (try clear p76); (try clear p78); (try clear p8); (try clear p82); (try clear p84); (try clear q2); (try clear q26); (try clear q28); (try clear q4); (try clear q44); (try clear q46); (try clear q48); (try clear q5); (try clear q50); (try clear q53); (try clear q55); (try clear q57); (try clear q59); (try clear q6); (try clear q61); (try clear q63); (try clear q67); (try clear q69); (try clear q7); (try clear q72); (try clear q74); (try clear q76); (try clear q78); (try clear q8); (try clear q82); (try clear q84); obtain ⟨kq, x126_84, rfl, HA, HJ84, HB⟩ := hcut
            cases kq with
            | zero => exact absurd HA.out (by simp [orielref01_cut.j5])
            | succ kj84 =>
             have H := HA.out; clear HA; simp only [orielref01_cut.j5] at H
             by_cases c87 : x126_84 = true
             ·
              subst c87; have H1 : (orielref01_cut.l0 kj84 a0 a1 (wrap64 ((a0.size : Int) - a1)) (wrap64 (x6_2 + 1))) = some r := by rw [if_pos rfl] at H; exact H
              clear H; have H := H1; clear H1; have H' := Aside0.mk H; clear H
              go_wp2
              go_roundg kj84
              case measure => have := HJ2.out; have := HK2.out; have := HK3.out; have := HK4.out; have := HJ21.out; have := HJ84.out; omega
              case rel => exact ⟨(wrap64 (x6_2 + 1)), (by first | rfl | (simp; done) | (simp [*]; done)), H', ⟨by have := HJ2.out; have := HK2.out; have := HK3.out; have := HK4.out; have := HJ21.out; have := HJ84.out; omega⟩, ⟨be0_ HB⟩⟩
             replace c87 := Bool.eq_false_iff.mpr c87; subst c87; have H1 : (orielref01_cut.l3 kj84 a0 a1 (wrap64 ((a0.size : Int) - a1)) x6_2 (a0.extract (a1 : Int).toNat a0.size) t202 t203 0) = some r := by rw [if_neg (show ¬ (false = true) by decide)] at H; exact H
             clear H; have H := H1; clear H1; have H' := Aside0.mk H; clear H
             go_wp2
             go_loopg [15] kj84 (fun kq v15 w' => ∃ (x15_7 : Int), v15 = .int .i64 x15_7 ∧ Aside0 (orielref01_cut.l3 kq a0 a1 (wrap64 ((a0.size : Int) - a1)) x6_2 (a0.extract (a1 : Int).toNat a0.size) t202 t203 x15_7 = some r) ∧ Aside0 (kq ≤ kj84) ∧ Aside0 (Below w.heap.size w w'))
             case atStart => exact ⟨(0), (by first | rfl | (simp; done) | (simp [*]; done)), H', ⟨Nat.le_refl _⟩, ⟨be0_ HB⟩⟩
             case round => as_aux_lemma =>
              clear H'; (try clear c2); (try clear p2); (try clear q2); (try clear hx2); (try clear c3); (try clear c4); (try clear p4); (try clear q4); (try clear hx4); (try clear c5); (try clear p5); (try clear q5); (try clear hx5); (try clear c6); (try clear p6); (try clear q6); (try clear hx6); (try clear c7); (try clear p7); (try clear q7); (try clear hx7); (try clear c8); (try clear p8); (try clear q8); (try clear hx8); (try clear c23); (try clear c23b0); (try clear c23b1); (try clear c24); (try clear c25); (try clear p26); (try clear q26); (try clear hx26); (try clear c27); (try clear c27b0); (try clear p28); (try clear q28); (try clear hx28); (try clear c30); (try clear c30b0); (try clear c30b1); (try clear c43); (try clear c43b0); (try clear c43b1); (try clear p44); (try clear q44); (try clear hx44); (try clear c45); (try clear c45b0); (try clear p46); (try clear q46); (try clear hx46); (try clear c47); (try clear c47b0); (try clear c47b1); (try clear p48); (try clear q48); (try clear hx48); (try clear c49); (try clear c49b0); (try clear p50); (try clear q50); (try clear hx50); (try clear c51); (try clear c51b0); (try clear c52); (try clear c52b0); (try clear c52b1); (try clear p53); (try clear q53); (try clear hx53); (try clear c54); (try clear c54b0); (try clear p55); (try clear q55); (try clear hx55); (try clear c56); (try clear c56b0); (try clear c56b1); (try clear p57); (try clear q57); (try clear hx57); (try clear c58); (try clear c58b0); (try clear p59); (try clear q59); (try clear hx59); (try clear c60); (try clear c60b0); (try clear c60b1); (try clear p61); (try clear q61); (try clear hx61); (try clear c62); (try clear c62b0); (try clear p63); (try clear q63); (try clear hx63); (try clear c64); (try clear c64b0); (try clear c64b1); (try clear p64); (try clear c65); (try clear c65b0); (try clear c66); (try clear c66b0); (try clear p67); (try clear q67); (try clear hx67); (try clear c68); (try clear c68b0); (try clear p69); (try clear q69); (try clear hx69); (try clear c70); (try clear c70b0); (try clear c71); (try clear c71b0); (try clear c71b1); (try clear p72); (try clear q72); (try clear hx72); (try clear c73); (try clear c73b0); (try clear p74); (try clear q74); (try clear hx74); (try clear c75); (try clear c75b0); (try clear c75b1); (try clear p76); (try clear q76); (try clear hx76); (try clear c77); (try clear c77b0); (try clear p78); (try clear q78); (try clear hx78); (try clear c79); (try clear c79b0); (try clear c79b1); (try clear c80); (try clear c80b0); (try clear c81); (try clear c81b0); (try clear p82); (try clear q82); (try clear hx82); (try clear c83); (try clear c83b0); (try clear p84); (try clear q84); (try clear hx84); (try clear c86); (try clear c87); (try clear p2); (try clear p26); (try clear p28); (try clear p4); (try clear p44); (try clear p46); (try clear p48); (try clear p5); (try clear p50); (try clear p53); (try clear p55); (try clear p57); (try clear p59); (try clear p6); (try clear p61); (try clear p63); (try clear p64); (try clear p67); (try clear p69); (try clear p7); (try clear p72); (try clear p74); (try clear p76); (try clear p78); (try clear p8); (try clear p82); (try clear p84); (try clear q2); (try clear q26); (try clear q28); (try clear q4); (try clear q44); (try clear q46); (try clear q48); (try clear q5); (try clear q50); (try clear q53); (try clear q55); (try clear q57); (try clear q59); (try clear q6); (try clear q61); (try clear q63); (try clear q67); (try clear q69); (try clear q7); (try clear q72); (try clear q74); (try clear q76); (try clear q78); (try clear q8); (try clear q82); (try clear q84); obtain ⟨x15_7, rfl, HA, HK7, HB⟩ := hrel
              cases gk with
              | zero => exact absurd HA.out (by simp [orielref01_cut.l3])
              | succ k7 =>
               have H := HA.out; clear HA; simp only [orielref01_cut.l3] at H
               by_cases c88 : x15_7 < 64
               rotate_left
               ·
                rw [if_neg c88] at H; have c88b0 : decide (x15_7 < 64) = false := decide_eq_false c88; clear c88; have H' := Aside0.mk H; clear H
                go_wp2
                go_roundg k7
                case measure => have := HJ2.out; have := HK2.out; have := HK3.out; have := HK4.out; have := HJ21.out; have := HJ84.out; have := HK7.out; omega
                case rel => exact ⟨(wrap64 (x6_2 + 1)), (by first | rfl | (simp; done) | (simp [*]; done)), H', ⟨by have := HJ2.out; have := HK2.out; have := HK3.out; have := HK4.out; have := HJ21.out; have := HJ84.out; have := HK7.out; omega⟩, ⟨be0_ HB⟩⟩
               rw [if_pos c88] at H; have c88b0 : decide (x15_7 < 64) = true := decide_eq_true c88; clear c88; have HC89 := Aside0.mk H; clear H
               go_upto_if 140 with (fail)
               go_cut [16] (fun v16 wc => ∃ (kq : Nat) (x16_88 : Int), v16 = .int .i64 x16_88 ∧ Aside0 (orielref01_cut.j7 kq a0 a1 (wrap64 ((a0.size : Int) - a1)) x6_2 (a0.extract (a1 : Int).toNat a0.size) t202 t203 x15_7 x16_88 = some r) ∧ Aside0 (kq ≤ k7) ∧ Aside0 (Below w.heap.size w wc))
               case first => as_aux_lemma =>
                have H := HC89.out; clear HC89
                by_cases c90 : x15_7 = 63
                rotate_left
                ·
                 rw [if_neg c90] at H; have c90b0 : (x15_7 == 63) = false := beq_eq_false_iff_ne.mpr c90; have c90b1 : (x15_7 != 63) = true := bne_iff_ne.mpr c90; (first | rw [c90b0] | (simp only [i64_w, i32_w]; rw [c90b0]) | skip); have H' := Aside0.mk H; clear H
                 go_wp2
                 go_meet
                 case rel => exact ⟨_, (wrap64 (t202 + (wrap64 ((wrap64 (Int.tdiv (wrap64 (t203 - t202)) 63)) * x15_7)))), (by first | rfl | (simp; done) | (simp [*]; done)), H', ⟨by have := HJ2.out; have := HK2.out; have := HK3.out; have := HK4.out; have := HJ21.out; have := HJ84.out; have := HK7.out; first | omega | exact Nat.le_refl _⟩, ⟨be0_ HB⟩⟩
                rw [if_pos c90] at H; have c90b0 : (x15_7 == 63) = true := beq_iff_eq.mpr c90; have c90b1 : (x15_7 != 63) = false := bne_eq_false_iff_eq.mpr c90; clear c90; (first | rw [c90b0] | (simp only [i64_w, i32_w]; rw [c90b0]) | skip); have H' := Aside0.mk H; clear H
                go_wp2
                go_meet
                case rel => exact ⟨_, (t203), (by first | rfl | (simp; done) | (simp [*]; done)), H', ⟨by have := HJ2.out; have := HK2.out; have := HK3.out; have := HK4.out; have := HJ21.out; have := HJ84.out; have := HK7.out; first | omega | exact Nat.le_refl _⟩, ⟨be0_ HB⟩⟩
               case rest => as_aux_lemma =>
                clear HC89; (try clear c2); (try clear p2); (try clear q2); (try clear hx2); (try clear c3); (try clear c4); (try clear p4); (try clear q4); (try clear hx4); (try clear c5); (try clear p5); (try clear q5); (try clear hx5); (try clear c6); (try clear p6); (try clear q6); (try clear hx6); (try clear c7); (try clear p7); (try clear q7); (try clear hx7); (try clear c8); (try clear p8); (try clear q8); (try clear hx8); (try clear c9); (try clear c23); (try clear c23b0); (try clear c23b1); (try clear c24); (try clear c25); (try clear p26); (try clear q26); (try clear hx26); (try clear c27); (try clear c27b0); (try clear p28); (try clear q28); (try clear hx28); (try clear c30); (try clear c30b0); (try clear c30b1); (try clear c43); (try clear c43b0); (try clear c43b1); (try clear p44); (try clear q44); (try clear hx44); (try clear c45); (try clear c45b0); (try clear p46); (try clear q46); (try clear hx46); (try clear c47); (try clear c47b0); (try clear c47b1); (try clear p48); (try clear q48); (try clear hx48); (try clear c49); (try clear c49b0); (try clear p50); (try clear q50); (try clear hx50); (try clear c51); (try clear c51b0); (try clear c52); (try clear c52b0); (try clear c52b1); (try clear p53); (try clear q53); (try clear hx53); (try clear c54); (try clear c54b0); (try clear p55); (try clear q55); (try clear hx55); (try clear c56); (try clear c56b0); (try clear c56b1); (try clear p57); (try clear q57); (try clear hx57); (try clear c58); (try clear c58b0); (try clear p59); (try clear q59); (try clear hx59); (try clear c60); (try clear c60b0); (try clear c60b1); (try clear p61); (try clear q61); (try clear hx61); (try clear c62); (try clear c62b0); (try clear p63); (try clear q63); (try clear hx63); (try clear c64); (try clear c64b0); (try clear c64b1); (try clear p64); (try clear c65); (try clear c65b0); (try clear c66); (try clear c66b0); (try clear p67); (try clear q67); (try clear hx67); (try clear c68); (try clear c68b0); (try clear p69); (try clear q69); (try clear hx69); (try clear c70); (try clear c70b0); (try clear c71); (try clear c71b0); (try clear c71b1); (try clear p72); (try clear q72); (try clear hx72); (try clear c73); (try clear c73b0); (try clear p74); (try clear q74); (try clear hx74); (try clear c75); (try clear c75b0); (try clear c75b1); (try clear p76); (try clear q76); (try clear hx76); (try clear c77); (try clear c77b0); (try clear p78); (try clear q78); (try clear hx78); (try clear c79); (try clear c79b0); (try clear c79b1); (try clear c80); (try clear c80b0); (try clear c81); (try clear c81b0); (try clear p82); (try clear q82); (try clear hx82); (try clear c83); (try clear c83b0); (try clear p84); (try clear q84); (try clear hx84); (try clear c86); (try clear c87); (try clear c88); (try clear c88b0); (try clear c90); (try clear c90b0); (try clear c90b1); (try clear p2); (try clear p26); (try clear p28); (try clear p4); (try clear p44); (try clear p46); (try clear p48); (try clear p5); (try clear p50); (try clear p53); (try clear p55); (try clear p57); (try clear p59); (try clear p6); (try clear p61); (try clear p63); (try clear p64); (try clear p67); (try clear p69); (try clear p7); (try clear p72); (try clear p74); (try clear p76); (try clear p78); (try clear p8); (try clear p82); (try clear p84); (try clear q2); (try clear q26); (try clear q28); (try clear q4); (try clear q44); (try clear q46); (try clear q48); (try clear q5); (try clear q50); (try clear q53); (try clear q55); (try clear q57); (try clear q59); (try clear q6); (try clear q61); (try clear q63); (try clear q67); (try clear q69); (try clear q7); (try clear q72); (try clear q74); (try clear q76); (try clear q78); (try clear q8); (try clear q82); (try clear q84); obtain ⟨kq, x16_88, rfl, HA, HJ88, HB⟩ := hcut
                cases kq with
                | zero => exact absurd HA.out (by simp [orielref01_cut.j7])
                | succ kj88 =>
                 have H := HA.out; clear HA; simp only [orielref01_cut.j7] at H; replace H := Option.bind_eq_some_iff.mp H; obtain ⟨t204, A910, H⟩ := H; replace H : (if (t204.length : Int) = x6_2 then (if (strOfNums t204).size + 1 ≤ 9223372036854775807 then ((convBytes.f (a0.extract (a1 : Int).toNat a0.size)).bind fun t207 => ((orielref01_begins.f kj88 ((strOfNums t204) ++ (⟨#[120]⟩ : ByteArray)) 0 t207).bind fun t210 => (if t210 = true then (some true) else (orielref01_cut.l3 kj88 a0 a1 (wrap64 ((a0.size : Int) - a1)) x6_2 (a0.extract (a1 : Int).toNat a0.size) t202 t203 (wrap64 (x15_7 + 1)))))) else (none)) else (orielref01_cut.l3 kj88 a0 a1 (wrap64 ((a0.size : Int) - a1)) x6_2 (a0.extract (a1 : Int).toNat a0.size) t202 t203 (wrap64 (x15_7 + 1)))) = some r := H; have A91 := Aside0.mk A910; clear A910
                 by_cases c92 : (t204.length : Int) = x6_2
                 rotate_left
                 ·
                  rw [if_neg c92] at H; have c92b0 : ((t204.length : Int) == x6_2) = false := beq_eq_false_iff_ne.mpr c92; have c92b1 : ((t204.length : Int) != x6_2) = true := bne_iff_ne.mpr c92; have H' := Aside0.mk H; clear H
                  go_wp2_with (first | ((with_reducible refine gate_callee (f := 61) rfl ?_); refine goesL_ (some 143) rfl rfl Try.func61 (by kernel_rfl) rfl #[.int .i64 x16_88] rfl (by (try simp only [List.map_toArray, List.map_cons, List.map_nil]); first | done | rfl | (simp only [List.length_drop, List.length_take]; rfl)) ?_; (with_reducible refine (orielref01_Put.calls kj88 x16_88 t204 _ A91.out).mono ?_); rintro e w107 ⟨v205, rfl, ho0, hb⟩; refine ⟨_, rfl, ?_⟩; have n0_ := Aside0.mk (Kd.R_lower ho0 (below_size (be0_ HB))); have n1_ := Aside0.mk (below_step (be0_ HB) hb); clear HB; have HO206 := n0_; have HB := n1_; clear n0_ n1_; (try clear hb); (try clear hb2); (try clear hk); (try clear hi); (try clear ho0); obtain ⟨Ao108, co108, eo108⟩ := Kd.R_slice HO206.out; subst eo108))
                  go_roundg kj88
                  case measure => have := HJ2.out; have := HK2.out; have := HK3.out; have := HK4.out; have := HJ21.out; have := HJ84.out; have := HK7.out; have := HJ88.out; omega
                  case rel => exact ⟨(wrap64 (x15_7 + 1)), (by first | rfl | (simp; done) | (simp [*]; done)), H', ⟨by have := HJ2.out; have := HK2.out; have := HK3.out; have := HK4.out; have := HJ21.out; have := HJ84.out; have := HK7.out; have := HJ88.out; omega⟩, ⟨be0_ HB⟩⟩
                 rw [if_pos c92] at H; have c92b0 : ((t204.length : Int) == x6_2) = true := beq_iff_eq.mpr c92; have c92b1 : ((t204.length : Int) != x6_2) = false := bne_eq_false_iff_eq.mpr c92; clear c92
                 by_cases c93 : (strOfNums t204).size + 1 ≤ 9223372036854775807
                 rotate_left
                 ·
                  rw [if_neg c93] at H; exact absurd H (by simp)
                 rw [if_pos c93] at H; have c93b0 := eq_true c93; have c93b1 : decide ((strOfNums t204).size + 1 ≤ 9223372036854775807) = true := decide_eq_true c93
                 try have c93b2 : (9223372036854775807 < (strOfNums t204).size + 1) = False := eq_false (Nat.not_lt.2 c93)
                 replace H := Option.bind_eq_some_iff.mp H; obtain ⟨t207, A940, H⟩ := H; replace H : ((orielref01_begins.f kj88 ((strOfNums t204) ++ (⟨#[120]⟩ : ByteArray)) 0 t207).bind fun t210 => (if t210 = true then (some true) else (orielref01_cut.l3 kj88 a0 a1 (wrap64 ((a0.size : Int) - a1)) x6_2 (a0.extract (a1 : Int).toNat a0.size) t202 t203 (wrap64 (x15_7 + 1))))) = some r := H; have A94 := Aside0.mk A940; clear A940; replace H := Option.bind_eq_some_iff.mp H; obtain ⟨t210, A950, H⟩ := H; replace H : (if t210 = true then (some true) else (orielref01_cut.l3 kj88 a0 a1 (wrap64 ((a0.size : Int) - a1)) x6_2 (a0.extract (a1 : Int).toNat a0.size) t202 t203 (wrap64 (x15_7 + 1)))) = some r := H; have A95 := Aside0.mk A950; clear A950
                 by_cases c96 : t210 = true
                 ·
                  subst c96; have H1 : (some true) = some r := by rw [if_pos rfl] at H; exact H
                  clear H; have H := H1; clear H1; obtain rfl := Option.some.inj H
                  go_wp2_with (first | ((with_reducible refine gate_callee (f := 61) rfl ?_); refine goesL_ (some 143) rfl rfl Try.func61 (by kernel_rfl) rfl #[.int .i64 x16_88] rfl (by (try simp only [List.map_toArray, List.map_cons, List.map_nil]); first | done | rfl | (simp only [List.length_drop, List.length_take]; rfl)) ?_; (with_reducible refine (orielref01_Put.calls kj88 x16_88 t204 _ A91.out).mono ?_); rintro e w97 ⟨v205, rfl, ho0, hb⟩; refine ⟨_, rfl, ?_⟩; have n0_ := Aside0.mk (Kd.R_lower ho0 (below_size (be0_ HB))); have n1_ := Aside0.mk (below_step (be0_ HB) hb); clear HB; have HO206 := n0_; have HB := n1_; clear n0_ n1_; (try clear hb); (try clear hb2); (try clear hk); (try clear hi); (try clear ho0); obtain ⟨Ao98, co98, eo98⟩ := Kd.R_slice HO206.out; subst eo98; have hcv99 := own_string (P := Try.prog) Try.underlying101 Try.underlying5 Try.underlying9 (Kd.own_of_R HO206.out)) | ((with_reducible refine gate_dst (N := 153) rfl ?_); (try (refine gate_guard (by rfl) ?_; dsimp only)); refine goes_conv (N := some 153) (v := .string (a0.extract (a1 : Int).toNat a0.size)) rfl rfl (src := 9) (dst := 101) rfl rfl ?_; (with_reducible refine (convBytes.calls (P := Try.prog) Try.underlying9 Try.underlying101 Try.underlying5 (a0.extract (a1 : Int).toNat a0.size) t207 _ A94.out).mono ?_); rintro e w100 ⟨v208, rfl, ho0, hb⟩; refine ⟨_, rfl, ?_⟩; have n0_ := Aside0.mk (Kd.R_below (rr_ HO206) hb); have n1_ := Aside0.mk (Kd.V_lower (Kd.V_mono (ok' := fun k_ => some k_ ≠ (.slice Ao98 t204.length co98 : Value).ownBlock) ho0 (fun k_ hk_ => (Kd.fresh' (Kd.R_lt (rr_ HO206)) k_ hk_))) (below_size (be0_ HB))); have n2_ := Aside0.mk (below_step (be0_ HB) hb); clear HO206; clear HB; have HO206 := n0_; have HO209 := n1_; have HB := n2_; clear n0_ n1_ n2_; (try clear hb); (try clear hb2); (try clear hk); (try clear hi); (try clear ho0); obtain ⟨Ao101, co101, eo101⟩ := Kd.V_slice HO209.out; subst eo101) | (go_at_call 62; (with_reducible refine (orielref01_begins.calls kj88 ((strOfNums t204) ++ (⟨#[120]⟩ : ByteArray)) 0 _ _ t207 true _ ?side1 ?side2 A95.out).mono ?_); (case side1 => repeat (first | exact (Kd.V_reads' HO209.out).2.2 | (with_reducible refine Kd.C_alloc ?_ _) | (with_reducible refine Kd.C_drewN ?_ _) | (with_reducible refine Kd.C_drew ?_))); (case side2 => exact (Kd.V_reads' HO209.out).2.1); rintro e w' ⟨rfl, ⟨nd, rfl⟩⟩))
                  go_ret
                  exact ⟨by first | rfl | exact congrArg (fun b => Ending.returned (Value.bool b)) (isE_ne _).symm | exact congrArg (fun b => Ending.returned (Value.bool b)) (isE_eq _).symm | (simp only [isE_ne, isE_eq, Bool.not_not]; done) | (simp [errW_none, errW_some] <;> rfl) | (simp [*, errW_none, errW_some] <;> rfl), be0_ HB⟩
                 replace c96 := Bool.eq_false_iff.mpr c96; subst c96; have H1 : (orielref01_cut.l3 kj88 a0 a1 (wrap64 ((a0.size : Int) - a1)) x6_2 (a0.extract (a1 : Int).toNat a0.size) t202 t203 (wrap64 (x15_7 + 1))) = some r := by rw [if_neg (show ¬ (false = true) by decide)] at H; exact H
                 clear H; have H := H1; clear H1; have H' := Aside0.mk H; clear H
                 go_wp2_with (first | ((with_reducible refine gate_callee (f := 61) rfl ?_); refine goesL_ (some 143) rfl rfl Try.func61 (by kernel_rfl) rfl #[.int .i64 x16_88] rfl (by (try simp only [List.map_toArray, List.map_cons, List.map_nil]); first | done | rfl | (simp only [List.length_drop, List.length_take]; rfl)) ?_; (with_reducible refine (orielref01_Put.calls kj88 x16_88 t204 _ A91.out).mono ?_); rintro e w102 ⟨v205, rfl, ho0, hb⟩; refine ⟨_, rfl, ?_⟩; have n0_ := Aside0.mk (Kd.R_lower ho0 (below_size (be0_ HB))); have n1_ := Aside0.mk (below_step (be0_ HB) hb); clear HB; have HO206 := n0_; have HB := n1_; clear n0_ n1_; (try clear hb); (try clear hb2); (try clear hk); (try clear hi); (try clear ho0); obtain ⟨Ao103, co103, eo103⟩ := Kd.R_slice HO206.out; subst eo103; have hcv104 := own_string (P := Try.prog) Try.underlying101 Try.underlying5 Try.underlying9 (Kd.own_of_R HO206.out)) | ((with_reducible refine gate_dst (N := 153) rfl ?_); (try (refine gate_guard (by rfl) ?_; dsimp only)); refine goes_conv (N := some 153) (v := .string (a0.extract (a1 : Int).toNat a0.size)) rfl rfl (src := 9) (dst := 101) rfl rfl ?_; (with_reducible refine (convBytes.calls (P := Try.prog) Try.underlying9 Try.underlying101 Try.underlying5 (a0.extract (a1 : Int).toNat a0.size) t207 _ A94.out).mono ?_); rintro e w105 ⟨v208, rfl, ho0, hb⟩; refine ⟨_, rfl, ?_⟩; have n0_ := Aside0.mk (Kd.R_below (rr_ HO206) hb); have n1_ := Aside0.mk (Kd.V_lower (Kd.V_mono (ok' := fun k_ => some k_ ≠ (.slice Ao103 t204.length co103 : Value).ownBlock) ho0 (fun k_ hk_ => (Kd.fresh' (Kd.R_lt (rr_ HO206)) k_ hk_))) (below_size (be0_ HB))); have n2_ := Aside0.mk (below_step (be0_ HB) hb); clear HO206; clear HB; have HO206 := n0_; have HO209 := n1_; have HB := n2_; clear n0_ n1_ n2_; (try clear hb); (try clear hb2); (try clear hk); (try clear hi); (try clear ho0); obtain ⟨Ao106, co106, eo106⟩ := Kd.V_slice HO209.out; subst eo106) | (go_at_call 62; (with_reducible refine (orielref01_begins.calls kj88 ((strOfNums t204) ++ (⟨#[120]⟩ : ByteArray)) 0 _ _ t207 false _ ?side1 ?side2 A95.out).mono ?_); (case side1 => repeat (first | exact (Kd.V_reads' HO209.out).2.2 | (with_reducible refine Kd.C_alloc ?_ _) | (with_reducible refine Kd.C_drewN ?_ _) | (with_reducible refine Kd.C_drew ?_))); (case side2 => exact (Kd.V_reads' HO209.out).2.1); rintro e w' ⟨rfl, ⟨nd, rfl⟩⟩))
                 go_roundg kj88
                 case measure => have := HJ2.out; have := HK2.out; have := HK3.out; have := HK4.out; have := HJ21.out; have := HJ84.out; have := HK7.out; have := HJ88.out; omega
                 case rel => exact ⟨(wrap64 (x15_7 + 1)), (by first | rfl | (simp; done) | (simp [*]; done)), H', ⟨by have := HJ2.out; have := HK2.out; have := HK3.out; have := HK4.out; have := HJ21.out; have := HJ84.out; have := HK7.out; have := HJ88.out; omega⟩, ⟨be0_ HB⟩⟩
end Go.Proofs.Ytmbbjdkcanoklaa.X
