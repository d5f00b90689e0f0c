/- Printed by a program of this session (xprint) out of the kit's print, with functions proved by hand. -/
import Derived.Test.YtmbbjdkcanoklaaX0
namespace Go.Proofs.Ytmbbjdkcanoklaa.X
open Go.RowKit Go.Proofs.YtmbbjdkcanoklaaW.PrintWords Go.Proofs.YtmbbjdkcanoklaaW.PrintLast Go.Proofs.YtmbbjdkcanoklaaW.PrintMore Go.Proofs.YtmbbjdkcanoklaaW.XConv
attribute [local go_sem] max2_int min2_int max_two min_two max_three min_three max_four min_four   -- for this text's walks alone
set_option linter.unusedVariables false
set_option linter.unusedSimpArgs false

mutual
def orielref12_size.j1 : Nat → Int → Int → Int → List (S25) → List (S51) → Option (Int)
 | 0, _, _, _, _, _ => none
 | k + 1, x1, x5, x178000, x178001, x178002 => orielref12_size.l1 k x1 x5 0 x178000 x178001 x178002
def orielref12_size.l1 : Nat → Int → Int → Int → Int → List (S25) → List (S51) → Option (Int)
 | 0, _, _, _, _, _, _ => none
 | k + 1, x1, x5, x7, x178000, x178001, x178002 => if x7 < (x178002.length : Int) then (if x5 ≤ x1 then (if 0 ≤ x7 then ((orielref12_sizeFilter.f k ((rd_T51 x178002 x7).f0) ((rd_T51 x178002 x7).f1.f0) ((rd_T51 x178002 x7).f1.f1) ((rd_T51 x178002 x7).f2) ((rd_T51 x178002 x7).f3) ((rd_T51 x178002 x7).f4) (wrap64 (x1 - x5))).bind fun t181 => (orielref12_size.l1 k x1 (wrap64 (x5 + t181)) (wrap64 (x7 + 1)) x178000 x178001 x178002)) else (none)) else (some x5)) else (some x5)
def orielref12_size.l0 : Nat → Int → Int → Int → Int → List (S25) → List (S51) → Option (Int)
 | 0, _, _, _, _, _, _ => none
 | k + 1, x1, x5, x6, x178000, x178001, x178002 => if x6 < (x178001.length : Int) then (if x5 ≤ x1 then (if 0 ≤ x6 then ((orielref12_size.f k ((rd_T25 x178001 x6).f0) ((rd_T25 x178001 x6).f1) ((rd_T25 x178001 x6).f2) (wrap64 (x1 - x5))).bind fun t179 => (orielref12_size.l0 k x1 (wrap64 (x5 + t179)) (wrap64 (x6 + 1)) x178000 x178001 x178002)) else (none)) else (orielref12_size.j1 k x1 x5 x178000 x178001 x178002)) else (orielref12_size.j1 k x1 x5 x178000 x178001 x178002)
def orielref12_size.f : Nat → Int → List (S25) → List (S51) → Int → Option (Int)
 | 0, _, _, _, _ => none
 | k + 1, a0_0, l0_1, l0_2, a1 => orielref12_size.l0 k a1 1 0 a0_0 l0_1 l0_2
def orielref12_sizeFilter.j1 : Nat → Int → Int → Int → ByteArray → ByteArray → ByteArray → List (S51) → List (S25) → Option (Int)
 | 0, _, _, _, _, _, _, _, _ => none
 | k + 1, x1, x5, x183000, x183001, x183002, x183003, x183004, x183005 => orielref12_sizeFilter.l1 k x1 x5 0 x183000 x183001 x183002 x183003 x183004 x183005
def orielref12_sizeFilter.l1 : Nat → Int → Int → Int → Int → ByteArray → ByteArray → ByteArray → List (S51) → List (S25) → Option (Int)
 | 0, _, _, _, _, _, _, _, _, _ => none
 | k + 1, x1, x5, x7, x183000, x183001, x183002, x183003, x183004, x183005 => if x7 < (x183005.length : Int) then (if x5 ≤ x1 then (if 0 ≤ x7 then ((orielref12_size.f k ((rd_T25 x183005 x7).f0) ((rd_T25 x183005 x7).f1) ((rd_T25 x183005 x7).f2) (wrap64 (x1 - x5))).bind fun t186 => (orielref12_sizeFilter.l1 k x1 (wrap64 (x5 + t186)) (wrap64 (x7 + 1)) x183000 x183001 x183002 x183003 x183004 x183005)) else (none)) else (some x5)) else (some x5)
def orielref12_sizeFilter.l0 : Nat → Int → Int → Int → Int → ByteArray → ByteArray → ByteArray → List (S51) → List (S25) → Option (Int)
 | 0, _, _, _, _, _, _, _, _, _ => none
 | k + 1, x1, x5, x6, x183000, x183001, x183002, x183003, x183004, x183005 => if x6 < (x183004.length : Int) then (if x5 ≤ x1 then (if 0 ≤ x6 then ((orielref12_sizeFilter.f k ((rd_T51 x183004 x6).f0) ((rd_T51 x183004 x6).f1.f0) ((rd_T51 x183004 x6).f1.f1) ((rd_T51 x183004 x6).f2) ((rd_T51 x183004 x6).f3) ((rd_T51 x183004 x6).f4) (wrap64 (x1 - x5))).bind fun t184 => (orielref12_sizeFilter.l0 k x1 (wrap64 (x5 + t184)) (wrap64 (x6 + 1)) x183000 x183001 x183002 x183003 x183004 x183005)) else (none)) else (orielref12_sizeFilter.j1 k x1 x5 x183000 x183001 x183002 x183003 x183004 x183005)) else (orielref12_sizeFilter.j1 k x1 x5 x183000 x183001 x183002 x183003 x183004 x183005)
def orielref12_sizeFilter.f : Nat → Int → ByteArray → ByteArray → ByteArray → List (S51) → List (S25) → Int → Option (Int)
 | 0, _, _, _, _, _, _, _ => none
 | k + 1, a0_0, a0_1, a0_2, a0_3, l0_4, l0_5, a1 => orielref12_sizeFilter.l0 k a1 1 0 a0_0 a0_1 a0_2 a0_3 l0_4 l0_5
end
theorem grp_orielref12_size.mono_l : ∀ k, (∀ y0 y1 y2 y3, LeO (orielref12_size.f k y0 y1 y2 y3) (orielref12_size.f (k + 1) y0 y1 y2 y3)) ∧ (∀ y0 y1 y2 y3 y4, LeO (orielref12_size.j1 k y0 y1 y2 y3 y4) (orielref12_size.j1 (k + 1) y0 y1 y2 y3 y4)) ∧ (∀ y0 y1 y2 y3 y4 y5, LeO (orielref12_size.l1 k y0 y1 y2 y3 y4 y5) (orielref12_size.l1 (k + 1) y0 y1 y2 y3 y4 y5)) ∧ (∀ y0 y1 y2 y3 y4 y5, LeO (orielref12_size.l0 k y0 y1 y2 y3 y4 y5) (orielref12_size.l0 (k + 1) y0 y1 y2 y3 y4 y5)) ∧ (∀ y0 y1 y2 y3 y4 y5 y6, LeO (orielref12_sizeFilter.f k y0 y1 y2 y3 y4 y5 y6) (orielref12_sizeFilter.f (k + 1) y0 y1 y2 y3 y4 y5 y6)) ∧ (∀ y0 y1 y2 y3 y4 y5 y6 y7, LeO (orielref12_sizeFilter.j1 k y0 y1 y2 y3 y4 y5 y6 y7) (orielref12_sizeFilter.j1 (k + 1) y0 y1 y2 y3 y4 y5 y6 y7)) ∧ (∀ y0 y1 y2 y3 y4 y5 y6 y7 y8, LeO (orielref12_sizeFilter.l1 k y0 y1 y2 y3 y4 y5 y6 y7 y8) (orielref12_sizeFilter.l1 (k + 1) y0 y1 y2 y3 y4 y5 y6 y7 y8)) ∧ (∀ y0 y1 y2 y3 y4 y5 y6 y7 y8, LeO (orielref12_sizeFilter.l0 k y0 y1 y2 y3 y4 y5 y6 y7 y8) (orielref12_sizeFilter.l0 (k + 1) y0 y1 y2 y3 y4 y5 y6 y7 y8))
 | 0 => ⟨fun _ _ _ _ r h => by simp [orielref12_size.f] at h, fun _ _ _ _ _ r h => by simp [orielref12_size.j1] at h, fun _ _ _ _ _ _ r h => by simp [orielref12_size.l1] at h, fun _ _ _ _ _ _ r h => by simp [orielref12_size.l0] at h, fun _ _ _ _ _ _ _ r h => by simp [orielref12_sizeFilter.f] at h, fun _ _ _ _ _ _ _ _ r h => by simp [orielref12_sizeFilter.j1] at h, fun _ _ _ _ _ _ _ _ _ r h => by simp [orielref12_sizeFilter.l1] at h, fun _ _ _ _ _ _ _ _ _ r h => by simp [orielref12_sizeFilter.l0] at h⟩
 | k + 1 => by
  obtain ⟨ih0, ih1, ih2, ih3, ih4, ih5, ih6, ih7⟩ := grp_orielref12_size.mono_l k
  refine ⟨?_, ?_, ?_, ?_, ?_, ?_, ?_, ?_⟩
  ·
   intro y0 y1 y2 y3
   unfold orielref12_size.f
   repeat' first
   | (with_reducible exact ih0 _ _ _ _)
   | (with_reducible exact ih1 _ _ _ _ _)
   | (with_reducible exact ih2 _ _ _ _ _ _)
   | (with_reducible exact ih3 _ _ _ _ _ _)
   | (with_reducible exact ih4 _ _ _ _ _ _ _)
   | (with_reducible exact ih5 _ _ _ _ _ _ _ _)
   | (with_reducible exact ih6 _ _ _ _ _ _ _ _ _)
   | (with_reducible exact ih7 _ _ _ _ _ _ _ _ _)
   | (with_reducible exact LeO.refl _)
   | (with_reducible exact LeO.none _)
   | (with_reducible refine LeO.ite ?_ ?_)
   | (with_reducible refine LeO.bind ?_ (fun _ => ?_))
   | exact ih0 _ _ _ _
   | exact ih1 _ _ _ _ _
   | exact ih2 _ _ _ _ _ _
   | exact ih3 _ _ _ _ _ _
   | exact ih4 _ _ _ _ _ _ _
   | exact ih5 _ _ _ _ _ _ _ _
   | exact ih6 _ _ _ _ _ _ _ _ _
   | exact ih7 _ _ _ _ _ _ _ _ _
   | exact LeO.none _
   | refine LeO.ite ?_ ?_
   | refine LeO.bind ?_ (fun _ => ?_)
  ·
   intro y0 y1 y2 y3 y4
   unfold orielref12_size.j1
   repeat' first
   | (with_reducible exact ih0 _ _ _ _)
   | (with_reducible exact ih1 _ _ _ _ _)
   | (with_reducible exact ih2 _ _ _ _ _ _)
   | (with_reducible exact ih3 _ _ _ _ _ _)
   | (with_reducible exact ih4 _ _ _ _ _ _ _)
   | (with_reducible exact ih5 _ _ _ _ _ _ _ _)
   | (with_reducible exact ih6 _ _ _ _ _ _ _ _ _)
   | (with_reducible exact ih7 _ _ _ _ _ _ _ _ _)
   | (with_reducible exact LeO.refl _)
   | (with_reducible exact LeO.none _)
   | (with_reducible refine LeO.ite ?_ ?_)
   | (with_reducible refine LeO.bind ?_ (fun _ => ?_))
   | exact ih0 _ _ _ _
   | exact ih1 _ _ _ _ _
   | exact ih2 _ _ _ _ _ _
   | exact ih3 _ _ _ _ _ _
   | exact ih4 _ _ _ _ _ _ _
   | exact ih5 _ _ _ _ _ _ _ _
   | exact ih6 _ _ _ _ _ _ _ _ _
   | exact ih7 _ _ _ _ _ _ _ _ _
   | exact LeO.none _
   | refine LeO.ite ?_ ?_
   | refine LeO.bind ?_ (fun _ => ?_)
  ·
   intro y0 y1 y2 y3 y4 y5
   unfold orielref12_size.l1
   repeat' first
   | (with_reducible exact ih0 _ _ _ _)
   | (with_reducible exact ih1 _ _ _ _ _)
   | (with_reducible exact ih2 _ _ _ _ _ _)
   | (with_reducible exact ih3 _ _ _ _ _ _)
   | (with_reducible exact ih4 _ _ _ _ _ _ _)
   | (with_reducible exact ih5 _ _ _ _ _ _ _ _)
   | (with_reducible exact ih6 _ _ _ _ _ _ _ _ _)
   | (with_reducible exact ih7 _ _ _ _ _ _ _ _ _)
   | (with_reducible exact LeO.refl _)
   | (with_reducible exact LeO.none _)
   | (with_reducible refine LeO.ite ?_ ?_)
   | (with_reducible refine LeO.bind ?_ (fun _ => ?_))
   | exact ih0 _ _ _ _
   | exact ih1 _ _ _ _ _
   | exact ih2 _ _ _ _ _ _
   | exact ih3 _ _ _ _ _ _
   | exact ih4 _ _ _ _ _ _ _
   | exact ih5 _ _ _ _ _ _ _ _
   | exact ih6 _ _ _ _ _ _ _ _ _
   | exact ih7 _ _ _ _ _ _ _ _ _
   | exact LeO.none _
   | refine LeO.ite ?_ ?_
   | refine LeO.bind ?_ (fun _ => ?_)
  ·
   intro y0 y1 y2 y3 y4 y5
   unfold orielref12_size.l0
   repeat' first
   | (with_reducible exact ih0 _ _ _ _)
   | (with_reducible exact ih1 _ _ _ _ _)
   | (with_reducible exact ih2 _ _ _ _ _ _)
   | (with_reducible exact ih3 _ _ _ _ _ _)
   | (with_reducible exact ih4 _ _ _ _ _ _ _)
   | (with_reducible exact ih5 _ _ _ _ _ _ _ _)
   | (with_reducible exact ih6 _ _ _ _ _ _ _ _ _)
   | (with_reducible exact ih7 _ _ _ _ _ _ _ _ _)
   | (with_reducible exact LeO.refl _)
   | (with_reducible exact LeO.none _)
   | (with_reducible refine LeO.ite ?_ ?_)
   | (with_reducible refine LeO.bind ?_ (fun _ => ?_))
   | exact ih0 _ _ _ _
   | exact ih1 _ _ _ _ _
   | exact ih2 _ _ _ _ _ _
   | exact ih3 _ _ _ _ _ _
   | exact ih4 _ _ _ _ _ _ _
   | exact ih5 _ _ _ _ _ _ _ _
   | exact ih6 _ _ _ _ _ _ _ _ _
   | exact ih7 _ _ _ _ _ _ _ _ _
   | exact LeO.none _
   | refine LeO.ite ?_ ?_
   | refine LeO.bind ?_ (fun _ => ?_)
  ·
   intro y0 y1 y2 y3 y4 y5 y6
   unfold orielref12_sizeFilter.f
   repeat' first
   | (with_reducible exact ih0 _ _ _ _)
   | (with_reducible exact ih1 _ _ _ _ _)
   | (with_reducible exact ih2 _ _ _ _ _ _)
   | (with_reducible exact ih3 _ _ _ _ _ _)
   | (with_reducible exact ih4 _ _ _ _ _ _ _)
   | (with_reducible exact ih5 _ _ _ _ _ _ _ _)
   | (with_reducible exact ih6 _ _ _ _ _ _ _ _ _)
   | (with_reducible exact ih7 _ _ _ _ _ _ _ _ _)
   | (with_reducible exact LeO.refl _)
   | (with_reducible exact LeO.none _)
   | (with_reducible refine LeO.ite ?_ ?_)
   | (with_reducible refine LeO.bind ?_ (fun _ => ?_))
   | exact ih0 _ _ _ _
   | exact ih1 _ _ _ _ _
   | exact ih2 _ _ _ _ _ _
   | exact ih3 _ _ _ _ _ _
   | exact ih4 _ _ _ _ _ _ _
   | exact ih5 _ _ _ _ _ _ _ _
   | exact ih6 _ _ _ _ _ _ _ _ _
   | exact ih7 _ _ _ _ _ _ _ _ _
   | exact LeO.none _
   | refine LeO.ite ?_ ?_
   | refine LeO.bind ?_ (fun _ => ?_)
  ·
   intro y0 y1 y2 y3 y4 y5 y6 y7
   unfold orielref12_sizeFilter.j1
   repeat' first
   | (with_reducible exact ih0 _ _ _ _)
   | (with_reducible exact ih1 _ _ _ _ _)
   | (with_reducible exact ih2 _ _ _ _ _ _)
   | (with_reducible exact ih3 _ _ _ _ _ _)
   | (with_reducible exact ih4 _ _ _ _ _ _ _)
   | (with_reducible exact ih5 _ _ _ _ _ _ _ _)
   | (with_reducible exact ih6 _ _ _ _ _ _ _ _ _)
   | (with_reducible exact ih7 _ _ _ _ _ _ _ _ _)
   | (with_reducible exact LeO.refl _)
   | (with_reducible exact LeO.none _)
   | (with_reducible refine LeO.ite ?_ ?_)
   | (with_reducible refine LeO.bind ?_ (fun _ => ?_))
   | exact ih0 _ _ _ _
   | exact ih1 _ _ _ _ _
   | exact ih2 _ _ _ _ _ _
   | exact ih3 _ _ _ _ _ _
   | exact ih4 _ _ _ _ _ _ _
   | exact ih5 _ _ _ _ _ _ _ _
   | exact ih6 _ _ _ _ _ _ _ _ _
   | exact ih7 _ _ _ _ _ _ _ _ _
   | exact LeO.none _
   | refine LeO.ite ?_ ?_
   | refine LeO.bind ?_ (fun _ => ?_)
  ·
   intro y0 y1 y2 y3 y4 y5 y6 y7 y8
   unfold orielref12_sizeFilter.l1
   repeat' first
   | (with_reducible exact ih0 _ _ _ _)
   | (with_reducible exact ih1 _ _ _ _ _)
   | (with_reducible exact ih2 _ _ _ _ _ _)
   | (with_reducible exact ih3 _ _ _ _ _ _)
   | (with_reducible exact ih4 _ _ _ _ _ _ _)
   | (with_reducible exact ih5 _ _ _ _ _ _ _ _)
   | (with_reducible exact ih6 _ _ _ _ _ _ _ _ _)
   | (with_reducible exact ih7 _ _ _ _ _ _ _ _ _)
   | (with_reducible exact LeO.refl _)
   | (with_reducible exact LeO.none _)
   | (with_reducible refine LeO.ite ?_ ?_)
   | (with_reducible refine LeO.bind ?_ (fun _ => ?_))
   | exact ih0 _ _ _ _
   | exact ih1 _ _ _ _ _
   | exact ih2 _ _ _ _ _ _
   | exact ih3 _ _ _ _ _ _
   | exact ih4 _ _ _ _ _ _ _
   | exact ih5 _ _ _ _ _ _ _ _
   | exact ih6 _ _ _ _ _ _ _ _ _
   | exact ih7 _ _ _ _ _ _ _ _ _
   | exact LeO.none _
   | refine LeO.ite ?_ ?_
   | refine LeO.bind ?_ (fun _ => ?_)
  ·
   intro y0 y1 y2 y3 y4 y5 y6 y7 y8
   unfold orielref12_sizeFilter.l0
   repeat' first
   | (with_reducible exact ih0 _ _ _ _)
   | (with_reducible exact ih1 _ _ _ _ _)
   | (with_reducible exact ih2 _ _ _ _ _ _)
   | (with_reducible exact ih3 _ _ _ _ _ _)
   | (with_reducible exact ih4 _ _ _ _ _ _ _)
   | (with_reducible exact ih5 _ _ _ _ _ _ _ _)
   | (with_reducible exact ih6 _ _ _ _ _ _ _ _ _)
   | (with_reducible exact ih7 _ _ _ _ _ _ _ _ _)
   | (with_reducible exact LeO.refl _)
   | (with_reducible exact LeO.none _)
   | (with_reducible refine LeO.ite ?_ ?_)
   | (with_reducible refine LeO.bind ?_ (fun _ => ?_))
   | exact ih0 _ _ _ _
   | exact ih1 _ _ _ _ _
   | exact ih2 _ _ _ _ _ _
   | exact ih3 _ _ _ _ _ _
   | exact ih4 _ _ _ _ _ _ _
   | exact ih5 _ _ _ _ _ _ _ _
   | exact ih6 _ _ _ _ _ _ _ _ _
   | exact ih7 _ _ _ _ _ _ _ _ _
   | exact LeO.none _
   | refine LeO.ite ?_ ?_
   | refine LeO.bind ?_ (fun _ => ?_)
theorem orielref12_size.mono : ∀ a0 a1 a2 a3 k, LeO (orielref12_size.f k a0 a1 a2 a3) (orielref12_size.f (k + 1) a0 a1 a2 a3) := by
 intro a0 a1 a2 a3 k; obtain ⟨ih0, ih1, ih2, ih3, ih4, ih5, ih6, ih7⟩ := grp_orielref12_size.mono_l k; exact ih0 a0 a1 a2 a3
theorem orielref12_sizeFilter.mono : ∀ a0 a1 a2 a3 a4 a5 a6 k, LeO (orielref12_sizeFilter.f k a0 a1 a2 a3 a4 a5 a6) (orielref12_sizeFilter.f (k + 1) a0 a1 a2 a3 a4 a5 a6) := by
 intro a0 a1 a2 a3 a4 a5 a6 k; obtain ⟨ih0, ih1, ih2, ih3, ih4, ih5, ih6, ih7⟩ := grp_orielref12_size.mono_l k; exact ih4 a0 a1 a2 a3 a4 a5 a6
abbrev orielref12_size.Spec_ (k : Nat) : Prop := ∀ (a0_0 : Int) (A0_1 : Option Addr) (c0_1 : Nat) (l0_1 : List (S25)) (A0_2 : Option Addr) (c0_2 : Nat) (l0_2 : List (S51)) (a1 : Int) (r : Int) (w : World) (hr0_1 : Kd.C k25 w A0_1 l0_1.length l0_1) (hc0_1 : l0_1.length ≤ c0_1) (hr0_2 : Kd.C k51 w A0_2 l0_2.length l0_2) (hc0_2 : l0_2.length ≤ c0_2) (h : orielref12_size.f k a0_0 l0_1 l0_2 a1 = some r),
  Calls Try.prog 33 #[.agg #[.int .i64 a0_0, .slice A0_1 l0_1.length c0_1, .slice A0_2 l0_2.length c0_2], .int .i64 a1] w fun e w' => e = .returned (.int .i64 r) ∧ Below w.heap.size w w'
abbrev orielref12_sizeFilter.Spec_ (k : Nat) : Prop := ∀ (a0_0 : Int) (a0_1 : ByteArray) (a0_2 : ByteArray) (a0_3 : ByteArray) (A0_4 : Option Addr) (c0_4 : Nat) (l0_4 : List (S51)) (A0_5 : Option Addr) (c0_5 : Nat) (l0_5 : List (S25)) (a1 : Int) (r : Int) (w : World) (hr0_4 : Kd.C k51 w A0_4 l0_4.length l0_4) (hc0_4 : l0_4.length ≤ c0_4) (hr0_5 : Kd.C k25 w A0_5 l0_5.length l0_5) (hc0_5 : l0_5.length ≤ c0_5) (h : orielref12_sizeFilter.f k a0_0 a0_1 a0_2 a0_3 l0_4 l0_5 a1 = some r),
  Calls Try.prog 45 #[.agg #[.int .i64 a0_0, .string a0_1, .string a0_2, .string a0_3, .slice A0_4 l0_4.length c0_4, .slice A0_5 l0_5.length c0_5], .int .i64 a1] w fun e w' => e = .returned (.int .i64 r) ∧ Below w.heap.size w w'

/-! ### orielref12_size: function 33 -/
set_option maxHeartbeats 8000000 in
set_option maxRecDepth 100000 in
theorem orielref12_size.step_ (k : Nat) (ih_orielref12_size : ∀ m_, m_ < k → orielref12_size.Spec_ m_) (ih_orielref12_sizeFilter : ∀ m_, m_ < k → orielref12_sizeFilter.Spec_ m_) : orielref12_size.Spec_ k := by
 intro a0_0 A0_1 c0_1 l0_1 A0_2 c0_2 l0_2 a1 r w hr0_1 hc0_1 hr0_2 hc0_2 h
 cases k with
 | zero => exact absurd h (by simp [orielref12_size.f])
 | succ k =>
 simp only [orielref12_size.f] at h; have hu25 := Try.underlying25; have hu51 := Try.underlying51; have HR0_1 := Aside0.mk hr0_1; have HC0_1 := Aside0.mk hc0_1; clear hr0_1 hc0_1; have HR0_2 := Aside0.mk hr0_2; have HC0_2 := Aside0.mk hc0_2; clear hr0_2 hc0_2; have HB := Aside0.mk (Below.refl w.heap.size w); have H : (orielref12_size.l0 k a1 1 0 a0_0 l0_1 l0_2) = some r := h; clear h; have HC3 := Aside0.mk H; clear H
 go_enter Try.func33, Try.ntmps33
 go_upto_block 0 with (first | ((with_reducible refine gate_dst (N := 2) rfl ?_); refine box_event ?hg (N := 2) ?hd (cs := #[.int .i64 a0_0, .slice A0_1 l0_1.length c0_1, .slice A0_2 l0_2.length c0_2]) (t := 25) ?hr ?_; (case hd => rfl); (case hg => rfl); (case hr => first | (go_simp; done) | (go_simp; rfl)); intro gb177 hg w4 hbox hb; have n0_ := Aside0.mk (below_step (be0_ HB) hb); have n1_ := Aside0.mk (hbox); have n2_ := Aside0.mk ((by rw [hg]; exact (below_size (be0_ HB)) : w.heap.size ≤ gb177)); have n3_ := Aside0.mk ((by rw [hg]; exact (below_size (be0_ HB)) : w.heap.size ≤ gb177)); clear HB; have HB := n0_; have BK177 := n1_; have GW177 := n2_; have GE177 := n3_; clear n0_ n1_ n2_ n3_; clear hb hbox hg))
 (try simp only [Act.put, List.setIfInBounds_toArray, List.set_cons_zero, List.set_cons_succ])
 go_cut [5] (fun v5 wc => ∃ (kq : Nat) (x5_2 : Int), v5 = .int .i64 x5_2 ∧ Aside0 (orielref12_size.j1 kq a1 x5_2 a0_0 l0_1 l0_2 = some r) ∧ Aside0 (kq ≤ k) ∧ Aside0 (wc.heap[gb177]? = some (.cells #[.int .i64 a0_0, (.slice A0_1 l0_1.length c0_1), (.slice A0_2 l0_2.length c0_2)] 25 (0, 0))) ∧ Aside0 (Below w.heap.size w wc))
 case first =>
  have H := HC3.out; clear HC3; have H' := Aside0.mk H; clear H
  go_wp2
  go_loopg [5, 6] k (fun kq v5 v6 w' => ∃ (x5_1 : Int) (x6_1 : Int), v5 = .int .i64 x5_1 ∧ v6 = .int .i64 x6_1 ∧ Aside0 (orielref12_size.l0 kq a1 x5_1 x6_1 a0_0 l0_1 l0_2 = some r) ∧ Aside0 (kq ≤ k) ∧ Aside0 (w'.heap[gb177]? = some (.cells #[.int .i64 a0_0, (.slice A0_1 l0_1.length c0_1), (.slice A0_2 l0_2.length c0_2)] 25 (0, 0))) ∧ Aside0 (Below w.heap.size w w'))
  case atStart => exact ⟨(1), (0), (by first | rfl | (simp; done) | (simp [*]; done)), (by first | rfl | (simp; done) | (simp [*]; done)), H', ⟨Nat.le_refl _⟩, ⟨bk_ BK177⟩, ⟨be1_ HB GE177⟩⟩
  case round =>
   clear H'; (try clear p2); (try clear c3); obtain ⟨x5_1, x6_1, rfl, rfl, HA, HK1, BK177, HB⟩ := hrel
   cases gk with
   | zero => exact absurd HA.out (by simp [orielref12_size.l0])
   | succ k1 =>
    have H := HA.out; clear HA; simp only [orielref12_size.l0] at H
    by_cases c5 : x6_1 < (l0_1.length : Int)
    rotate_left
    ·
     rw [if_neg c5] at H; have c5b0 : decide (x6_1 < (l0_1.length : Int)) = false := decide_eq_false c5; clear c5; (first | rw [c5b0] | (simp only [i64_w, i32_w]; rw [c5b0]) | skip); have H' := Aside0.mk H; clear H; have hcz12_0 : wr.cell? ⟨gb177, 0, none⟩ = some (.int .i64 a0_0) := (blk_cell BK177.out 0).trans rfl; have hcz12_1 : wr.cell? ⟨gb177, 1, none⟩ = some (.slice A0_1 l0_1.length c0_1) := (blk_cell BK177.out 1).trans rfl; have hcz12_2 : wr.cell? ⟨gb177, 2, none⟩ = some (.slice A0_2 l0_2.length c0_2) := (blk_cell BK177.out 2).trans rfl; have hfz12_0 := blk_frozen BK177.out 0; have hfz12_1 := blk_frozen BK177.out 1; have hfz12_2 := blk_frozen BK177.out 2
     go_wp2
     go_meet
     case rel => exact ⟨_, (x5_1), (by first | rfl | (simp; done) | (simp [*]; done)), H', ⟨by have := HK1.out; first | omega | exact Nat.le_refl _⟩, ⟨bk_ BK177⟩, ⟨be1_ HB GE177⟩⟩
    rw [if_pos c5] at H; have c5b0 : decide (x6_1 < (l0_1.length : Int)) = true := decide_eq_true c5; clear c5; (first | rw [c5b0] | (simp only [i64_w, i32_w]; rw [c5b0]) | skip)
    by_cases c6 : x5_1 ≤ a1
    rotate_left
    ·
     rw [if_neg c6] at H; have c6b0 : decide (x5_1 ≤ a1) = false := decide_eq_false c6; clear c6; have H' := Aside0.mk H; clear H; have hcz11_0 : wr.cell? ⟨gb177, 0, none⟩ = some (.int .i64 a0_0) := (blk_cell BK177.out 0).trans rfl; have hcz11_1 : wr.cell? ⟨gb177, 1, none⟩ = some (.slice A0_1 l0_1.length c0_1) := (blk_cell BK177.out 1).trans rfl; have hcz11_2 : wr.cell? ⟨gb177, 2, none⟩ = some (.slice A0_2 l0_2.length c0_2) := (blk_cell BK177.out 2).trans rfl; have hfz11_0 := blk_frozen BK177.out 0; have hfz11_1 := blk_frozen BK177.out 1; have hfz11_2 := blk_frozen BK177.out 2
     go_wp2
     go_meet
     case rel => exact ⟨_, (x5_1), (by first | rfl | (simp; done) | (simp [*]; done)), H', ⟨by have := HK1.out; first | omega | exact Nat.le_refl _⟩, ⟨bk_ BK177⟩, ⟨be1_ HB GE177⟩⟩
    rw [if_pos c6] at H; have c6b0 : decide (x5_1 ≤ a1) = true := decide_eq_true c6; clear c6
    by_cases c7 : 0 ≤ x6_1
    rotate_left
    ·
     rw [if_neg c7] at H; exact absurd H (by simp)
    rw [if_pos c7] at H; have c7b0 : decide (0 ≤ x6_1) = true := decide_eq_true c7; clear c7; replace H := Option.bind_eq_some_iff.mp H; obtain ⟨t179, A80, H⟩ := H; replace H : (orielref12_size.l0 k1 a1 (wrap64 (x5_1 + t179)) (wrap64 (x6_1 + 1)) a0_0 l0_1 l0_2) = some r := H; have A8 := Aside0.mk A80; clear A80; have H' := Aside0.mk H; clear H; have hcz9_0 : wr.cell? ⟨gb177, 0, none⟩ = some (.int .i64 a0_0) := (blk_cell BK177.out 0).trans rfl; have hcz9_1 : wr.cell? ⟨gb177, 1, none⟩ = some (.slice A0_1 l0_1.length c0_1) := (blk_cell BK177.out 1).trans rfl; have hcz9_2 : wr.cell? ⟨gb177, 2, none⟩ = some (.slice A0_2 l0_2.length c0_2) := (blk_cell BK177.out 2).trans rfl; have hfz9_0 := blk_frozen BK177.out 0; have hfz9_1 := blk_frozen BK177.out 1; have hfz9_2 := blk_frozen BK177.out 2; have p178 : 0 ≤ (x6_1 : Int) := of_decide_eq_true (by first | (with_reducible assumption) | assumption); have q178 : x6_1 < (l0_1.length : Int) := of_decide_eq_true (by first | (with_reducible assumption) | assumption); obtain ⟨ad178, A178_1, c178_1, A178_2, c178_2, e178, hx178_0, hx178_1, hx178_2, hl178_1, hi178_1, hl178_2, hi178_2⟩ := at_T25 HR0_1.out x6_1 p178 q178
    cases e178
    replace hx178_0 := (HB.out.cell (World.block_lt_of_cell? w _ hx178_0)).trans hx178_0; replace hx178_1 := (HB.out.cell (World.block_lt_of_cell? w _ hx178_1)).trans hx178_1; replace hx178_2 := (HB.out.cell (World.block_lt_of_cell? w _ hx178_2)).trans hx178_2; have HR178_1 := Aside0.mk hi178_1; have HC178_1 := Aside0.mk hl178_1; clear hi178_1 hl178_1; have HR178_2 := Aside0.mk hi178_2; have HC178_2 := Aside0.mk hl178_2; clear hi178_2 hl178_2; replace p178 := eq_true p178; replace q178 := eq_true q178
    go_wp2_with (first | ((with_reducible refine gate_callee (f := 33) rfl ?_); refine goesL_ (some 29) rfl rfl Try.func33 (by kernel_rfl) rfl #[.agg #[.int .i64 ((rd_T25 l0_1 x6_1).f0), .slice A178_1 ((rd_T25 l0_1 x6_1).f1).length c178_1, .slice A178_2 ((rd_T25 l0_1 x6_1).f2).length c178_2], .int .i64 (wrap64 (a1 - x5_1))] rfl (by (try simp only [List.map_toArray, List.map_cons, List.map_nil]); first | done | rfl | (simp only [List.length_drop, List.length_take]; rfl)) ?_; (with_reducible refine (ih_orielref12_size k1 (by have := HK1.out; omega) ((rd_T25 l0_1 x6_1).f0) _ _ ((rd_T25 l0_1 x6_1).f1) _ _ ((rd_T25 l0_1 x6_1).f2) (wrap64 (a1 - x5_1)) t179 _ ?side1 ?side2 ?side3 ?side4 A8.out).mono ?_); (case side1 => repeat (first | exact (Kd.C_below HR178_1.out HB.out) | (with_reducible refine Kd.C_alloc ?_ _) | (with_reducible refine Kd.C_drewN ?_ _) | (with_reducible refine Kd.C_drew ?_))); (case side2 => exact HC178_1.out); (case side3 => repeat (first | exact (Kd.C_below HR178_2.out HB.out) | (with_reducible refine Kd.C_alloc ?_ _) | (with_reducible refine Kd.C_drewN ?_ _) | (with_reducible refine Kd.C_drew ?_))); (case side4 => exact HC178_2.out); rintro e w10 ⟨rfl, hb⟩; refine ⟨_, rfl, ?_⟩; have n0_ := Aside0.mk (blk_below (g := gb177) (o := .cells #[.int .i64 a0_0, .slice (some ad178) l0_1.length c0_1, .slice A0_2 l0_2.length c0_2] 25 (0, 0)) (bk_ BK177) hb); have n1_ := Aside0.mk (below_step (be1_ HB GE177) hb); clear BK177; clear HB; have BK177 := n0_; have HB := n1_; clear n0_ n1_; (try clear hb); (try clear hb2); (try clear hk); (try clear hi)))
    go_roundg k1
    case measure => have := HK1.out; omega
    case rel => exact ⟨(wrap64 (x5_1 + t179)), (wrap64 (x6_1 + 1)), (by first | rfl | (simp; done) | (simp [*]; done)), (by first | rfl | (simp; done) | (simp [*]; done)), H', ⟨by have := HK1.out; omega⟩, ⟨bk_ BK177⟩, ⟨be1_ HB GE177⟩⟩
 case rest =>
  clear HC3; (try clear c1); (try clear p1); (try clear q1); (try clear hx1); (try clear p2); (try clear c3); (try clear c5); (try clear c5b0); (try clear c6); (try clear c6b0); (try clear p6); (try clear c7); (try clear c7b0); (try clear hcz11_0); (try clear hcz11_1); (try clear hcz11_2); (try clear hcz12_0); (try clear hcz12_1); (try clear hcz12_2); (try clear hcz9_0); (try clear hcz9_1); (try clear hcz9_2); (try clear hfz11_0); (try clear hfz11_1); (try clear hfz11_2); (try clear hfz12_0); (try clear hfz12_1); (try clear hfz12_2); (try clear hfz9_0); (try clear hfz9_1); (try clear hfz9_2); (try clear hx178_0); (try clear hx178_1); (try clear hx178_2); (try clear p178); (try clear p2); (try clear q178); obtain ⟨kq, x5_2, rfl, HA, HJ2, BK177, HB⟩ := hcut
  cases kq with
  | zero => exact absurd HA.out (by simp [orielref12_size.j1])
  | succ kj2 =>
   have H := HA.out; clear HA; simp only [orielref12_size.j1] at H; have H' := Aside0.mk H; clear H
   go_wp2
   go_loopg [5, 7] kj2 (fun kq v5 v7 w' => ∃ (x5_2 : Int) (x7_2 : Int), v5 = .int .i64 x5_2 ∧ v7 = .int .i64 x7_2 ∧ Aside0 (orielref12_size.l1 kq a1 x5_2 x7_2 a0_0 l0_1 l0_2 = some r) ∧ Aside0 (kq ≤ kj2) ∧ Aside0 (w'.heap[gb177]? = some (.cells #[.int .i64 a0_0, (.slice A0_1 l0_1.length c0_1), (.slice A0_2 l0_2.length c0_2)] 25 (0, 0))) ∧ Aside0 (Below w.heap.size w w'))
   case atStart => exact ⟨(x5_2), (0), (by first | rfl | (simp; done) | (simp [*]; done)), (by first | rfl | (simp; done) | (simp [*]; done)), H', ⟨Nat.le_refl _⟩, ⟨bk_ BK177⟩, ⟨be1_ HB GE177⟩⟩
   case round =>
    clear H'; (try clear c1); (try clear p1); (try clear q1); (try clear hx1); (try clear p2); (try clear c3); (try clear c5); (try clear c5b0); (try clear c6); (try clear c6b0); (try clear p6); (try clear c7); (try clear c7b0); (try clear hcz11_0); (try clear hcz11_1); (try clear hcz11_2); (try clear hcz12_0); (try clear hcz12_1); (try clear hcz12_2); (try clear hcz9_0); (try clear hcz9_1); (try clear hcz9_2); (try clear hfz11_0); (try clear hfz11_1); (try clear hfz11_2); (try clear hfz12_0); (try clear hfz12_1); (try clear hfz12_2); (try clear hfz9_0); (try clear hfz9_1); (try clear hfz9_2); (try clear hx178_0); (try clear hx178_1); (try clear hx178_2); (try clear p1); (try clear p178); (try clear p2); (try clear p6); (try clear q1); (try clear q178); obtain ⟨x5_2, x7_2, rfl, rfl, HA, HK2, BK177, HB⟩ := hrel
    cases gk with
    | zero => exact absurd HA.out (by simp [orielref12_size.l1])
    | succ k2 =>
     have H := HA.out; clear HA; simp only [orielref12_size.l1] at H
     by_cases c13 : x7_2 < (l0_2.length : Int)
     rotate_left
     ·
      rw [if_neg c13] at H; have c13b0 : decide (x7_2 < (l0_2.length : Int)) = false := decide_eq_false c13; clear c13; obtain rfl := Option.some.inj H; have hcz20_0 : wr.cell? ⟨gb177, 0, none⟩ = some (.int .i64 a0_0) := (blk_cell BK177.out 0).trans rfl; have hcz20_1 : wr.cell? ⟨gb177, 1, none⟩ = some (.slice A0_1 l0_1.length c0_1) := (blk_cell BK177.out 1).trans rfl; have hcz20_2 : wr.cell? ⟨gb177, 2, none⟩ = some (.slice A0_2 l0_2.length c0_2) := (blk_cell BK177.out 2).trans rfl; have hfz20_0 := blk_frozen BK177.out 0; have hfz20_1 := blk_frozen BK177.out 1; have hfz20_2 := blk_frozen BK177.out 2
      go_wp2
      go_ret
      exact ⟨by first | rfl | exact congrArg (fun b => Ending.returned (Value.bool b)) (isE_ne _).symm | exact congrArg (fun b => Ending.returned (Value.bool b)) (isE_eq _).symm | (simp only [isE_ne, isE_eq, Bool.not_not]; done) | (simp [errW_none, errW_some] <;> rfl) | (simp [*, errW_none, errW_some] <;> rfl), be1_ HB GE177⟩
     rw [if_pos c13] at H; have c13b0 : decide (x7_2 < (l0_2.length : Int)) = true := decide_eq_true c13; clear c13
     by_cases c14 : x5_2 ≤ a1
     rotate_left
     ·
      rw [if_neg c14] at H; have c14b0 : decide (x5_2 ≤ a1) = false := decide_eq_false c14; clear c14; obtain rfl := Option.some.inj H; have hcz19_0 : wr.cell? ⟨gb177, 0, none⟩ = some (.int .i64 a0_0) := (blk_cell BK177.out 0).trans rfl; have hcz19_1 : wr.cell? ⟨gb177, 1, none⟩ = some (.slice A0_1 l0_1.length c0_1) := (blk_cell BK177.out 1).trans rfl; have hcz19_2 : wr.cell? ⟨gb177, 2, none⟩ = some (.slice A0_2 l0_2.length c0_2) := (blk_cell BK177.out 2).trans rfl; have hfz19_0 := blk_frozen BK177.out 0; have hfz19_1 := blk_frozen BK177.out 1; have hfz19_2 := blk_frozen BK177.out 2
      go_wp2
      go_ret
      exact ⟨by first | rfl | exact congrArg (fun b => Ending.returned (Value.bool b)) (isE_ne _).symm | exact congrArg (fun b => Ending.returned (Value.bool b)) (isE_eq _).symm | (simp only [isE_ne, isE_eq, Bool.not_not]; done) | (simp [errW_none, errW_some] <;> rfl) | (simp [*, errW_none, errW_some] <;> rfl), be1_ HB GE177⟩
     rw [if_pos c14] at H; have c14b0 : decide (x5_2 ≤ a1) = true := decide_eq_true c14; clear c14
     by_cases c15 : 0 ≤ x7_2
     rotate_left
     ·
      rw [if_neg c15] at H; exact absurd H (by simp)
     rw [if_pos c15] at H; have c15b0 : decide (0 ≤ x7_2) = true := decide_eq_true c15; clear c15; replace H := Option.bind_eq_some_iff.mp H; obtain ⟨t181, A160, H⟩ := H; replace H : (orielref12_size.l1 k2 a1 (wrap64 (x5_2 + t181)) (wrap64 (x7_2 + 1)) a0_0 l0_1 l0_2) = some r := H; have A16 := Aside0.mk A160; clear A160; have H' := Aside0.mk H; clear H; have hcz17_0 : wr.cell? ⟨gb177, 0, none⟩ = some (.int .i64 a0_0) := (blk_cell BK177.out 0).trans rfl; have hcz17_1 : wr.cell? ⟨gb177, 1, none⟩ = some (.slice A0_1 l0_1.length c0_1) := (blk_cell BK177.out 1).trans rfl; have hcz17_2 : wr.cell? ⟨gb177, 2, none⟩ = some (.slice A0_2 l0_2.length c0_2) := (blk_cell BK177.out 2).trans rfl; have hfz17_0 := blk_frozen BK177.out 0; have hfz17_1 := blk_frozen BK177.out 1; have hfz17_2 := blk_frozen BK177.out 2; have p180 : 0 ≤ (x7_2 : Int) := of_decide_eq_true (by first | (with_reducible assumption) | assumption); have q180 : x7_2 < (l0_2.length : Int) := of_decide_eq_true (by first | (with_reducible assumption) | assumption); obtain ⟨ad180, A180_4, c180_4, A180_5, c180_5, e180, hx180_0, hx180_1, hx180_2, hx180_3, hx180_4, hx180_5, hl180_4, hi180_4, hl180_5, hi180_5⟩ := at_T51 HR0_2.out x7_2 p180 q180
     cases e180
     replace hx180_0 := (HB.out.cell (World.block_lt_of_cell? w _ hx180_0)).trans hx180_0; replace hx180_1 := (HB.out.cell (World.block_lt_of_cell? w _ hx180_1)).trans hx180_1; replace hx180_2 := (HB.out.cell (World.block_lt_of_cell? w _ hx180_2)).trans hx180_2; replace hx180_3 := (HB.out.cell (World.block_lt_of_cell? w _ hx180_3)).trans hx180_3; replace hx180_4 := (HB.out.cell (World.block_lt_of_cell? w _ hx180_4)).trans hx180_4; replace hx180_5 := (HB.out.cell (World.block_lt_of_cell? w _ hx180_5)).trans hx180_5; have HR180_4 := Aside0.mk hi180_4; have HC180_4 := Aside0.mk hl180_4; clear hi180_4 hl180_4; have HR180_5 := Aside0.mk hi180_5; have HC180_5 := Aside0.mk hl180_5; clear hi180_5 hl180_5; replace p180 := eq_true p180; replace q180 := eq_true q180
     go_wp2_with (first | ((with_reducible refine gate_callee (f := 45) rfl ?_); refine goesL_ (some 52) rfl rfl Try.func45 (by kernel_rfl) rfl #[.agg #[.int .i64 ((rd_T51 l0_2 x7_2).f0), .string ((rd_T51 l0_2 x7_2).f1.f0), .string ((rd_T51 l0_2 x7_2).f1.f1), .string ((rd_T51 l0_2 x7_2).f2), .slice A180_4 ((rd_T51 l0_2 x7_2).f3).length c180_4, .slice A180_5 ((rd_T51 l0_2 x7_2).f4).length c180_5], .int .i64 (wrap64 (a1 - x5_2))] rfl (by (try simp only [List.map_toArray, List.map_cons, List.map_nil]); first | done | rfl | (simp only [List.length_drop, List.length_take]; rfl)) ?_; (with_reducible refine (ih_orielref12_sizeFilter k2 (by have := HJ2.out; have := HK2.out; omega) ((rd_T51 l0_2 x7_2).f0) ((rd_T51 l0_2 x7_2).f1.f0) ((rd_T51 l0_2 x7_2).f1.f1) ((rd_T51 l0_2 x7_2).f2) _ _ ((rd_T51 l0_2 x7_2).f3) _ _ ((rd_T51 l0_2 x7_2).f4) (wrap64 (a1 - x5_2)) t181 _ ?side1 ?side2 ?side3 ?side4 A16.out).mono ?_); (case side1 => repeat (first | exact (Kd.C_below HR180_4.out HB.out) | (with_reducible refine Kd.C_alloc ?_ _) | (with_reducible refine Kd.C_drewN ?_ _) | (with_reducible refine Kd.C_drew ?_))); (case side2 => exact HC180_4.out); (case side3 => repeat (first | exact (Kd.C_below HR180_5.out HB.out) | (with_reducible refine Kd.C_alloc ?_ _) | (with_reducible refine Kd.C_drewN ?_ _) | (with_reducible refine Kd.C_drew ?_))); (case side4 => exact HC180_5.out); rintro e w18 ⟨rfl, hb⟩; refine ⟨_, rfl, ?_⟩; have n0_ := Aside0.mk (blk_below (g := gb177) (o := .cells #[.int .i64 a0_0, .slice A0_1 l0_1.length c0_1, .slice (some ad180) l0_2.length c0_2] 25 (0, 0)) (bk_ BK177) hb); have n1_ := Aside0.mk (below_step (be1_ HB GE177) hb); clear BK177; clear HB; have BK177 := n0_; have HB := n1_; clear n0_ n1_; (try clear hb); (try clear hb2); (try clear hk); (try clear hi)))
     go_roundg k2
     case measure => have := HJ2.out; have := HK2.out; omega
     case rel => exact ⟨(wrap64 (x5_2 + t181)), (wrap64 (x7_2 + 1)), (by first | rfl | (simp; done) | (simp [*]; done)), (by first | rfl | (simp; done) | (simp [*]; done)), H', ⟨by have := HJ2.out; have := HK2.out; omega⟩, ⟨bk_ BK177⟩, ⟨be1_ HB GE177⟩⟩
end Go.Proofs.Ytmbbjdkcanoklaa.X
