/- Printed by a program of this session (xprint) out of the kit's print, with functions proved by hand. -/
import Derived.Test.YtjhchjjpopbieaaX0
import Derived.Test.YtjhchjjpopbieaaX1
import Derived.Test.YtjhchjjpopbieaaX11
namespace Go.Proofs.Ytjhchjjpopbieaa.X
open Go.RowKit Go.Proofs.YtjhchjjpopbieaaW.PrintWords Go.Proofs.YtjhchjjpopbieaaW.PrintLast Go.Proofs.YtjhchjjpopbieaaW.PrintMore Go.Proofs.YtjhchjjpopbieaaW.XConv
attribute [local go_sem] max2_int min2_int max_two min_two max_three min_three max_four min_four   -- for this text's walks alone
set_option linter.unusedVariables false
set_option linter.unusedSimpArgs false

attribute [local go_sem high] eqA29
/-! ### orielref07_Enter: function 11 -/
mutual
def orielref07_Enter.l0 : Nat → List (S44) → Int → ByteArray → List (S51) → Option ((List (S44)) × Int × ByteArray × ByteArray × (List (S47)) × ByteArray × Int)
 | 0, _, _, _, _ => none
 | k + 1, x7, x8, x224000, x224001 => if x8 < (x224001.length : Int) then (if 0 ≤ x8 then ((orielref07_binds.f ((rd_T51 x224001 x8).f0) ((rd_T51 x224001 x8).f1)).bind fun bt232 => (if bt232.2 = true then (if bt232.1.toList = ([120, 109, 108, 110, 115] : List UInt8) then (orielref07_Enter.j1 k x7 x8 bt232.1 ((rd_T51 x224001 x8).f1) true x224000 x224001) else (if ((rd_T51 x224001 x8).f1).toList = ([104, 116, 116, 112, 58, 47, 47, 119, 119, 119, 46, 119, 51, 46, 111, 114, 103, 47, 50, 48, 48, 48, 47, 120, 109, 108, 110, 115, 47] : List UInt8) then (orielref07_Enter.j1 k x7 x8 bt232.1 ((rd_T51 x224001 x8).f1) true x224000 x224001) else (if bt232.1.toList = ([] : List UInt8) then (orielref07_Enter.j1 k x7 x8 bt232.1 ((rd_T51 x224001 x8).f1) false x224000 x224001) else (orielref07_Enter.j1 k x7 x8 bt232.1 ((rd_T51 x224001 x8).f1) (((rd_T51 x224001 x8).f1).toList == ([] : List UInt8)) x224000 x224001)))) else (orielref07_Enter.l0 k x7 (wrap64 (x8 + 1)) x224000 x224001))) else (none)) else ((orielref07_Resolve.f k x7 x224000 true).bind fun bt238 => (if bt238.2.2 = true then (orielref07_Enter.l1 k x7 0 x224000 x224001 1 bt238.1 bt238.2.1 ([] : List (S47)) (⟨#[]⟩ : ByteArray)) else (some (([] : List (S44)), 0, (⟨#[]⟩ : ByteArray), (⟨#[]⟩ : ByteArray), ([] : List (S47)), (⟨#[]⟩ : ByteArray), 9))))
def orielref07_Enter.j1 : Nat → List (S44) → Int → ByteArray → ByteArray → Bool → ByteArray → List (S51) → Option ((List (S44)) × Int × ByteArray × ByteArray × (List (S47)) × ByteArray × Int)
 | 0, _, _, _, _, _, _, _ => none
 | k + 1, x7, x8, x9, x11, x12, x224000, x224001 => if x9.toList = ([120, 109, 108] : List UInt8) then (if x11.toList = ([104, 116, 116, 112, 58, 47, 47, 119, 119, 119, 46, 119, 51, 46, 111, 114, 103, 47, 88, 77, 76, 47, 49, 57, 57, 56, 47, 110, 97, 109, 101, 115, 112, 97, 99, 101] : List UInt8) then (orielref07_Enter.j2 k x7 x8 x9 x11 x12 false x224000 x224001) else (orielref07_Enter.j2 k x7 x8 x9 x11 x12 true x224000 x224001)) else (orielref07_Enter.j2 k x7 x8 x9 x11 x12 (x11.toList == ([104, 116, 116, 112, 58, 47, 47, 119, 119, 119, 46, 119, 51, 46, 111, 114, 103, 47, 88, 77, 76, 47, 49, 57, 57, 56, 47, 110, 97, 109, 101, 115, 112, 97, 99, 101] : List UInt8)) x224000 x224001)
def orielref07_Enter.j2 : Nat → List (S44) → Int → ByteArray → ByteArray → Bool → Bool → ByteArray → List (S51) → Option ((List (S44)) × Int × ByteArray × ByteArray × (List (S47)) × ByteArray × Int)
 | 0, _, _, _, _, _, _, _, _ => none
 | k + 1, x7, x8, x9, x11, x12, x76, x224000, x224001 => if x76 = true then (some (([] : List (S44)), 0, (⟨#[]⟩ : ByteArray), (⟨#[]⟩ : ByteArray), ([] : List (S47)), (⟨#[]⟩ : ByteArray), 9)) else (if x12 = true then (some (([] : List (S44)), 0, (⟨#[]⟩ : ByteArray), (⟨#[]⟩ : ByteArray), ([] : List (S47)), (⟨#[]⟩ : ByteArray), 9)) else (if x7.length < 4398046511104 then (orielref07_Enter.l0 k (x7 ++ [(⟨x9, x11⟩ : S44)]) (wrap64 (x8 + 1)) x224000 x224001) else (none)))
def orielref07_Enter.l1 : Nat → List (S44) → Int → ByteArray → List (S51) → Int → ByteArray → ByteArray → List (S47) → ByteArray → Option ((List (S44)) × Int × ByteArray × ByteArray × (List (S47)) × ByteArray × Int)
 | 0, _, _, _, _, _, _, _, _, _ => none
 | k + 1, x7, x16, x224000, x224001, x243000, x243001, x243002, x243003, x243004 => if x16 < (x224001.length : Int) then (if 0 ≤ x16 then ((orielref07_binds.f ((rd_T51 x224001 x16).f0) ((rd_T51 x224001 x16).f1)).bind fun bt244 => (if bt244.2 = true then (orielref07_Enter.l1 k x7 (wrap64 (x16 + 1)) x224000 x224001 x243000 x243001 x243002 x243003 x243004) else ((orielref07_Resolve.f k x7 ((rd_T51 x224001 x16).f0) false).bind fun bt247 => (if bt247.2.2 = true then (orielref07_Enter.l2 k x7 x16 0 x224000 x224001 x243000 x243001 x243002 x243003 x243004 bt247.1 bt247.2.1) else (some (([] : List (S44)), 0, (⟨#[]⟩ : ByteArray), (⟨#[]⟩ : ByteArray), ([] : List (S47)), (⟨#[]⟩ : ByteArray), 9)))))) else (none)) else (some (x7, x243000, x243001, x243002, x243003, x243004, 0))
def orielref07_Enter.l2 : Nat → List (S44) → Int → Int → ByteArray → List (S51) → Int → ByteArray → ByteArray → List (S47) → ByteArray → ByteArray → ByteArray → Option ((List (S44)) × Int × ByteArray × ByteArray × (List (S47)) × ByteArray × Int)
 | 0, _, _, _, _, _, _, _, _, _, _, _, _ => none
 | k + 1, x7, x16, x21, x224000, x224001, x243000, x243001, x243002, x243003, x243004, x251000, x251001 => if x21 < (x243003.length : Int) then (if 0 ≤ x21 then (if ((((rd_T47 x243003 x21).f0.f0).toList) == x251000.toList && ((((rd_T47 x243003 x21).f0.f1).toList) == x251001.toList)) = true then (some (([] : List (S44)), 0, (⟨#[]⟩ : ByteArray), (⟨#[]⟩ : ByteArray), ([] : List (S47)), (⟨#[]⟩ : ByteArray), 8)) else (orielref07_Enter.l2 k x7 x16 (wrap64 (x21 + 1)) x224000 x224001 x243000 x243001 x243002 x243003 x243004 x251000 x251001)) else (none)) else (if 0 ≤ x16 then (if x16 < (x224001.length : Int) then (if x243003.length < 2932031007402 then (orielref07_Enter.l1 k x7 (wrap64 (x16 + 1)) x224000 x224001 x243000 x243001 x243002 (x243003 ++ [(⟨(⟨x251000, x251001⟩ : S29), (rd_T51 x224001 x16).f1⟩ : S47)]) x243004) else (none)) else (none)) else (none))
end
def orielref07_Enter.f (k : Nat) (l0 : List (S44)) (a1_0 : ByteArray) (l1_1 : List (S51)) : Option ((List (S44)) × Int × ByteArray × ByteArray × (List (S47)) × ByteArray × Int) := (some (([] : List (S44)) : List (S44))).bind fun y225 => (if y225.length + l0.length < 4398046511104 then (orielref07_Enter.l0 k (y225 ++ l0) 0 a1_0 l1_1) else (none))
theorem orielref07_Enter.mono_l : ∀ k, (∀ y0 y1 y2 y3, LeO (orielref07_Enter.l0 k y0 y1 y2 y3) (orielref07_Enter.l0 (k + 1) y0 y1 y2 y3)) ∧ (∀ y0 y1 y2 y3 y4 y5 y6, LeO (orielref07_Enter.j1 k y0 y1 y2 y3 y4 y5 y6) (orielref07_Enter.j1 (k + 1) y0 y1 y2 y3 y4 y5 y6)) ∧ (∀ y0 y1 y2 y3 y4 y5 y6 y7, LeO (orielref07_Enter.j2 k y0 y1 y2 y3 y4 y5 y6 y7) (orielref07_Enter.j2 (k + 1) y0 y1 y2 y3 y4 y5 y6 y7)) ∧ (∀ y0 y1 y2 y3 y4 y5 y6 y7 y8, LeO (orielref07_Enter.l1 k y0 y1 y2 y3 y4 y5 y6 y7 y8) (orielref07_Enter.l1 (k + 1) y0 y1 y2 y3 y4 y5 y6 y7 y8)) ∧ (∀ y0 y1 y2 y3 y4 y5 y6 y7 y8 y9 y10 y11, LeO (orielref07_Enter.l2 k y0 y1 y2 y3 y4 y5 y6 y7 y8 y9 y10 y11) (orielref07_Enter.l2 (k + 1) y0 y1 y2 y3 y4 y5 y6 y7 y8 y9 y10 y11))
 | 0 => ⟨fun _ _ _ _ r h => by simp [orielref07_Enter.l0] at h, fun _ _ _ _ _ _ _ r h => by simp [orielref07_Enter.j1] at h, fun _ _ _ _ _ _ _ _ r h => by simp [orielref07_Enter.j2] at h, fun _ _ _ _ _ _ _ _ _ r h => by simp [orielref07_Enter.l1] at h, fun _ _ _ _ _ _ _ _ _ _ _ _ r h => by simp [orielref07_Enter.l2] at h⟩
 | k + 1 => by
  obtain ⟨ih0, ih1, ih2, ih3, ih4⟩ := orielref07_Enter.mono_l k
  refine ⟨?_, ?_, ?_, ?_, ?_⟩
  ·
   intro y0 y1 y2 y3
   unfold orielref07_Enter.l0
   repeat' first
   | (with_reducible exact ih0 _ _ _ _)
   | (with_reducible exact ih1 _ _ _ _ _ _ _)
   | (with_reducible exact ih2 _ _ _ _ _ _ _ _)
   | (with_reducible exact ih3 _ _ _ _ _ _ _ _ _)
   | (with_reducible exact ih4 _ _ _ _ _ _ _ _ _ _ _ _)
   | (with_reducible exact orielref07_Resolve.mono _ _ _ _)
   | (with_reducible exact LeO.refl _)
   | (with_reducible exact LeO.none _)
   | (with_reducible refine LeO.ite ?_ ?_)
   | (with_reducible refine LeO.bind ?_ (fun _ => ?_))
   | exact ih0 _ _ _ _
   | exact ih1 _ _ _ _ _ _ _
   | exact ih2 _ _ _ _ _ _ _ _
   | exact ih3 _ _ _ _ _ _ _ _ _
   | exact ih4 _ _ _ _ _ _ _ _ _ _ _ _
   | exact orielref07_Resolve.mono _ _ _ _
   | exact LeO.none _
   | refine LeO.ite ?_ ?_
   | refine LeO.bind ?_ (fun _ => ?_)
  ·
   intro y0 y1 y2 y3 y4 y5 y6
   unfold orielref07_Enter.j1
   repeat' first
   | (with_reducible exact ih0 _ _ _ _)
   | (with_reducible exact ih1 _ _ _ _ _ _ _)
   | (with_reducible exact ih2 _ _ _ _ _ _ _ _)
   | (with_reducible exact ih3 _ _ _ _ _ _ _ _ _)
   | (with_reducible exact ih4 _ _ _ _ _ _ _ _ _ _ _ _)
   | (with_reducible exact orielref07_Resolve.mono _ _ _ _)
   | (with_reducible exact LeO.refl _)
   | (with_reducible exact LeO.none _)
   | (with_reducible refine LeO.ite ?_ ?_)
   | (with_reducible refine LeO.bind ?_ (fun _ => ?_))
   | exact ih0 _ _ _ _
   | exact ih1 _ _ _ _ _ _ _
   | exact ih2 _ _ _ _ _ _ _ _
   | exact ih3 _ _ _ _ _ _ _ _ _
   | exact ih4 _ _ _ _ _ _ _ _ _ _ _ _
   | exact orielref07_Resolve.mono _ _ _ _
   | exact LeO.none _
   | refine LeO.ite ?_ ?_
   | refine LeO.bind ?_ (fun _ => ?_)
  ·
   intro y0 y1 y2 y3 y4 y5 y6 y7
   unfold orielref07_Enter.j2
   repeat' first
   | (with_reducible exact ih0 _ _ _ _)
   | (with_reducible exact ih1 _ _ _ _ _ _ _)
   | (with_reducible exact ih2 _ _ _ _ _ _ _ _)
   | (with_reducible exact ih3 _ _ _ _ _ _ _ _ _)
   | (with_reducible exact ih4 _ _ _ _ _ _ _ _ _ _ _ _)
   | (with_reducible exact orielref07_Resolve.mono _ _ _ _)
   | (with_reducible exact LeO.refl _)
   | (with_reducible exact LeO.none _)
   | (with_reducible refine LeO.ite ?_ ?_)
   | (with_reducible refine LeO.bind ?_ (fun _ => ?_))
   | exact ih0 _ _ _ _
   | exact ih1 _ _ _ _ _ _ _
   | exact ih2 _ _ _ _ _ _ _ _
   | exact ih3 _ _ _ _ _ _ _ _ _
   | exact ih4 _ _ _ _ _ _ _ _ _ _ _ _
   | exact orielref07_Resolve.mono _ _ _ _
   | exact LeO.none _
   | refine LeO.ite ?_ ?_
   | refine LeO.bind ?_ (fun _ => ?_)
  ·
   intro y0 y1 y2 y3 y4 y5 y6 y7 y8
   unfold orielref07_Enter.l1
   repeat' first
   | (with_reducible exact ih0 _ _ _ _)
   | (with_reducible exact ih1 _ _ _ _ _ _ _)
   | (with_reducible exact ih2 _ _ _ _ _ _ _ _)
   | (with_reducible exact ih3 _ _ _ _ _ _ _ _ _)
   | (with_reducible exact ih4 _ _ _ _ _ _ _ _ _ _ _ _)
   | (with_reducible exact orielref07_Resolve.mono _ _ _ _)
   | (with_reducible exact LeO.refl _)
   | (with_reducible exact LeO.none _)
   | (with_reducible refine LeO.ite ?_ ?_)
   | (with_reducible refine LeO.bind ?_ (fun _ => ?_))
   | exact ih0 _ _ _ _
   | exact ih1 _ _ _ _ _ _ _
   | exact ih2 _ _ _ _ _ _ _ _
   | exact ih3 _ _ _ _ _ _ _ _ _
   | exact ih4 _ _ _ _ _ _ _ _ _ _ _ _
   | exact orielref07_Resolve.mono _ _ _ _
   | exact LeO.none _
   | refine LeO.ite ?_ ?_
   | refine LeO.bind ?_ (fun _ => ?_)
  ·
   intro y0 y1 y2 y3 y4 y5 y6 y7 y8 y9 y10 y11
   unfold orielref07_Enter.l2
   repeat' first
   | (with_reducible exact ih0 _ _ _ _)
   | (with_reducible exact ih1 _ _ _ _ _ _ _)
   | (with_reducible exact ih2 _ _ _ _ _ _ _ _)
   | (with_reducible exact ih3 _ _ _ _ _ _ _ _ _)
   | (with_reducible exact ih4 _ _ _ _ _ _ _ _ _ _ _ _)
   | (with_reducible exact orielref07_Resolve.mono _ _ _ _)
   | (with_reducible exact LeO.refl _)
   | (with_reducible exact LeO.none _)
   | (with_reducible refine LeO.ite ?_ ?_)
   | (with_reducible refine LeO.bind ?_ (fun _ => ?_))
   | exact ih0 _ _ _ _
   | exact ih1 _ _ _ _ _ _ _
   | exact ih2 _ _ _ _ _ _ _ _
   | exact ih3 _ _ _ _ _ _ _ _ _
   | exact ih4 _ _ _ _ _ _ _ _ _ _ _ _
   | exact orielref07_Resolve.mono _ _ _ _
   | exact LeO.none _
   | refine LeO.ite ?_ ?_
   | refine LeO.bind ?_ (fun _ => ?_)
theorem orielref07_Enter.mono : ∀ a0 a1 a2 k, LeO (orielref07_Enter.f k a0 a1 a2) (orielref07_Enter.f (k + 1) a0 a1 a2) := by
 intro a0 a1 a2 k
 obtain ⟨ih0, ih1, ih2, ih3, ih4⟩ := orielref07_Enter.mono_l k
 unfold orielref07_Enter.f
 repeat' first
   | (with_reducible exact ih0 _ _ _ _)
   | (with_reducible exact ih1 _ _ _ _ _ _ _)
   | (with_reducible exact ih2 _ _ _ _ _ _ _ _)
   | (with_reducible exact ih3 _ _ _ _ _ _ _ _ _)
   | (with_reducible exact ih4 _ _ _ _ _ _ _ _ _ _ _ _)
   | (with_reducible exact orielref07_Resolve.mono _ _ _ _)
   | (with_reducible exact LeO.refl _)
   | (with_reducible exact LeO.none _)
   | (with_reducible refine LeO.ite ?_ ?_)
   | (with_reducible refine LeO.bind ?_ (fun _ => ?_))
   | exact ih0 _ _ _ _
   | exact ih1 _ _ _ _ _ _ _
   | exact ih2 _ _ _ _ _ _ _ _
   | exact ih3 _ _ _ _ _ _ _ _ _
   | exact ih4 _ _ _ _ _ _ _ _ _ _ _ _
   | exact orielref07_Resolve.mono _ _ _ _
   | exact LeO.none _
   | refine LeO.ite ?_ ?_
   | refine LeO.bind ?_ (fun _ => ?_)
def orielref07_Enter.T29 : Bool × List (List Nat × List Nat) := (true, [([], []), ([0], [0]), ([], []), ([1, 2], [1, 2]), ([3], [3]), ([4], [4]), ([], []), ([5, 6], [5, 6])])
def orielref07_Enter.B29 : List Nat := [0, 1, 0, 7, 15, 31, 0, 127]
theorem orielref07_Enter.tab29 : rtab .any (opsOf Try.f11 29) = orielref07_Enter.T29 := by kernel_rfl
theorem orielref07_Enter.bits29 : waitsOk orielref07_Enter.T29.2 orielref07_Enter.B29 = true := by kernel_rfl
def orielref07_Enter.T31 : Bool × List (List Nat × List Nat) := (true, [([], []), ([0], [0]), ([], []), ([], []), ([3], [3]), ([], []), ([4, 5], [4, 5]), ([6], [6]), ([7], [7]), ([2, 8], [2, 8]), ([9], [9]), ([1, 10], [1, 10]), ([0, 1, 2, 3, 4, 5, 6, 7, 8, 9, 10, 11], []), ([12, 11, 11, 0, 1, 2, 3, 4, 5, 6, 7, 8, 9, 10, 11], [11, 12])])
def orielref07_Enter.B31 : List Nat := [0, 1, 0, 0, 8, 0, 56, 120, 248, 508, 1020, 2047, 4095, 8191]
theorem orielref07_Enter.tab31 : rtab .any (opsOf Try.f11 31) = orielref07_Enter.T31 := by kernel_rfl
theorem orielref07_Enter.bits31 : waitsOk orielref07_Enter.T31.2 orielref07_Enter.B31 = true := by kernel_rfl
set_option maxHeartbeats 8000000 in
set_option maxRecDepth 100000 in
theorem orielref07_Enter.calls (k : Nat) (A0 : Option Addr) (c0 : Nat) (l0 : List (S44)) (a1_0 : ByteArray) (A1_1 : Option Addr) (c1_1 : Nat) (l1_1 : List (S51)) (r1 : List (S44)) (r2 : Int) (r3 : ByteArray) (r4 : ByteArray) (r5 : List (S47)) (r6 : ByteArray) (r7 : Int) (w : World) (hr0 : Kd.C k44 w A0 l0.length l0) (hc0 : l0.length ≤ c0) (hr1_1 : Kd.C k51 w A1_1 l1_1.length l1_1) (hc1_1 : l1_1.length ≤ c1_1) (h : orielref07_Enter.f k l0 a1_0 l1_1 = some (r1, r2, r3, r4, r5, r6, r7)) :
  Calls Try.prog 11 #[.slice A0 l0.length c0, .agg #[.string a1_0, .slice A1_1 l1_1.length c1_1]] w fun e w' => ∃ v0_ v4_ : Value, e = .returned (.tuple #[v0_, .agg #[.int .i64 r2, .string r3, .string r4, v4_, .string r6], .int .i64 r7]) ∧ Kd.R k44 44 w' w.heap.size (fun _ => True) v0_ r1 ∧ Kd.R k47 47 w' w.heap.size (fun _ => True) v4_ r5 ∧ Below w.heap.size w w' := by
 have hu25 := Try.underlying25
 have hu32 := Try.underlying32
 have hu51 := Try.underlying51
 have hu44 := Try.underlying44
 have hu29 := Try.underlying29
 have hu47 := Try.underlying47
 have HR0 := Aside0.mk hr0
 have HC0 := Aside0.mk hc0
 clear hr0 hc0
 have HR1_1 := Aside0.mk hr1_1
 have HC1_1 := Aside0.mk hc1_1
 clear hr1_1 hc1_1
 have HB := Aside0.mk (Below.refl w.heap.size w)
 have H : ((some (([] : List (S44)) : List (S44))).bind fun y225 => (if y225.length + l0.length < 4398046511104 then (orielref07_Enter.l0 k (y225 ++ l0) 0 a1_0 l1_1) else (none))) = some (r1, r2, r3, r4, r5, r6, r7) := h
 clear h
 obtain ⟨y225, hy225⟩ : ∃ y_ : List (S44), y_ = (([] : List (S44))) := ⟨_, rfl⟩
 replace H : (if y225.length + l0.length < 4398046511104 then (orielref07_Enter.l0 k (y225 ++ l0) 0 a1_0 l1_1) else (none)) = some (r1, r2, r3, r4, r5, r6, r7) := by first | (rw [hy225]; with_reducible exact H) | (have H2_ := (Option.bind_some _ _).symm.trans H; rw [hy225]; with_reducible exact H2_) | (have H2_ := (Option.bind_some _ _).symm.trans H; with_reducible exact H2_) | with_reducible exact H | (rw [hy225]; exact H) | exact H
 have Ny225 := Aside0.mk hy225
 clear hy225
 by_cases c3 : y225.length + l0.length < 4398046511104
 ·
  rw [if_pos c3] at H
  have LMc3 := Aside0.mk c3
  clear c3
  obtain ⟨y228, hy228⟩ : ∃ y_ : List (S44), y_ = (y225 ++ l0) := ⟨_, rfl⟩
  replace H : (orielref07_Enter.l0 k y228 0 a1_0 l1_1) = some (r1, r2, r3, r4, r5, r6, r7) := by first | (rw [hy228]; with_reducible exact H) | (have H2_ := (Option.bind_some _ _).symm.trans H; rw [hy228]; with_reducible exact H2_) | (have H2_ := (Option.bind_some _ _).symm.trans H; with_reducible exact H2_) | with_reducible exact H | (rw [hy228]; exact H) | exact H
  have Ny228 := Aside0.mk hy228
  clear hy228
  have H' := Aside0.mk H
  clear H
  go_enter Try.func11, Try.ntmps11
  go_wp2_with (first | ((with_reducible refine gate_dst (N := 3) rfl ?_); refine box_event ?hg (N := 3) ?hd (cs := #[.string a1_0, .slice A1_1 l1_1.length c1_1]) (t := 25) ?hr ?_; (case hd => rfl); (case hg => rfl); (case hr => first | (go_simp; done) | (go_simp; rfl)); intro gb223 hg w4 hbox hb; have n0_ := Aside0.mk (below_step (by repeat (first | (with_reducible first | exact HB.out | apply below_alloc | apply pw_below_drewN | apply below_drew1) | exact HB.out)) hb); have n1_ := Aside0.mk (hbox); have n2_ := Aside0.mk ((by rw [hg]; exact (below_size (by repeat (first | (with_reducible first | exact HB.out | apply below_alloc | apply pw_below_drewN | apply below_drew1) | exact HB.out))) : w.heap.size ≤ gb223)); have n3_ := Aside0.mk ((by rw [hg]; exact (below_size (by repeat (first | (with_reducible first | exact HB.out | apply below_alloc | apply pw_below_drewN | apply below_drew1) | exact HB.out))) : w.heap.size ≤ gb223)); clear HB; have HB := n0_; have BK223 := n1_; have GW223 := n2_; have GE223 := n3_; clear n0_ n1_ n2_ n3_; clear hb hbox hg) | ((with_reducible refine gate_dst (N := 5) rfl ?_); refine box_event ?hg (N := 5) ?hd (cs := #[.int .i64 0, .string (⟨#[]⟩ : ByteArray), .string (⟨#[]⟩ : ByteArray), .slice none 0 0, .string (⟨#[]⟩ : ByteArray)]) (t := 32) ?hr ?_; (case hd => rfl); (case hg => rfl); (case hr => first | (go_simp; done) | (go_simp; rfl)); intro gb224 hg w5 hbox hb; have n0_ := Aside0.mk (blk_below (g := gb223) (o := .cells #[.string a1_0, .slice A1_1 l1_1.length c1_1] 25 (0, 0)) (by (with_reducible repeat (first | refine blk_drewN ?_ _ | refine blk_drew ?_ | refine blk_alloc ?_ _)); exact BK223.out) hb); have n1_ := Aside0.mk (below_step (by repeat (first | (with_reducible first | exact HB.out | apply below_alloc | apply pw_below_drewN | apply below_drew1 | refine below_set ?_ GE223.out) | exact HB.out)) hb); have n2_ := Aside0.mk (hbox); have n3_ := Aside0.mk ((by rw [hg]; exact (below_size (by repeat (first | (with_reducible first | exact HB.out | apply below_alloc | apply pw_below_drewN | apply below_drew1 | refine below_set ?_ GE223.out) | exact HB.out))) : w.heap.size ≤ gb224)); have n4_ := Aside0.mk ((by rw [hg]; exact (below_size (by repeat (first | (with_reducible first | exact HB.out | apply below_alloc | apply pw_below_drewN | apply below_drew1 | refine below_set ?_ GE223.out) | exact HB.out))) : w.heap.size ≤ gb224)); have n5_ := Aside0.mk ((by rw [hg]; exact Nat.ne_of_lt (blk_lt (g := gb223) (o := .cells #[.string a1_0, .slice A1_1 l1_1.length c1_1] 25 (0, 0)) (by (with_reducible repeat (first | refine blk_drewN ?_ _ | refine blk_drew ?_ | refine blk_alloc ?_ _)); exact BK223.out)) : gb223 ≠ gb224)); have n6_ := Aside0.mk ((by rw [hg]; exact Nat.ne_of_gt (blk_lt (g := gb223) (o := .cells #[.string a1_0, .slice A1_1 l1_1.length c1_1] 25 (0, 0)) (by (with_reducible repeat (first | refine blk_drewN ?_ _ | refine blk_drew ?_ | refine blk_alloc ?_ _)); exact BK223.out)) : gb224 ≠ gb223)); clear BK223; clear HB; have BK223 := n0_; have HB := n1_; have BK224 := n2_; have GW224 := n3_; have GE224 := n4_; have NB223_224 := n5_; have NB224_223 := n6_; clear n0_ n1_ n2_ n3_ n4_ n5_ n6_; clear hb hbox hg) | ((with_reducible refine gate_dst (N := 22) rfl ?_); refine Kd.R_lit k44 _ 44 ?hg (N := 22) ?hd (xs := ([] : List (S44))) (inner := []) (ok := fun _ => True) (okp := fun _ => True) ?hr ?hp (fun _ hk => hk) trivial (Below.refl _ _) (Nat.le_refl _) (by simp) ?_; (case hd => rfl); (case hg => rfl); (case hr => first | (go_simp; done) | (go_simp; rfl)); (case hp => exact (Reps.none _ _)); intro v226 w6 ho7 hb hg_ hnew_; clear hg_ hnew_; (first | rw [← Ny225.out] at ho7 | (simp only [Int.reduceToNat] at ho7; rw [← Ny225.out] at ho7)); have n0_ := Aside0.mk (Kd.R_lower ho7 (below_size (by repeat (first | (with_reducible first | exact HB.out | apply below_alloc | apply pw_below_drewN | apply below_drew1 | refine below_set ?_ GE223.out | refine below_set ?_ GE224.out) | exact HB.out)))); have n1_ := Aside0.mk (blk_below (g := gb223) (o := .cells #[.string a1_0, .slice A1_1 l1_1.length c1_1] 25 (0, 0)) (by (with_reducible repeat (first | refine blk_drewN ?_ _ | refine blk_drew ?_ | refine blk_alloc ?_ _)); exact BK223.out) hb); have n2_ := Aside0.mk (blk_below (g := gb224) (o := .cells #[.int .i64 0, .string (⟨#[]⟩ : ByteArray), .string (⟨#[]⟩ : ByteArray), .slice none 0 0, .string (⟨#[]⟩ : ByteArray)] 32 (0, 0)) (by (with_reducible repeat (first | refine blk_drewN ?_ _ | refine blk_drew ?_ | refine blk_alloc ?_ _)); exact BK224.out) hb); have n3_ := Aside0.mk (below_step (by repeat (first | (with_reducible first | exact HB.out | apply below_alloc | apply pw_below_drewN | apply below_drew1 | refine below_set ?_ GE223.out | refine below_set ?_ GE224.out) | exact HB.out)) hb); clear BK223; clear BK224; clear HB; have HO227 := n0_; have BK223 := n1_; have BK224 := n2_; have HB := n3_; clear n0_ n1_ n2_ n3_; clear hb ho7) | ((with_reducible refine gate_builtin (b := .append) (xs := #[.tmp 22, .tmp 23]) rfl ?_); at_builtin; refine Kd.R_append_rows k44 (w0 := w) w.heap.size rfl (.tmp 22) (.tmp 23) 22 44 (.agg #[(.string ⟨#[]⟩), (.string ⟨#[]⟩)]) 32 rfl Try.underlying22 info44 rfl (by decide) (by omega) v226 y225 l0 _ _ _ (fun _ => True) (fun _ => False) rfl rfl ?aO ?aR (fun _ _ h => h) (fun _ h => h.elim) ?aF ?aB ?aS ?aL ?_; (case aR => repeat (first | exact (Kd.C_below HR0.out HB.out) | (with_reducible refine Kd.C_alloc ?_ _) | (with_reducible refine Kd.C_drewN ?_ _) | (with_reducible refine Kd.C_drew ?_))); (case aB => exact (by repeat (first | (with_reducible first | exact HB.out | apply below_alloc | apply pw_below_drewN | apply below_drew1 | refine below_set ?_ GE223.out | refine below_set ?_ GE224.out) | exact HB.out))); (case aF => exact (fun _ _ => trivial)); (case aO => exact (by (with_reducible repeat (first | apply Kd.R_alloc | apply Kd.R_drewN | apply Kd.R_drew)); exact HO227.out)); (case aS => exact (below_size (by repeat (first | (with_reducible first | exact HB.out | apply below_alloc | apply pw_below_drewN | apply below_drew1 | refine below_set ?_ GE223.out | refine below_set ?_ GE224.out) | exact HB.out)))); (case aL => have := LMc3.out; omega); intro v229 w8 ho hb hg hat; rw [← Ny228.out] at ho; have n0_ := Aside0.mk (blk_grown (g := gb223) (o := .cells #[.string a1_0, .slice A1_1 l1_1.length c1_1] 25 (0, 0)) (by (with_reducible repeat (first | refine blk_drewN ?_ _ | refine blk_drew ?_ | refine blk_alloc ?_ _)); exact BK223.out) hg (Kd.R_ne HO227.out BK223.out (by decide))); have n1_ := Aside0.mk (blk_grown (g := gb224) (o := .cells #[.int .i64 0, .string (⟨#[]⟩ : ByteArray), .string (⟨#[]⟩ : ByteArray), .slice none 0 0, .string (⟨#[]⟩ : ByteArray)] 32 (0, 0)) (by (with_reducible repeat (first | refine blk_drewN ?_ _ | refine blk_drew ?_ | refine blk_alloc ?_ _)); exact BK224.out) hg (Kd.R_ne HO227.out BK224.out (by decide))); have n2_ := Aside0.mk (hb); have n3_ := Aside0.mk (ho); clear BK223; clear BK224; clear HB; clear HO227; have BK223 := n0_; have BK224 := n1_; have HB := n2_; have HO230 := n3_; clear n0_ n1_ n2_ n3_; clear ho hb hg hat))
  go_loopg [7, 8] k (fun kq v7 v8 w' => ∃ (x7_1 : List (S44)) (x8_1 : Int) (x225000_1 : Int) (x225001_1 : ByteArray) (x225002_1 : ByteArray) (x225004_1 : ByteArray), v8 = .int .i64 x8_1 ∧ Aside0 (orielref07_Enter.l0 kq x7_1 x8_1 a1_0 l1_1 = some (r1, r2, r3, r4, r5, r6, r7)) ∧ Aside0 (kq ≤ k) ∧ Aside0 (Kd.R k44 44 w' w.heap.size (fun _ => True) v7 x7_1) ∧ Aside0 (w'.heap[gb223]? = some (.cells #[.string a1_0, (.slice A1_1 l1_1.length c1_1)] 25 (0, 0))) ∧ Aside0 (w'.heap[gb224]? = some (.cells #[.int .i64 x225000_1, .string x225001_1, .string x225002_1, (.slice none 0 0), .string x225004_1] 32 (0, 0))) ∧ Aside0 (Below w.heap.size w w'))
  case atStart => exact ⟨(y228), (0), (0), ((⟨#[]⟩ : ByteArray)), ((⟨#[]⟩ : ByteArray)), ((⟨#[]⟩ : ByteArray)), (by first | rfl | (simp; done) | (simp [*]; done)), H', ⟨Nat.le_refl _⟩, ⟨by (with_reducible repeat (first | apply Kd.R_alloc | apply Kd.R_drewN | apply Kd.R_drew)); exact HO230.out⟩, ⟨by (with_reducible repeat (first | refine blk_drewN ?_ _ | refine blk_drew ?_ | refine blk_alloc ?_ _)); exact BK223.out⟩, ⟨by (with_reducible repeat (first | refine blk_drewN ?_ _ | refine blk_drew ?_ | refine blk_alloc ?_ _)); exact BK224.out⟩, ⟨by repeat (first | (with_reducible first | exact HB.out | apply below_alloc | apply pw_below_drewN | apply below_drew1 | refine below_set ?_ GE223.out | refine below_set ?_ GE224.out) | exact HB.out)⟩⟩
  case round => as_aux_lemma =>
   clear H'
   try clear c1
   try clear p2
   try clear c3
   obtain ⟨x7_1, x8_1, x225000_1, x225001_1, x225002_1, x225004_1, rfl, HA, HK1, HO_7, BK223, BK224, HB⟩ := hrel
   cases gk with
   | zero => exact absurd HA.out (by simp [orielref07_Enter.l0])
   | succ k1 =>
    have H := HA.out
    clear HA
    simp only [orielref07_Enter.l0] at H
    by_cases c9 : x8_1 < (l1_1.length : Int)
    ·
     rw [if_pos c9] at H
     have c9b0 : decide (x8_1 < (l1_1.length : Int)) = true := decide_eq_true c9
     clear c9
     by_cases c10 : 0 ≤ x8_1
     ·
      rw [if_pos c10] at H
      have c10b0 : decide (0 ≤ x8_1) = true := decide_eq_true c10
      clear c10
      replace H := Option.bind_eq_some_iff.mp H
      obtain ⟨⟨t232, t233⟩, A110, H⟩ := H
      replace H : (if t233 = true then (if t232.toList = ([120, 109, 108, 110, 115] : List UInt8) then (orielref07_Enter.j1 k1 x7_1 x8_1 t232 ((rd_T51 l1_1 x8_1).f1) true a1_0 l1_1) else (if ((rd_T51 l1_1 x8_1).f1).toList = ([104, 116, 116, 112, 58, 47, 47, 119, 119, 119, 46, 119, 51, 46, 111, 114, 103, 47, 50, 48, 48, 48, 47, 120, 109, 108, 110, 115, 47] : List UInt8) then (orielref07_Enter.j1 k1 x7_1 x8_1 t232 ((rd_T51 l1_1 x8_1).f1) true a1_0 l1_1) else (if t232.toList = ([] : List UInt8) then (orielref07_Enter.j1 k1 x7_1 x8_1 t232 ((rd_T51 l1_1 x8_1).f1) false a1_0 l1_1) else (orielref07_Enter.j1 k1 x7_1 x8_1 t232 ((rd_T51 l1_1 x8_1).f1) (((rd_T51 l1_1 x8_1).f1).toList == ([] : List UInt8)) a1_0 l1_1)))) else (orielref07_Enter.l0 k1 x7_1 (wrap64 (x8_1 + 1)) a1_0 l1_1)) = some (r1, r2, r3, r4, r5, r6, r7) := H
      have A11 := Aside0.mk A110
      clear A110
      by_cases c12 : t233 = true
      ·
       subst c12
       have H1 : (if t232.toList = ([120, 109, 108, 110, 115] : List UInt8) then (orielref07_Enter.j1 k1 x7_1 x8_1 t232 ((rd_T51 l1_1 x8_1).f1) true a1_0 l1_1) else (if ((rd_T51 l1_1 x8_1).f1).toList = ([104, 116, 116, 112, 58, 47, 47, 119, 119, 119, 46, 119, 51, 46, 111, 114, 103, 47, 50, 48, 48, 48, 47, 120, 109, 108, 110, 115, 47] : List UInt8) then (orielref07_Enter.j1 k1 x7_1 x8_1 t232 ((rd_T51 l1_1 x8_1).f1) true a1_0 l1_1) else (if t232.toList = ([] : List UInt8) then (orielref07_Enter.j1 k1 x7_1 x8_1 t232 ((rd_T51 l1_1 x8_1).f1) false a1_0 l1_1) else (orielref07_Enter.j1 k1 x7_1 x8_1 t232 ((rd_T51 l1_1 x8_1).f1) (((rd_T51 l1_1 x8_1).f1).toList == ([] : List UInt8)) a1_0 l1_1)))) = some (r1, r2, r3, r4, r5, r6, r7) := by rw [if_pos rfl] at H; exact H
       clear H
       have H := H1
       clear H1
       have HC13 := Aside0.mk H
       clear H
       have hnb14 := NB223_224.out
       have hnc14 := NB224_223.out
       have hcz15_0 : wr.cell? ⟨gb223, 0, none⟩ = some (.string a1_0) := (blk_cell BK223.out 0).trans rfl
       have hcz15_1 : wr.cell? ⟨gb223, 1, none⟩ = some (.slice A1_1 l1_1.length c1_1) := (blk_cell BK223.out 1).trans rfl
       have hfz15_0 := blk_frozen BK223.out 0
       have hfz15_1 := blk_frozen BK223.out 1
       have p231 : 0 ≤ (x8_1 : Int) := of_decide_eq_true (by first | (with_reducible assumption) | assumption)
       have q231 : x8_1 < (l1_1.length : Int) := of_decide_eq_true (by first | (with_reducible assumption) | assumption)
       obtain ⟨ad231, e231, hx231_0, hx231_1⟩ := at_T51 HR1_1.out x8_1 p231 q231
       cases e231
       replace hx231_0 := (HB.out.cell (World.block_lt_of_cell? w _ hx231_0)).trans hx231_0
       replace hx231_1 := (HB.out.cell (World.block_lt_of_cell? w _ hx231_1)).trans hx231_1
       replace p231 := eq_true p231
       replace q231 := eq_true q231
       go_upto_region 8 with (first | ((with_reducible refine gate_callee (f := 28) rfl ?_); refine goesL_ (some 38) rfl rfl Try.func28 (by kernel_rfl) rfl #[.agg #[.string ((rd_T51 l1_1 x8_1).f0), .string ((rd_T51 l1_1 x8_1).f1)]] rfl (by (try simp only [List.map_toArray, List.map_cons, List.map_nil]); first | done | rfl | (simp only [List.length_drop, List.length_take]; rfl)) ?_; (with_reducible refine (orielref07_binds.calls ((rd_T51 l1_1 x8_1).f0) ((rd_T51 l1_1 x8_1).f1) t232 true _ A11.out).mono ?_); rintro e w16 ⟨rfl, hb⟩; refine ⟨_, rfl, ?_⟩; have n0_ := Aside0.mk (Kd.R_below (by (with_reducible repeat (first | apply Kd.R_alloc | apply Kd.R_drewN | apply Kd.R_drew)); exact HO_7.out) hb); have n1_ := Aside0.mk (blk_below (g := gb223) (o := .cells #[.string a1_0, .slice (some ad231) l1_1.length c1_1] 25 (0, 0)) (by (with_reducible repeat (first | refine blk_drewN ?_ _ | refine blk_drew ?_ | refine blk_alloc ?_ _)); exact BK223.out) hb); have n2_ := Aside0.mk (blk_below (g := gb224) (o := .cells #[.int .i64 x225000_1, .string x225001_1, .string x225002_1, .slice none 0 0, .string x225004_1] 32 (0, 0)) (by (with_reducible repeat (first | refine blk_drewN ?_ _ | refine blk_drew ?_ | refine blk_alloc ?_ _)); exact BK224.out) hb); have n3_ := Aside0.mk (below_step (by repeat (first | (with_reducible first | exact HB.out | apply below_alloc | apply pw_below_drewN | apply below_drew1 | refine below_set ?_ GE223.out | refine below_set ?_ GE224.out) | exact HB.out)) hb); clear HO_7; clear BK223; clear BK224; clear HB; have HO_7 := n0_; have BK223 := n1_; have BK224 := n2_; have HB := n3_; clear n0_ n1_ n2_ n3_; (try clear hb); (try clear hb2); (try clear hk); (try clear hi); have hcz17_0 : w16.cell? ⟨gb223, 0, none⟩ = some (.string a1_0) := (blk_cell BK223.out 0).trans rfl; have hcz17_1 : w16.cell? ⟨gb223, 1, none⟩ = some (.slice (some ad231) l1_1.length c1_1) := (blk_cell BK223.out 1).trans rfl; have hfz17_0 := blk_frozen BK223.out 0; have hfz17_1 := blk_frozen BK223.out 1; have p234 : 0 ≤ (x8_1 : Int) := of_decide_eq_true (by first | (with_reducible assumption) | assumption); have q234 : x8_1 < (l1_1.length : Int) := of_decide_eq_true (by first | (with_reducible assumption) | assumption); obtain ⟨ad234, e234, hx234_0, hx234_1⟩ := at_T51 HR1_1.out x8_1 p234 q234; obtain rfl : ad231 = ad234 := (by injection e234); replace hx234_0 := (HB.out.cell (World.block_lt_of_cell? w _ hx234_0)).trans hx234_0; replace hx234_1 := (HB.out.cell (World.block_lt_of_cell? w _ hx234_1)).trans hx234_1; replace p234 := eq_true p234; replace q234 := eq_true q234))
       (try simp only [Act.put, List.setIfInBounds_toArray, List.set_cons_zero, List.set_cons_succ])
       go_cut [12] (fun v12 wc => ∃ (kq : Nat) (x12_12 : Bool), v12 = .bool x12_12 ∧ Aside0 (orielref07_Enter.j1 kq x7_1 x8_1 t232 ((rd_T51 l1_1 x8_1).f1) x12_12 a1_0 l1_1 = some (r1, r2, r3, r4, r5, r6, r7)) ∧ Aside0 (kq ≤ k1) ∧ Aside0 (Kd.R k44 44 wc w.heap.size (fun _ => True) u7 x7_1) ∧ Aside0 (wc.heap[gb223]? = some (.cells #[.string a1_0, (.slice (some ad231) l1_1.length c1_1)] 25 (0, 0))) ∧ Aside0 (wc.heap[gb224]? = some (.cells #[.int .i64 x225000_1, .string x225001_1, .string x225002_1, (.slice none 0 0), .string x225004_1] 32 (0, 0))) ∧ Aside0 (Below w.heap.size w wc))
       case first => as_aux_lemma =>
        have H := HC13.out
        clear HC13
        by_cases c18 : t232.toList = ([120, 109, 108, 110, 115] : List UInt8)
        ·
         rw [if_pos c18] at H
         have c18b0 : (t232.toList == ([120, 109, 108, 110, 115] : List UInt8)) = true := beq_iff_eq.mpr c18
         have c18b1 : (t232.toList != ([120, 109, 108, 110, 115] : List UInt8)) = false := bne_eq_false_iff_eq.mpr c18
         clear c18
         (first | rw [c18b0] | (simp only [i64_w, i32_w]; rw [c18b0]) | skip)
         have H' := Aside0.mk H
         clear H
         go_wp2
         go_meet
         case rel => exact ⟨_, (true), (by first | rfl | (simp; done) | (simp [*]; done)), H', ⟨by have := HK1.out; first | omega | exact Nat.le_refl _⟩, ⟨by (with_reducible repeat (first | apply Kd.R_alloc | apply Kd.R_drewN | apply Kd.R_drew)); exact HO_7.out⟩, ⟨by (with_reducible repeat (first | refine blk_drewN ?_ _ | refine blk_drew ?_ | refine blk_alloc ?_ _)); exact BK223.out⟩, ⟨by (with_reducible repeat (first | refine blk_drewN ?_ _ | refine blk_drew ?_ | refine blk_alloc ?_ _)); exact BK224.out⟩, ⟨by repeat (first | (with_reducible first | exact HB.out | apply below_alloc | apply pw_below_drewN | apply below_drew1 | refine below_set ?_ GE223.out | refine below_set ?_ GE224.out) | exact HB.out)⟩⟩
        ·
         rw [if_neg c18] at H
         have c18b0 : (t232.toList == ([120, 109, 108, 110, 115] : List UInt8)) = false := beq_eq_false_iff_ne.mpr c18
         have c18b1 : (t232.toList != ([120, 109, 108, 110, 115] : List UInt8)) = true := bne_iff_ne.mpr c18
         (first | rw [c18b0] | (simp only [i64_w, i32_w]; rw [c18b0]) | skip)
         by_cases c19 : ((rd_T51 l1_1 x8_1).f1).toList = ([104, 116, 116, 112, 58, 47, 47, 119, 119, 119, 46, 119, 51, 46, 111, 114, 103, 47, 50, 48, 48, 48, 47, 120, 109, 108, 110, 115, 47] : List UInt8)
         ·
          rw [if_pos c19] at H
          have c19b0 : (((rd_T51 l1_1 x8_1).f1).toList == ([104, 116, 116, 112, 58, 47, 47, 119, 119, 119, 46, 119, 51, 46, 111, 114, 103, 47, 50, 48, 48, 48, 47, 120, 109, 108, 110, 115, 47] : List UInt8)) = true := beq_iff_eq.mpr c19
          have c19b1 : (((rd_T51 l1_1 x8_1).f1).toList != ([104, 116, 116, 112, 58, 47, 47, 119, 119, 119, 46, 119, 51, 46, 111, 114, 103, 47, 50, 48, 48, 48, 47, 120, 109, 108, 110, 115, 47] : List UInt8)) = false := bne_eq_false_iff_eq.mpr c19
          clear c19
          have H' := Aside0.mk H
          clear H
          go_wp2
          go_meet
          case rel => exact ⟨_, (true), (by first | rfl | (simp; done) | (simp [*]; done)), H', ⟨by have := HK1.out; first | omega | exact Nat.le_refl _⟩, ⟨by (with_reducible repeat (first | apply Kd.R_alloc | apply Kd.R_drewN | apply Kd.R_drew)); exact HO_7.out⟩, ⟨by (with_reducible repeat (first | refine blk_drewN ?_ _ | refine blk_drew ?_ | refine blk_alloc ?_ _)); exact BK223.out⟩, ⟨by (with_reducible repeat (first | refine blk_drewN ?_ _ | refine blk_drew ?_ | refine blk_alloc ?_ _)); exact BK224.out⟩, ⟨by repeat (first | (with_reducible first | exact HB.out | apply below_alloc | apply pw_below_drewN | apply below_drew1 | refine below_set ?_ GE223.out | refine below_set ?_ GE224.out) | exact HB.out)⟩⟩
         ·
          rw [if_neg c19] at H
          have c19b0 : (((rd_T51 l1_1 x8_1).f1).toList == ([104, 116, 116, 112, 58, 47, 47, 119, 119, 119, 46, 119, 51, 46, 111, 114, 103, 47, 50, 48, 48, 48, 47, 120, 109, 108, 110, 115, 47] : List UInt8)) = false := beq_eq_false_iff_ne.mpr c19
          have c19b1 : (((rd_T51 l1_1 x8_1).f1).toList != ([104, 116, 116, 112, 58, 47, 47, 119, 119, 119, 46, 119, 51, 46, 111, 114, 103, 47, 50, 48, 48, 48, 47, 120, 109, 108, 110, 115, 47] : List UInt8)) = true := bne_iff_ne.mpr c19
          by_cases c20 : t232.toList = ([] : List UInt8)
          ·
           rw [if_pos c20] at H
           have c20b0 : (t232.toList == ([] : List UInt8)) = true := beq_iff_eq.mpr c20
           have c20b1 : (t232.toList != ([] : List UInt8)) = false := bne_eq_false_iff_eq.mpr c20
           clear c20
           have H' := Aside0.mk H
           clear H
           go_wp2
           go_meet
           case rel => exact ⟨_, (false), (by first | rfl | (simp; done) | (simp [*]; done)), H', ⟨by have := HK1.out; first | omega | exact Nat.le_refl _⟩, ⟨by (with_reducible repeat (first | apply Kd.R_alloc | apply Kd.R_drewN | apply Kd.R_drew)); exact HO_7.out⟩, ⟨by (with_reducible repeat (first | refine blk_drewN ?_ _ | refine blk_drew ?_ | refine blk_alloc ?_ _)); exact BK223.out⟩, ⟨by (with_reducible repeat (first | refine blk_drewN ?_ _ | refine blk_drew ?_ | refine blk_alloc ?_ _)); exact BK224.out⟩, ⟨by repeat (first | (with_reducible first | exact HB.out | apply below_alloc | apply pw_below_drewN | apply below_drew1 | refine below_set ?_ GE223.out | refine below_set ?_ GE224.out) | exact HB.out)⟩⟩
          ·
           rw [if_neg c20] at H
           have c20b0 : (t232.toList == ([] : List UInt8)) = false := beq_eq_false_iff_ne.mpr c20
           have c20b1 : (t232.toList != ([] : List UInt8)) = true := bne_iff_ne.mpr c20
           have H' := Aside0.mk H
           clear H
           go_wp2
           go_meet
           case rel => exact ⟨_, ((((rd_T51 l1_1 x8_1).f1).toList == ([] : List UInt8))), (by first | rfl | (simp; done) | (simp [*]; done)), H', ⟨by have := HK1.out; first | omega | exact Nat.le_refl _⟩, ⟨by (with_reducible repeat (first | apply Kd.R_alloc | apply Kd.R_drewN | apply Kd.R_drew)); exact HO_7.out⟩, ⟨by (with_reducible repeat (first | refine blk_drewN ?_ _ | refine blk_drew ?_ | refine blk_alloc ?_ _)); exact BK223.out⟩, ⟨by (with_reducible repeat (first | refine blk_drewN ?_ _ | refine blk_drew ?_ | refine blk_alloc ?_ _)); exact BK224.out⟩, ⟨by repeat (first | (with_reducible first | exact HB.out | apply below_alloc | apply pw_below_drewN | apply below_drew1 | refine below_set ?_ GE223.out | refine below_set ?_ GE224.out) | exact HB.out)⟩⟩
       case rest => as_aux_lemma =>
        clear HC13
        try clear c1
        try clear c2
        try clear p2
        try clear q2
        try clear hx2
        try clear c3
        try clear p6
        try clear c9
        try clear c9b0
        try clear c10
        try clear c10b0
        try clear c11
        try clear c12
        try clear c14
        try clear c18
        try clear c18b0
        try clear c18b1
        try clear c19
        try clear c19b0
        try clear c19b1
        try clear c20
        try clear c20b0
        try clear c20b1
        try clear hcz15_0
        try clear hcz15_1
        try clear hcz17_0
        try clear hcz17_1
        try clear hfz15_0
        try clear hfz15_1
        try clear hfz17_0
        try clear hfz17_1
        try clear hx231_0
        try clear hx231_1
        try clear hx234_0
        try clear hx234_1
        try clear p2
        try clear p231
        try clear p234
        try clear q231
        try clear q234
        obtain ⟨kq, x12_12, rfl, HA, HJ12, HO_7, BK223, BK224, HB⟩ := hcut
        cases kq with
        | zero => exact absurd HA.out (by simp [orielref07_Enter.j1])
        | succ kj12 =>
         have H := HA.out
         clear HA
         simp only [orielref07_Enter.j1] at H
         have HC21 := Aside0.mk H
         clear H
         go_upto_region 9 with (fail)
         go_cut [76] (fun v76 wc => ∃ (kq : Nat) (x76_20 : Bool), v76 = .bool x76_20 ∧ Aside0 (orielref07_Enter.j2 kq x7_1 x8_1 t232 ((rd_T51 l1_1 x8_1).f1) x12_12 x76_20 a1_0 l1_1 = some (r1, r2, r3, r4, r5, r6, r7)) ∧ Aside0 (kq ≤ kj12) ∧ Aside0 (Kd.R k44 44 wc w.heap.size (fun _ => True) u7 x7_1) ∧ Aside0 (wc.heap[gb223]? = some (.cells #[.string a1_0, (.slice (some ad231) l1_1.length c1_1)] 25 (0, 0))) ∧ Aside0 (wc.heap[gb224]? = some (.cells #[.int .i64 x225000_1, .string x225001_1, .string x225002_1, (.slice none 0 0), .string x225004_1] 32 (0, 0))) ∧ Aside0 (Below w.heap.size w wc))
         case first => as_aux_lemma =>
          have H := HC21.out
          clear HC21
          by_cases c22 : t232.toList = ([120, 109, 108] : List UInt8)
          ·
           rw [if_pos c22] at H
           have c22b0 : (t232.toList == ([120, 109, 108] : List UInt8)) = true := beq_iff_eq.mpr c22
           have c22b1 : (t232.toList != ([120, 109, 108] : List UInt8)) = false := bne_eq_false_iff_eq.mpr c22
           clear c22
           (first | rw [c22b0] | (simp only [i64_w, i32_w]; rw [c22b0]) | skip)
           by_cases c23 : ((rd_T51 l1_1 x8_1).f1).toList = ([104, 116, 116, 112, 58, 47, 47, 119, 119, 119, 46, 119, 51, 46, 111, 114, 103, 47, 88, 77, 76, 47, 49, 57, 57, 56, 47, 110, 97, 109, 101, 115, 112, 97, 99, 101] : List UInt8)
           ·
            rw [if_pos c23] at H
            have c23b0 : (((rd_T51 l1_1 x8_1).f1).toList == ([104, 116, 116, 112, 58, 47, 47, 119, 119, 119, 46, 119, 51, 46, 111, 114, 103, 47, 88, 77, 76, 47, 49, 57, 57, 56, 47, 110, 97, 109, 101, 115, 112, 97, 99, 101] : List UInt8)) = true := beq_iff_eq.mpr c23
            have c23b1 : (((rd_T51 l1_1 x8_1).f1).toList != ([104, 116, 116, 112, 58, 47, 47, 119, 119, 119, 46, 119, 51, 46, 111, 114, 103, 47, 88, 77, 76, 47, 49, 57, 57, 56, 47, 110, 97, 109, 101, 115, 112, 97, 99, 101] : List UInt8)) = false := bne_eq_false_iff_eq.mpr c23
            clear c23
            have H' := Aside0.mk H
            clear H
            go_wp2
            go_meet
            case rel => exact ⟨_, (false), (by first | rfl | (simp; done) | (simp [*]; done)), H', ⟨by have := HK1.out; have := HJ12.out; first | omega | exact Nat.le_refl _⟩, ⟨by (with_reducible repeat (first | apply Kd.R_alloc | apply Kd.R_drewN | apply Kd.R_drew)); exact HO_7.out⟩, ⟨by (with_reducible repeat (first | refine blk_drewN ?_ _ | refine blk_drew ?_ | refine blk_alloc ?_ _)); exact BK223.out⟩, ⟨by (with_reducible repeat (first | refine blk_drewN ?_ _ | refine blk_drew ?_ | refine blk_alloc ?_ _)); exact BK224.out⟩, ⟨by repeat (first | (with_reducible first | exact HB.out | apply below_alloc | apply pw_below_drewN | apply below_drew1 | refine below_set ?_ GE223.out | refine below_set ?_ GE224.out) | exact HB.out)⟩⟩
           ·
            rw [if_neg c23] at H
            have c23b0 : (((rd_T51 l1_1 x8_1).f1).toList == ([104, 116, 116, 112, 58, 47, 47, 119, 119, 119, 46, 119, 51, 46, 111, 114, 103, 47, 88, 77, 76, 47, 49, 57, 57, 56, 47, 110, 97, 109, 101, 115, 112, 97, 99, 101] : List UInt8)) = false := beq_eq_false_iff_ne.mpr c23
            have c23b1 : (((rd_T51 l1_1 x8_1).f1).toList != ([104, 116, 116, 112, 58, 47, 47, 119, 119, 119, 46, 119, 51, 46, 111, 114, 103, 47, 88, 77, 76, 47, 49, 57, 57, 56, 47, 110, 97, 109, 101, 115, 112, 97, 99, 101] : List UInt8)) = true := bne_iff_ne.mpr c23
            have H' := Aside0.mk H
            clear H
            go_wp2
            go_meet
            case rel => exact ⟨_, (true), (by first | rfl | (simp; done) | (simp [*]; done)), H', ⟨by have := HK1.out; have := HJ12.out; first | omega | exact Nat.le_refl _⟩, ⟨by (with_reducible repeat (first | apply Kd.R_alloc | apply Kd.R_drewN | apply Kd.R_drew)); exact HO_7.out⟩, ⟨by (with_reducible repeat (first | refine blk_drewN ?_ _ | refine blk_drew ?_ | refine blk_alloc ?_ _)); exact BK223.out⟩, ⟨by (with_reducible repeat (first | refine blk_drewN ?_ _ | refine blk_drew ?_ | refine blk_alloc ?_ _)); exact BK224.out⟩, ⟨by repeat (first | (with_reducible first | exact HB.out | apply below_alloc | apply pw_below_drewN | apply below_drew1 | refine below_set ?_ GE223.out | refine below_set ?_ GE224.out) | exact HB.out)⟩⟩
          ·
           rw [if_neg c22] at H
           have c22b0 : (t232.toList == ([120, 109, 108] : List UInt8)) = false := beq_eq_false_iff_ne.mpr c22
           have c22b1 : (t232.toList != ([120, 109, 108] : List UInt8)) = true := bne_iff_ne.mpr c22
           (first | rw [c22b0] | (simp only [i64_w, i32_w]; rw [c22b0]) | skip)
           have H' := Aside0.mk H
           clear H
           go_wp2
           go_meet
           case rel => exact ⟨_, ((((rd_T51 l1_1 x8_1).f1).toList == ([104, 116, 116, 112, 58, 47, 47, 119, 119, 119, 46, 119, 51, 46, 111, 114, 103, 47, 88, 77, 76, 47, 49, 57, 57, 56, 47, 110, 97, 109, 101, 115, 112, 97, 99, 101] : List UInt8))), (by first | rfl | (simp; done) | (simp [*]; done)), H', ⟨by have := HK1.out; have := HJ12.out; first | omega | exact Nat.le_refl _⟩, ⟨by (with_reducible repeat (first | apply Kd.R_alloc | apply Kd.R_drewN | apply Kd.R_drew)); exact HO_7.out⟩, ⟨by (with_reducible repeat (first | refine blk_drewN ?_ _ | refine blk_drew ?_ | refine blk_alloc ?_ _)); exact BK223.out⟩, ⟨by (with_reducible repeat (first | refine blk_drewN ?_ _ | refine blk_drew ?_ | refine blk_alloc ?_ _)); exact BK224.out⟩, ⟨by repeat (first | (with_reducible first | exact HB.out | apply below_alloc | apply pw_below_drewN | apply below_drew1 | refine below_set ?_ GE223.out | refine below_set ?_ GE224.out) | exact HB.out)⟩⟩
         case rest => as_aux_lemma =>
          clear HC21
          try clear c1
          try clear c2
          try clear p2
          try clear q2
          try clear hx2
          try clear c3
          try clear p6
          try clear c9
          try clear c9b0
          try clear c10
          try clear c10b0
          try clear c11
          try clear c12
          try clear c14
          try clear c18
          try clear c18b0
          try clear c18b1
          try clear c19
          try clear c19b0
          try clear c19b1
          try clear c20
          try clear c20b0
          try clear c20b1
          try clear c22
          try clear c22b0
          try clear c22b1
          try clear c23
          try clear c23b0
          try clear c23b1
          try clear p23
          try clear q23
          try clear hx23
          try clear hcz15_0
          try clear hcz15_1
          try clear hcz17_0
          try clear hcz17_1
          try clear hfz15_0
          try clear hfz15_1
          try clear hfz17_0
          try clear hfz17_1
          try clear hx231_0
          try clear hx231_1
          try clear hx234_0
          try clear hx234_1
          try clear p2
          try clear p231
          try clear p234
          try clear p6
          try clear q2
          try clear q231
          try clear q234
          obtain ⟨kq, x76_20, rfl, HA, HJ20, HO_7, BK223, BK224, HB⟩ := hcut
          cases kq with
          | zero => exact absurd HA.out (by simp [orielref07_Enter.j2])
          | succ kj20 =>
           have H := HA.out
           clear HA
           simp only [orielref07_Enter.j2] at H
           by_cases c24 : x76_20 = true
           ·
            subst c24
            have H1 : (some (([] : List (S44)), 0, (⟨#[]⟩ : ByteArray), (⟨#[]⟩ : ByteArray), ([] : List (S47)), (⟨#[]⟩ : ByteArray), 9)) = some (r1, r2, r3, r4, r5, r6, r7) := by rw [if_pos rfl] at H; exact H
            clear H
            have H := H1
            clear H1
            simp only [Option.some.injEq, Prod.mk.injEq] at H
            obtain ⟨rfl, rfl, rfl, rfl, rfl, rfl, rfl⟩ := H
            have hnb25 := NB224_223.out
            have hnc25 := NB223_224.out
            have hcz26_0 : wc.cell? ⟨gb224, 0, none⟩ = some (.int .i64 x225000_1) := (blk_cell BK224.out 0).trans rfl
            have hcz26_1 : wc.cell? ⟨gb224, 1, none⟩ = some (.string x225001_1) := (blk_cell BK224.out 1).trans rfl
            have hcz26_2 : wc.cell? ⟨gb224, 2, none⟩ = some (.string x225002_1) := (blk_cell BK224.out 2).trans rfl
            have hcz26_3 : wc.cell? ⟨gb224, 3, none⟩ = some (.slice none 0 0) := (blk_cell BK224.out 3).trans rfl
            have hcz26_4 : wc.cell? ⟨gb224, 4, none⟩ = some (.string x225004_1) := (blk_cell BK224.out 4).trans rfl
            have hfz26_0 := blk_frozen BK224.out 0
            have hfz26_1 := blk_frozen BK224.out 1
            have hfz26_2 := blk_frozen BK224.out 2
            have hfz26_3 := blk_frozen BK224.out 3
            have hfz26_4 := blk_frozen BK224.out 4
            go_wp2
            refine bodyPost_ret (results_list (rs := [.tmp 4, .cell 5 32, .tmp 6]) rfl (by simp) (.tmp (.cell gb224 32 #[.int .i64 0, .string (⟨#[]⟩ : ByteArray), .string (⟨#[]⟩ : ByteArray), .slice none 0 0, .string (⟨#[]⟩ : ByteArray)] (0, 0) _ rfl (by (with_reducible repeat (first | refine blk_drewN ?_ _ | refine blk_drew ?_ | refine blk_alloc ?_ _)); refine blk_put (cs := #[.int .i64 0, .string (⟨#[]⟩ : ByteArray), .string (⟨#[]⟩ : ByteArray), .slice none 0 0, .string x225004_1]) ?_ 4 _ rfl; (with_reducible repeat (first | refine blk_drewN ?_ _ | refine blk_drew ?_ | refine blk_alloc ?_ _)); refine blk_put (cs := #[.int .i64 0, .string (⟨#[]⟩ : ByteArray), .string (⟨#[]⟩ : ByteArray), .slice none 0 0, .string x225004_1]) ?_ 3 _ rfl; (with_reducible repeat (first | refine blk_drewN ?_ _ | refine blk_drew ?_ | refine blk_alloc ?_ _)); refine blk_put (cs := #[.int .i64 0, .string (⟨#[]⟩ : ByteArray), .string x225002_1, .slice none 0 0, .string x225004_1]) ?_ 2 _ rfl; (with_reducible repeat (first | refine blk_drewN ?_ _ | refine blk_drew ?_ | refine blk_alloc ?_ _)); refine blk_put (cs := #[.int .i64 0, .string x225001_1, .string x225002_1, .slice none 0 0, .string x225004_1]) ?_ 1 _ rfl; (with_reducible repeat (first | refine blk_drewN ?_ _ | refine blk_drew ?_ | refine blk_alloc ?_ _)); refine blk_put (cs := #[.int .i64 x225000_1, .string x225001_1, .string x225002_1, .slice none 0 0, .string x225004_1]) ?_ 0 _ rfl; (with_reducible repeat (first | refine blk_drewN ?_ _ | refine blk_drew ?_ | refine blk_alloc ?_ _)); exact BK224.out) Try.underlying32 rfl (by kernel_rfl) (.tmp .nil)))) rfl ?_
            exact ⟨_, _, by first | rfl | exact congrArg (fun b => Ending.returned (Value.bool b)) (isE_ne _).symm | exact congrArg (fun b => Ending.returned (Value.bool b)) (isE_eq _).symm | (simp only [isE_ne, isE_eq, Bool.not_not]; done) | (simp [errW_none, errW_some] <;> rfl) | (simp [*, errW_none, errW_some] <;> rfl), by first | exact Kd.R_nil _ _ _ _ _ | exact Kd.N_nil _ _ _ _ _ | exact Kd.V_nil _ _ _ _ _ | exact Kd.Q_nil _ _ _ _ _ | exact Kd.S_nil _ _ _ _ _, by first | exact Kd.R_nil _ _ _ _ _ | exact Kd.N_nil _ _ _ _ _ | exact Kd.V_nil _ _ _ _ _ | exact Kd.Q_nil _ _ _ _ _ | exact Kd.S_nil _ _ _ _ _, by repeat (first | (with_reducible first | exact HB.out | apply below_alloc | apply pw_below_drewN | apply below_drew1 | refine below_set ?_ GE223.out | refine below_set ?_ GE224.out) | exact HB.out)⟩
           ·
            replace c24 := Bool.eq_false_iff.mpr c24
            subst c24
            have H1 : (if x12_12 = true then (some (([] : List (S44)), 0, (⟨#[]⟩ : ByteArray), (⟨#[]⟩ : ByteArray), ([] : List (S47)), (⟨#[]⟩ : ByteArray), 9)) else (if x7_1.length < 4398046511104 then (orielref07_Enter.l0 kj20 (x7_1 ++ [(⟨t232, ((rd_T51 l1_1 x8_1).f1)⟩ : S44)]) (wrap64 (x8_1 + 1)) a1_0 l1_1) else (none))) = some (r1, r2, r3, r4, r5, r6, r7) := by rw [if_neg (show ¬ (false = true) by decide)] at H; exact H
            clear H
            have H := H1
            clear H1
            by_cases c27 : x12_12 = true
            ·
             subst c27
             have H1 : (some (([] : List (S44)), 0, (⟨#[]⟩ : ByteArray), (⟨#[]⟩ : ByteArray), ([] : List (S47)), (⟨#[]⟩ : ByteArray), 9)) = some (r1, r2, r3, r4, r5, r6, r7) := by rw [if_pos rfl] at H; exact H
             clear H
             have H := H1
             clear H1
             simp only [Option.some.injEq, Prod.mk.injEq] at H
             obtain ⟨rfl, rfl, rfl, rfl, rfl, rfl, rfl⟩ := H
             have hnb28 := NB224_223.out
             have hnc28 := NB223_224.out
             have hcz29_0 : wc.cell? ⟨gb224, 0, none⟩ = some (.int .i64 x225000_1) := (blk_cell BK224.out 0).trans rfl
             have hcz29_1 : wc.cell? ⟨gb224, 1, none⟩ = some (.string x225001_1) := (blk_cell BK224.out 1).trans rfl
             have hcz29_2 : wc.cell? ⟨gb224, 2, none⟩ = some (.string x225002_1) := (blk_cell BK224.out 2).trans rfl
             have hcz29_3 : wc.cell? ⟨gb224, 3, none⟩ = some (.slice none 0 0) := (blk_cell BK224.out 3).trans rfl
             have hcz29_4 : wc.cell? ⟨gb224, 4, none⟩ = some (.string x225004_1) := (blk_cell BK224.out 4).trans rfl
             have hfz29_0 := blk_frozen BK224.out 0
             have hfz29_1 := blk_frozen BK224.out 1
             have hfz29_2 := blk_frozen BK224.out 2
             have hfz29_3 := blk_frozen BK224.out 3
             have hfz29_4 := blk_frozen BK224.out 4
             go_wp2
             refine bodyPost_ret (results_list (rs := [.tmp 4, .cell 5 32, .tmp 6]) rfl (by simp) (.tmp (.cell gb224 32 #[.int .i64 0, .string (⟨#[]⟩ : ByteArray), .string (⟨#[]⟩ : ByteArray), .slice none 0 0, .string (⟨#[]⟩ : ByteArray)] (0, 0) _ rfl (by (with_reducible repeat (first | refine blk_drewN ?_ _ | refine blk_drew ?_ | refine blk_alloc ?_ _)); refine blk_put (cs := #[.int .i64 0, .string (⟨#[]⟩ : ByteArray), .string (⟨#[]⟩ : ByteArray), .slice none 0 0, .string x225004_1]) ?_ 4 _ rfl; (with_reducible repeat (first | refine blk_drewN ?_ _ | refine blk_drew ?_ | refine blk_alloc ?_ _)); refine blk_put (cs := #[.int .i64 0, .string (⟨#[]⟩ : ByteArray), .string (⟨#[]⟩ : ByteArray), .slice none 0 0, .string x225004_1]) ?_ 3 _ rfl; (with_reducible repeat (first | refine blk_drewN ?_ _ | refine blk_drew ?_ | refine blk_alloc ?_ _)); refine blk_put (cs := #[.int .i64 0, .string (⟨#[]⟩ : ByteArray), .string x225002_1, .slice none 0 0, .string x225004_1]) ?_ 2 _ rfl; (with_reducible repeat (first | refine blk_drewN ?_ _ | refine blk_drew ?_ | refine blk_alloc ?_ _)); refine blk_put (cs := #[.int .i64 0, .string x225001_1, .string x225002_1, .slice none 0 0, .string x225004_1]) ?_ 1 _ rfl; (with_reducible repeat (first | refine blk_drewN ?_ _ | refine blk_drew ?_ | refine blk_alloc ?_ _)); refine blk_put (cs := #[.int .i64 x225000_1, .string x225001_1, .string x225002_1, .slice none 0 0, .string x225004_1]) ?_ 0 _ rfl; (with_reducible repeat (first | refine blk_drewN ?_ _ | refine blk_drew ?_ | refine blk_alloc ?_ _)); exact BK224.out) Try.underlying32 rfl (by kernel_rfl) (.tmp .nil)))) rfl ?_
             exact ⟨_, _, by first | rfl | exact congrArg (fun b => Ending.returned (Value.bool b)) (isE_ne _).symm | exact congrArg (fun b => Ending.returned (Value.bool b)) (isE_eq _).symm | (simp only [isE_ne, isE_eq, Bool.not_not]; done) | (simp [errW_none, errW_some] <;> rfl) | (simp [*, errW_none, errW_some] <;> rfl), by first | exact Kd.R_nil _ _ _ _ _ | exact Kd.N_nil _ _ _ _ _ | exact Kd.V_nil _ _ _ _ _ | exact Kd.Q_nil _ _ _ _ _ | exact Kd.S_nil _ _ _ _ _, by first | exact Kd.R_nil _ _ _ _ _ | exact Kd.N_nil _ _ _ _ _ | exact Kd.V_nil _ _ _ _ _ | exact Kd.Q_nil _ _ _ _ _ | exact Kd.S_nil _ _ _ _ _, by repeat (first | (with_reducible first | exact HB.out | apply below_alloc | apply pw_below_drewN | apply below_drew1 | refine below_set ?_ GE223.out | refine below_set ?_ GE224.out) | exact HB.out)⟩
            ·
             replace c27 := Bool.eq_false_iff.mpr c27
             subst c27
             have H1 : (if x7_1.length < 4398046511104 then (orielref07_Enter.l0 kj20 (x7_1 ++ [(⟨t232, ((rd_T51 l1_1 x8_1).f1)⟩ : S44)]) (wrap64 (x8_1 + 1)) a1_0 l1_1) else (none)) = some (r1, r2, r3, r4, r5, r6, r7) := by rw [if_neg (show ¬ (false = true) by decide)] at H; exact H
             clear H
             have H := H1
             clear H1
             by_cases c30 : x7_1.length < 4398046511104
             ·
              rw [if_pos c30] at H
              have LMc30 := Aside0.mk c30
              clear c30
              obtain ⟨y235, hy235⟩ : ∃ y_ : List (S44), y_ = (x7_1 ++ [(⟨t232, ((rd_T51 l1_1 x8_1).f1)⟩ : S44)]) := ⟨_, rfl⟩
              replace H : (orielref07_Enter.l0 kj20 y235 (wrap64 (x8_1 + 1)) a1_0 l1_1) = some (r1, r2, r3, r4, r5, r6, r7) := by first | (rw [hy235]; with_reducible exact H) | (have H2_ := (Option.bind_some _ _).symm.trans H; rw [hy235]; with_reducible exact H2_) | (have H2_ := (Option.bind_some _ _).symm.trans H; with_reducible exact H2_) | with_reducible exact H | (rw [hy235]; exact H) | exact H
              have Ny235 := Aside0.mk hy235
              clear hy235
              have H' := Aside0.mk H
              clear H
              go_wp2_with (first | ((with_reducible refine gate_builtin (b := .append) (xs := #[.tmp 79, .tmp 83]) rfl ?_); at_builtin; refine Kd.R_append k44 (w0 := w) w.heap.size rfl (.tmp 79) (.tmp 83) 22 44 (.agg #[(.string ⟨#[]⟩), (.string ⟨#[]⟩)]) 32 rfl Try.underlying22 info44 rfl (by decide) (by omega) u7 x7_1 (⟨t232, ((rd_T51 l1_1 x8_1).f1)⟩ : S44) [.string t232, .string ((rd_T51 l1_1 x8_1).f1)] (fun _ => True) (fun _ => False) rfl rfl ?aP (fun _ hk => hk.elim) ?aF ?aO ?aB ?aS ?aL ?_; (case aP => exact k44_mkM _ _ _ (⟨t232, ((rd_T51 l1_1 x8_1).f1)⟩ : S44)); (case aB => exact (by repeat (first | (with_reducible first | exact HB.out | apply below_alloc | apply pw_below_drewN | apply below_drew1 | refine below_set ?_ GE223.out | refine below_set ?_ GE224.out) | exact HB.out))); (case aF => exact (fun _ _ => trivial)); (case aO => exact (by (with_reducible repeat (first | apply Kd.R_alloc | apply Kd.R_drewN | apply Kd.R_drew)); exact HO_7.out)); (case aS => exact (below_size (by repeat (first | (with_reducible first | exact HB.out | apply below_alloc | apply pw_below_drewN | apply below_drew1 | refine below_set ?_ GE223.out | refine below_set ?_ GE224.out) | exact HB.out)))); (case aL => have := LMc30.out; omega); intro v236 w31 ho hb hg hat; rw [← Ny235.out] at ho; have n0_ := Aside0.mk (blk_grown (g := gb223) (o := .cells #[.string a1_0, .slice (some ad231) l1_1.length c1_1] 25 (0, 0)) (by (with_reducible repeat (first | refine blk_drewN ?_ _ | refine blk_drew ?_ | refine blk_alloc ?_ _)); exact BK223.out) hg (Kd.R_ne HO_7.out BK223.out (by decide))); have n1_ := Aside0.mk (blk_grown (g := gb224) (o := .cells #[.int .i64 x225000_1, .string x225001_1, .string x225002_1, .slice none 0 0, .string x225004_1] 32 (0, 0)) (by (with_reducible repeat (first | refine blk_drewN ?_ _ | refine blk_drew ?_ | refine blk_alloc ?_ _)); exact BK224.out) hg (Kd.R_ne HO_7.out BK224.out (by decide))); have n2_ := Aside0.mk (hb); have n3_ := Aside0.mk (ho); clear BK223; clear BK224; clear HB; clear HO_7; have BK223 := n0_; have BK224 := n1_; have HB := n2_; have HO237 := n3_; clear n0_ n1_ n2_ n3_; clear ho hb hg hat))
              go_roundg kj20
              case measure => have := HK1.out; have := HJ12.out; have := HJ20.out; omega
              case rel => exact ⟨(y235), (wrap64 (x8_1 + 1)), (x225000_1), (x225001_1), (x225002_1), (x225004_1), (by first | rfl | (simp; done) | (simp [*]; done)), H', ⟨by have := HK1.out; have := HJ12.out; have := HJ20.out; omega⟩, ⟨by (with_reducible repeat (first | apply Kd.R_alloc | apply Kd.R_drewN | apply Kd.R_drew)); exact HO237.out⟩, ⟨by (with_reducible repeat (first | refine blk_drewN ?_ _ | refine blk_drew ?_ | refine blk_alloc ?_ _)); exact BK223.out⟩, ⟨by (with_reducible repeat (first | refine blk_drewN ?_ _ | refine blk_drew ?_ | refine blk_alloc ?_ _)); exact BK224.out⟩, ⟨by repeat (first | (with_reducible first | exact HB.out | apply below_alloc | apply pw_below_drewN | apply below_drew1 | refine below_set ?_ GE223.out | refine below_set ?_ GE224.out) | exact HB.out)⟩⟩
             ·
              rw [if_neg c30] at H
              exact absurd H (by simp)
      ·
       replace c12 := Bool.eq_false_iff.mpr c12
       subst c12
       have H1 : (orielref07_Enter.l0 k1 x7_1 (wrap64 (x8_1 + 1)) a1_0 l1_1) = some (r1, r2, r3, r4, r5, r6, r7) := by rw [if_neg (show ¬ (false = true) by decide)] at H; exact H
       clear H
       have H := H1
       clear H1
       have H' := Aside0.mk H
       clear H
       have hnb32 := NB223_224.out
       have hnc32 := NB224_223.out
       have hcz33_0 : wr.cell? ⟨gb223, 0, none⟩ = some (.string a1_0) := (blk_cell BK223.out 0).trans rfl
       have hcz33_1 : wr.cell? ⟨gb223, 1, none⟩ = some (.slice A1_1 l1_1.length c1_1) := (blk_cell BK223.out 1).trans rfl
       have hfz33_0 := blk_frozen BK223.out 0
       have hfz33_1 := blk_frozen BK223.out 1
       have p231 : 0 ≤ (x8_1 : Int) := of_decide_eq_true (by first | (with_reducible assumption) | assumption)
       have q231 : x8_1 < (l1_1.length : Int) := of_decide_eq_true (by first | (with_reducible assumption) | assumption)
       obtain ⟨ad231, e231, hx231_0, hx231_1⟩ := at_T51 HR1_1.out x8_1 p231 q231
       cases e231
       replace hx231_0 := (HB.out.cell (World.block_lt_of_cell? w _ hx231_0)).trans hx231_0
       replace hx231_1 := (HB.out.cell (World.block_lt_of_cell? w _ hx231_1)).trans hx231_1
       replace p231 := eq_true p231
       replace q231 := eq_true q231
       go_wp2_with (first | ((with_reducible refine gate_callee (f := 28) rfl ?_); refine goesL_ (some 38) rfl rfl Try.func28 (by kernel_rfl) rfl #[.agg #[.string ((rd_T51 l1_1 x8_1).f0), .string ((rd_T51 l1_1 x8_1).f1)]] rfl (by (try simp only [List.map_toArray, List.map_cons, List.map_nil]); first | done | rfl | (simp only [List.length_drop, List.length_take]; rfl)) ?_; (with_reducible refine (orielref07_binds.calls ((rd_T51 l1_1 x8_1).f0) ((rd_T51 l1_1 x8_1).f1) t232 false _ A11.out).mono ?_); rintro e w34 ⟨rfl, hb⟩; refine ⟨_, rfl, ?_⟩; have n0_ := Aside0.mk (Kd.R_below (by (with_reducible repeat (first | apply Kd.R_alloc | apply Kd.R_drewN | apply Kd.R_drew)); exact HO_7.out) hb); have n1_ := Aside0.mk (blk_below (g := gb223) (o := .cells #[.string a1_0, .slice (some ad231) l1_1.length c1_1] 25 (0, 0)) (by (with_reducible repeat (first | refine blk_drewN ?_ _ | refine blk_drew ?_ | refine blk_alloc ?_ _)); exact BK223.out) hb); have n2_ := Aside0.mk (blk_below (g := gb224) (o := .cells #[.int .i64 x225000_1, .string x225001_1, .string x225002_1, .slice none 0 0, .string x225004_1] 32 (0, 0)) (by (with_reducible repeat (first | refine blk_drewN ?_ _ | refine blk_drew ?_ | refine blk_alloc ?_ _)); exact BK224.out) hb); have n3_ := Aside0.mk (below_step (by repeat (first | (with_reducible first | exact HB.out | apply below_alloc | apply pw_below_drewN | apply below_drew1 | refine below_set ?_ GE223.out | refine below_set ?_ GE224.out) | exact HB.out)) hb); clear HO_7; clear BK223; clear BK224; clear HB; have HO_7 := n0_; have BK223 := n1_; have BK224 := n2_; have HB := n3_; clear n0_ n1_ n2_ n3_; (try clear hb); (try clear hb2); (try clear hk); (try clear hi)))
       go_roundg k1
       case measure => have := HK1.out; omega
       case rel => exact ⟨(x7_1), (wrap64 (x8_1 + 1)), (x225000_1), (x225001_1), (x225002_1), (x225004_1), (by first | rfl | (simp; done) | (simp [*]; done)), H', ⟨by have := HK1.out; omega⟩, ⟨by (with_reducible repeat (first | apply Kd.R_alloc | apply Kd.R_drewN | apply Kd.R_drew)); exact HO_7.out⟩, ⟨by (with_reducible repeat (first | refine blk_drewN ?_ _ | refine blk_drew ?_ | refine blk_alloc ?_ _)); exact BK223.out⟩, ⟨by (with_reducible repeat (first | refine blk_drewN ?_ _ | refine blk_drew ?_ | refine blk_alloc ?_ _)); exact BK224.out⟩, ⟨by repeat (first | (with_reducible first | exact HB.out | apply below_alloc | apply pw_below_drewN | apply below_drew1 | refine below_set ?_ GE223.out | refine below_set ?_ GE224.out) | exact HB.out)⟩⟩
     ·
      rw [if_neg c10] at H
      exact absurd H (by simp)
    ·
     rw [if_neg c9] at H
     have c9b0 : decide (x8_1 < (l1_1.length : Int)) = false := decide_eq_false c9
     clear c9
     replace H := Option.bind_eq_some_iff.mp H
     obtain ⟨⟨t238, t239, t240⟩, A350, H⟩ := H
     replace H : (if t240 = true then (orielref07_Enter.l1 k1 x7_1 0 a1_0 l1_1 1 t238 t239 ([] : List (S47)) (⟨#[]⟩ : ByteArray)) else (some (([] : List (S44)), 0, (⟨#[]⟩ : ByteArray), (⟨#[]⟩ : ByteArray), ([] : List (S47)), (⟨#[]⟩ : ByteArray), 9))) = some (r1, r2, r3, r4, r5, r6, r7) := H
     have A35 := Aside0.mk A350
     clear A350
     by_cases c36 : t240 = true
     ·
      subst c36
      have H1 : (orielref07_Enter.l1 k1 x7_1 0 a1_0 l1_1 1 t238 t239 ([] : List (S47)) (⟨#[]⟩ : ByteArray)) = some (r1, r2, r3, r4, r5, r6, r7) := by rw [if_pos rfl] at H; exact H
      clear H
      have H := H1
      clear H1
      have H' := Aside0.mk H
      clear H
      have hnb37 := NB223_224.out
      have hnc37 := NB224_223.out
      have hcz38_0 : wr.cell? ⟨gb223, 0, none⟩ = some (.string a1_0) := (blk_cell BK223.out 0).trans rfl
      have hcz38_1 : wr.cell? ⟨gb223, 1, none⟩ = some (.slice A1_1 l1_1.length c1_1) := (blk_cell BK223.out 1).trans rfl
      have hfz38_0 := blk_frozen BK223.out 0
      have hfz38_1 := blk_frozen BK223.out 1
      obtain ⟨Ao39, co39, eo39⟩ := Kd.R_slice HO_7.out
      subst eo39
      go_wp2_with (first | ((with_reducible refine gate_callee (f := 19) rfl ?_); refine goesL_ (some 89) rfl rfl Try.func19 (by kernel_rfl) rfl #[.slice Ao39 x7_1.length co39, .string a1_0, .bool true] rfl (by (try simp only [List.map_toArray, List.map_cons, List.map_nil]); first | done | rfl | (simp only [List.length_drop, List.length_take]; rfl)) ?_; (with_reducible refine (orielref07_Resolve.calls k1 _ _ x7_1 a1_0 true t238 t239 true _ ?side1 ?side2 A35.out).mono ?_); (case side1 => repeat (first | exact (Kd.R_reads' HO_7.out).2.2 | (with_reducible refine Kd.C_alloc ?_ _) | (with_reducible refine Kd.C_drewN ?_ _) | (with_reducible refine Kd.C_drew ?_))); (case side2 => exact (Kd.R_reads' HO_7.out).2.1); rintro e w40 ⟨rfl, hb⟩; refine ⟨_, rfl, ?_⟩; have n0_ := Aside0.mk (Kd.R_below (by (with_reducible repeat (first | apply Kd.R_alloc | apply Kd.R_drewN | apply Kd.R_drew)); exact HO_7.out) hb); have n1_ := Aside0.mk (blk_below (g := gb223) (o := .cells #[.string a1_0, .slice A1_1 l1_1.length c1_1] 25 (0, 0)) (by (with_reducible repeat (first | refine blk_drewN ?_ _ | refine blk_drew ?_ | refine blk_alloc ?_ _)); exact BK223.out) hb); have n2_ := Aside0.mk (blk_below (g := gb224) (o := .cells #[.int .i64 x225000_1, .string x225001_1, .string x225002_1, .slice none 0 0, .string x225004_1] 32 (0, 0)) (by (with_reducible repeat (first | refine blk_drewN ?_ _ | refine blk_drew ?_ | refine blk_alloc ?_ _)); exact BK224.out) hb); have n3_ := Aside0.mk (below_step (by repeat (first | (with_reducible first | exact HB.out | apply below_alloc | apply pw_below_drewN | apply below_drew1 | refine below_set ?_ GE223.out | refine below_set ?_ GE224.out) | exact HB.out)) hb); clear HO_7; clear BK223; clear BK224; clear HB; have HO_7 := n0_; have BK223 := n1_; have BK224 := n2_; have HB := n3_; clear n0_ n1_ n2_ n3_; (try clear hb); (try clear hb2); (try clear hk); (try clear hi)) | ((with_reducible refine gate_dst (N := 13) rfl ?_); refine box_event ?hg (N := 13) ?hd (cs := #[.string (⟨#[]⟩ : ByteArray), .string (⟨#[]⟩ : ByteArray)]) (t := 29) ?hr ?_; (case hd => rfl); (case hg => rfl); (case hr => first | (go_simp; done) | (go_simp; rfl)); intro gb241 hg w41 hbox hb; have n0_ := Aside0.mk (Kd.R_below (by (with_reducible repeat (first | apply Kd.R_alloc | apply Kd.R_drewN | apply Kd.R_drew)); exact HO_7.out) hb); have n1_ := Aside0.mk (blk_below (g := gb223) (o := .cells #[.string a1_0, .slice A1_1 l1_1.length c1_1] 25 (0, 0)) (by (with_reducible repeat (first | refine blk_drewN ?_ _ | refine blk_drew ?_ | refine blk_alloc ?_ _)); exact BK223.out) hb); have n2_ := Aside0.mk (blk_below (g := gb224) (o := .cells #[.int .i64 x225000_1, .string x225001_1, .string x225002_1, .slice none 0 0, .string x225004_1] 32 (0, 0)) (by (with_reducible repeat (first | refine blk_drewN ?_ _ | refine blk_drew ?_ | refine blk_alloc ?_ _)); exact BK224.out) hb); have n3_ := Aside0.mk (below_step (by repeat (first | (with_reducible first | exact HB.out | apply below_alloc | apply pw_below_drewN | apply below_drew1 | refine below_set ?_ GE223.out | refine below_set ?_ GE224.out) | exact HB.out)) hb); have n4_ := Aside0.mk (hbox); have n5_ := Aside0.mk ((by rw [hg]; exact (below_size (by repeat (first | (with_reducible first | exact HB.out | apply below_alloc | apply pw_below_drewN | apply below_drew1 | refine below_set ?_ GE223.out | refine below_set ?_ GE224.out) | exact HB.out))) : w.heap.size ≤ gb241)); have n6_ := Aside0.mk ((by rw [hg]; exact (below_size (by repeat (first | (with_reducible first | exact HB.out | apply below_alloc | apply pw_below_drewN | apply below_drew1 | refine below_set ?_ GE223.out | refine below_set ?_ GE224.out) | exact HB.out))) : w.heap.size ≤ gb241)); have n7_ := Aside0.mk ((by rw [hg]; exact Nat.ne_of_lt (blk_lt (g := gb223) (o := .cells #[.string a1_0, .slice A1_1 l1_1.length c1_1] 25 (0, 0)) (by (with_reducible repeat (first | refine blk_drewN ?_ _ | refine blk_drew ?_ | refine blk_alloc ?_ _)); exact BK223.out)) : gb223 ≠ gb241)); have n8_ := Aside0.mk ((by rw [hg]; exact Nat.ne_of_gt (blk_lt (g := gb223) (o := .cells #[.string a1_0, .slice A1_1 l1_1.length c1_1] 25 (0, 0)) (by (with_reducible repeat (first | refine blk_drewN ?_ _ | refine blk_drew ?_ | refine blk_alloc ?_ _)); exact BK223.out)) : gb241 ≠ gb223)); have n9_ := Aside0.mk ((by rw [hg]; exact Nat.ne_of_lt (blk_lt (g := gb224) (o := .cells #[.int .i64 x225000_1, .string x225001_1, .string x225002_1, .slice none 0 0, .string x225004_1] 32 (0, 0)) (by (with_reducible repeat (first | refine blk_drewN ?_ _ | refine blk_drew ?_ | refine blk_alloc ?_ _)); exact BK224.out)) : gb224 ≠ gb241)); have n10_ := Aside0.mk ((by rw [hg]; exact Nat.ne_of_gt (blk_lt (g := gb224) (o := .cells #[.int .i64 x225000_1, .string x225001_1, .string x225002_1, .slice none 0 0, .string x225004_1] 32 (0, 0)) (by (with_reducible repeat (first | refine blk_drewN ?_ _ | refine blk_drew ?_ | refine blk_alloc ?_ _)); exact BK224.out)) : gb241 ≠ gb224)); clear HO_7; clear BK223; clear BK224; clear HB; have HO_7 := n0_; have BK223 := n1_; have BK224 := n2_; have HB := n3_; have BK241 := n4_; have GW241 := n5_; have GE241 := n6_; have NB223_241 := n7_; have NB241_223 := n8_; have NB224_241 := n9_; have NB241_224 := n10_; clear n0_ n1_ n2_ n3_ n4_ n5_ n6_ n7_ n8_ n9_ n10_; clear hb hbox hg; have hnb42 := NB241_223.out; have hnc42 := NB223_241.out; have hnb43 := NB241_224.out; have hnc43 := NB224_241.out; have hcz44_0 : w41.cell? ⟨gb241, 0, none⟩ = some (.string (⟨#[]⟩ : ByteArray)) := (blk_cell BK241.out 0).trans rfl; have hcz44_1 : w41.cell? ⟨gb241, 1, none⟩ = some (.string (⟨#[]⟩ : ByteArray)) := (blk_cell BK241.out 1).trans rfl; have hfz44_0 := blk_frozen BK241.out 0; have hfz44_1 := blk_frozen BK241.out 1) | ((with_reducible refine gate_dst (N := 15) rfl ?_); refine box_event ?hg (N := 15) ?hd (cs := #[.int .i64 0, .string (⟨#[]⟩ : ByteArray), .string (⟨#[]⟩ : ByteArray), .slice none 0 0, .string (⟨#[]⟩ : ByteArray)]) (t := 32) ?hr ?_; (case hd => rfl); (case hg => rfl); (case hr => first | (go_simp; done) | (go_simp; rfl)); intro gb242 hg w45 hbox hb; have n0_ := Aside0.mk (Kd.R_below (by (with_reducible repeat (first | apply Kd.R_alloc | apply Kd.R_drewN | apply Kd.R_drew)); exact (Kd.R_mono (Kd.R_far (p := ⟨gb241, 1, none⟩) (Kd.R_far (p := ⟨gb241, 0, none⟩) (Kd.R_types HO_7.out BK241.out (by decide)) (fun _ hk => hk.2) (.string t238)) (fun _ hk => hk.2) (.string t239)) (fun _ h_ => h_.1))) hb); have n1_ := Aside0.mk (blk_below (g := gb223) (o := .cells #[.string a1_0, .slice A1_1 l1_1.length c1_1] 25 (0, 0)) (by (with_reducible repeat (first | refine blk_drewN ?_ _ | refine blk_drew ?_ | refine blk_alloc ?_ _)); refine blk_far ?_ NB223_241.out _; (with_reducible repeat (first | refine blk_drewN ?_ _ | refine blk_drew ?_ | refine blk_alloc ?_ _)); refine blk_far ?_ NB223_241.out _; (with_reducible repeat (first | refine blk_drewN ?_ _ | refine blk_drew ?_ | refine blk_alloc ?_ _)); exact BK223.out) hb); have n2_ := Aside0.mk (blk_below (g := gb224) (o := .cells #[.int .i64 x225000_1, .string x225001_1, .string x225002_1, .slice none 0 0, .string x225004_1] 32 (0, 0)) (by (with_reducible repeat (first | refine blk_drewN ?_ _ | refine blk_drew ?_ | refine blk_alloc ?_ _)); refine blk_far ?_ NB224_241.out _; (with_reducible repeat (first | refine blk_drewN ?_ _ | refine blk_drew ?_ | refine blk_alloc ?_ _)); refine blk_far ?_ NB224_241.out _; (with_reducible repeat (first | refine blk_drewN ?_ _ | refine blk_drew ?_ | refine blk_alloc ?_ _)); exact BK224.out) hb); have n3_ := Aside0.mk (blk_below (g := gb241) (o := .cells #[.string t238, .string t239] 29 (0, 0)) (by (with_reducible repeat (first | refine blk_drewN ?_ _ | refine blk_drew ?_ | refine blk_alloc ?_ _)); refine blk_put (cs := #[.string t238, .string (⟨#[]⟩ : ByteArray)]) ?_ 1 _ rfl; (with_reducible repeat (first | refine blk_drewN ?_ _ | refine blk_drew ?_ | refine blk_alloc ?_ _)); refine blk_put (cs := #[.string (⟨#[]⟩ : ByteArray), .string (⟨#[]⟩ : ByteArray)]) ?_ 0 _ rfl; (with_reducible repeat (first | refine blk_drewN ?_ _ | refine blk_drew ?_ | refine blk_alloc ?_ _)); exact BK241.out) hb); have n4_ := Aside0.mk (below_step (by repeat (first | (with_reducible first | exact HB.out | apply below_alloc | apply pw_below_drewN | apply below_drew1 | refine below_set ?_ GE223.out | refine below_set ?_ GE224.out | refine below_set ?_ GE241.out) | exact HB.out)) hb); have n5_ := Aside0.mk (hbox); have n6_ := Aside0.mk ((by rw [hg]; exact (below_size (by repeat (first | (with_reducible first | exact HB.out | apply below_alloc | apply pw_below_drewN | apply below_drew1 | refine below_set ?_ GE223.out | refine below_set ?_ GE224.out | refine below_set ?_ GE241.out) | exact HB.out))) : w.heap.size ≤ gb242)); have n7_ := Aside0.mk ((by rw [hg]; exact (below_size (by repeat (first | (with_reducible first | exact HB.out | apply below_alloc | apply pw_below_drewN | apply below_drew1 | refine below_set ?_ GE223.out | refine below_set ?_ GE224.out | refine below_set ?_ GE241.out) | exact HB.out))) : w.heap.size ≤ gb242)); have n8_ := Aside0.mk ((by rw [hg]; exact Nat.ne_of_lt (blk_lt (g := gb223) (o := .cells #[.string a1_0, .slice A1_1 l1_1.length c1_1] 25 (0, 0)) (by (with_reducible repeat (first | refine blk_drewN ?_ _ | refine blk_drew ?_ | refine blk_alloc ?_ _)); refine blk_far ?_ NB223_241.out _; (with_reducible repeat (first | refine blk_drewN ?_ _ | refine blk_drew ?_ | refine blk_alloc ?_ _)); refine blk_far ?_ NB223_241.out _; (with_reducible repeat (first | refine blk_drewN ?_ _ | refine blk_drew ?_ | refine blk_alloc ?_ _)); exact BK223.out)) : gb223 ≠ gb242)); have n9_ := Aside0.mk ((by rw [hg]; exact Nat.ne_of_gt (blk_lt (g := gb223) (o := .cells #[.string a1_0, .slice A1_1 l1_1.length c1_1] 25 (0, 0)) (by (with_reducible repeat (first | refine blk_drewN ?_ _ | refine blk_drew ?_ | refine blk_alloc ?_ _)); refine blk_far ?_ NB223_241.out _; (with_reducible repeat (first | refine blk_drewN ?_ _ | refine blk_drew ?_ | refine blk_alloc ?_ _)); refine blk_far ?_ NB223_241.out _; (with_reducible repeat (first | refine blk_drewN ?_ _ | refine blk_drew ?_ | refine blk_alloc ?_ _)); exact BK223.out)) : gb242 ≠ gb223)); have n10_ := Aside0.mk ((by rw [hg]; exact Nat.ne_of_lt (blk_lt (g := gb224) (o := .cells #[.int .i64 x225000_1, .string x225001_1, .string x225002_1, .slice none 0 0, .string x225004_1] 32 (0, 0)) (by (with_reducible repeat (first | refine blk_drewN ?_ _ | refine blk_drew ?_ | refine blk_alloc ?_ _)); refine blk_far ?_ NB224_241.out _; (with_reducible repeat (first | refine blk_drewN ?_ _ | refine blk_drew ?_ | refine blk_alloc ?_ _)); refine blk_far ?_ NB224_241.out _; (with_reducible repeat (first | refine blk_drewN ?_ _ | refine blk_drew ?_ | refine blk_alloc ?_ _)); exact BK224.out)) : gb224 ≠ gb242)); have n11_ := Aside0.mk ((by rw [hg]; exact Nat.ne_of_gt (blk_lt (g := gb224) (o := .cells #[.int .i64 x225000_1, .string x225001_1, .string x225002_1, .slice none 0 0, .string x225004_1] 32 (0, 0)) (by (with_reducible repeat (first | refine blk_drewN ?_ _ | refine blk_drew ?_ | refine blk_alloc ?_ _)); refine blk_far ?_ NB224_241.out _; (with_reducible repeat (first | refine blk_drewN ?_ _ | refine blk_drew ?_ | refine blk_alloc ?_ _)); refine blk_far ?_ NB224_241.out _; (with_reducible repeat (first | refine blk_drewN ?_ _ | refine blk_drew ?_ | refine blk_alloc ?_ _)); exact BK224.out)) : gb242 ≠ gb224)); have n12_ := Aside0.mk ((by rw [hg]; exact Nat.ne_of_lt (blk_lt (g := gb241) (o := .cells #[.string t238, .string t239] 29 (0, 0)) (by (with_reducible repeat (first | refine blk_drewN ?_ _ | refine blk_drew ?_ | refine blk_alloc ?_ _)); refine blk_put (cs := #[.string t238, .string (⟨#[]⟩ : ByteArray)]) ?_ 1 _ rfl; (with_reducible repeat (first | refine blk_drewN ?_ _ | refine blk_drew ?_ | refine blk_alloc ?_ _)); refine blk_put (cs := #[.string (⟨#[]⟩ : ByteArray), .string (⟨#[]⟩ : ByteArray)]) ?_ 0 _ rfl; (with_reducible repeat (first | refine blk_drewN ?_ _ | refine blk_drew ?_ | refine blk_alloc ?_ _)); exact BK241.out)) : gb241 ≠ gb242)); have n13_ := Aside0.mk ((by rw [hg]; exact Nat.ne_of_gt (blk_lt (g := gb241) (o := .cells #[.string t238, .string t239] 29 (0, 0)) (by (with_reducible repeat (first | refine blk_drewN ?_ _ | refine blk_drew ?_ | refine blk_alloc ?_ _)); refine blk_put (cs := #[.string t238, .string (⟨#[]⟩ : ByteArray)]) ?_ 1 _ rfl; (with_reducible repeat (first | refine blk_drewN ?_ _ | refine blk_drew ?_ | refine blk_alloc ?_ _)); refine blk_put (cs := #[.string (⟨#[]⟩ : ByteArray), .string (⟨#[]⟩ : ByteArray)]) ?_ 0 _ rfl; (with_reducible repeat (first | refine blk_drewN ?_ _ | refine blk_drew ?_ | refine blk_alloc ?_ _)); exact BK241.out)) : gb242 ≠ gb241)); clear HO_7; clear BK223; clear BK224; clear BK241; clear HB; have HO_7 := n0_; have BK223 := n1_; have BK224 := n2_; have BK241 := n3_; have HB := n4_; have BK242 := n5_; have GW242 := n6_; have GE242 := n7_; have NB223_242 := n8_; have NB242_223 := n9_; have NB224_242 := n10_; have NB242_224 := n11_; have NB241_242 := n12_; have NB242_241 := n13_; clear n0_ n1_ n2_ n3_ n4_ n5_ n6_ n7_ n8_ n9_ n10_ n11_ n12_ n13_; clear hb hbox hg; have hnb46 := NB242_223.out; have hnc46 := NB223_242.out; have hnb47 := NB242_224.out; have hnc47 := NB224_242.out; have hnb48 := NB242_241.out; have hnc48 := NB241_242.out; have hcz49_0 : w45.cell? ⟨gb242, 0, none⟩ = some (.int .i64 0) := (blk_cell BK242.out 0).trans rfl; have hcz49_1 : w45.cell? ⟨gb242, 1, none⟩ = some (.string (⟨#[]⟩ : ByteArray)) := (blk_cell BK242.out 1).trans rfl; have hcz49_2 : w45.cell? ⟨gb242, 2, none⟩ = some (.string (⟨#[]⟩ : ByteArray)) := (blk_cell BK242.out 2).trans rfl; have hcz49_3 : w45.cell? ⟨gb242, 3, none⟩ = some (.slice none 0 0) := (blk_cell BK242.out 3).trans rfl; have hcz49_4 : w45.cell? ⟨gb242, 4, none⟩ = some (.string (⟨#[]⟩ : ByteArray)) := (blk_cell BK242.out 4).trans rfl; have hfz49_0 := blk_frozen BK242.out 0; have hfz49_1 := blk_frozen BK242.out 1; have hfz49_2 := blk_frozen BK242.out 2; have hfz49_3 := blk_frozen BK242.out 3; have hfz49_4 := blk_frozen BK242.out 4))
      go_loopg [16] k1 (fun kq v16 w' => ∃ (x16_2 : Int) (x225000_2 : Int) (x225001_2 : ByteArray) (x225002_2 : ByteArray) (x225004_2 : ByteArray) (x243003_2 : List (S47)) (u243003 : Value), v16 = .int .i64 x16_2 ∧ Aside0 (orielref07_Enter.l1 kq x7_1 x16_2 a1_0 l1_1 1 t238 t239 x243003_2 (⟨#[]⟩ : ByteArray) = some (r1, r2, r3, r4, r5, r6, r7)) ∧ Aside0 (kq ≤ k1) ∧ Aside0 (Kd.R k44 44 w' w.heap.size (fun _ => True) (.slice Ao39 x7_1.length co39) x7_1) ∧ Aside0 (Kd.R k47 47 w' w.heap.size (fun _ => True) u243003 x243003_2) ∧ Aside0 (w'.heap[gb223]? = some (.cells #[.string a1_0, (.slice A1_1 l1_1.length c1_1)] 25 (0, 0))) ∧ Aside0 (w'.heap[gb224]? = some (.cells #[.int .i64 x225000_2, .string x225001_2, .string x225002_2, (.slice none 0 0), .string x225004_2] 32 (0, 0))) ∧ Aside0 (w'.heap[gb241]? = some (.cells #[.string t238, .string t239] 29 (0, 0))) ∧ Aside0 (w'.heap[gb242]? = some (.cells #[.int .i64 1, .string t238, .string t239, u243003, .string (⟨#[]⟩ : ByteArray)] 32 (0, 0))) ∧ Aside0 (Below w.heap.size w w'))
      case atStart => exact ⟨(0), (x225000_1), (x225001_1), (x225002_1), (x225004_1), (([] : List (S47))), (.slice none 0 0), (by first | rfl | (simp; done) | (simp [*]; done)), H', ⟨Nat.le_refl _⟩, ⟨by (with_reducible repeat (first | apply Kd.R_alloc | apply Kd.R_drewN | apply Kd.R_drew)); exact Kd.R_mono (Kd.R_far (p := ⟨gb242, 4, none⟩) (Kd.R_far (p := ⟨gb242, 3, none⟩) (Kd.R_far (p := ⟨gb242, 2, none⟩) (Kd.R_far (p := ⟨gb242, 1, none⟩) (Kd.R_far (p := ⟨gb242, 0, none⟩) (Kd.R_types HO_7.out BK242.out (by decide)) (fun _ hk => hk.2) (.int .i64 1)) (fun _ hk => hk.2) (.string t238)) (fun _ hk => hk.2) (.string t239)) (fun _ hk => hk.2) (.slice none 0 0)) (fun _ hk => hk.2) (.string (⟨#[]⟩ : ByteArray))) (fun _ hk => trivial)⟩, ⟨by first | exact Kd.R_nil _ _ _ _ _ | exact Kd.N_nil _ _ _ _ _ | exact Kd.V_nil _ _ _ _ _ | exact Kd.Q_nil _ _ _ _ _ | exact Kd.S_nil _ _ _ _ _⟩, ⟨by (with_reducible repeat (first | refine blk_drewN ?_ _ | refine blk_drew ?_ | refine blk_alloc ?_ _)); refine blk_far ?_ NB223_242.out _; (with_reducible repeat (first | refine blk_drewN ?_ _ | refine blk_drew ?_ | refine blk_alloc ?_ _)); refine blk_far ?_ NB223_242.out _; (with_reducible repeat (first | refine blk_drewN ?_ _ | refine blk_drew ?_ | refine blk_alloc ?_ _)); refine blk_far ?_ NB223_242.out _; (with_reducible repeat (first | refine blk_drewN ?_ _ | refine blk_drew ?_ | refine blk_alloc ?_ _)); refine blk_far ?_ NB223_242.out _; (with_reducible repeat (first | refine blk_drewN ?_ _ | refine blk_drew ?_ | refine blk_alloc ?_ _)); refine blk_far ?_ NB223_242.out _; (with_reducible repeat (first | refine blk_drewN ?_ _ | refine blk_drew ?_ | refine blk_alloc ?_ _)); exact BK223.out⟩, ⟨by (with_reducible repeat (first | refine blk_drewN ?_ _ | refine blk_drew ?_ | refine blk_alloc ?_ _)); refine blk_far ?_ NB224_242.out _; (with_reducible repeat (first | refine blk_drewN ?_ _ | refine blk_drew ?_ | refine blk_alloc ?_ _)); refine blk_far ?_ NB224_242.out _; (with_reducible repeat (first | refine blk_drewN ?_ _ | refine blk_drew ?_ | refine blk_alloc ?_ _)); refine blk_far ?_ NB224_242.out _; (with_reducible repeat (first | refine blk_drewN ?_ _ | refine blk_drew ?_ | refine blk_alloc ?_ _)); refine blk_far ?_ NB224_242.out _; (with_reducible repeat (first | refine blk_drewN ?_ _ | refine blk_drew ?_ | refine blk_alloc ?_ _)); refine blk_far ?_ NB224_242.out _; (with_reducible repeat (first | refine blk_drewN ?_ _ | refine blk_drew ?_ | refine blk_alloc ?_ _)); exact BK224.out⟩, ⟨by (with_reducible repeat (first | refine blk_drewN ?_ _ | refine blk_drew ?_ | refine blk_alloc ?_ _)); refine blk_far ?_ NB241_242.out _; (with_reducible repeat (first | refine blk_drewN ?_ _ | refine blk_drew ?_ | refine blk_alloc ?_ _)); refine blk_far ?_ NB241_242.out _; (with_reducible repeat (first | refine blk_drewN ?_ _ | refine blk_drew ?_ | refine blk_alloc ?_ _)); refine blk_far ?_ NB241_242.out _; (with_reducible repeat (first | refine blk_drewN ?_ _ | refine blk_drew ?_ | refine blk_alloc ?_ _)); refine blk_far ?_ NB241_242.out _; (with_reducible repeat (first | refine blk_drewN ?_ _ | refine blk_drew ?_ | refine blk_alloc ?_ _)); refine blk_far ?_ NB241_242.out _; (with_reducible repeat (first | refine blk_drewN ?_ _ | refine blk_drew ?_ | refine blk_alloc ?_ _)); exact BK241.out⟩, ⟨by (with_reducible repeat (first | refine blk_drewN ?_ _ | refine blk_drew ?_ | refine blk_alloc ?_ _)); refine blk_put (cs := #[.int .i64 1, .string t238, .string t239, .slice none 0 0, .string (⟨#[]⟩ : ByteArray)]) ?_ 4 _ rfl; (with_reducible repeat (first | refine blk_drewN ?_ _ | refine blk_drew ?_ | refine blk_alloc ?_ _)); refine blk_put (cs := #[.int .i64 1, .string t238, .string t239, .slice none 0 0, .string (⟨#[]⟩ : ByteArray)]) ?_ 3 _ rfl; (with_reducible repeat (first | refine blk_drewN ?_ _ | refine blk_drew ?_ | refine blk_alloc ?_ _)); refine blk_put (cs := #[.int .i64 1, .string t238, .string (⟨#[]⟩ : ByteArray), .slice none 0 0, .string (⟨#[]⟩ : ByteArray)]) ?_ 2 _ rfl; (with_reducible repeat (first | refine blk_drewN ?_ _ | refine blk_drew ?_ | refine blk_alloc ?_ _)); refine blk_put (cs := #[.int .i64 1, .string (⟨#[]⟩ : ByteArray), .string (⟨#[]⟩ : ByteArray), .slice none 0 0, .string (⟨#[]⟩ : ByteArray)]) ?_ 1 _ rfl; (with_reducible repeat (first | refine blk_drewN ?_ _ | refine blk_drew ?_ | refine blk_alloc ?_ _)); refine blk_put (cs := #[.int .i64 0, .string (⟨#[]⟩ : ByteArray), .string (⟨#[]⟩ : ByteArray), .slice none 0 0, .string (⟨#[]⟩ : ByteArray)]) ?_ 0 _ rfl; (with_reducible repeat (first | refine blk_drewN ?_ _ | refine blk_drew ?_ | refine blk_alloc ?_ _)); exact BK242.out⟩, ⟨by repeat (first | (with_reducible first | exact HB.out | apply below_alloc | apply pw_below_drewN | apply below_drew1 | refine below_set ?_ GE223.out | refine below_set ?_ GE224.out | refine below_set ?_ GE241.out | refine below_set ?_ GE242.out) | exact HB.out)⟩⟩
      case round => as_aux_lemma =>
       clear H'
       try clear c1
       try clear c2
       try clear p2
       try clear q2
       try clear hx2
       try clear c3
       try clear c4
       try clear p6
       try clear c9
       try clear c9b0
       try clear c10
       try clear c10b0
       try clear c11
       try clear c12
       try clear c14
       try clear c18
       try clear c18b0
       try clear c18b1
       try clear c19
       try clear c19b0
       try clear c19b1
       try clear c20
       try clear c20b0
       try clear c20b1
       try clear c22
       try clear c22b0
       try clear c22b1
       try clear c23
       try clear c23b0
       try clear c23b1
       try clear p23
       try clear q23
       try clear hx23
       try clear c24
       try clear c25
       try clear c27
       try clear c28
       try clear c30
       try clear c32
       try clear c36
       try clear c37
       try clear c42
       try clear c43
       try clear c46
       try clear c47
       try clear c48
       try clear hcz15_0
       try clear hcz15_1
       try clear hcz17_0
       try clear hcz17_1
       try clear hcz26_0
       try clear hcz26_1
       try clear hcz26_2
       try clear hcz26_3
       try clear hcz26_4
       try clear hcz29_0
       try clear hcz29_1
       try clear hcz29_2
       try clear hcz29_3
       try clear hcz29_4
       try clear hcz33_0
       try clear hcz33_1
       try clear hcz38_0
       try clear hcz38_1
       try clear hcz44_0
       try clear hcz44_1
       try clear hcz49_0
       try clear hcz49_1
       try clear hcz49_2
       try clear hcz49_3
       try clear hcz49_4
       try clear hfz15_0
       try clear hfz15_1
       try clear hfz17_0
       try clear hfz17_1
       try clear hfz26_0
       try clear hfz26_1
       try clear hfz26_2
       try clear hfz26_3
       try clear hfz26_4
       try clear hfz29_0
       try clear hfz29_1
       try clear hfz29_2
       try clear hfz29_3
       try clear hfz29_4
       try clear hfz33_0
       try clear hfz33_1
       try clear hfz38_0
       try clear hfz38_1
       try clear hfz44_0
       try clear hfz44_1
       try clear hfz49_0
       try clear hfz49_1
       try clear hfz49_2
       try clear hfz49_3
       try clear hfz49_4
       try clear hx231_0
       try clear hx231_1
       try clear hx234_0
       try clear hx234_1
       try clear p2
       try clear p23
       try clear p231
       try clear p234
       try clear p6
       try clear q2
       try clear q23
       try clear q231
       try clear q234
       obtain ⟨x16_2, x225000_2, x225001_2, x225002_2, x225004_2, x243003_2, u243003, rfl, HA, HK2, HO_7, HO_243003, BK223, BK224, BK241, BK242, HB⟩ := hrel
       cases gk with
       | zero => exact absurd HA.out (by simp [orielref07_Enter.l1])
       | succ k2 =>
        have H := HA.out
        clear HA
        simp only [orielref07_Enter.l1] at H
        by_cases c50 : x16_2 < (l1_1.length : Int)
        ·
         rw [if_pos c50] at H
         have c50b0 : decide (x16_2 < (l1_1.length : Int)) = true := decide_eq_true c50
         clear c50
         by_cases c51 : 0 ≤ x16_2
         ·
          rw [if_pos c51] at H
          have c51b0 : decide (0 ≤ x16_2) = true := decide_eq_true c51
          clear c51
          replace H := Option.bind_eq_some_iff.mp H
          obtain ⟨⟨t244, t245⟩, A520, H⟩ := H
          replace H : (if t245 = true then (orielref07_Enter.l1 k2 x7_1 (wrap64 (x16_2 + 1)) a1_0 l1_1 1 t238 t239 x243003_2 (⟨#[]⟩ : ByteArray)) else ((orielref07_Resolve.f k2 x7_1 ((rd_T51 l1_1 x16_2).f0) false).bind fun bt247 => (if bt247.2.2 = true then (orielref07_Enter.l2 k2 x7_1 x16_2 0 a1_0 l1_1 1 t238 t239 x243003_2 (⟨#[]⟩ : ByteArray) bt247.1 bt247.2.1) else (some (([] : List (S44)), 0, (⟨#[]⟩ : ByteArray), (⟨#[]⟩ : ByteArray), ([] : List (S47)), (⟨#[]⟩ : ByteArray), 9))))) = some (r1, r2, r3, r4, r5, r6, r7) := H
          have A52 := Aside0.mk A520
          clear A520
          by_cases c53 : t245 = true
          ·
           subst c53
           have H1 : (orielref07_Enter.l1 k2 x7_1 (wrap64 (x16_2 + 1)) a1_0 l1_1 1 t238 t239 x243003_2 (⟨#[]⟩ : ByteArray)) = some (r1, r2, r3, r4, r5, r6, r7) := by rw [if_pos rfl] at H; exact H
           clear H
           have H := H1
           clear H1
           have H' := Aside0.mk H
           clear H
           have hnb54 := NB223_224.out
           have hnc54 := NB224_223.out
           have hnb55 := NB223_241.out
           have hnc55 := NB241_223.out
           have hnb56 := NB223_242.out
           have hnc56 := NB242_223.out
           have hcz57_0 : wr.cell? ⟨gb223, 0, none⟩ = some (.string a1_0) := (blk_cell BK223.out 0).trans rfl
           have hcz57_1 : wr.cell? ⟨gb223, 1, none⟩ = some (.slice A1_1 l1_1.length c1_1) := (blk_cell BK223.out 1).trans rfl
           have hfz57_0 := blk_frozen BK223.out 0
           have hfz57_1 := blk_frozen BK223.out 1
           have p243 : 0 ≤ (x16_2 : Int) := of_decide_eq_true (by first | (with_reducible assumption) | assumption)
           have q243 : x16_2 < (l1_1.length : Int) := of_decide_eq_true (by first | (with_reducible assumption) | assumption)
           obtain ⟨ad243, e243, hx243_0, hx243_1⟩ := at_T51 HR1_1.out x16_2 p243 q243
           cases e243
           replace hx243_0 := (HB.out.cell (World.block_lt_of_cell? w _ hx243_0)).trans hx243_0
           replace hx243_1 := (HB.out.cell (World.block_lt_of_cell? w _ hx243_1)).trans hx243_1
           replace p243 := eq_true p243
           replace q243 := eq_true q243
           go_wp2_with (first | ((with_reducible refine gate_callee (f := 28) rfl ?_); refine goesL_ (some 110) rfl rfl Try.func28 (by kernel_rfl) rfl #[.agg #[.string ((rd_T51 l1_1 x16_2).f0), .string ((rd_T51 l1_1 x16_2).f1)]] rfl (by (try simp only [List.map_toArray, List.map_cons, List.map_nil]); first | done | rfl | (simp only [List.length_drop, List.length_take]; rfl)) ?_; (with_reducible refine (orielref07_binds.calls ((rd_T51 l1_1 x16_2).f0) ((rd_T51 l1_1 x16_2).f1) t244 true _ A52.out).mono ?_); rintro e w58 ⟨rfl, hb⟩; refine ⟨_, rfl, ?_⟩; have n0_ := Aside0.mk (Kd.R_below (by (with_reducible repeat (first | apply Kd.R_alloc | apply Kd.R_drewN | apply Kd.R_drew)); exact HO_7.out) hb); have n1_ := Aside0.mk (Kd.R_below (by (with_reducible repeat (first | apply Kd.R_alloc | apply Kd.R_drewN | apply Kd.R_drew)); exact HO_243003.out) hb); have n2_ := Aside0.mk (blk_below (g := gb223) (o := .cells #[.string a1_0, .slice (some ad243) l1_1.length c1_1] 25 (0, 0)) (by (with_reducible repeat (first | refine blk_drewN ?_ _ | refine blk_drew ?_ | refine blk_alloc ?_ _)); exact BK223.out) hb); have n3_ := Aside0.mk (blk_below (g := gb224) (o := .cells #[.int .i64 x225000_2, .string x225001_2, .string x225002_2, .slice none 0 0, .string x225004_2] 32 (0, 0)) (by (with_reducible repeat (first | refine blk_drewN ?_ _ | refine blk_drew ?_ | refine blk_alloc ?_ _)); exact BK224.out) hb); have n4_ := Aside0.mk (blk_below (g := gb241) (o := .cells #[.string t238, .string t239] 29 (0, 0)) (by (with_reducible repeat (first | refine blk_drewN ?_ _ | refine blk_drew ?_ | refine blk_alloc ?_ _)); exact BK241.out) hb); have n5_ := Aside0.mk (blk_below (g := gb242) (o := .cells #[.int .i64 1, .string t238, .string t239, u243003, .string (⟨#[]⟩ : ByteArray)] 32 (0, 0)) (by (with_reducible repeat (first | refine blk_drewN ?_ _ | refine blk_drew ?_ | refine blk_alloc ?_ _)); exact BK242.out) hb); have n6_ := Aside0.mk (below_step (by repeat (first | (with_reducible first | exact HB.out | apply below_alloc | apply pw_below_drewN | apply below_drew1 | refine below_set ?_ GE223.out | refine below_set ?_ GE224.out | refine below_set ?_ GE241.out | refine below_set ?_ GE242.out) | exact HB.out)) hb); clear HO_7; clear HO_243003; clear BK223; clear BK224; clear BK241; clear BK242; clear HB; have HO_7 := n0_; have HO_243003 := n1_; have BK223 := n2_; have BK224 := n3_; have BK241 := n4_; have BK242 := n5_; have HB := n6_; clear n0_ n1_ n2_ n3_ n4_ n5_ n6_; (try clear hb); (try clear hb2); (try clear hk); (try clear hi)))
           go_roundg k2
           case measure => have := HK1.out; have := HK2.out; omega
           case rel => exact ⟨(wrap64 (x16_2 + 1)), (x225000_2), (x225001_2), (x225002_2), (x225004_2), (x243003_2), (u243003), (by first | rfl | (simp; done) | (simp [*]; done)), H', ⟨by have := HK1.out; have := HK2.out; omega⟩, ⟨by (with_reducible repeat (first | apply Kd.R_alloc | apply Kd.R_drewN | apply Kd.R_drew)); exact HO_7.out⟩, ⟨by (with_reducible repeat (first | apply Kd.R_alloc | apply Kd.R_drewN | apply Kd.R_drew)); exact HO_243003.out⟩, ⟨by (with_reducible repeat (first | refine blk_drewN ?_ _ | refine blk_drew ?_ | refine blk_alloc ?_ _)); exact BK223.out⟩, ⟨by (with_reducible repeat (first | refine blk_drewN ?_ _ | refine blk_drew ?_ | refine blk_alloc ?_ _)); exact BK224.out⟩, ⟨by (with_reducible repeat (first | refine blk_drewN ?_ _ | refine blk_drew ?_ | refine blk_alloc ?_ _)); exact BK241.out⟩, ⟨by (with_reducible repeat (first | refine blk_drewN ?_ _ | refine blk_drew ?_ | refine blk_alloc ?_ _)); exact BK242.out⟩, ⟨by repeat (first | (with_reducible first | exact HB.out | apply below_alloc | apply pw_below_drewN | apply below_drew1 | refine below_set ?_ GE223.out | refine below_set ?_ GE224.out | refine below_set ?_ GE241.out | refine below_set ?_ GE242.out) | exact HB.out)⟩⟩
          ·
           replace c53 := Bool.eq_false_iff.mpr c53
           subst c53
           have H1 : ((orielref07_Resolve.f k2 x7_1 ((rd_T51 l1_1 x16_2).f0) false).bind fun bt247 => (if bt247.2.2 = true then (orielref07_Enter.l2 k2 x7_1 x16_2 0 a1_0 l1_1 1 t238 t239 x243003_2 (⟨#[]⟩ : ByteArray) bt247.1 bt247.2.1) else (some (([] : List (S44)), 0, (⟨#[]⟩ : ByteArray), (⟨#[]⟩ : ByteArray), ([] : List (S47)), (⟨#[]⟩ : ByteArray), 9)))) = some (r1, r2, r3, r4, r5, r6, r7) := by rw [if_neg (show ¬ (false = true) by decide)] at H; exact H
           clear H
           have H := H1
           clear H1
           replace H := Option.bind_eq_some_iff.mp H
           obtain ⟨⟨t247, t248, t249⟩, A590, H⟩ := H
           replace H : (if t249 = true then (orielref07_Enter.l2 k2 x7_1 x16_2 0 a1_0 l1_1 1 t238 t239 x243003_2 (⟨#[]⟩ : ByteArray) t247 t248) else (some (([] : List (S44)), 0, (⟨#[]⟩ : ByteArray), (⟨#[]⟩ : ByteArray), ([] : List (S47)), (⟨#[]⟩ : ByteArray), 9))) = some (r1, r2, r3, r4, r5, r6, r7) := H
           have A59 := Aside0.mk A590
           clear A590
           by_cases c60 : t249 = true
           ·
            subst c60
            have H1 : (orielref07_Enter.l2 k2 x7_1 x16_2 0 a1_0 l1_1 1 t238 t239 x243003_2 (⟨#[]⟩ : ByteArray) t247 t248) = some (r1, r2, r3, r4, r5, r6, r7) := by rw [if_pos rfl] at H; exact H
            clear H
            have H := H1
            clear H1
            have H' := Aside0.mk H
            clear H
            have hnb61 := NB223_224.out
            have hnc61 := NB224_223.out
            have hnb62 := NB223_241.out
            have hnc62 := NB241_223.out
            have hnb63 := NB223_242.out
            have hnc63 := NB242_223.out
            have hcz64_0 : wr.cell? ⟨gb223, 0, none⟩ = some (.string a1_0) := (blk_cell BK223.out 0).trans rfl
            have hcz64_1 : wr.cell? ⟨gb223, 1, none⟩ = some (.slice A1_1 l1_1.length c1_1) := (blk_cell BK223.out 1).trans rfl
            have hfz64_0 := blk_frozen BK223.out 0
            have hfz64_1 := blk_frozen BK223.out 1
            have p243 : 0 ≤ (x16_2 : Int) := of_decide_eq_true (by first | (with_reducible assumption) | assumption)
            have q243 : x16_2 < (l1_1.length : Int) := of_decide_eq_true (by first | (with_reducible assumption) | assumption)
            obtain ⟨ad243, e243, hx243_0, hx243_1⟩ := at_T51 HR1_1.out x16_2 p243 q243
            cases e243
            replace hx243_0 := (HB.out.cell (World.block_lt_of_cell? w _ hx243_0)).trans hx243_0
            replace hx243_1 := (HB.out.cell (World.block_lt_of_cell? w _ hx243_1)).trans hx243_1
            replace p243 := eq_true p243
            replace q243 := eq_true q243
            go_wp2_with (first | ((with_reducible refine gate_callee (f := 28) rfl ?_); refine goesL_ (some 110) rfl rfl Try.func28 (by kernel_rfl) rfl #[.agg #[.string ((rd_T51 l1_1 x16_2).f0), .string ((rd_T51 l1_1 x16_2).f1)]] rfl (by (try simp only [List.map_toArray, List.map_cons, List.map_nil]); first | done | rfl | (simp only [List.length_drop, List.length_take]; rfl)) ?_; (with_reducible refine (orielref07_binds.calls ((rd_T51 l1_1 x16_2).f0) ((rd_T51 l1_1 x16_2).f1) t244 false _ A52.out).mono ?_); rintro e w65 ⟨rfl, hb⟩; refine ⟨_, rfl, ?_⟩; have n0_ := Aside0.mk (Kd.R_below (by (with_reducible repeat (first | apply Kd.R_alloc | apply Kd.R_drewN | apply Kd.R_drew)); exact HO_7.out) hb); have n1_ := Aside0.mk (Kd.R_below (by (with_reducible repeat (first | apply Kd.R_alloc | apply Kd.R_drewN | apply Kd.R_drew)); exact HO_243003.out) hb); have n2_ := Aside0.mk (blk_below (g := gb223) (o := .cells #[.string a1_0, .slice (some ad243) l1_1.length c1_1] 25 (0, 0)) (by (with_reducible repeat (first | refine blk_drewN ?_ _ | refine blk_drew ?_ | refine blk_alloc ?_ _)); exact BK223.out) hb); have n3_ := Aside0.mk (blk_below (g := gb224) (o := .cells #[.int .i64 x225000_2, .string x225001_2, .string x225002_2, .slice none 0 0, .string x225004_2] 32 (0, 0)) (by (with_reducible repeat (first | refine blk_drewN ?_ _ | refine blk_drew ?_ | refine blk_alloc ?_ _)); exact BK224.out) hb); have n4_ := Aside0.mk (blk_below (g := gb241) (o := .cells #[.string t238, .string t239] 29 (0, 0)) (by (with_reducible repeat (first | refine blk_drewN ?_ _ | refine blk_drew ?_ | refine blk_alloc ?_ _)); exact BK241.out) hb); have n5_ := Aside0.mk (blk_below (g := gb242) (o := .cells #[.int .i64 1, .string t238, .string t239, u243003, .string (⟨#[]⟩ : ByteArray)] 32 (0, 0)) (by (with_reducible repeat (first | refine blk_drewN ?_ _ | refine blk_drew ?_ | refine blk_alloc ?_ _)); exact BK242.out) hb); have n6_ := Aside0.mk (below_step (by repeat (first | (with_reducible first | exact HB.out | apply below_alloc | apply pw_below_drewN | apply below_drew1 | refine below_set ?_ GE223.out | refine below_set ?_ GE224.out | refine below_set ?_ GE241.out | refine below_set ?_ GE242.out) | exact HB.out)) hb); clear HO_7; clear HO_243003; clear BK223; clear BK224; clear BK241; clear BK242; clear HB; have HO_7 := n0_; have HO_243003 := n1_; have BK223 := n2_; have BK224 := n3_; have BK241 := n4_; have BK242 := n5_; have HB := n6_; clear n0_ n1_ n2_ n3_ n4_ n5_ n6_; (try clear hb); (try clear hb2); (try clear hk); (try clear hi); have hcz66_0 : w65.cell? ⟨gb223, 0, none⟩ = some (.string a1_0) := (blk_cell BK223.out 0).trans rfl; have hcz66_1 : w65.cell? ⟨gb223, 1, none⟩ = some (.slice (some ad243) l1_1.length c1_1) := (blk_cell BK223.out 1).trans rfl; have hfz66_0 := blk_frozen BK223.out 0; have hfz66_1 := blk_frozen BK223.out 1; have p246 : 0 ≤ (x16_2 : Int) := of_decide_eq_true (by first | (with_reducible assumption) | assumption); have q246 : x16_2 < (l1_1.length : Int) := of_decide_eq_true (by first | (with_reducible assumption) | assumption); obtain ⟨ad246, e246, hx246_0, hx246_1⟩ := at_T51 HR1_1.out x16_2 p246 q246; obtain rfl : ad243 = ad246 := (by injection e246); replace hx246_0 := (HB.out.cell (World.block_lt_of_cell? w _ hx246_0)).trans hx246_0; replace hx246_1 := (HB.out.cell (World.block_lt_of_cell? w _ hx246_1)).trans hx246_1; replace p246 := eq_true p246; replace q246 := eq_true q246) | ((with_reducible refine gate_callee (f := 19) rfl ?_); refine goesL_ (some 122) rfl rfl Try.func19 (by kernel_rfl) rfl #[.slice Ao39 x7_1.length co39, .string ((rd_T51 l1_1 x16_2).f0), .bool false] rfl (by (try simp only [List.map_toArray, List.map_cons, List.map_nil]); first | done | rfl | (simp only [List.length_drop, List.length_take]; rfl)) ?_; (with_reducible refine (orielref07_Resolve.calls k2 _ _ x7_1 ((rd_T51 l1_1 x16_2).f0) false t247 t248 true _ ?side1 ?side2 A59.out).mono ?_); (case side1 => repeat (first | exact (Kd.R_reads' HO_7.out).2.2 | (with_reducible refine Kd.C_alloc ?_ _) | (with_reducible refine Kd.C_drewN ?_ _) | (with_reducible refine Kd.C_drew ?_))); (case side2 => exact (Kd.R_reads' HO_7.out).2.1); rintro e w67 ⟨rfl, hb⟩; refine ⟨_, rfl, ?_⟩; have n0_ := Aside0.mk (Kd.R_below (by (with_reducible repeat (first | apply Kd.R_alloc | apply Kd.R_drewN | apply Kd.R_drew)); exact HO_7.out) hb); have n1_ := Aside0.mk (Kd.R_below (by (with_reducible repeat (first | apply Kd.R_alloc | apply Kd.R_drewN | apply Kd.R_drew)); exact HO_243003.out) hb); have n2_ := Aside0.mk (blk_below (g := gb223) (o := .cells #[.string a1_0, .slice (some ad243) l1_1.length c1_1] 25 (0, 0)) (by (with_reducible repeat (first | refine blk_drewN ?_ _ | refine blk_drew ?_ | refine blk_alloc ?_ _)); exact BK223.out) hb); have n3_ := Aside0.mk (blk_below (g := gb224) (o := .cells #[.int .i64 x225000_2, .string x225001_2, .string x225002_2, .slice none 0 0, .string x225004_2] 32 (0, 0)) (by (with_reducible repeat (first | refine blk_drewN ?_ _ | refine blk_drew ?_ | refine blk_alloc ?_ _)); exact BK224.out) hb); have n4_ := Aside0.mk (blk_below (g := gb241) (o := .cells #[.string t238, .string t239] 29 (0, 0)) (by (with_reducible repeat (first | refine blk_drewN ?_ _ | refine blk_drew ?_ | refine blk_alloc ?_ _)); exact BK241.out) hb); have n5_ := Aside0.mk (blk_below (g := gb242) (o := .cells #[.int .i64 1, .string t238, .string t239, u243003, .string (⟨#[]⟩ : ByteArray)] 32 (0, 0)) (by (with_reducible repeat (first | refine blk_drewN ?_ _ | refine blk_drew ?_ | refine blk_alloc ?_ _)); exact BK242.out) hb); have n6_ := Aside0.mk (below_step (by repeat (first | (with_reducible first | exact HB.out | apply below_alloc | apply pw_below_drewN | apply below_drew1 | refine below_set ?_ GE223.out | refine below_set ?_ GE224.out | refine below_set ?_ GE241.out | refine below_set ?_ GE242.out) | exact HB.out)) hb); clear HO_7; clear HO_243003; clear BK223; clear BK224; clear BK241; clear BK242; clear HB; have HO_7 := n0_; have HO_243003 := n1_; have BK223 := n2_; have BK224 := n3_; have BK241 := n4_; have BK242 := n5_; have HB := n6_; clear n0_ n1_ n2_ n3_ n4_ n5_ n6_; (try clear hb); (try clear hb2); (try clear hk); (try clear hi)) | ((with_reducible refine gate_dst (N := 19) rfl ?_); refine box_event ?hg (N := 19) ?hd (cs := #[.string (⟨#[]⟩ : ByteArray), .string (⟨#[]⟩ : ByteArray)]) (t := 29) ?hr ?_; (case hd => rfl); (case hg => rfl); (case hr => first | (go_simp; done) | (go_simp; rfl)); intro gb250 hg w68 hbox hb; have n0_ := Aside0.mk (Kd.R_below (by (with_reducible repeat (first | apply Kd.R_alloc | apply Kd.R_drewN | apply Kd.R_drew)); exact HO_7.out) hb); have n1_ := Aside0.mk (Kd.R_below (by (with_reducible repeat (first | apply Kd.R_alloc | apply Kd.R_drewN | apply Kd.R_drew)); exact HO_243003.out) hb); have n2_ := Aside0.mk (blk_below (g := gb223) (o := .cells #[.string a1_0, .slice (some ad243) l1_1.length c1_1] 25 (0, 0)) (by (with_reducible repeat (first | refine blk_drewN ?_ _ | refine blk_drew ?_ | refine blk_alloc ?_ _)); exact BK223.out) hb); have n3_ := Aside0.mk (blk_below (g := gb224) (o := .cells #[.int .i64 x225000_2, .string x225001_2, .string x225002_2, .slice none 0 0, .string x225004_2] 32 (0, 0)) (by (with_reducible repeat (first | refine blk_drewN ?_ _ | refine blk_drew ?_ | refine blk_alloc ?_ _)); exact BK224.out) hb); have n4_ := Aside0.mk (blk_below (g := gb241) (o := .cells #[.string t238, .string t239] 29 (0, 0)) (by (with_reducible repeat (first | refine blk_drewN ?_ _ | refine blk_drew ?_ | refine blk_alloc ?_ _)); exact BK241.out) hb); have n5_ := Aside0.mk (blk_below (g := gb242) (o := .cells #[.int .i64 1, .string t238, .string t239, u243003, .string (⟨#[]⟩ : ByteArray)] 32 (0, 0)) (by (with_reducible repeat (first | refine blk_drewN ?_ _ | refine blk_drew ?_ | refine blk_alloc ?_ _)); exact BK242.out) hb); have n6_ := Aside0.mk (below_step (by repeat (first | (with_reducible first | exact HB.out | apply below_alloc | apply pw_below_drewN | apply below_drew1 | refine below_set ?_ GE223.out | refine below_set ?_ GE224.out | refine below_set ?_ GE241.out | refine below_set ?_ GE242.out) | exact HB.out)) hb); have n7_ := Aside0.mk (hbox); have n8_ := Aside0.mk ((by rw [hg]; exact (below_size (by repeat (first | (with_reducible first | exact HB.out | apply below_alloc | apply pw_below_drewN | apply below_drew1 | refine below_set ?_ GE223.out | refine below_set ?_ GE224.out | refine below_set ?_ GE241.out | refine below_set ?_ GE242.out) | exact HB.out))) : w.heap.size ≤ gb250)); have n9_ := Aside0.mk ((by rw [hg]; exact (below_size (by repeat (first | (with_reducible first | exact HB.out | apply below_alloc | apply pw_below_drewN | apply below_drew1 | refine below_set ?_ GE223.out | refine below_set ?_ GE224.out | refine below_set ?_ GE241.out | refine below_set ?_ GE242.out) | exact HB.out))) : w.heap.size ≤ gb250)); have n10_ := Aside0.mk ((by rw [hg]; exact Nat.ne_of_lt (blk_lt (g := gb223) (o := .cells #[.string a1_0, .slice (some ad243) l1_1.length c1_1] 25 (0, 0)) (by (with_reducible repeat (first | refine blk_drewN ?_ _ | refine blk_drew ?_ | refine blk_alloc ?_ _)); exact BK223.out)) : gb223 ≠ gb250)); have n11_ := Aside0.mk ((by rw [hg]; exact Nat.ne_of_gt (blk_lt (g := gb223) (o := .cells #[.string a1_0, .slice (some ad243) l1_1.length c1_1] 25 (0, 0)) (by (with_reducible repeat (first | refine blk_drewN ?_ _ | refine blk_drew ?_ | refine blk_alloc ?_ _)); exact BK223.out)) : gb250 ≠ gb223)); have n12_ := Aside0.mk ((by rw [hg]; exact Nat.ne_of_lt (blk_lt (g := gb224) (o := .cells #[.int .i64 x225000_2, .string x225001_2, .string x225002_2, .slice none 0 0, .string x225004_2] 32 (0, 0)) (by (with_reducible repeat (first | refine blk_drewN ?_ _ | refine blk_drew ?_ | refine blk_alloc ?_ _)); exact BK224.out)) : gb224 ≠ gb250)); have n13_ := Aside0.mk ((by rw [hg]; exact Nat.ne_of_gt (blk_lt (g := gb224) (o := .cells #[.int .i64 x225000_2, .string x225001_2, .string x225002_2, .slice none 0 0, .string x225004_2] 32 (0, 0)) (by (with_reducible repeat (first | refine blk_drewN ?_ _ | refine blk_drew ?_ | refine blk_alloc ?_ _)); exact BK224.out)) : gb250 ≠ gb224)); have n14_ := Aside0.mk ((by rw [hg]; exact Nat.ne_of_lt (blk_lt (g := gb241) (o := .cells #[.string t238, .string t239] 29 (0, 0)) (by (with_reducible repeat (first | refine blk_drewN ?_ _ | refine blk_drew ?_ | refine blk_alloc ?_ _)); exact BK241.out)) : gb241 ≠ gb250)); have n15_ := Aside0.mk ((by rw [hg]; exact Nat.ne_of_gt (blk_lt (g := gb241) (o := .cells #[.string t238, .string t239] 29 (0, 0)) (by (with_reducible repeat (first | refine blk_drewN ?_ _ | refine blk_drew ?_ | refine blk_alloc ?_ _)); exact BK241.out)) : gb250 ≠ gb241)); have n16_ := Aside0.mk ((by rw [hg]; exact Nat.ne_of_lt (blk_lt (g := gb242) (o := .cells #[.int .i64 1, .string t238, .string t239, u243003, .string (⟨#[]⟩ : ByteArray)] 32 (0, 0)) (by (with_reducible repeat (first | refine blk_drewN ?_ _ | refine blk_drew ?_ | refine blk_alloc ?_ _)); exact BK242.out)) : gb242 ≠ gb250)); have n17_ := Aside0.mk ((by rw [hg]; exact Nat.ne_of_gt (blk_lt (g := gb242) (o := .cells #[.int .i64 1, .string t238, .string t239, u243003, .string (⟨#[]⟩ : ByteArray)] 32 (0, 0)) (by (with_reducible repeat (first | refine blk_drewN ?_ _ | refine blk_drew ?_ | refine blk_alloc ?_ _)); exact BK242.out)) : gb250 ≠ gb242)); clear HO_7; clear HO_243003; clear BK223; clear BK224; clear BK241; clear BK242; clear HB; have HO_7 := n0_; have HO_243003 := n1_; have BK223 := n2_; have BK224 := n3_; have BK241 := n4_; have BK242 := n5_; have HB := n6_; have BK250 := n7_; have GW250 := n8_; have GE250 := n9_; have NB223_250 := n10_; have NB250_223 := n11_; have NB224_250 := n12_; have NB250_224 := n13_; have NB241_250 := n14_; have NB250_241 := n15_; have NB242_250 := n16_; have NB250_242 := n17_; clear n0_ n1_ n2_ n3_ n4_ n5_ n6_ n7_ n8_ n9_ n10_ n11_ n12_ n13_ n14_ n15_ n16_ n17_; clear hb hbox hg; have hnb69 := NB250_223.out; have hnc69 := NB223_250.out; have hnb70 := NB250_224.out; have hnc70 := NB224_250.out; have hnb71 := NB250_241.out; have hnc71 := NB241_250.out; have hnb72 := NB250_242.out; have hnc72 := NB242_250.out; have hcz73_0 : w68.cell? ⟨gb250, 0, none⟩ = some (.string (⟨#[]⟩ : ByteArray)) := (blk_cell BK250.out 0).trans rfl; have hcz73_1 : w68.cell? ⟨gb250, 1, none⟩ = some (.string (⟨#[]⟩ : ByteArray)) := (blk_cell BK250.out 1).trans rfl; have hfz73_0 := blk_frozen BK250.out 0; have hfz73_1 := blk_frozen BK250.out 1))
            go_loopg [21] k2 (fun kq v21 w' => ∃ (x21_3 : Int) (x225000_3 : Int) (x225001_3 : ByteArray) (x225002_3 : ByteArray) (x225004_3 : ByteArray), v21 = .int .i64 x21_3 ∧ Aside0 (orielref07_Enter.l2 kq x7_1 x16_2 x21_3 a1_0 l1_1 1 t238 t239 x243003_2 (⟨#[]⟩ : ByteArray) t247 t248 = some (r1, r2, r3, r4, r5, r6, r7)) ∧ Aside0 (kq ≤ k2) ∧ Aside0 (Kd.R k44 44 w' w.heap.size (fun _ => True) (.slice Ao39 x7_1.length co39) x7_1) ∧ Aside0 (Kd.R k47 47 w' w.heap.size (fun _ => True) u243003 x243003_2) ∧ Aside0 (w'.heap[gb223]? = some (.cells #[.string a1_0, (.slice (some ad243) l1_1.length c1_1)] 25 (0, 0))) ∧ Aside0 (w'.heap[gb224]? = some (.cells #[.int .i64 x225000_3, .string x225001_3, .string x225002_3, (.slice none 0 0), .string x225004_3] 32 (0, 0))) ∧ Aside0 (w'.heap[gb241]? = some (.cells #[.string t238, .string t239] 29 (0, 0))) ∧ Aside0 (w'.heap[gb242]? = some (.cells #[.int .i64 1, .string t238, .string t239, u243003, .string (⟨#[]⟩ : ByteArray)] 32 (0, 0))) ∧ Aside0 (w'.heap[gb250]? = some (.cells #[.string t247, .string t248] 29 (0, 0))) ∧ Aside0 (Below w.heap.size w w'))
            case atStart => exact ⟨(0), (x225000_2), (x225001_2), (x225002_2), (x225004_2), (by first | rfl | (simp; done) | (simp [*]; done)), H', ⟨Nat.le_refl _⟩, ⟨by (with_reducible repeat (first | apply Kd.R_alloc | apply Kd.R_drewN | apply Kd.R_drew)); exact Kd.R_mono (Kd.R_far (p := ⟨gb250, 1, none⟩) (Kd.R_far (p := ⟨gb250, 0, none⟩) (Kd.R_types HO_7.out BK250.out (by decide)) (fun _ hk => hk.2) (.string t247)) (fun _ hk => hk.2) (.string t248)) (fun _ hk => trivial)⟩, ⟨by (with_reducible repeat (first | apply Kd.R_alloc | apply Kd.R_drewN | apply Kd.R_drew)); exact Kd.R_mono (Kd.R_far (p := ⟨gb250, 1, none⟩) (Kd.R_far (p := ⟨gb250, 0, none⟩) (Kd.R_types HO_243003.out BK250.out (by decide)) (fun _ hk => hk.2) (.string t247)) (fun _ hk => hk.2) (.string t248)) (fun _ hk => trivial)⟩, ⟨by (with_reducible repeat (first | refine blk_drewN ?_ _ | refine blk_drew ?_ | refine blk_alloc ?_ _)); refine blk_far ?_ NB223_250.out _; (with_reducible repeat (first | refine blk_drewN ?_ _ | refine blk_drew ?_ | refine blk_alloc ?_ _)); refine blk_far ?_ NB223_250.out _; (with_reducible repeat (first | refine blk_drewN ?_ _ | refine blk_drew ?_ | refine blk_alloc ?_ _)); exact BK223.out⟩, ⟨by (with_reducible repeat (first | refine blk_drewN ?_ _ | refine blk_drew ?_ | refine blk_alloc ?_ _)); refine blk_far ?_ NB224_250.out _; (with_reducible repeat (first | refine blk_drewN ?_ _ | refine blk_drew ?_ | refine blk_alloc ?_ _)); refine blk_far ?_ NB224_250.out _; (with_reducible repeat (first | refine blk_drewN ?_ _ | refine blk_drew ?_ | refine blk_alloc ?_ _)); exact BK224.out⟩, ⟨by (with_reducible repeat (first | refine blk_drewN ?_ _ | refine blk_drew ?_ | refine blk_alloc ?_ _)); refine blk_far ?_ NB241_250.out _; (with_reducible repeat (first | refine blk_drewN ?_ _ | refine blk_drew ?_ | refine blk_alloc ?_ _)); refine blk_far ?_ NB241_250.out _; (with_reducible repeat (first | refine blk_drewN ?_ _ | refine blk_drew ?_ | refine blk_alloc ?_ _)); exact BK241.out⟩, ⟨by (with_reducible repeat (first | refine blk_drewN ?_ _ | refine blk_drew ?_ | refine blk_alloc ?_ _)); refine blk_far ?_ NB242_250.out _; (with_reducible repeat (first | refine blk_drewN ?_ _ | refine blk_drew ?_ | refine blk_alloc ?_ _)); refine blk_far ?_ NB242_250.out _; (with_reducible repeat (first | refine blk_drewN ?_ _ | refine blk_drew ?_ | refine blk_alloc ?_ _)); exact BK242.out⟩, ⟨by (with_reducible repeat (first | refine blk_drewN ?_ _ | refine blk_drew ?_ | refine blk_alloc ?_ _)); refine blk_put (cs := #[.string t247, .string (⟨#[]⟩ : ByteArray)]) ?_ 1 _ rfl; (with_reducible repeat (first | refine blk_drewN ?_ _ | refine blk_drew ?_ | refine blk_alloc ?_ _)); refine blk_put (cs := #[.string (⟨#[]⟩ : ByteArray), .string (⟨#[]⟩ : ByteArray)]) ?_ 0 _ rfl; (with_reducible repeat (first | refine blk_drewN ?_ _ | refine blk_drew ?_ | refine blk_alloc ?_ _)); exact BK250.out⟩, ⟨by repeat (first | (with_reducible first | exact HB.out | apply below_alloc | apply pw_below_drewN | apply below_drew1 | refine below_set ?_ GE223.out | refine below_set ?_ GE224.out | refine below_set ?_ GE241.out | refine below_set ?_ GE242.out | refine below_set ?_ GE250.out) | exact HB.out)⟩⟩
            case round => as_aux_lemma =>
             clear H'
             try clear c1
             try clear c2
             try clear p2
             try clear q2
             try clear hx2
             try clear c3
             try clear c4
             try clear c5
             try clear c6
             try clear p6
             try clear c7
             try clear c9
             try clear c9b0
             try clear c10
             try clear c10b0
             try clear c11
             try clear c12
             try clear c14
             try clear c18
             try clear c18b0
             try clear c18b1
             try clear c19
             try clear c19b0
             try clear c19b1
             try clear c20
             try clear c20b0
             try clear c20b1
             try clear c22
             try clear c22b0
             try clear c22b1
             try clear c23
             try clear c23b0
             try clear c23b1
             try clear p23
             try clear q23
             try clear hx23
             try clear c24
             try clear p24
             try clear q24
             try clear hx24
             try clear c25
             try clear c27
             try clear c28
             try clear c30
             try clear c32
             try clear c36
             try clear c37
             try clear c42
             try clear c43
             try clear c46
             try clear c47
             try clear c48
             try clear c50
             try clear c50b0
             try clear c51
             try clear c51b0
             try clear c53
             try clear c54
             try clear c55
             try clear c56
             try clear c60
             try clear c61
             try clear c62
             try clear c63
             try clear p64
             try clear c69
             try clear c70
             try clear c71
             try clear c72
             try clear hcz15_0
             try clear hcz15_1
             try clear hcz17_0
             try clear hcz17_1
             try clear hcz26_0
             try clear hcz26_1
             try clear hcz26_2
             try clear hcz26_3
             try clear hcz26_4
             try clear hcz29_0
             try clear hcz29_1
             try clear hcz29_2
             try clear hcz29_3
             try clear hcz29_4
             try clear hcz33_0
             try clear hcz33_1
             try clear hcz38_0
             try clear hcz38_1
             try clear hcz44_0
             try clear hcz44_1
             try clear hcz49_0
             try clear hcz49_1
             try clear hcz49_2
             try clear hcz49_3
             try clear hcz49_4
             try clear hcz57_0
             try clear hcz57_1
             try clear hcz64_0
             try clear hcz64_1
             try clear hcz66_0
             try clear hcz66_1
             try clear hcz73_0
             try clear hcz73_1
             try clear hfz15_0
             try clear hfz15_1
             try clear hfz17_0
             try clear hfz17_1
             try clear hfz26_0
             try clear hfz26_1
             try clear hfz26_2
             try clear hfz26_3
             try clear hfz26_4
             try clear hfz29_0
             try clear hfz29_1
             try clear hfz29_2
             try clear hfz29_3
             try clear hfz29_4
             try clear hfz33_0
             try clear hfz33_1
             try clear hfz38_0
             try clear hfz38_1
             try clear hfz44_0
             try clear hfz44_1
             try clear hfz49_0
             try clear hfz49_1
             try clear hfz49_2
             try clear hfz49_3
             try clear hfz49_4
             try clear hfz57_0
             try clear hfz57_1
             try clear hfz64_0
             try clear hfz64_1
             try clear hfz66_0
             try clear hfz66_1
             try clear hfz73_0
             try clear hfz73_1
             try clear hx231_0
             try clear hx231_1
             try clear hx234_0
             try clear hx234_1
             try clear hx243_0
             try clear hx243_1
             try clear hx246_0
             try clear hx246_1
             try clear p2
             try clear p23
             try clear p231
             try clear p234
             try clear p243
             try clear p246
             try clear p6
             try clear q2
             try clear q23
             try clear q231
             try clear q234
             try clear q243
             try clear q246
             obtain ⟨x21_3, x225000_3, x225001_3, x225002_3, x225004_3, rfl, HA, HK3, HO_7, HO_243003, BK223, BK224, BK241, BK242, BK250, HB⟩ := hrel
             cases gk with
             | zero => exact absurd HA.out (by simp [orielref07_Enter.l2])
             | succ k3 =>
              have H := HA.out
              clear HA
              simp only [orielref07_Enter.l2] at H
              by_cases c74 : x21_3 < (x243003_2.length : Int)
              ·
               rw [if_pos c74] at H
               have c74b0 : decide (x21_3 < (x243003_2.length : Int)) = true := decide_eq_true c74
               clear c74
               by_cases c75 : 0 ≤ x21_3
               ·
                rw [if_pos c75] at H
                have c75b0 : decide (0 ≤ x21_3) = true := decide_eq_true c75
                clear c75
                by_cases c76 : ((((rd_T47 x243003_2 x21_3).f0.f0).toList) == t247.toList && ((((rd_T47 x243003_2 x21_3).f0.f1).toList) == t248.toList)) = true
                ·
                 rw [if_pos c76] at H
                 have c76b0 : ((((rd_T47 x243003_2 x21_3).f0.f0).toList) == t247.toList && ((((rd_T47 x243003_2 x21_3).f0.f1).toList) == t248.toList)) = true := c76
                 (try (have c76b1 : decide ((((rd_T47 x243003_2 x21_3).f0.f0).toList) = t247.toList && ((((rd_T47 x243003_2 x21_3).f0.f1).toList) == t248.toList)) = true := by simpa using c76))
                 (try (have c76b2 : ((((rd_T47 x243003_2 x21_3).f0.f0).toList) == t247.toList && ((((rd_T47 x243003_2 x21_3).f0.f1).toList) == t248.toList)) = true := by simpa using c76))
                 clear c76
                 simp only [Option.some.injEq, Prod.mk.injEq] at H
                 obtain ⟨rfl, rfl, rfl, rfl, rfl, rfl, rfl⟩ := H
                 have hnb77 := NB242_223.out
                 have hnc77 := NB223_242.out
                 have hnb78 := NB242_224.out
                 have hnc78 := NB224_242.out
                 have hnb79 := NB242_241.out
                 have hnc79 := NB241_242.out
                 have hnb80 := NB242_250.out
                 have hnc80 := NB250_242.out
                 have hcz81_0 : wr.cell? ⟨gb242, 0, none⟩ = some (.int .i64 1) := (blk_cell BK242.out 0).trans rfl
                 have hcz81_1 : wr.cell? ⟨gb242, 1, none⟩ = some (.string t238) := (blk_cell BK242.out 1).trans rfl
                 have hcz81_2 : wr.cell? ⟨gb242, 2, none⟩ = some (.string t239) := (blk_cell BK242.out 2).trans rfl
                 have hcz81_3 : wr.cell? ⟨gb242, 3, none⟩ = some (u243003) := (blk_cell BK242.out 3).trans rfl
                 have hcz81_4 : wr.cell? ⟨gb242, 4, none⟩ = some (.string (⟨#[]⟩ : ByteArray)) := (blk_cell BK242.out 4).trans rfl
                 have hfz81_0 := blk_frozen BK242.out 0
                 have hfz81_1 := blk_frozen BK242.out 1
                 have hfz81_2 := blk_frozen BK242.out 2
                 have hfz81_3 := blk_frozen BK242.out 3
                 have hfz81_4 := blk_frozen BK242.out 4
                 obtain ⟨Ao82, co82, eo82⟩ := Kd.R_slice HO_243003.out
                 subst eo82
                 try go_wp2
                 have n0_ := Aside0.mk (Kd.R_drew HO_7.out)
                 have n1_ := Aside0.mk (Kd.R_drew HO_243003.out)
                 have n2_ := Aside0.mk (blk_drew BK223.out)
                 have n3_ := Aside0.mk (blk_drew BK224.out)
                 have n4_ := Aside0.mk (blk_drew BK241.out)
                 have n5_ := Aside0.mk (blk_drew BK242.out)
                 have n6_ := Aside0.mk (blk_drew BK250.out)
                 have n7_ := Aside0.mk (below_drew1 HB.out)
                 clear HO_7
                 clear HO_243003
                 clear BK223
                 clear BK224
                 clear BK241
                 clear BK242
                 clear BK250
                 clear HB
                 have HO_7 := n0_
                 have HO_243003 := n1_
                 have BK223 := n2_
                 have BK224 := n3_
                 have BK241 := n4_
                 have BK242 := n5_
                 have BK250 := n6_
                 have HB := n7_
                 clear n0_ n1_ n2_ n3_ n4_ n5_ n6_ n7_
                 have p251 : 0 ≤ (x21_3 : Int) := of_decide_eq_true (by first | (with_reducible assumption) | assumption)
                 have q251 : x21_3 < (x243003_2.length : Int) := of_decide_eq_true (by first | (with_reducible assumption) | assumption)
                 obtain ⟨ad251, e251, hx251_0, hx251_1, hx251_2⟩ := at_T47 (Kd.R_reads' HO_243003.out).2.2 x21_3 p251 q251
                 cases e251
                 replace p251 := eq_true p251
                 replace q251 := eq_true q251
                 refine start_ (n := 8) (S := fun w' => w'.cell? ⟨gb242, 0, none⟩ = some (.int .i64 1) ∧ w'.cell? ⟨gb242, 1, none⟩ = some (.string t238) ∧ w'.cell? ⟨gb242, 2, none⟩ = some (.string t239) ∧ w'.cell? ⟨gb242, 3, none⟩ = some (.slice (some ad251) x243003_2.length co82) ∧ w'.cell? ⟨gb242, 4, none⟩ = some (.string (⟨#[]⟩ : ByteArray)) ∧ w'.cell? ⟨gb250, 0, none⟩ = some (.string t247) ∧ w'.cell? ⟨gb250, 1, none⟩ = some (.string t248) ∧ w'.cell? (ad251.add ((x21_3).toNat * 3)) = some (.string ((rd_T47 x243003_2 x21_3).f0.f0)) ∧ w'.cell? ⟨(ad251.add ((x21_3).toNat * 3)).block, (ad251.add ((x21_3).toNat * 3)).off + 1, none⟩ = some (.string ((rd_T47 x243003_2 x21_3).f0.f1)) ∧ w'.cell? ⟨(ad251.add ((x21_3).toNat * 3)).block, (ad251.add ((x21_3).toNat * 3)).off + 2, none⟩ = some (.string ((rd_T47 x243003_2 x21_3).f1))) (ds := []) #[false, false, false, false, false, false, false, false] (by kernel_rfl) rfl rfl ⟨(blk_cell BK242.out 0).trans rfl, (blk_cell BK242.out 1).trans rfl, (blk_cell BK242.out 2).trans rfl, (blk_cell BK242.out 3).trans rfl, (blk_cell BK242.out 4).trans rfl, (blk_cell BK250.out 0).trans rfl, (blk_cell BK250.out 1).trans rfl, hx251_0, hx251_1, hx251_2⟩ (fun hHeld => ?_); refine with_tabW orielref07_Enter.tab29 orielref07_Enter.bits29 (fun HT_ HW_ => ?_)
                 generalize wr.drew = w83 at HO_7 HO_243003 BK223 BK224 BK241 BK242 BK250 HB hx251_0 hx251_1 hx251_2 hHeld ⊢
                 refine pure_ (i := 0) (N := some 135) (v := ?_) (a' := ?_) #[true, false, false, false, false, false, false, false] rfl rfl (any_of HT_.out (by kernel_rfl)) (fun _ _ _ h => h) (Or.inl ⟨by rfl, ?_⟩) ?_ ?_
                 rotate_left
                 ·
                  intro w'
                  go_simp
                  with_reducible rfl
                 rotate_left
                 ·
                  simp only [Act.put, List.setIfInBounds_toArray, List.set_cons_zero, List.set_cons_succ, i64_w, i32_w]
                  rfl
                 refine pure_ (i := 2) (N := some 137) (v := ?_) (a' := ?_) #[true, false, true, false, false, false, false, false] rfl rfl (any_of HT_.out (by kernel_rfl)) (fun _ _ _ h => h) (Or.inl ⟨by rfl, ?_⟩) ?_ ?_
                 rotate_left
                 ·
                  intro w'
                  go_simp
                  with_reducible rfl
                 rotate_left
                 ·
                  simp only [Act.put, List.setIfInBounds_toArray, List.set_cons_zero, List.set_cons_succ, i64_w, i32_w]
                  rfl
                 refine take_ (i := 1) (N := some 136) (v := ?_) (a' := ?_) #[true, true, true, false, false, false, false, false] rfl rfl (take_ofW HT_.out HW_.out (by kernel_rfl)) (fun _ _ _ h => h) (Or.inl ⟨by rfl, ?_⟩) hHeld ?_ ?_
                 rotate_left
                 ·
                  rintro w' ⟨s0, s1, s2, s3, s4, s5, s6, s7, s8, s9⟩
                  go_simp
                  with_reducible rfl
                 rotate_left
                 ·
                  simp only [Act.put, List.setIfInBounds_toArray, List.set_cons_zero, List.set_cons_succ, i64_w, i32_w]
                  rfl
                 refine pure_ (i := 3) (N := some 138) (v := ?_) (a' := ?_) #[true, true, true, true, false, false, false, false] rfl rfl (any_of HT_.out (by kernel_rfl)) (fun _ _ _ h => h) (Or.inl ⟨by rfl, ?_⟩) ?_ ?_
                 rotate_left
                 ·
                  intro w'
                  go_simp
                  with_reducible rfl
                 rotate_left
                 ·
                  simp only [Act.put, List.setIfInBounds_toArray, List.set_cons_zero, List.set_cons_succ, i64_w, i32_w]
                  rfl
                 refine pure_ (i := 4) (N := some 139) (v := ?_) (a' := ?_) #[true, true, true, true, true, false, false, false] rfl rfl (any_of HT_.out (by kernel_rfl)) (fun _ _ _ h => h) (Or.inl ⟨by rfl, ?_⟩) ?_ ?_
                 rotate_left
                 ·
                  intro w'
                  go_simp
                  with_reducible rfl
                 rotate_left
                 ·
                  simp only [Act.put, List.setIfInBounds_toArray, List.set_cons_zero, List.set_cons_succ, i64_w, i32_w]
                  rfl
                 refine take_ (i := 5) (N := some 140) (v := ?_) (a' := ?_) #[true, true, true, true, true, true, false, false] rfl rfl (take_ofW HT_.out HW_.out (by kernel_rfl)) (fun _ _ _ h => h) (Or.inl ⟨by rfl, ?_⟩) hHeld ?_ ?_
                 rotate_left
                 ·
                  rintro w' ⟨s0, s1, s2, s3, s4, s5, s6, s7, s8, s9⟩
                  go_simp
                  with_reducible rfl
                 rotate_left
                 ·
                  simp only [Act.put, List.setIfInBounds_toArray, List.set_cons_zero, List.set_cons_succ, i64_w, i32_w]
                  rfl
                 refine take_ (i := 6) (N := some 141) (v := ?_) (a' := ?_) #[true, true, true, true, true, true, true, false] rfl rfl (take_ofW HT_.out HW_.out (by kernel_rfl)) (fun _ _ _ h => h) (Or.inl ⟨by rfl, ?_⟩) hHeld ?_ ?_
                 rotate_left
                 ·
                  rintro w' ⟨s0, s1, s2, s3, s4, s5, s6, s7, s8, s9⟩
                  go_simp
                  with_reducible rfl
                 rotate_left
                 ·
                  simp only [Act.put, List.setIfInBounds_toArray, List.set_cons_zero, List.set_cons_succ, i64_w, i32_w]
                  rfl
                 refine pure_ (i := 7) (N := some 142) (v := ?_) (a' := ?_) #[true, true, true, true, true, true, true, true] rfl rfl (any_of HT_.out (by kernel_rfl)) (fun _ _ _ h => h) (Or.inl ⟨by rfl, ?_⟩) ?_ ?_
                 rotate_left
                 ·
                  intro w'
                  go_simp
                  with_reducible rfl
                 rotate_left
                 ·
                  simp only [Act.put, List.setIfInBounds_toArray, List.set_cons_zero, List.set_cons_succ, i64_w, i32_w]
                  rfl
                 refine done_ (done_of HT_.out (by kernel_rfl)) ?_
                 have hnb84 := NB224_223.out
                 have hnc84 := NB223_224.out
                 have hnb85 := NB224_241.out
                 have hnc85 := NB241_224.out
                 have hnb86 := NB224_250.out
                 have hnc86 := NB250_224.out
                 have hcz87_0 : w83.cell? ⟨gb224, 0, none⟩ = some (.int .i64 x225000_3) := (blk_cell BK224.out 0).trans rfl
                 have hcz87_1 : w83.cell? ⟨gb224, 1, none⟩ = some (.string x225001_3) := (blk_cell BK224.out 1).trans rfl
                 have hcz87_2 : w83.cell? ⟨gb224, 2, none⟩ = some (.string x225002_3) := (blk_cell BK224.out 2).trans rfl
                 have hcz87_3 : w83.cell? ⟨gb224, 3, none⟩ = some (.slice none 0 0) := (blk_cell BK224.out 3).trans rfl
                 have hcz87_4 : w83.cell? ⟨gb224, 4, none⟩ = some (.string x225004_3) := (blk_cell BK224.out 4).trans rfl
                 have hfz87_0 := blk_frozen BK224.out 0
                 have hfz87_1 := blk_frozen BK224.out 1
                 have hfz87_2 := blk_frozen BK224.out 2
                 have hfz87_3 := blk_frozen BK224.out 3
                 have hfz87_4 := blk_frozen BK224.out 4
                 try go_wp2
                 refine bodyPost_ret (results_list (rs := [.tmp 4, .cell 5 32, .tmp 6]) rfl (by simp) (.tmp (.cell gb224 32 #[.int .i64 0, .string (⟨#[]⟩ : ByteArray), .string (⟨#[]⟩ : ByteArray), .slice none 0 0, .string (⟨#[]⟩ : ByteArray)] (0, 0) _ rfl (by (with_reducible repeat (first | refine blk_drewN ?_ _ | refine blk_drew ?_ | refine blk_alloc ?_ _)); refine blk_put (cs := #[.int .i64 0, .string (⟨#[]⟩ : ByteArray), .string (⟨#[]⟩ : ByteArray), .slice none 0 0, .string x225004_3]) ?_ 4 _ rfl; (with_reducible repeat (first | refine blk_drewN ?_ _ | refine blk_drew ?_ | refine blk_alloc ?_ _)); refine blk_put (cs := #[.int .i64 0, .string (⟨#[]⟩ : ByteArray), .string (⟨#[]⟩ : ByteArray), .slice none 0 0, .string x225004_3]) ?_ 3 _ rfl; (with_reducible repeat (first | refine blk_drewN ?_ _ | refine blk_drew ?_ | refine blk_alloc ?_ _)); refine blk_put (cs := #[.int .i64 0, .string (⟨#[]⟩ : ByteArray), .string x225002_3, .slice none 0 0, .string x225004_3]) ?_ 2 _ rfl; (with_reducible repeat (first | refine blk_drewN ?_ _ | refine blk_drew ?_ | refine blk_alloc ?_ _)); refine blk_put (cs := #[.int .i64 0, .string x225001_3, .string x225002_3, .slice none 0 0, .string x225004_3]) ?_ 1 _ rfl; (with_reducible repeat (first | refine blk_drewN ?_ _ | refine blk_drew ?_ | refine blk_alloc ?_ _)); refine blk_put (cs := #[.int .i64 x225000_3, .string x225001_3, .string x225002_3, .slice none 0 0, .string x225004_3]) ?_ 0 _ rfl; (with_reducible repeat (first | refine blk_drewN ?_ _ | refine blk_drew ?_ | refine blk_alloc ?_ _)); exact BK224.out) Try.underlying32 rfl (by kernel_rfl) (.tmp .nil)))) rfl ?_
                 exact ⟨_, _, by first | rfl | exact congrArg (fun b => Ending.returned (Value.bool b)) (isE_ne _).symm | exact congrArg (fun b => Ending.returned (Value.bool b)) (isE_eq _).symm | (simp only [isE_ne, isE_eq, Bool.not_not]; done) | (simp [errW_none, errW_some] <;> rfl) | (simp [*, errW_none, errW_some] <;> rfl), by first | exact Kd.R_nil _ _ _ _ _ | exact Kd.N_nil _ _ _ _ _ | exact Kd.V_nil _ _ _ _ _ | exact Kd.Q_nil _ _ _ _ _ | exact Kd.S_nil _ _ _ _ _, by first | exact Kd.R_nil _ _ _ _ _ | exact Kd.N_nil _ _ _ _ _ | exact Kd.V_nil _ _ _ _ _ | exact Kd.Q_nil _ _ _ _ _ | exact Kd.S_nil _ _ _ _ _, by repeat (first | (with_reducible first | exact HB.out | apply below_alloc | apply pw_below_drewN | apply below_drew1 | refine below_set ?_ GE223.out | refine below_set ?_ GE224.out | refine below_set ?_ GE241.out | refine below_set ?_ GE242.out | refine below_set ?_ GE250.out) | exact HB.out)⟩
                ·
                 rw [if_neg c76] at H
                 have c76b0 : ((((rd_T47 x243003_2 x21_3).f0.f0).toList) == t247.toList && ((((rd_T47 x243003_2 x21_3).f0.f1).toList) == t248.toList)) = false := by simpa using c76
                 (try (have c76b1 : decide ((((rd_T47 x243003_2 x21_3).f0.f0).toList) = t247.toList && ((((rd_T47 x243003_2 x21_3).f0.f1).toList) == t248.toList)) = false := by simpa using c76))
                 (try (have c76b2 : ((((rd_T47 x243003_2 x21_3).f0.f0).toList) == t247.toList && ((((rd_T47 x243003_2 x21_3).f0.f1).toList) == t248.toList)) = false := by simpa using c76))
                 (try (have c76b3 : ¬ ((((rd_T47 x243003_2 x21_3).f0.f0).toList) = t247.toList && ((((rd_T47 x243003_2 x21_3).f0.f1).toList) == t248.toList)) := by simpa using c76))
                 clear c76
                 have H' := Aside0.mk H
                 clear H
                 have hnb88 := NB242_223.out
                 have hnc88 := NB223_242.out
                 have hnb89 := NB242_224.out
                 have hnc89 := NB224_242.out
                 have hnb90 := NB242_241.out
                 have hnc90 := NB241_242.out
                 have hnb91 := NB242_250.out
                 have hnc91 := NB250_242.out
                 have hcz92_0 : wr.cell? ⟨gb242, 0, none⟩ = some (.int .i64 1) := (blk_cell BK242.out 0).trans rfl
                 have hcz92_1 : wr.cell? ⟨gb242, 1, none⟩ = some (.string t238) := (blk_cell BK242.out 1).trans rfl
                 have hcz92_2 : wr.cell? ⟨gb242, 2, none⟩ = some (.string t239) := (blk_cell BK242.out 2).trans rfl
                 have hcz92_3 : wr.cell? ⟨gb242, 3, none⟩ = some (u243003) := (blk_cell BK242.out 3).trans rfl
                 have hcz92_4 : wr.cell? ⟨gb242, 4, none⟩ = some (.string (⟨#[]⟩ : ByteArray)) := (blk_cell BK242.out 4).trans rfl
                 have hfz92_0 := blk_frozen BK242.out 0
                 have hfz92_1 := blk_frozen BK242.out 1
                 have hfz92_2 := blk_frozen BK242.out 2
                 have hfz92_3 := blk_frozen BK242.out 3
                 have hfz92_4 := blk_frozen BK242.out 4
                 obtain ⟨Ao93, co93, eo93⟩ := Kd.R_slice HO_243003.out
                 subst eo93
                 try go_wp2
                 have n0_ := Aside0.mk (Kd.R_drew HO_7.out)
                 have n1_ := Aside0.mk (Kd.R_drew HO_243003.out)
                 have n2_ := Aside0.mk (blk_drew BK223.out)
                 have n3_ := Aside0.mk (blk_drew BK224.out)
                 have n4_ := Aside0.mk (blk_drew BK241.out)
                 have n5_ := Aside0.mk (blk_drew BK242.out)
                 have n6_ := Aside0.mk (blk_drew BK250.out)
                 have n7_ := Aside0.mk (below_drew1 HB.out)
                 clear HO_7
                 clear HO_243003
                 clear BK223
                 clear BK224
                 clear BK241
                 clear BK242
                 clear BK250
                 clear HB
                 have HO_7 := n0_
                 have HO_243003 := n1_
                 have BK223 := n2_
                 have BK224 := n3_
                 have BK241 := n4_
                 have BK242 := n5_
                 have BK250 := n6_
                 have HB := n7_
                 clear n0_ n1_ n2_ n3_ n4_ n5_ n6_ n7_
                 have p251 : 0 ≤ (x21_3 : Int) := of_decide_eq_true (by first | (with_reducible assumption) | assumption)
                 have q251 : x21_3 < (x243003_2.length : Int) := of_decide_eq_true (by first | (with_reducible assumption) | assumption)
                 obtain ⟨ad251, e251, hx251_0, hx251_1, hx251_2⟩ := at_T47 (Kd.R_reads' HO_243003.out).2.2 x21_3 p251 q251
                 cases e251
                 replace p251 := eq_true p251
                 replace q251 := eq_true q251
                 refine start_ (n := 8) (S := fun w' => w'.cell? ⟨gb242, 0, none⟩ = some (.int .i64 1) ∧ w'.cell? ⟨gb242, 1, none⟩ = some (.string t238) ∧ w'.cell? ⟨gb242, 2, none⟩ = some (.string t239) ∧ w'.cell? ⟨gb242, 3, none⟩ = some (.slice (some ad251) x243003_2.length co93) ∧ w'.cell? ⟨gb242, 4, none⟩ = some (.string (⟨#[]⟩ : ByteArray)) ∧ w'.cell? ⟨gb250, 0, none⟩ = some (.string t247) ∧ w'.cell? ⟨gb250, 1, none⟩ = some (.string t248) ∧ w'.cell? (ad251.add ((x21_3).toNat * 3)) = some (.string ((rd_T47 x243003_2 x21_3).f0.f0)) ∧ w'.cell? ⟨(ad251.add ((x21_3).toNat * 3)).block, (ad251.add ((x21_3).toNat * 3)).off + 1, none⟩ = some (.string ((rd_T47 x243003_2 x21_3).f0.f1)) ∧ w'.cell? ⟨(ad251.add ((x21_3).toNat * 3)).block, (ad251.add ((x21_3).toNat * 3)).off + 2, none⟩ = some (.string ((rd_T47 x243003_2 x21_3).f1))) (ds := []) #[false, false, false, false, false, false, false, false] (by kernel_rfl) rfl rfl ⟨(blk_cell BK242.out 0).trans rfl, (blk_cell BK242.out 1).trans rfl, (blk_cell BK242.out 2).trans rfl, (blk_cell BK242.out 3).trans rfl, (blk_cell BK242.out 4).trans rfl, (blk_cell BK250.out 0).trans rfl, (blk_cell BK250.out 1).trans rfl, hx251_0, hx251_1, hx251_2⟩ (fun hHeld => ?_); refine with_tabW orielref07_Enter.tab29 orielref07_Enter.bits29 (fun HT_ HW_ => ?_)
                 generalize wr.drew = w94 at HO_7 HO_243003 BK223 BK224 BK241 BK242 BK250 HB hx251_0 hx251_1 hx251_2 hHeld ⊢
                 refine pure_ (i := 0) (N := some 135) (v := ?_) (a' := ?_) #[true, false, false, false, false, false, false, false] rfl rfl (any_of HT_.out (by kernel_rfl)) (fun _ _ _ h => h) (Or.inl ⟨by rfl, ?_⟩) ?_ ?_
                 rotate_left
                 ·
                  intro w'
                  go_simp
                  with_reducible rfl
                 rotate_left
                 ·
                  simp only [Act.put, List.setIfInBounds_toArray, List.set_cons_zero, List.set_cons_succ, i64_w, i32_w]
                  rfl
                 refine pure_ (i := 2) (N := some 137) (v := ?_) (a' := ?_) #[true, false, true, false, false, false, false, false] rfl rfl (any_of HT_.out (by kernel_rfl)) (fun _ _ _ h => h) (Or.inl ⟨by rfl, ?_⟩) ?_ ?_
                 rotate_left
                 ·
                  intro w'
                  go_simp
                  with_reducible rfl
                 rotate_left
                 ·
                  simp only [Act.put, List.setIfInBounds_toArray, List.set_cons_zero, List.set_cons_succ, i64_w, i32_w]
                  rfl
                 refine take_ (i := 1) (N := some 136) (v := ?_) (a' := ?_) #[true, true, true, false, false, false, false, false] rfl rfl (take_ofW HT_.out HW_.out (by kernel_rfl)) (fun _ _ _ h => h) (Or.inl ⟨by rfl, ?_⟩) hHeld ?_ ?_
                 rotate_left
                 ·
                  rintro w' ⟨s0, s1, s2, s3, s4, s5, s6, s7, s8, s9⟩
                  go_simp
                  with_reducible rfl
                 rotate_left
                 ·
                  simp only [Act.put, List.setIfInBounds_toArray, List.set_cons_zero, List.set_cons_succ, i64_w, i32_w]
                  rfl
                 refine pure_ (i := 3) (N := some 138) (v := ?_) (a' := ?_) #[true, true, true, true, false, false, false, false] rfl rfl (any_of HT_.out (by kernel_rfl)) (fun _ _ _ h => h) (Or.inl ⟨by rfl, ?_⟩) ?_ ?_
                 rotate_left
                 ·
                  intro w'
                  go_simp
                  with_reducible rfl
                 rotate_left
                 ·
                  simp only [Act.put, List.setIfInBounds_toArray, List.set_cons_zero, List.set_cons_succ, i64_w, i32_w]
                  rfl
                 refine pure_ (i := 4) (N := some 139) (v := ?_) (a' := ?_) #[true, true, true, true, true, false, false, false] rfl rfl (any_of HT_.out (by kernel_rfl)) (fun _ _ _ h => h) (Or.inl ⟨by rfl, ?_⟩) ?_ ?_
                 rotate_left
                 ·
                  intro w'
                  go_simp
                  with_reducible rfl
                 rotate_left
                 ·
                  simp only [Act.put, List.setIfInBounds_toArray, List.set_cons_zero, List.set_cons_succ, i64_w, i32_w]
                  rfl
                 refine take_ (i := 5) (N := some 140) (v := ?_) (a' := ?_) #[true, true, true, true, true, true, false, false] rfl rfl (take_ofW HT_.out HW_.out (by kernel_rfl)) (fun _ _ _ h => h) (Or.inl ⟨by rfl, ?_⟩) hHeld ?_ ?_
                 rotate_left
                 ·
                  rintro w' ⟨s0, s1, s2, s3, s4, s5, s6, s7, s8, s9⟩
                  go_simp
                  with_reducible rfl
                 rotate_left
                 ·
                  simp only [Act.put, List.setIfInBounds_toArray, List.set_cons_zero, List.set_cons_succ, i64_w, i32_w]
                  rfl
                 refine take_ (i := 6) (N := some 141) (v := ?_) (a' := ?_) #[true, true, true, true, true, true, true, false] rfl rfl (take_ofW HT_.out HW_.out (by kernel_rfl)) (fun _ _ _ h => h) (Or.inl ⟨by rfl, ?_⟩) hHeld ?_ ?_
                 rotate_left
                 ·
                  rintro w' ⟨s0, s1, s2, s3, s4, s5, s6, s7, s8, s9⟩
                  go_simp
                  with_reducible rfl
                 rotate_left
                 ·
                  simp only [Act.put, List.setIfInBounds_toArray, List.set_cons_zero, List.set_cons_succ, i64_w, i32_w]
                  rfl
                 refine pure_ (i := 7) (N := some 142) (v := ?_) (a' := ?_) #[true, true, true, true, true, true, true, true] rfl rfl (any_of HT_.out (by kernel_rfl)) (fun _ _ _ h => h) (Or.inl ⟨by rfl, ?_⟩) ?_ ?_
                 rotate_left
                 ·
                  intro w'
                  go_simp
                  with_reducible rfl
                 rotate_left
                 ·
                  simp only [Act.put, List.setIfInBounds_toArray, List.set_cons_zero, List.set_cons_succ, i64_w, i32_w]
                  rfl
                 refine done_ (done_of HT_.out (by kernel_rfl)) ?_
                 try go_wp2
                 go_roundg k3
                 case measure => have := HK1.out; have := HK2.out; have := HK3.out; omega
                 case rel => exact ⟨(wrap64 (x21_3 + 1)), (x225000_3), (x225001_3), (x225002_3), (x225004_3), (by first | rfl | (simp; done) | (simp [*]; done)), H', ⟨by have := HK1.out; have := HK2.out; have := HK3.out; omega⟩, ⟨by (with_reducible repeat (first | apply Kd.R_alloc | apply Kd.R_drewN | apply Kd.R_drew)); exact HO_7.out⟩, ⟨by (with_reducible repeat (first | apply Kd.R_alloc | apply Kd.R_drewN | apply Kd.R_drew)); exact HO_243003.out⟩, ⟨by (with_reducible repeat (first | refine blk_drewN ?_ _ | refine blk_drew ?_ | refine blk_alloc ?_ _)); exact BK223.out⟩, ⟨by (with_reducible repeat (first | refine blk_drewN ?_ _ | refine blk_drew ?_ | refine blk_alloc ?_ _)); exact BK224.out⟩, ⟨by (with_reducible repeat (first | refine blk_drewN ?_ _ | refine blk_drew ?_ | refine blk_alloc ?_ _)); exact BK241.out⟩, ⟨by (with_reducible repeat (first | refine blk_drewN ?_ _ | refine blk_drew ?_ | refine blk_alloc ?_ _)); exact BK242.out⟩, ⟨by (with_reducible repeat (first | refine blk_drewN ?_ _ | refine blk_drew ?_ | refine blk_alloc ?_ _)); exact BK250.out⟩, ⟨by repeat (first | (with_reducible first | exact HB.out | apply below_alloc | apply pw_below_drewN | apply below_drew1 | refine below_set ?_ GE223.out | refine below_set ?_ GE224.out | refine below_set ?_ GE241.out | refine below_set ?_ GE242.out | refine below_set ?_ GE250.out) | exact HB.out)⟩⟩
               ·
                rw [if_neg c75] at H
                exact absurd H (by simp)
              ·
               rw [if_neg c74] at H
               have c74b0 : decide (x21_3 < (x243003_2.length : Int)) = false := decide_eq_false c74
               clear c74
               by_cases c95 : 0 ≤ x16_2
               ·
                rw [if_pos c95] at H
                have c95b0 : decide (0 ≤ x16_2) = true := decide_eq_true c95
                clear c95
                by_cases c96 : x16_2 < (l1_1.length : Int)
                ·
                 rw [if_pos c96] at H
                 have c96b0 : decide (x16_2 < (l1_1.length : Int)) = true := decide_eq_true c96
                 clear c96
                 by_cases c97 : x243003_2.length < 2932031007402
                 ·
                  rw [if_pos c97] at H
                  have LMc97 := Aside0.mk c97
                  clear c97
                  obtain ⟨y253, hy253⟩ : ∃ y_ : List (S47), y_ = (x243003_2 ++ [(⟨(⟨t247, t248⟩ : S29), (rd_T51 l1_1 x16_2).f1⟩ : S47)]) := ⟨_, rfl⟩
                  replace H : (orielref07_Enter.l1 k3 x7_1 (wrap64 (x16_2 + 1)) a1_0 l1_1 1 t238 t239 y253 (⟨#[]⟩ : ByteArray)) = some (r1, r2, r3, r4, r5, r6, r7) := by first | (rw [hy253]; with_reducible exact H) | (have H2_ := (Option.bind_some _ _).symm.trans H; rw [hy253]; with_reducible exact H2_) | (have H2_ := (Option.bind_some _ _).symm.trans H; with_reducible exact H2_) | with_reducible exact H | (rw [hy253]; exact H) | exact H
                  have Ny253 := Aside0.mk hy253
                  clear hy253
                  have H' := Aside0.mk H
                  clear H
                  have hnb98 := NB242_223.out
                  have hnc98 := NB223_242.out
                  have hnb99 := NB242_224.out
                  have hnc99 := NB224_242.out
                  have hnb100 := NB242_241.out
                  have hnc100 := NB241_242.out
                  have hnb101 := NB242_250.out
                  have hnc101 := NB250_242.out
                  have hcz102_0 : wr.cell? ⟨gb242, 0, none⟩ = some (.int .i64 1) := (blk_cell BK242.out 0).trans rfl
                  have hcz102_1 : wr.cell? ⟨gb242, 1, none⟩ = some (.string t238) := (blk_cell BK242.out 1).trans rfl
                  have hcz102_2 : wr.cell? ⟨gb242, 2, none⟩ = some (.string t239) := (blk_cell BK242.out 2).trans rfl
                  have hcz102_3 : wr.cell? ⟨gb242, 3, none⟩ = some (u243003) := (blk_cell BK242.out 3).trans rfl
                  have hcz102_4 : wr.cell? ⟨gb242, 4, none⟩ = some (.string (⟨#[]⟩ : ByteArray)) := (blk_cell BK242.out 4).trans rfl
                  have hfz102_0 := blk_frozen BK242.out 0
                  have hfz102_1 := blk_frozen BK242.out 1
                  have hfz102_2 := blk_frozen BK242.out 2
                  have hfz102_3 := blk_frozen BK242.out 3
                  have hfz102_4 := blk_frozen BK242.out 4
                  obtain ⟨Ao103, co103, eo103⟩ := Kd.R_slice HO_243003.out
                  subst eo103
                  try go_wp2
                  have n0_ := Aside0.mk (Kd.R_drew HO_7.out)
                  have n1_ := Aside0.mk (Kd.R_drew HO_243003.out)
                  have n2_ := Aside0.mk (blk_drew BK223.out)
                  have n3_ := Aside0.mk (blk_drew BK224.out)
                  have n4_ := Aside0.mk (blk_drew BK241.out)
                  have n5_ := Aside0.mk (blk_drew BK242.out)
                  have n6_ := Aside0.mk (blk_drew BK250.out)
                  have n7_ := Aside0.mk (below_drew1 HB.out)
                  clear HO_7
                  clear HO_243003
                  clear BK223
                  clear BK224
                  clear BK241
                  clear BK242
                  clear BK250
                  clear HB
                  have HO_7 := n0_
                  have HO_243003 := n1_
                  have BK223 := n2_
                  have BK224 := n3_
                  have BK241 := n4_
                  have BK242 := n5_
                  have BK250 := n6_
                  have HB := n7_
                  clear n0_ n1_ n2_ n3_ n4_ n5_ n6_ n7_
                  have p252 : 0 ≤ (x16_2 : Int) := of_decide_eq_true (by first | (with_reducible assumption) | assumption)
                  have q252 : x16_2 < (l1_1.length : Int) := of_decide_eq_true (by first | (with_reducible assumption) | assumption)
                  obtain ⟨ad252, e252, hx252_0, hx252_1⟩ := at_T51 HR1_1.out x16_2 p252 q252
                  have hw252_1 := hx252_1
                  have hw252_0 := hx252_0
                  obtain rfl : ad243 = ad252 := (by injection e252)
                  replace hx252_0 := (HB.out.cell (World.block_lt_of_cell? w _ hx252_0)).trans hx252_0
                  replace hx252_1 := (HB.out.cell (World.block_lt_of_cell? w _ hx252_1)).trans hx252_1
                  replace p252 := eq_true p252
                  replace q252 := eq_true q252
                  refine start_ (n := 14) (S := fun w' => w'.cell? ⟨gb242, 0, none⟩ = some (.int .i64 1) ∧ w'.cell? ⟨gb242, 1, none⟩ = some (.string t238) ∧ w'.cell? ⟨gb242, 2, none⟩ = some (.string t239) ∧ w'.cell? ⟨gb242, 3, none⟩ = some (.slice Ao103 x243003_2.length co103) ∧ w'.cell? ⟨gb242, 4, none⟩ = some (.string (⟨#[]⟩ : ByteArray)) ∧ w'.cell? ⟨gb250, 0, none⟩ = some (.string t247) ∧ w'.cell? ⟨gb250, 1, none⟩ = some (.string t248) ∧ w'.cell? ⟨gb223, 0, none⟩ = some (.string a1_0) ∧ w'.cell? ⟨gb223, 1, none⟩ = some (.slice (some ad243) l1_1.length c1_1) ∧ w'.cell? (ad243.add ((x16_2).toNat * 2)) = some (.string ((rd_T51 l1_1 x16_2).f0)) ∧ w'.cell? ⟨(ad243.add ((x16_2).toNat * 2)).block, (ad243.add ((x16_2).toNat * 2)).off + 1, none⟩ = some (.string ((rd_T51 l1_1 x16_2).f1))) (ds := [13]) #[false, false, false, false, false, false, false, false, false, false, false, false, false, false] (by kernel_rfl) rfl rfl ⟨(blk_cell BK242.out 0).trans rfl, (blk_cell BK242.out 1).trans rfl, (blk_cell BK242.out 2).trans rfl, (blk_cell BK242.out 3).trans rfl, (blk_cell BK242.out 4).trans rfl, (blk_cell BK250.out 0).trans rfl, (blk_cell BK250.out 1).trans rfl, (blk_cell BK223.out 0).trans rfl, (blk_cell BK223.out 1).trans rfl, ((HB.out.cell (World.block_lt_of_cell? w _ hw252_0)).trans hw252_0), ((HB.out.cell (World.block_lt_of_cell? w _ hw252_1)).trans hw252_1)⟩ (fun hHeld => ?_); refine with_tabW orielref07_Enter.tab31 orielref07_Enter.bits31 (fun HT_ HW_ => ?_)
                  generalize wr.drew = w104 at HO_7 HO_243003 BK223 BK224 BK241 BK242 BK250 HB hx252_0 hx252_1 hHeld ⊢
                  refine pure_ (i := 0) (N := some 144) (v := ?_) (a' := ?_) #[true, false, false, false, false, false, false, false, false, false, false, false, false, false] rfl rfl (any_of HT_.out (by kernel_rfl)) (fun _ _ _ h => h) (Or.inl ⟨by rfl, ?_⟩) ?_ ?_
                  rotate_left
                  ·
                   intro w'
                   go_simp
                   with_reducible rfl
                  rotate_left
                  ·
                   simp only [Act.put, List.setIfInBounds_toArray, List.set_cons_zero, List.set_cons_succ, i64_w, i32_w]
                   rfl
                  refine pure_ (i := 3) (N := some 147) (v := ?_) (a' := ?_) #[true, false, false, true, false, false, false, false, false, false, false, false, false, false] rfl rfl (any_of HT_.out (by kernel_rfl)) (fun _ _ _ h => h) (Or.inl ⟨by rfl, ?_⟩) ?_ ?_
                  rotate_left
                  ·
                   intro w'
                   go_simp
                   with_reducible rfl
                  rotate_left
                  ·
                   simp only [Act.put, List.setIfInBounds_toArray, List.set_cons_zero, List.set_cons_succ, i64_w, i32_w]
                   rfl
                  refine pure_ (i := 5) (N := some 149) (v := ?_) (a' := ?_) #[true, false, false, true, false, true, false, false, false, false, false, false, false, false] rfl rfl (any_of HT_.out (by kernel_rfl)) (fun _ _ _ h => h) (Or.inl ⟨by rfl, ?_⟩) ?_ ?_
                  rotate_left
                  ·
                   intro w'
                   go_simp
                   with_reducible rfl
                  rotate_left
                  ·
                   simp only [Act.put, List.setIfInBounds_toArray, List.set_cons_zero, List.set_cons_succ, i64_w, i32_w]
                   rfl
                  refine take_ (i := 1) (N := some 145) (v := ?_) (a' := ?_) #[true, true, false, true, false, true, false, false, false, false, false, false, false, false] rfl rfl (take_ofW HT_.out HW_.out (by kernel_rfl)) (fun _ _ _ h => h) (Or.inl ⟨by rfl, ?_⟩) hHeld ?_ ?_
                  rotate_left
                  ·
                   rintro w' ⟨s0, s1, s2, s3, s4, s5, s6, s7, s8, s9, s10⟩
                   go_simp
                   with_reducible rfl
                  rotate_left
                  ·
                   simp only [Act.put, List.setIfInBounds_toArray, List.set_cons_zero, List.set_cons_succ, i64_w, i32_w]
                   rfl
                  refine take_ (i := 2) (N := some 146) (v := ?_) (a' := ?_) #[true, true, true, true, false, true, false, false, false, false, false, false, false, false] rfl rfl (take_ofW HT_.out HW_.out (by kernel_rfl)) (fun _ _ _ h => h) (Or.inl ⟨by rfl, ?_⟩) hHeld ?_ ?_
                  rotate_left
                  ·
                   rintro w' ⟨s0, s1, s2, s3, s4, s5, s6, s7, s8, s9, s10⟩
                   go_simp
                   with_reducible rfl
                  rotate_left
                  ·
                   simp only [Act.put, List.setIfInBounds_toArray, List.set_cons_zero, List.set_cons_succ, i64_w, i32_w]
                   rfl
                  refine take_ (i := 4) (N := some 148) (v := ?_) (a' := ?_) #[true, true, true, true, true, true, false, false, false, false, false, false, false, false] rfl rfl (take_ofW HT_.out HW_.out (by kernel_rfl)) (fun _ _ _ h => h) (Or.inl ⟨by rfl, ?_⟩) hHeld ?_ ?_
                  rotate_left
                  ·
                   rintro w' ⟨s0, s1, s2, s3, s4, s5, s6, s7, s8, s9, s10⟩
                   go_simp
                   with_reducible rfl
                  rotate_left
                  ·
                   simp only [Act.put, List.setIfInBounds_toArray, List.set_cons_zero, List.set_cons_succ, i64_w, i32_w]
                   rfl
                  refine pure_ (i := 6) (N := some 150) (v := ?_) (a' := ?_) #[true, true, true, true, true, true, true, false, false, false, false, false, false, false] rfl rfl (any_of HT_.out (by kernel_rfl)) (fun _ _ _ h => h) (Or.inl ⟨by rfl, ?_⟩) ?_ ?_
                  rotate_left
                  ·
                   intro w'
                   go_simp
                   with_reducible rfl
                  rotate_left
                  ·
                   simp only [Act.put, List.setIfInBounds_toArray, List.set_cons_zero, List.set_cons_succ, i64_w, i32_w]
                   rfl
                  refine pure_ (i := 7) (N := some 151) (v := ?_) (a' := ?_) #[true, true, true, true, true, true, true, true, false, false, false, false, false, false] rfl rfl (any_of HT_.out (by kernel_rfl)) (fun _ _ _ h => h) (Or.inl ⟨by rfl, ?_⟩) ?_ ?_
                  rotate_left
                  ·
                   intro w'
                   go_simp
                   with_reducible rfl
                  rotate_left
                  ·
                   simp only [Act.put, List.setIfInBounds_toArray, List.set_cons_zero, List.set_cons_succ, i64_w, i32_w]
                   rfl
                  refine take_ (i := 8) (N := some 152) (v := ?_) (a' := ?_) #[true, true, true, true, true, true, true, true, true, false, false, false, false, false] rfl rfl (take_ofW HT_.out HW_.out (by kernel_rfl)) (fun _ _ _ h => h) (Or.inl ⟨by rfl, ?_⟩) hHeld ?_ ?_
                  rotate_left
                  ·
                   rintro w' ⟨s0, s1, s2, s3, s4, s5, s6, s7, s8, s9, s10⟩
                   go_simp
                   with_reducible rfl
                  rotate_left
                  ·
                   simp only [Act.put, List.setIfInBounds_toArray, List.set_cons_zero, List.set_cons_succ, i64_w, i32_w]
                   rfl
                  refine pure_ (i := 9) (N := some 153) (v := ?_) (a' := ?_) #[true, true, true, true, true, true, true, true, true, true, false, false, false, false] rfl rfl (any_of HT_.out (by kernel_rfl)) (fun _ _ _ h => h) (Or.inl ⟨by rfl, ?_⟩) ?_ ?_
                  rotate_left
                  ·
                   intro w'
                   go_simp
                   with_reducible rfl
                  rotate_left
                  ·
                   simp only [Act.put, List.setIfInBounds_toArray, List.set_cons_zero, List.set_cons_succ, i64_w, i32_w]
                   rfl
                  refine one_ (i := 10) (N := some 154) #[true, true, true, true, true, true, true, true, true, true, true, false, false, false] rfl rfl (one_of HT_.out (by kernel_rfl)) (by decide) (fun K hK => ?_)
                  refine value_ (w1 := ?_) (v := ?_) (by rfl) rfl ?_ ?_
                  rotate_left 2
                  ·
                   go_simp
                   constructor
                   ·
                    rfl
                   ·
                    rfl
                  refine hK.out _ _ ⟨(blk_cell (blk_alloc BK242.out _) 0).trans rfl, (blk_cell (blk_alloc BK242.out _) 1).trans rfl, (blk_cell (blk_alloc BK242.out _) 2).trans rfl, (blk_cell (blk_alloc BK242.out _) 3).trans rfl, (blk_cell (blk_alloc BK242.out _) 4).trans rfl, (blk_cell (blk_alloc BK250.out _) 0).trans rfl, (blk_cell (blk_alloc BK250.out _) 1).trans rfl, (blk_cell (blk_alloc BK223.out _) 0).trans rfl, (blk_cell (blk_alloc BK223.out _) 1).trans rfl, (World.cell?_alloc_lt _ _ _ (World.block_lt_of_cell? _ _ (((HB.out.cell (World.block_lt_of_cell? w _ hw252_0)).trans hw252_0)))).trans (((HB.out.cell (World.block_lt_of_cell? w _ hw252_0)).trans hw252_0)), (World.cell?_alloc_lt _ _ _ (World.block_lt_of_cell? _ _ (((HB.out.cell (World.block_lt_of_cell? w _ hw252_1)).trans hw252_1)))).trans (((HB.out.cell (World.block_lt_of_cell? w _ hw252_1)).trans hw252_1))⟩ (fun hHeld => ?_)
                  clear hK K
                  refine norm_ (a' := ?_) ?_ ?_
                  rotate_left
                  ·
                   show Act.put _ (some 154) _ = _
                   simp only [Act.put, List.setIfInBounds_toArray, List.set_cons_zero, List.set_cons_succ, i64_w, i32_w]
                   rfl
                  refine one_ (i := 11) (N := some 155) #[true, true, true, true, true, true, true, true, true, true, true, true, false, false] rfl rfl (one_of HT_.out (by kernel_rfl)) (by decide) (fun K hK => ?_)
                  refine Kd.R_append_step k47 (w0 := w) w.heap.size (by rfl) (.tmp 145) (.tmp 154) 30 47 (.agg #[(.string ⟨#[]⟩), (.string ⟨#[]⟩), (.string ⟨#[]⟩)]) 48 rfl Try.underlying30 info47 rfl (by decide) (by omega) (.slice Ao103 x243003_2.length co103) x243003_2 (⟨(⟨t247, t248⟩ : S29), (rd_T51 l1_1 x16_2).f1⟩ : S47) [.string t247, .string t248, .string ((rd_T51 l1_1 x16_2).f1)] (fun _ => True) (fun _ => False) rfl rfl ?aP (fun _ hk => hk.elim) ?aF ?aO ?aB ?aS ?aL ?_
                  (case aP => exact k47_mkM _ _ _ (⟨(⟨t247, t248⟩ : S29), (rd_T51 l1_1 x16_2).f1⟩ : S47))
                  (case aB => exact (by repeat (first | (with_reducible first | exact HB.out | apply below_alloc | apply pw_below_drewN | apply below_drew1 | refine below_set ?_ GE223.out | refine below_set ?_ GE224.out | refine below_set ?_ GE241.out | refine below_set ?_ GE242.out | refine below_set ?_ GE250.out) | exact HB.out)))
                  (case aF => exact (fun _ _ => trivial))
                  (case aO => exact (by (with_reducible repeat (first | apply Kd.R_alloc | apply Kd.R_drewN | apply Kd.R_drew)); exact HO_243003.out))
                  (case aS => exact (below_size (by repeat (first | (with_reducible first | exact HB.out | apply below_alloc | apply pw_below_drewN | apply below_drew1 | refine below_set ?_ GE223.out | refine below_set ?_ GE224.out | refine below_set ?_ GE241.out | refine below_set ?_ GE242.out | refine below_set ?_ GE250.out) | exact HB.out))))
                  (case aL => have := LMc97.out; omega)
                  intro v254 w105 ho hb hg hat
                  rw [← Ny253.out] at ho
                  have n0_ := Aside0.mk (Kd.R_over' (by (with_reducible repeat (first | apply Kd.R_alloc | apply Kd.R_drewN | apply Kd.R_drew)); exact HO_7.out) (Kd.R_typed (by (with_reducible repeat (first | apply Kd.R_alloc | apply Kd.R_drewN | apply Kd.R_drew)); exact HO_243003.out)) (by decide) hg)
                  have n1_ := Aside0.mk (blk_grown (g := gb223) (o := .cells #[.string a1_0, .slice (some ad243) l1_1.length c1_1] 25 (0, 0)) (by (with_reducible repeat (first | refine blk_drewN ?_ _ | refine blk_drew ?_ | refine blk_alloc ?_ _)); exact BK223.out) hg (Kd.R_ne HO_243003.out BK223.out (by decide)))
                  have n2_ := Aside0.mk (blk_grown (g := gb224) (o := .cells #[.int .i64 x225000_3, .string x225001_3, .string x225002_3, .slice none 0 0, .string x225004_3] 32 (0, 0)) (by (with_reducible repeat (first | refine blk_drewN ?_ _ | refine blk_drew ?_ | refine blk_alloc ?_ _)); exact BK224.out) hg (Kd.R_ne HO_243003.out BK224.out (by decide)))
                  have n3_ := Aside0.mk (blk_grown (g := gb241) (o := .cells #[.string t238, .string t239] 29 (0, 0)) (by (with_reducible repeat (first | refine blk_drewN ?_ _ | refine blk_drew ?_ | refine blk_alloc ?_ _)); exact BK241.out) hg (Kd.R_ne HO_243003.out BK241.out (by decide)))
                  have n4_ := Aside0.mk (blk_grown (g := gb242) (o := .cells #[.int .i64 1, .string t238, .string t239, .slice Ao103 x243003_2.length co103, .string (⟨#[]⟩ : ByteArray)] 32 (0, 0)) (by (with_reducible repeat (first | refine blk_drewN ?_ _ | refine blk_drew ?_ | refine blk_alloc ?_ _)); exact BK242.out) hg (Kd.R_ne HO_243003.out BK242.out (by decide)))
                  have n5_ := Aside0.mk (blk_grown (g := gb250) (o := .cells #[.string t247, .string t248] 29 (0, 0)) (by (with_reducible repeat (first | refine blk_drewN ?_ _ | refine blk_drew ?_ | refine blk_alloc ?_ _)); exact BK250.out) hg (Kd.R_ne HO_243003.out BK250.out (by decide)))
                  have n6_ := Aside0.mk (hb)
                  have n7_ := Aside0.mk (ho)
                  clear HO_7
                  clear BK223
                  clear BK224
                  clear BK241
                  clear BK242
                  clear BK250
                  clear HB
                  clear HO_243003
                  have HO_7 := n0_
                  have BK223 := n1_
                  have BK224 := n2_
                  have BK241 := n3_
                  have BK242 := n4_
                  have BK250 := n5_
                  have HB := n6_
                  have HO255 := n7_
                  clear n0_ n1_ n2_ n3_ n4_ n5_ n6_ n7_
                  clear ho hb hg hat
                  obtain ⟨Ao106, co106, eo106⟩ := Kd.R_slice HO255.out
                  (first | subst eo106 | (injection eo106 with f1_ f2_ f3_; have f4_ := f1_.symm; have f5_ := f3_.symm; clear f1_ f2_ f3_; subst f4_; subst f5_))
                  refine hK.out _ _ ⟨(blk_cell BK242.out 0).trans rfl, (blk_cell BK242.out 1).trans rfl, (blk_cell BK242.out 2).trans rfl, (blk_cell BK242.out 3).trans rfl, (blk_cell BK242.out 4).trans rfl, (blk_cell BK250.out 0).trans rfl, (blk_cell BK250.out 1).trans rfl, (blk_cell BK223.out 0).trans rfl, (blk_cell BK223.out 1).trans rfl, ((HB.out.cell (World.block_lt_of_cell? w _ hw252_0)).trans hw252_0), ((HB.out.cell (World.block_lt_of_cell? w _ hw252_1)).trans hw252_1)⟩ (fun hHeld => ?_)
                  clear hK K
                  refine norm_ (a' := ?_) ?_ ?_
                  rotate_left
                  ·
                   show Act.put _ (some 155) _ = _
                   simp only [Act.put, List.setIfInBounds_toArray, List.set_cons_zero, List.set_cons_succ, i64_w, i32_w]
                   rfl
                  refine pure_ (i := 12) (N := some 156) (v := ?_) (a' := ?_) #[true, true, true, true, true, true, true, true, true, true, true, true, true, false] rfl rfl (any_of HT_.out (by kernel_rfl)) (fun _ _ _ h => h) (Or.inl ⟨by rfl, ?_⟩) ?_ ?_
                  rotate_left
                  ·
                   intro w'
                   go_simp
                   with_reducible rfl
                  rotate_left
                  ·
                   simp only [Act.put, List.setIfInBounds_toArray, List.set_cons_zero, List.set_cons_succ, i64_w, i32_w]
                   rfl
                  refine last_ (i := 13) (N := none) #[true, true, true, true, true, true, true, true, true, true, true, true, true, true] rfl rfl (one_of HT_.out (by kernel_rfl)) (by decide) (fun K hK => ?_)
                  have hs107 : w105.cell? ⟨gb242, 3, none⟩ = some (.slice Ao103 x243003_2.length co103) := (blk_cell BK242.out 3).trans rfl
                  have hfs107 := blk_frozen BK242.out 3
                  have hns107_0 := NB223_242.out
                  have hns107_1 := NB224_242.out
                  have hns107_2 := NB241_242.out
                  have hns107_4 := NB250_242.out
                  have hms107_0 := NB242_223.out
                  have hms107_1 := NB242_224.out
                  have hms107_2 := NB242_241.out
                  have hms107_4 := NB242_250.out
                  refine skip_ (w1 := ?_) (by rfl) rfl ?_ ?_
                  rotate_left
                  ·
                   go_simp
                   rfl
                  refine hK.out _ _ ?_
                  clear hK K
                  refine done_ (done_of HT_.out (by kernel_rfl)) ?_
                  try go_wp2
                  go_roundg k3
                  case measure => have := HK1.out; have := HK2.out; have := HK3.out; omega
                  case rel => exact ⟨(wrap64 (x16_2 + 1)), (x225000_3), (x225001_3), (x225002_3), (x225004_3), (y253), (.slice Ao106 y253.length co106), (by first | rfl | (simp; done) | (simp [*]; done)), H', ⟨by have := HK1.out; have := HK2.out; have := HK3.out; omega⟩, ⟨by (with_reducible repeat (first | apply Kd.R_alloc | apply Kd.R_drewN | apply Kd.R_drew)); exact Kd.R_mono (Kd.R_far (p := ⟨gb242, 3, none⟩) (Kd.R_types HO_7.out BK242.out (by decide)) (fun _ hk => hk.2) (.slice Ao106 y253.length co106)) (fun _ hk => trivial)⟩, ⟨by (with_reducible repeat (first | apply Kd.R_alloc | apply Kd.R_drewN | apply Kd.R_drew)); exact Kd.R_mono (Kd.R_far (p := ⟨gb242, 3, none⟩) (Kd.R_types HO255.out BK242.out (by decide)) (fun _ hk => hk.2) (.slice Ao106 y253.length co106)) (fun _ hk => trivial)⟩, ⟨by (with_reducible repeat (first | refine blk_drewN ?_ _ | refine blk_drew ?_ | refine blk_alloc ?_ _)); refine blk_far ?_ NB223_242.out _; (with_reducible repeat (first | refine blk_drewN ?_ _ | refine blk_drew ?_ | refine blk_alloc ?_ _)); exact BK223.out⟩, ⟨by (with_reducible repeat (first | refine blk_drewN ?_ _ | refine blk_drew ?_ | refine blk_alloc ?_ _)); refine blk_far ?_ NB224_242.out _; (with_reducible repeat (first | refine blk_drewN ?_ _ | refine blk_drew ?_ | refine blk_alloc ?_ _)); exact BK224.out⟩, ⟨by (with_reducible repeat (first | refine blk_drewN ?_ _ | refine blk_drew ?_ | refine blk_alloc ?_ _)); refine blk_far ?_ NB241_242.out _; (with_reducible repeat (first | refine blk_drewN ?_ _ | refine blk_drew ?_ | refine blk_alloc ?_ _)); exact BK241.out⟩, ⟨by (with_reducible repeat (first | refine blk_drewN ?_ _ | refine blk_drew ?_ | refine blk_alloc ?_ _)); refine blk_put (cs := #[.int .i64 1, .string t238, .string t239, .slice Ao103 x243003_2.length co103, .string (⟨#[]⟩ : ByteArray)]) ?_ 3 _ rfl; (with_reducible repeat (first | refine blk_drewN ?_ _ | refine blk_drew ?_ | refine blk_alloc ?_ _)); exact BK242.out⟩, ⟨by repeat (first | (with_reducible first | exact HB.out | apply below_alloc | apply pw_below_drewN | apply below_drew1 | refine below_set ?_ GE223.out | refine below_set ?_ GE224.out | refine below_set ?_ GE241.out | refine below_set ?_ GE242.out | refine below_set ?_ GE250.out) | exact HB.out)⟩⟩
                 ·
                  rw [if_neg c97] at H
                  exact absurd H (by simp)
                ·
                 rw [if_neg c96] at H
                 exact absurd H (by simp)
               ·
                rw [if_neg c95] at H
                exact absurd H (by simp)
           ·
            replace c60 := Bool.eq_false_iff.mpr c60
            subst c60
            have H1 : (some (([] : List (S44)), 0, (⟨#[]⟩ : ByteArray), (⟨#[]⟩ : ByteArray), ([] : List (S47)), (⟨#[]⟩ : ByteArray), 9)) = some (r1, r2, r3, r4, r5, r6, r7) := by rw [if_neg (show ¬ (false = true) by decide)] at H; exact H
            clear H
            have H := H1
            clear H1
            simp only [Option.some.injEq, Prod.mk.injEq] at H
            obtain ⟨rfl, rfl, rfl, rfl, rfl, rfl, rfl⟩ := H
            have hnb108 := NB223_224.out
            have hnc108 := NB224_223.out
            have hnb109 := NB223_241.out
            have hnc109 := NB241_223.out
            have hnb110 := NB223_242.out
            have hnc110 := NB242_223.out
            have hcz111_0 : wr.cell? ⟨gb223, 0, none⟩ = some (.string a1_0) := (blk_cell BK223.out 0).trans rfl
            have hcz111_1 : wr.cell? ⟨gb223, 1, none⟩ = some (.slice A1_1 l1_1.length c1_1) := (blk_cell BK223.out 1).trans rfl
            have hfz111_0 := blk_frozen BK223.out 0
            have hfz111_1 := blk_frozen BK223.out 1
            have p243 : 0 ≤ (x16_2 : Int) := of_decide_eq_true (by first | (with_reducible assumption) | assumption)
            have q243 : x16_2 < (l1_1.length : Int) := of_decide_eq_true (by first | (with_reducible assumption) | assumption)
            obtain ⟨ad243, e243, hx243_0, hx243_1⟩ := at_T51 HR1_1.out x16_2 p243 q243
            cases e243
            replace hx243_0 := (HB.out.cell (World.block_lt_of_cell? w _ hx243_0)).trans hx243_0
            replace hx243_1 := (HB.out.cell (World.block_lt_of_cell? w _ hx243_1)).trans hx243_1
            replace p243 := eq_true p243
            replace q243 := eq_true q243
            go_wp2_with (first | ((with_reducible refine gate_callee (f := 28) rfl ?_); refine goesL_ (some 110) rfl rfl Try.func28 (by kernel_rfl) rfl #[.agg #[.string ((rd_T51 l1_1 x16_2).f0), .string ((rd_T51 l1_1 x16_2).f1)]] rfl (by (try simp only [List.map_toArray, List.map_cons, List.map_nil]); first | done | rfl | (simp only [List.length_drop, List.length_take]; rfl)) ?_; (with_reducible refine (orielref07_binds.calls ((rd_T51 l1_1 x16_2).f0) ((rd_T51 l1_1 x16_2).f1) t244 false _ A52.out).mono ?_); rintro e w112 ⟨rfl, hb⟩; refine ⟨_, rfl, ?_⟩; have n0_ := Aside0.mk (Kd.R_below (by (with_reducible repeat (first | apply Kd.R_alloc | apply Kd.R_drewN | apply Kd.R_drew)); exact HO_7.out) hb); have n1_ := Aside0.mk (Kd.R_below (by (with_reducible repeat (first | apply Kd.R_alloc | apply Kd.R_drewN | apply Kd.R_drew)); exact HO_243003.out) hb); have n2_ := Aside0.mk (blk_below (g := gb223) (o := .cells #[.string a1_0, .slice (some ad243) l1_1.length c1_1] 25 (0, 0)) (by (with_reducible repeat (first | refine blk_drewN ?_ _ | refine blk_drew ?_ | refine blk_alloc ?_ _)); exact BK223.out) hb); have n3_ := Aside0.mk (blk_below (g := gb224) (o := .cells #[.int .i64 x225000_2, .string x225001_2, .string x225002_2, .slice none 0 0, .string x225004_2] 32 (0, 0)) (by (with_reducible repeat (first | refine blk_drewN ?_ _ | refine blk_drew ?_ | refine blk_alloc ?_ _)); exact BK224.out) hb); have n4_ := Aside0.mk (blk_below (g := gb241) (o := .cells #[.string t238, .string t239] 29 (0, 0)) (by (with_reducible repeat (first | refine blk_drewN ?_ _ | refine blk_drew ?_ | refine blk_alloc ?_ _)); exact BK241.out) hb); have n5_ := Aside0.mk (blk_below (g := gb242) (o := .cells #[.int .i64 1, .string t238, .string t239, u243003, .string (⟨#[]⟩ : ByteArray)] 32 (0, 0)) (by (with_reducible repeat (first | refine blk_drewN ?_ _ | refine blk_drew ?_ | refine blk_alloc ?_ _)); exact BK242.out) hb); have n6_ := Aside0.mk (below_step (by repeat (first | (with_reducible first | exact HB.out | apply below_alloc | apply pw_below_drewN | apply below_drew1 | refine below_set ?_ GE223.out | refine below_set ?_ GE224.out | refine below_set ?_ GE241.out | refine below_set ?_ GE242.out) | exact HB.out)) hb); clear HO_7; clear HO_243003; clear BK223; clear BK224; clear BK241; clear BK242; clear HB; have HO_7 := n0_; have HO_243003 := n1_; have BK223 := n2_; have BK224 := n3_; have BK241 := n4_; have BK242 := n5_; have HB := n6_; clear n0_ n1_ n2_ n3_ n4_ n5_ n6_; (try clear hb); (try clear hb2); (try clear hk); (try clear hi); have hcz113_0 : w112.cell? ⟨gb223, 0, none⟩ = some (.string a1_0) := (blk_cell BK223.out 0).trans rfl; have hcz113_1 : w112.cell? ⟨gb223, 1, none⟩ = some (.slice (some ad243) l1_1.length c1_1) := (blk_cell BK223.out 1).trans rfl; have hfz113_0 := blk_frozen BK223.out 0; have hfz113_1 := blk_frozen BK223.out 1; have p246 : 0 ≤ (x16_2 : Int) := of_decide_eq_true (by first | (with_reducible assumption) | assumption); have q246 : x16_2 < (l1_1.length : Int) := of_decide_eq_true (by first | (with_reducible assumption) | assumption); obtain ⟨ad246, e246, hx246_0, hx246_1⟩ := at_T51 HR1_1.out x16_2 p246 q246; obtain rfl : ad243 = ad246 := (by injection e246); replace hx246_0 := (HB.out.cell (World.block_lt_of_cell? w _ hx246_0)).trans hx246_0; replace hx246_1 := (HB.out.cell (World.block_lt_of_cell? w _ hx246_1)).trans hx246_1; replace p246 := eq_true p246; replace q246 := eq_true q246) | ((with_reducible refine gate_callee (f := 19) rfl ?_); refine goesL_ (some 122) rfl rfl Try.func19 (by kernel_rfl) rfl #[.slice Ao39 x7_1.length co39, .string ((rd_T51 l1_1 x16_2).f0), .bool false] rfl (by (try simp only [List.map_toArray, List.map_cons, List.map_nil]); first | done | rfl | (simp only [List.length_drop, List.length_take]; rfl)) ?_; (with_reducible refine (orielref07_Resolve.calls k2 _ _ x7_1 ((rd_T51 l1_1 x16_2).f0) false t247 t248 false _ ?side1 ?side2 A59.out).mono ?_); (case side1 => repeat (first | exact (Kd.R_reads' HO_7.out).2.2 | (with_reducible refine Kd.C_alloc ?_ _) | (with_reducible refine Kd.C_drewN ?_ _) | (with_reducible refine Kd.C_drew ?_))); (case side2 => exact (Kd.R_reads' HO_7.out).2.1); rintro e w114 ⟨rfl, hb⟩; refine ⟨_, rfl, ?_⟩; have n0_ := Aside0.mk (Kd.R_below (by (with_reducible repeat (first | apply Kd.R_alloc | apply Kd.R_drewN | apply Kd.R_drew)); exact HO_7.out) hb); have n1_ := Aside0.mk (Kd.R_below (by (with_reducible repeat (first | apply Kd.R_alloc | apply Kd.R_drewN | apply Kd.R_drew)); exact HO_243003.out) hb); have n2_ := Aside0.mk (blk_below (g := gb223) (o := .cells #[.string a1_0, .slice (some ad243) l1_1.length c1_1] 25 (0, 0)) (by (with_reducible repeat (first | refine blk_drewN ?_ _ | refine blk_drew ?_ | refine blk_alloc ?_ _)); exact BK223.out) hb); have n3_ := Aside0.mk (blk_below (g := gb224) (o := .cells #[.int .i64 x225000_2, .string x225001_2, .string x225002_2, .slice none 0 0, .string x225004_2] 32 (0, 0)) (by (with_reducible repeat (first | refine blk_drewN ?_ _ | refine blk_drew ?_ | refine blk_alloc ?_ _)); exact BK224.out) hb); have n4_ := Aside0.mk (blk_below (g := gb241) (o := .cells #[.string t238, .string t239] 29 (0, 0)) (by (with_reducible repeat (first | refine blk_drewN ?_ _ | refine blk_drew ?_ | refine blk_alloc ?_ _)); exact BK241.out) hb); have n5_ := Aside0.mk (blk_below (g := gb242) (o := .cells #[.int .i64 1, .string t238, .string t239, u243003, .string (⟨#[]⟩ : ByteArray)] 32 (0, 0)) (by (with_reducible repeat (first | refine blk_drewN ?_ _ | refine blk_drew ?_ | refine blk_alloc ?_ _)); exact BK242.out) hb); have n6_ := Aside0.mk (below_step (by repeat (first | (with_reducible first | exact HB.out | apply below_alloc | apply pw_below_drewN | apply below_drew1 | refine below_set ?_ GE223.out | refine below_set ?_ GE224.out | refine below_set ?_ GE241.out | refine below_set ?_ GE242.out) | exact HB.out)) hb); clear HO_7; clear HO_243003; clear BK223; clear BK224; clear BK241; clear BK242; clear HB; have HO_7 := n0_; have HO_243003 := n1_; have BK223 := n2_; have BK224 := n3_; have BK241 := n4_; have BK242 := n5_; have HB := n6_; clear n0_ n1_ n2_ n3_ n4_ n5_ n6_; (try clear hb); (try clear hb2); (try clear hk); (try clear hi)) | ((with_reducible refine gate_dst (N := 19) rfl ?_); refine box_event ?hg (N := 19) ?hd (cs := #[.string (⟨#[]⟩ : ByteArray), .string (⟨#[]⟩ : ByteArray)]) (t := 29) ?hr ?_; (case hd => rfl); (case hg => rfl); (case hr => first | (go_simp; done) | (go_simp; rfl)); intro gb250 hg w115 hbox hb; have n0_ := Aside0.mk (Kd.R_below (by (with_reducible repeat (first | apply Kd.R_alloc | apply Kd.R_drewN | apply Kd.R_drew)); exact HO_7.out) hb); have n1_ := Aside0.mk (Kd.R_below (by (with_reducible repeat (first | apply Kd.R_alloc | apply Kd.R_drewN | apply Kd.R_drew)); exact HO_243003.out) hb); have n2_ := Aside0.mk (blk_below (g := gb223) (o := .cells #[.string a1_0, .slice (some ad243) l1_1.length c1_1] 25 (0, 0)) (by (with_reducible repeat (first | refine blk_drewN ?_ _ | refine blk_drew ?_ | refine blk_alloc ?_ _)); exact BK223.out) hb); have n3_ := Aside0.mk (blk_below (g := gb224) (o := .cells #[.int .i64 x225000_2, .string x225001_2, .string x225002_2, .slice none 0 0, .string x225004_2] 32 (0, 0)) (by (with_reducible repeat (first | refine blk_drewN ?_ _ | refine blk_drew ?_ | refine blk_alloc ?_ _)); exact BK224.out) hb); have n4_ := Aside0.mk (blk_below (g := gb241) (o := .cells #[.string t238, .string t239] 29 (0, 0)) (by (with_reducible repeat (first | refine blk_drewN ?_ _ | refine blk_drew ?_ | refine blk_alloc ?_ _)); exact BK241.out) hb); have n5_ := Aside0.mk (blk_below (g := gb242) (o := .cells #[.int .i64 1, .string t238, .string t239, u243003, .string (⟨#[]⟩ : ByteArray)] 32 (0, 0)) (by (with_reducible repeat (first | refine blk_drewN ?_ _ | refine blk_drew ?_ | refine blk_alloc ?_ _)); exact BK242.out) hb); have n6_ := Aside0.mk (below_step (by repeat (first | (with_reducible first | exact HB.out | apply below_alloc | apply pw_below_drewN | apply below_drew1 | refine below_set ?_ GE223.out | refine below_set ?_ GE224.out | refine below_set ?_ GE241.out | refine below_set ?_ GE242.out) | exact HB.out)) hb); have n7_ := Aside0.mk (hbox); have n8_ := Aside0.mk ((by rw [hg]; exact (below_size (by repeat (first | (with_reducible first | exact HB.out | apply below_alloc | apply pw_below_drewN | apply below_drew1 | refine below_set ?_ GE223.out | refine below_set ?_ GE224.out | refine below_set ?_ GE241.out | refine below_set ?_ GE242.out) | exact HB.out))) : w.heap.size ≤ gb250)); have n9_ := Aside0.mk ((by rw [hg]; exact (below_size (by repeat (first | (with_reducible first | exact HB.out | apply below_alloc | apply pw_below_drewN | apply below_drew1 | refine below_set ?_ GE223.out | refine below_set ?_ GE224.out | refine below_set ?_ GE241.out | refine below_set ?_ GE242.out) | exact HB.out))) : w.heap.size ≤ gb250)); have n10_ := Aside0.mk ((by rw [hg]; exact Nat.ne_of_lt (blk_lt (g := gb223) (o := .cells #[.string a1_0, .slice (some ad243) l1_1.length c1_1] 25 (0, 0)) (by (with_reducible repeat (first | refine blk_drewN ?_ _ | refine blk_drew ?_ | refine blk_alloc ?_ _)); exact BK223.out)) : gb223 ≠ gb250)); have n11_ := Aside0.mk ((by rw [hg]; exact Nat.ne_of_gt (blk_lt (g := gb223) (o := .cells #[.string a1_0, .slice (some ad243) l1_1.length c1_1] 25 (0, 0)) (by (with_reducible repeat (first | refine blk_drewN ?_ _ | refine blk_drew ?_ | refine blk_alloc ?_ _)); exact BK223.out)) : gb250 ≠ gb223)); have n12_ := Aside0.mk ((by rw [hg]; exact Nat.ne_of_lt (blk_lt (g := gb224) (o := .cells #[.int .i64 x225000_2, .string x225001_2, .string x225002_2, .slice none 0 0, .string x225004_2] 32 (0, 0)) (by (with_reducible repeat (first | refine blk_drewN ?_ _ | refine blk_drew ?_ | refine blk_alloc ?_ _)); exact BK224.out)) : gb224 ≠ gb250)); have n13_ := Aside0.mk ((by rw [hg]; exact Nat.ne_of_gt (blk_lt (g := gb224) (o := .cells #[.int .i64 x225000_2, .string x225001_2, .string x225002_2, .slice none 0 0, .string x225004_2] 32 (0, 0)) (by (with_reducible repeat (first | refine blk_drewN ?_ _ | refine blk_drew ?_ | refine blk_alloc ?_ _)); exact BK224.out)) : gb250 ≠ gb224)); have n14_ := Aside0.mk ((by rw [hg]; exact Nat.ne_of_lt (blk_lt (g := gb241) (o := .cells #[.string t238, .string t239] 29 (0, 0)) (by (with_reducible repeat (first | refine blk_drewN ?_ _ | refine blk_drew ?_ | refine blk_alloc ?_ _)); exact BK241.out)) : gb241 ≠ gb250)); have n15_ := Aside0.mk ((by rw [hg]; exact Nat.ne_of_gt (blk_lt (g := gb241) (o := .cells #[.string t238, .string t239] 29 (0, 0)) (by (with_reducible repeat (first | refine blk_drewN ?_ _ | refine blk_drew ?_ | refine blk_alloc ?_ _)); exact BK241.out)) : gb250 ≠ gb241)); have n16_ := Aside0.mk ((by rw [hg]; exact Nat.ne_of_lt (blk_lt (g := gb242) (o := .cells #[.int .i64 1, .string t238, .string t239, u243003, .string (⟨#[]⟩ : ByteArray)] 32 (0, 0)) (by (with_reducible repeat (first | refine blk_drewN ?_ _ | refine blk_drew ?_ | refine blk_alloc ?_ _)); exact BK242.out)) : gb242 ≠ gb250)); have n17_ := Aside0.mk ((by rw [hg]; exact Nat.ne_of_gt (blk_lt (g := gb242) (o := .cells #[.int .i64 1, .string t238, .string t239, u243003, .string (⟨#[]⟩ : ByteArray)] 32 (0, 0)) (by (with_reducible repeat (first | refine blk_drewN ?_ _ | refine blk_drew ?_ | refine blk_alloc ?_ _)); exact BK242.out)) : gb250 ≠ gb242)); clear HO_7; clear HO_243003; clear BK223; clear BK224; clear BK241; clear BK242; clear HB; have HO_7 := n0_; have HO_243003 := n1_; have BK223 := n2_; have BK224 := n3_; have BK241 := n4_; have BK242 := n5_; have HB := n6_; have BK250 := n7_; have GW250 := n8_; have GE250 := n9_; have NB223_250 := n10_; have NB250_223 := n11_; have NB224_250 := n12_; have NB250_224 := n13_; have NB241_250 := n14_; have NB250_241 := n15_; have NB242_250 := n16_; have NB250_242 := n17_; clear n0_ n1_ n2_ n3_ n4_ n5_ n6_ n7_ n8_ n9_ n10_ n11_ n12_ n13_ n14_ n15_ n16_ n17_; clear hb hbox hg; have hnb116 := NB250_223.out; have hnc116 := NB223_250.out; have hnb117 := NB250_224.out; have hnc117 := NB224_250.out; have hnb118 := NB250_241.out; have hnc118 := NB241_250.out; have hnb119 := NB250_242.out; have hnc119 := NB242_250.out; have hcz120_0 : w115.cell? ⟨gb250, 0, none⟩ = some (.string (⟨#[]⟩ : ByteArray)) := (blk_cell BK250.out 0).trans rfl; have hcz120_1 : w115.cell? ⟨gb250, 1, none⟩ = some (.string (⟨#[]⟩ : ByteArray)) := (blk_cell BK250.out 1).trans rfl; have hfz120_0 := blk_frozen BK250.out 0; have hfz120_1 := blk_frozen BK250.out 1; have hnb121 := NB224_241.out; have hnc121 := NB241_224.out; have hnb122 := NB224_242.out; have hnc122 := NB242_224.out; have hcz123_0 : w115.cell? ⟨gb224, 0, none⟩ = some (.int .i64 x225000_2) := (blk_cell BK224.out 0).trans rfl; have hcz123_1 : w115.cell? ⟨gb224, 1, none⟩ = some (.string x225001_2) := (blk_cell BK224.out 1).trans rfl; have hcz123_2 : w115.cell? ⟨gb224, 2, none⟩ = some (.string x225002_2) := (blk_cell BK224.out 2).trans rfl; have hcz123_3 : w115.cell? ⟨gb224, 3, none⟩ = some (.slice none 0 0) := (blk_cell BK224.out 3).trans rfl; have hcz123_4 : w115.cell? ⟨gb224, 4, none⟩ = some (.string x225004_2) := (blk_cell BK224.out 4).trans rfl; have hfz123_0 := blk_frozen BK224.out 0; have hfz123_1 := blk_frozen BK224.out 1; have hfz123_2 := blk_frozen BK224.out 2; have hfz123_3 := blk_frozen BK224.out 3; have hfz123_4 := blk_frozen BK224.out 4))
            refine bodyPost_ret (results_list (rs := [.tmp 4, .cell 5 32, .tmp 6]) rfl (by simp) (.tmp (.cell gb224 32 #[.int .i64 0, .string (⟨#[]⟩ : ByteArray), .string (⟨#[]⟩ : ByteArray), .slice none 0 0, .string (⟨#[]⟩ : ByteArray)] (0, 0) _ rfl (by (with_reducible repeat (first | refine blk_drewN ?_ _ | refine blk_drew ?_ | refine blk_alloc ?_ _)); refine blk_put (cs := #[.int .i64 0, .string (⟨#[]⟩ : ByteArray), .string (⟨#[]⟩ : ByteArray), .slice none 0 0, .string x225004_2]) ?_ 4 _ rfl; (with_reducible repeat (first | refine blk_drewN ?_ _ | refine blk_drew ?_ | refine blk_alloc ?_ _)); refine blk_put (cs := #[.int .i64 0, .string (⟨#[]⟩ : ByteArray), .string (⟨#[]⟩ : ByteArray), .slice none 0 0, .string x225004_2]) ?_ 3 _ rfl; (with_reducible repeat (first | refine blk_drewN ?_ _ | refine blk_drew ?_ | refine blk_alloc ?_ _)); refine blk_put (cs := #[.int .i64 0, .string (⟨#[]⟩ : ByteArray), .string x225002_2, .slice none 0 0, .string x225004_2]) ?_ 2 _ rfl; (with_reducible repeat (first | refine blk_drewN ?_ _ | refine blk_drew ?_ | refine blk_alloc ?_ _)); refine blk_put (cs := #[.int .i64 0, .string x225001_2, .string x225002_2, .slice none 0 0, .string x225004_2]) ?_ 1 _ rfl; (with_reducible repeat (first | refine blk_drewN ?_ _ | refine blk_drew ?_ | refine blk_alloc ?_ _)); refine blk_put (cs := #[.int .i64 x225000_2, .string x225001_2, .string x225002_2, .slice none 0 0, .string x225004_2]) ?_ 0 _ rfl; (with_reducible repeat (first | refine blk_drewN ?_ _ | refine blk_drew ?_ | refine blk_alloc ?_ _)); refine blk_far ?_ NB224_250.out _; (with_reducible repeat (first | refine blk_drewN ?_ _ | refine blk_drew ?_ | refine blk_alloc ?_ _)); refine blk_far ?_ NB224_250.out _; (with_reducible repeat (first | refine blk_drewN ?_ _ | refine blk_drew ?_ | refine blk_alloc ?_ _)); exact BK224.out) Try.underlying32 rfl (by kernel_rfl) (.tmp .nil)))) rfl ?_
            exact ⟨_, _, by first | rfl | exact congrArg (fun b => Ending.returned (Value.bool b)) (isE_ne _).symm | exact congrArg (fun b => Ending.returned (Value.bool b)) (isE_eq _).symm | (simp only [isE_ne, isE_eq, Bool.not_not]; done) | (simp [errW_none, errW_some] <;> rfl) | (simp [*, errW_none, errW_some] <;> rfl), by first | exact Kd.R_nil _ _ _ _ _ | exact Kd.N_nil _ _ _ _ _ | exact Kd.V_nil _ _ _ _ _ | exact Kd.Q_nil _ _ _ _ _ | exact Kd.S_nil _ _ _ _ _, by first | exact Kd.R_nil _ _ _ _ _ | exact Kd.N_nil _ _ _ _ _ | exact Kd.V_nil _ _ _ _ _ | exact Kd.Q_nil _ _ _ _ _ | exact Kd.S_nil _ _ _ _ _, by repeat (first | (with_reducible first | exact HB.out | apply below_alloc | apply pw_below_drewN | apply below_drew1 | refine below_set ?_ GE223.out | refine below_set ?_ GE224.out | refine below_set ?_ GE241.out | refine below_set ?_ GE242.out | refine below_set ?_ GE250.out) | exact HB.out)⟩
         ·
          rw [if_neg c51] at H
          exact absurd H (by simp)
        ·
         rw [if_neg c50] at H
         have c50b0 : decide (x16_2 < (l1_1.length : Int)) = false := decide_eq_false c50
         clear c50
         simp only [Option.some.injEq, Prod.mk.injEq] at H
         obtain ⟨rfl, rfl, rfl, rfl, rfl, rfl, rfl⟩ := H
         have hnb124 := NB223_224.out
         have hnc124 := NB224_223.out
         have hnb125 := NB223_241.out
         have hnc125 := NB241_223.out
         have hnb126 := NB223_242.out
         have hnc126 := NB242_223.out
         have hcz127_0 : wr.cell? ⟨gb223, 0, none⟩ = some (.string a1_0) := (blk_cell BK223.out 0).trans rfl
         have hcz127_1 : wr.cell? ⟨gb223, 1, none⟩ = some (.slice A1_1 l1_1.length c1_1) := (blk_cell BK223.out 1).trans rfl
         have hfz127_0 := blk_frozen BK223.out 0
         have hfz127_1 := blk_frozen BK223.out 1
         try go_wp2
         have n0_ := Aside0.mk (Kd.R_drew HO_7.out)
         have n1_ := Aside0.mk (Kd.R_drew HO_243003.out)
         have n2_ := Aside0.mk (blk_drew BK223.out)
         have n3_ := Aside0.mk (blk_drew BK224.out)
         have n4_ := Aside0.mk (blk_drew BK241.out)
         have n5_ := Aside0.mk (blk_drew BK242.out)
         have n6_ := Aside0.mk (below_drew1 HB.out)
         clear HO_7
         clear HO_243003
         clear BK223
         clear BK224
         clear BK241
         clear BK242
         clear HB
         have HO_7 := n0_
         have HO_243003 := n1_
         have BK223 := n2_
         have BK224 := n3_
         have BK241 := n4_
         have BK242 := n5_
         have HB := n6_
         clear n0_ n1_ n2_ n3_ n4_ n5_ n6_
         obtain ⟨Ao132, co132, eo132⟩ := Kd.R_slice HO_243003.out
         (first | subst eo132 | (injection eo132 with f1_ f2_ f3_; have f4_ := f1_.symm; have f5_ := f3_.symm; clear f1_ f2_ f3_; subst f4_; subst f5_))
         refine start_ (n := 5) (S := fun w' => w'.cell? ⟨gb242, 0, none⟩ = some (.int .i64 1) ∧ w'.cell? ⟨gb242, 1, none⟩ = some (.string t238) ∧ w'.cell? ⟨gb242, 2, none⟩ = some (.string t239) ∧ w'.cell? ⟨gb242, 3, none⟩ = some (.slice Ao132 x243003_2.length co132) ∧ w'.cell? ⟨gb242, 4, none⟩ = some (.string (⟨#[]⟩ : ByteArray))) (ds := []) #[false, false, false, false, false] (by kernel_rfl) rfl rfl ⟨(blk_cell BK242.out 0).trans rfl, (blk_cell BK242.out 1).trans rfl, (blk_cell BK242.out 2).trans rfl, (blk_cell BK242.out 3).trans rfl, (blk_cell BK242.out 4).trans rfl⟩ (fun hHeld => ?_)
         generalize wr.drew = w128 at HO_7 HO_243003 BK223 BK224 BK241 BK242 HB hHeld ⊢
         refine pure_ (i := 0) (N := some 157) (v := ?_) (a' := ?_) #[true, false, false, false, false] rfl rfl (by kernel_rfl) (fun _ _ _ h => h) (Or.inl ⟨by rfl, ?_⟩) ?_ ?_
         rotate_left
         ·
          intro w'
          go_simp
          with_reducible rfl
         rotate_left
         ·
          simp only [Act.put, List.setIfInBounds_toArray, List.set_cons_zero, List.set_cons_succ, i64_w, i32_w]
          rfl
         refine pure_ (i := 2) (N := some 4) (v := ?_) (a' := ?_) #[true, false, true, false, false] rfl rfl (by kernel_rfl) (fun _ _ _ h => h) (Or.inl ⟨by rfl, ?_⟩) ?_ ?_
         rotate_left
         ·
          intro w'
          go_simp
          with_reducible rfl
         rotate_left
         ·
          simp only [Act.put, List.setIfInBounds_toArray, List.set_cons_zero, List.set_cons_succ, i64_w, i32_w]
          rfl
         refine take_ (i := 1) (N := some 158) (v := ?_) (a' := ?_) #[true, true, true, false, false] rfl rfl (by kernel_rfl) (fun _ _ _ h => h) (Or.inl ⟨by rfl, ?_⟩) hHeld ?_ ?_
         rotate_left
         ·
          rintro w' ⟨s0, s1, s2, s3, s4⟩
          go_simp
          with_reducible rfl
         rotate_left
         ·
          simp only [Act.put, List.setIfInBounds_toArray, List.set_cons_zero, List.set_cons_succ, i64_w, i32_w]
          rfl
         refine one_ (i := 3) (N := none) #[true, true, true, true, false] rfl rfl (by kernel_rfl) (by decide) (fun K hK => ?_)
         have hs129 : w128.cell? ⟨gb224, 0, none⟩ = some (.int .i64 x225000_2) := (blk_cell BK224.out 0).trans rfl
         have hfs129 := blk_frozen BK224.out 0
         have hns129_0 := NB223_224.out
         have hns129_2 := NB241_224.out
         have hns129_3 := NB242_224.out
         have hms129_0 := NB224_223.out
         have hms129_2 := NB224_241.out
         have hms129_3 := NB224_242.out
         have hs130 : w128.cell? ⟨gb224, 1, none⟩ = some (.string x225001_2) := (blk_cell BK224.out 1).trans rfl
         have hfs130 := blk_frozen BK224.out 1
         have hns130_0 := NB223_224.out
         have hns130_2 := NB241_224.out
         have hns130_3 := NB242_224.out
         have hms130_0 := NB224_223.out
         have hms130_2 := NB224_241.out
         have hms130_3 := NB224_242.out
         have hs131 : w128.cell? ⟨gb224, 2, none⟩ = some (.string x225002_2) := (blk_cell BK224.out 2).trans rfl
         have hfs131 := blk_frozen BK224.out 2
         have hns131_0 := NB223_224.out
         have hns131_2 := NB241_224.out
         have hns131_3 := NB242_224.out
         have hms131_0 := NB224_223.out
         have hms131_2 := NB224_241.out
         have hms131_3 := NB224_242.out
         have hs133 : w128.cell? ⟨gb224, 3, none⟩ = some (.slice none 0 0) := (blk_cell BK224.out 3).trans rfl
         have hfs133 := blk_frozen BK224.out 3
         have hns133_0 := NB223_224.out
         have hns133_2 := NB241_224.out
         have hns133_3 := NB242_224.out
         have hms133_0 := NB224_223.out
         have hms133_2 := NB224_241.out
         have hms133_3 := NB224_242.out
         have hs134 : w128.cell? ⟨gb224, 4, none⟩ = some (.string x225004_2) := (blk_cell BK224.out 4).trans rfl
         have hfs134 := blk_frozen BK224.out 4
         have hns134_0 := NB223_224.out
         have hns134_2 := NB241_224.out
         have hns134_3 := NB242_224.out
         have hms134_0 := NB224_223.out
         have hms134_2 := NB224_241.out
         have hms134_3 := NB224_242.out
         refine skip_ (w1 := ?_) (by rfl) rfl ?_ ?_
         rotate_left
         ·
          go_simp
          rfl
         refine hK.out _ _ ⟨((cell_far (p := ⟨gb224, _, none⟩) NB242_224.out _).trans (((cell_far (p := ⟨gb224, _, none⟩) NB242_224.out _).trans (((cell_far (p := ⟨gb224, _, none⟩) NB242_224.out _).trans (((cell_far (p := ⟨gb224, _, none⟩) NB242_224.out _).trans (((cell_far (p := ⟨gb224, _, none⟩) NB242_224.out _).trans (hHeld.1)))))))))), ((cell_far (p := ⟨gb224, _, none⟩) NB242_224.out _).trans (((cell_far (p := ⟨gb224, _, none⟩) NB242_224.out _).trans (((cell_far (p := ⟨gb224, _, none⟩) NB242_224.out _).trans (((cell_far (p := ⟨gb224, _, none⟩) NB242_224.out _).trans (((cell_far (p := ⟨gb224, _, none⟩) NB242_224.out _).trans (hHeld.2.1)))))))))), ((cell_far (p := ⟨gb224, _, none⟩) NB242_224.out _).trans (((cell_far (p := ⟨gb224, _, none⟩) NB242_224.out _).trans (((cell_far (p := ⟨gb224, _, none⟩) NB242_224.out _).trans (((cell_far (p := ⟨gb224, _, none⟩) NB242_224.out _).trans (((cell_far (p := ⟨gb224, _, none⟩) NB242_224.out _).trans (hHeld.2.2.1)))))))))), ((cell_far (p := ⟨gb224, _, none⟩) NB242_224.out _).trans (((cell_far (p := ⟨gb224, _, none⟩) NB242_224.out _).trans (((cell_far (p := ⟨gb224, _, none⟩) NB242_224.out _).trans (((cell_far (p := ⟨gb224, _, none⟩) NB242_224.out _).trans (((cell_far (p := ⟨gb224, _, none⟩) NB242_224.out _).trans (hHeld.2.2.2.1)))))))))), ((cell_far (p := ⟨gb224, _, none⟩) NB242_224.out _).trans (((cell_far (p := ⟨gb224, _, none⟩) NB242_224.out _).trans (((cell_far (p := ⟨gb224, _, none⟩) NB242_224.out _).trans (((cell_far (p := ⟨gb224, _, none⟩) NB242_224.out _).trans (((cell_far (p := ⟨gb224, _, none⟩) NB242_224.out _).trans (hHeld.2.2.2.2))))))))))⟩ (fun hHeld => ?_)
         clear hK K
         refine pure_ (i := 4) (N := some 6) (v := ?_) (a' := ?_) #[true, true, true, true, true] rfl rfl (by kernel_rfl) (fun _ _ _ h => h) (Or.inl ⟨by rfl, ?_⟩) ?_ ?_
         rotate_left
         ·
          intro w'
          go_simp
          with_reducible rfl
         rotate_left
         ·
          simp only [Act.put, List.setIfInBounds_toArray, List.set_cons_zero, List.set_cons_succ, i64_w, i32_w]
          rfl
         refine done_ (by kernel_rfl) ?_
         try go_wp2
         refine bodyPost_ret (results_list (rs := [.tmp 4, .cell 5 32, .tmp 6]) rfl (by simp) (.tmp (.cell gb224 32 #[.int .i64 1, .string t238, .string t239, .slice Ao132 x243003_2.length co132, .string (⟨#[]⟩ : ByteArray)] (0, 0) _ rfl (by (with_reducible repeat (first | refine blk_drewN ?_ _ | refine blk_drew ?_ | refine blk_alloc ?_ _)); refine blk_put (cs := #[.int .i64 1, .string t238, .string t239, .slice Ao132 x243003_2.length co132, .string x225004_2]) ?_ 4 _ rfl; (with_reducible repeat (first | refine blk_drewN ?_ _ | refine blk_drew ?_ | refine blk_alloc ?_ _)); refine blk_put (cs := #[.int .i64 1, .string t238, .string t239, .slice none 0 0, .string x225004_2]) ?_ 3 _ rfl; (with_reducible repeat (first | refine blk_drewN ?_ _ | refine blk_drew ?_ | refine blk_alloc ?_ _)); refine blk_put (cs := #[.int .i64 1, .string t238, .string x225002_2, .slice none 0 0, .string x225004_2]) ?_ 2 _ rfl; (with_reducible repeat (first | refine blk_drewN ?_ _ | refine blk_drew ?_ | refine blk_alloc ?_ _)); refine blk_put (cs := #[.int .i64 1, .string x225001_2, .string x225002_2, .slice none 0 0, .string x225004_2]) ?_ 1 _ rfl; (with_reducible repeat (first | refine blk_drewN ?_ _ | refine blk_drew ?_ | refine blk_alloc ?_ _)); refine blk_put (cs := #[.int .i64 x225000_2, .string x225001_2, .string x225002_2, .slice none 0 0, .string x225004_2]) ?_ 0 _ rfl; (with_reducible repeat (first | refine blk_drewN ?_ _ | refine blk_drew ?_ | refine blk_alloc ?_ _)); exact BK224.out) Try.underlying32 rfl (by kernel_rfl) (.tmp .nil)))) rfl ?_
         exact ⟨_, _, by first | rfl | exact congrArg (fun b => Ending.returned (Value.bool b)) (isE_ne _).symm | exact congrArg (fun b => Ending.returned (Value.bool b)) (isE_eq _).symm | (simp only [isE_ne, isE_eq, Bool.not_not]; done) | (simp [errW_none, errW_some] <;> rfl) | (simp [*, errW_none, errW_some] <;> rfl), by (with_reducible repeat (first | apply Kd.R_alloc | apply Kd.R_drewN | apply Kd.R_drew)); exact Kd.R_mono (Kd.R_far (p := ⟨gb224, 4, none⟩) (Kd.R_far (p := ⟨gb224, 3, none⟩) (Kd.R_far (p := ⟨gb224, 2, none⟩) (Kd.R_far (p := ⟨gb224, 1, none⟩) (Kd.R_far (p := ⟨gb224, 0, none⟩) (Kd.R_types HO_7.out BK224.out (by decide)) (fun _ hk => hk.2) (.int .i64 1)) (fun _ hk => hk.2) (.string t238)) (fun _ hk => hk.2) (.string t239)) (fun _ hk => hk.2) (.slice Ao132 x243003_2.length co132)) (fun _ hk => hk.2) (.string (⟨#[]⟩ : ByteArray))) (fun _ hk => trivial), by (with_reducible repeat (first | apply Kd.R_alloc | apply Kd.R_drewN | apply Kd.R_drew)); exact Kd.R_mono (Kd.R_far (p := ⟨gb224, 4, none⟩) (Kd.R_far (p := ⟨gb224, 3, none⟩) (Kd.R_far (p := ⟨gb224, 2, none⟩) (Kd.R_far (p := ⟨gb224, 1, none⟩) (Kd.R_far (p := ⟨gb224, 0, none⟩) (Kd.R_types HO_243003.out BK224.out (by decide)) (fun _ hk => hk.2) (.int .i64 1)) (fun _ hk => hk.2) (.string t238)) (fun _ hk => hk.2) (.string t239)) (fun _ hk => hk.2) (.slice Ao132 x243003_2.length co132)) (fun _ hk => hk.2) (.string (⟨#[]⟩ : ByteArray))) (fun _ hk => trivial), by repeat (first | (with_reducible first | exact HB.out | apply below_alloc | apply pw_below_drewN | apply below_drew1 | refine below_set ?_ GE223.out | refine below_set ?_ GE224.out | refine below_set ?_ GE241.out | refine below_set ?_ GE242.out) | exact HB.out)⟩
     ·
      replace c36 := Bool.eq_false_iff.mpr c36
      subst c36
      have H1 : (some (([] : List (S44)), 0, (⟨#[]⟩ : ByteArray), (⟨#[]⟩ : ByteArray), ([] : List (S47)), (⟨#[]⟩ : ByteArray), 9)) = some (r1, r2, r3, r4, r5, r6, r7) := by rw [if_neg (show ¬ (false = true) by decide)] at H; exact H
      clear H
      have H := H1
      clear H1
      simp only [Option.some.injEq, Prod.mk.injEq] at H
      obtain ⟨rfl, rfl, rfl, rfl, rfl, rfl, rfl⟩ := H
      have hnb135 := NB223_224.out
      have hnc135 := NB224_223.out
      have hcz136_0 : wr.cell? ⟨gb223, 0, none⟩ = some (.string a1_0) := (blk_cell BK223.out 0).trans rfl
      have hcz136_1 : wr.cell? ⟨gb223, 1, none⟩ = some (.slice A1_1 l1_1.length c1_1) := (blk_cell BK223.out 1).trans rfl
      have hfz136_0 := blk_frozen BK223.out 0
      have hfz136_1 := blk_frozen BK223.out 1
      obtain ⟨Ao137, co137, eo137⟩ := Kd.R_slice HO_7.out
      subst eo137
      go_wp2_with (first | ((with_reducible refine gate_callee (f := 19) rfl ?_); refine goesL_ (some 89) rfl rfl Try.func19 (by kernel_rfl) rfl #[.slice Ao137 x7_1.length co137, .string a1_0, .bool true] rfl (by (try simp only [List.map_toArray, List.map_cons, List.map_nil]); first | done | rfl | (simp only [List.length_drop, List.length_take]; rfl)) ?_; (with_reducible refine (orielref07_Resolve.calls k1 _ _ x7_1 a1_0 true t238 t239 false _ ?side1 ?side2 A35.out).mono ?_); (case side1 => repeat (first | exact (Kd.R_reads' HO_7.out).2.2 | (with_reducible refine Kd.C_alloc ?_ _) | (with_reducible refine Kd.C_drewN ?_ _) | (with_reducible refine Kd.C_drew ?_))); (case side2 => exact (Kd.R_reads' HO_7.out).2.1); rintro e w138 ⟨rfl, hb⟩; refine ⟨_, rfl, ?_⟩; have n0_ := Aside0.mk (Kd.R_below (by (with_reducible repeat (first | apply Kd.R_alloc | apply Kd.R_drewN | apply Kd.R_drew)); exact HO_7.out) hb); have n1_ := Aside0.mk (blk_below (g := gb223) (o := .cells #[.string a1_0, .slice A1_1 l1_1.length c1_1] 25 (0, 0)) (by (with_reducible repeat (first | refine blk_drewN ?_ _ | refine blk_drew ?_ | refine blk_alloc ?_ _)); exact BK223.out) hb); have n2_ := Aside0.mk (blk_below (g := gb224) (o := .cells #[.int .i64 x225000_1, .string x225001_1, .string x225002_1, .slice none 0 0, .string x225004_1] 32 (0, 0)) (by (with_reducible repeat (first | refine blk_drewN ?_ _ | refine blk_drew ?_ | refine blk_alloc ?_ _)); exact BK224.out) hb); have n3_ := Aside0.mk (below_step (by repeat (first | (with_reducible first | exact HB.out | apply below_alloc | apply pw_below_drewN | apply below_drew1 | refine below_set ?_ GE223.out | refine below_set ?_ GE224.out) | exact HB.out)) hb); clear HO_7; clear BK223; clear BK224; clear HB; have HO_7 := n0_; have BK223 := n1_; have BK224 := n2_; have HB := n3_; clear n0_ n1_ n2_ n3_; (try clear hb); (try clear hb2); (try clear hk); (try clear hi)) | ((with_reducible refine gate_dst (N := 13) rfl ?_); refine box_event ?hg (N := 13) ?hd (cs := #[.string (⟨#[]⟩ : ByteArray), .string (⟨#[]⟩ : ByteArray)]) (t := 29) ?hr ?_; (case hd => rfl); (case hg => rfl); (case hr => first | (go_simp; done) | (go_simp; rfl)); intro gb241 hg w139 hbox hb; have n0_ := Aside0.mk (Kd.R_below (by (with_reducible repeat (first | apply Kd.R_alloc | apply Kd.R_drewN | apply Kd.R_drew)); exact HO_7.out) hb); have n1_ := Aside0.mk (blk_below (g := gb223) (o := .cells #[.string a1_0, .slice A1_1 l1_1.length c1_1] 25 (0, 0)) (by (with_reducible repeat (first | refine blk_drewN ?_ _ | refine blk_drew ?_ | refine blk_alloc ?_ _)); exact BK223.out) hb); have n2_ := Aside0.mk (blk_below (g := gb224) (o := .cells #[.int .i64 x225000_1, .string x225001_1, .string x225002_1, .slice none 0 0, .string x225004_1] 32 (0, 0)) (by (with_reducible repeat (first | refine blk_drewN ?_ _ | refine blk_drew ?_ | refine blk_alloc ?_ _)); exact BK224.out) hb); have n3_ := Aside0.mk (below_step (by repeat (first | (with_reducible first | exact HB.out | apply below_alloc | apply pw_below_drewN | apply below_drew1 | refine below_set ?_ GE223.out | refine below_set ?_ GE224.out) | exact HB.out)) hb); have n4_ := Aside0.mk (hbox); have n5_ := Aside0.mk ((by rw [hg]; exact (below_size (by repeat (first | (with_reducible first | exact HB.out | apply below_alloc | apply pw_below_drewN | apply below_drew1 | refine below_set ?_ GE223.out | refine below_set ?_ GE224.out) | exact HB.out))) : w.heap.size ≤ gb241)); have n6_ := Aside0.mk ((by rw [hg]; exact (below_size (by repeat (first | (with_reducible first | exact HB.out | apply below_alloc | apply pw_below_drewN | apply below_drew1 | refine below_set ?_ GE223.out | refine below_set ?_ GE224.out) | exact HB.out))) : w.heap.size ≤ gb241)); have n7_ := Aside0.mk ((by rw [hg]; exact Nat.ne_of_lt (blk_lt (g := gb223) (o := .cells #[.string a1_0, .slice A1_1 l1_1.length c1_1] 25 (0, 0)) (by (with_reducible repeat (first | refine blk_drewN ?_ _ | refine blk_drew ?_ | refine blk_alloc ?_ _)); exact BK223.out)) : gb223 ≠ gb241)); have n8_ := Aside0.mk ((by rw [hg]; exact Nat.ne_of_gt (blk_lt (g := gb223) (o := .cells #[.string a1_0, .slice A1_1 l1_1.length c1_1] 25 (0, 0)) (by (with_reducible repeat (first | refine blk_drewN ?_ _ | refine blk_drew ?_ | refine blk_alloc ?_ _)); exact BK223.out)) : gb241 ≠ gb223)); have n9_ := Aside0.mk ((by rw [hg]; exact Nat.ne_of_lt (blk_lt (g := gb224) (o := .cells #[.int .i64 x225000_1, .string x225001_1, .string x225002_1, .slice none 0 0, .string x225004_1] 32 (0, 0)) (by (with_reducible repeat (first | refine blk_drewN ?_ _ | refine blk_drew ?_ | refine blk_alloc ?_ _)); exact BK224.out)) : gb224 ≠ gb241)); have n10_ := Aside0.mk ((by rw [hg]; exact Nat.ne_of_gt (blk_lt (g := gb224) (o := .cells #[.int .i64 x225000_1, .string x225001_1, .string x225002_1, .slice none 0 0, .string x225004_1] 32 (0, 0)) (by (with_reducible repeat (first | refine blk_drewN ?_ _ | refine blk_drew ?_ | refine blk_alloc ?_ _)); exact BK224.out)) : gb241 ≠ gb224)); clear HO_7; clear BK223; clear BK224; clear HB; have HO_7 := n0_; have BK223 := n1_; have BK224 := n2_; have HB := n3_; have BK241 := n4_; have GW241 := n5_; have GE241 := n6_; have NB223_241 := n7_; have NB241_223 := n8_; have NB224_241 := n9_; have NB241_224 := n10_; clear n0_ n1_ n2_ n3_ n4_ n5_ n6_ n7_ n8_ n9_ n10_; clear hb hbox hg; have hnb140 := NB241_223.out; have hnc140 := NB223_241.out; have hnb141 := NB241_224.out; have hnc141 := NB224_241.out; have hcz142_0 : w139.cell? ⟨gb241, 0, none⟩ = some (.string (⟨#[]⟩ : ByteArray)) := (blk_cell BK241.out 0).trans rfl; have hcz142_1 : w139.cell? ⟨gb241, 1, none⟩ = some (.string (⟨#[]⟩ : ByteArray)) := (blk_cell BK241.out 1).trans rfl; have hfz142_0 := blk_frozen BK241.out 0; have hfz142_1 := blk_frozen BK241.out 1; have hcz143_0 : w139.cell? ⟨gb224, 0, none⟩ = some (.int .i64 x225000_1) := (blk_cell BK224.out 0).trans rfl; have hcz143_1 : w139.cell? ⟨gb224, 1, none⟩ = some (.string x225001_1) := (blk_cell BK224.out 1).trans rfl; have hcz143_2 : w139.cell? ⟨gb224, 2, none⟩ = some (.string x225002_1) := (blk_cell BK224.out 2).trans rfl; have hcz143_3 : w139.cell? ⟨gb224, 3, none⟩ = some (.slice none 0 0) := (blk_cell BK224.out 3).trans rfl; have hcz143_4 : w139.cell? ⟨gb224, 4, none⟩ = some (.string x225004_1) := (blk_cell BK224.out 4).trans rfl; have hfz143_0 := blk_frozen BK224.out 0; have hfz143_1 := blk_frozen BK224.out 1; have hfz143_2 := blk_frozen BK224.out 2; have hfz143_3 := blk_frozen BK224.out 3; have hfz143_4 := blk_frozen BK224.out 4))
      refine bodyPost_ret (results_list (rs := [.tmp 4, .cell 5 32, .tmp 6]) rfl (by simp) (.tmp (.cell gb224 32 #[.int .i64 0, .string (⟨#[]⟩ : ByteArray), .string (⟨#[]⟩ : ByteArray), .slice none 0 0, .string (⟨#[]⟩ : ByteArray)] (0, 0) _ rfl (by (with_reducible repeat (first | refine blk_drewN ?_ _ | refine blk_drew ?_ | refine blk_alloc ?_ _)); refine blk_put (cs := #[.int .i64 0, .string (⟨#[]⟩ : ByteArray), .string (⟨#[]⟩ : ByteArray), .slice none 0 0, .string x225004_1]) ?_ 4 _ rfl; (with_reducible repeat (first | refine blk_drewN ?_ _ | refine blk_drew ?_ | refine blk_alloc ?_ _)); refine blk_put (cs := #[.int .i64 0, .string (⟨#[]⟩ : ByteArray), .string (⟨#[]⟩ : ByteArray), .slice none 0 0, .string x225004_1]) ?_ 3 _ rfl; (with_reducible repeat (first | refine blk_drewN ?_ _ | refine blk_drew ?_ | refine blk_alloc ?_ _)); refine blk_put (cs := #[.int .i64 0, .string (⟨#[]⟩ : ByteArray), .string x225002_1, .slice none 0 0, .string x225004_1]) ?_ 2 _ rfl; (with_reducible repeat (first | refine blk_drewN ?_ _ | refine blk_drew ?_ | refine blk_alloc ?_ _)); refine blk_put (cs := #[.int .i64 0, .string x225001_1, .string x225002_1, .slice none 0 0, .string x225004_1]) ?_ 1 _ rfl; (with_reducible repeat (first | refine blk_drewN ?_ _ | refine blk_drew ?_ | refine blk_alloc ?_ _)); refine blk_put (cs := #[.int .i64 x225000_1, .string x225001_1, .string x225002_1, .slice none 0 0, .string x225004_1]) ?_ 0 _ rfl; (with_reducible repeat (first | refine blk_drewN ?_ _ | refine blk_drew ?_ | refine blk_alloc ?_ _)); refine blk_far ?_ NB224_241.out _; (with_reducible repeat (first | refine blk_drewN ?_ _ | refine blk_drew ?_ | refine blk_alloc ?_ _)); refine blk_far ?_ NB224_241.out _; (with_reducible repeat (first | refine blk_drewN ?_ _ | refine blk_drew ?_ | refine blk_alloc ?_ _)); exact BK224.out) Try.underlying32 rfl (by kernel_rfl) (.tmp .nil)))) rfl ?_
      exact ⟨_, _, by first | rfl | exact congrArg (fun b => Ending.returned (Value.bool b)) (isE_ne _).symm | exact congrArg (fun b => Ending.returned (Value.bool b)) (isE_eq _).symm | (simp only [isE_ne, isE_eq, Bool.not_not]; done) | (simp [errW_none, errW_some] <;> rfl) | (simp [*, errW_none, errW_some] <;> rfl), by first | exact Kd.R_nil _ _ _ _ _ | exact Kd.N_nil _ _ _ _ _ | exact Kd.V_nil _ _ _ _ _ | exact Kd.Q_nil _ _ _ _ _ | exact Kd.S_nil _ _ _ _ _, by first | exact Kd.R_nil _ _ _ _ _ | exact Kd.N_nil _ _ _ _ _ | exact Kd.V_nil _ _ _ _ _ | exact Kd.Q_nil _ _ _ _ _ | exact Kd.S_nil _ _ _ _ _, by repeat (first | (with_reducible first | exact HB.out | apply below_alloc | apply pw_below_drewN | apply below_drew1 | refine below_set ?_ GE223.out | refine below_set ?_ GE224.out | refine below_set ?_ GE241.out) | exact HB.out)⟩
 ·
  rw [if_neg c3] at H
  exact absurd H (by simp)

end Go.Proofs.Ytjhchjjpopbieaa.X
