/- Printed by a program of this session (xprint) out of the kit's print, with functions proved by hand. -/
import Derived.Test.YtjhchjjpopbieaaX0
import Derived.Test.YtjhchjjpopbieaaX7
import Derived.Test.YtjhchjjpopbieaaX8
import Derived.Test.YtjhchjjpopbieaaX10
import Derived.Test.YtjhchjjpopbieaaX13
import Derived.Test.YtjhchjjpopbieaaX15
namespace Go.Proofs.Ytjhchjjpopbieaa.X
open Go.RowKit Go.Proofs.YtjhchjjpopbieaaW.PrintWords Go.Proofs.YtjhchjjpopbieaaW.PrintLast Go.Proofs.YtjhchjjpopbieaaW.PrintMore Go.Proofs.YtjhchjjpopbieaaW.XConv
attribute [local go_sem] max2_int min2_int max_two min_two max_three min_three max_four min_four   -- for this text's walks alone
set_option linter.unusedVariables false
set_option linter.unusedSimpArgs false

/-! ### oriellaw07_ScopeKeeps: function 5 -/
mutual
def oriellaw07_ScopeKeeps.j0 : Nat → List (S44) → Bool → ByteArray → List (S51) → Option (Bool)
 | 0, _, _, _, _ => none
 | k + 1, x0, x22, x337000, x337001 => if x22 = true then ((oriellaw07_awake.f k).bind fun t339 => (some t339)) else ((some (([] : List (S44)) : List (S44))).bind fun y340 => (if y340.length + x0.length < 4398046511104 then ((some (([] : List (S51)) : List (S51))).bind fun y346 => (if y346.length + x337001.length < 4398046511104 then ((scope_Enter.f k x0 x337000 x337001).bind fun bt353 => (oriellaw07_ScopeKeeps.l0 k x0 (y340 ++ x0) bt353.1 0 x337000 x337001 x337000 (y346 ++ x337001) bt353.2.1 bt353.2.2.1 bt353.2.2.2.1 bt353.2.2.2.2.1 bt353.2.2.2.2.2.1)) else (none))) else (none)))
def oriellaw07_ScopeKeeps.l0 : Nat → List (S44) → List (S44) → List (S44) → Int → ByteArray → List (S51) → ByteArray → List (S51) → Int → ByteArray → ByteArray → List (S47) → ByteArray → Option (Bool)
 | 0, _, _, _, _, _, _, _, _, _, _, _, _, _ => none
 | k + 1, x0, x5, x7, x10, x337000, x337001, x353000, x353001, x365000, x365001, x365002, x365003, x365004 => if x10 < (x7.length : Int) then (if 0 ≤ x10 then (oriellaw07_ScopeKeeps.l0 k x0 x5 (x7.set (x10 : Int).toNat (⟨(rd_T44 x7 x10).f0, (⟨#[115, 112, 111, 105, 108, 116]⟩ : ByteArray)⟩ : S44)) (wrap64 (x10 + 1)) x337000 x337001 x353000 x353001 x365000 x365001 x365002 x365003 x365004) else (none)) else (oriellaw07_ScopeKeeps.l1 k x0 x5 0 x337000 x337001 x353000 x353001 x365000 x365001 x365002 x365003 x365004)
def oriellaw07_ScopeKeeps.l1 : Nat → List (S44) → List (S44) → Int → ByteArray → List (S51) → ByteArray → List (S51) → Int → ByteArray → ByteArray → List (S47) → ByteArray → Option (Bool)
 | 0, _, _, _, _, _, _, _, _, _, _, _, _ => none
 | k + 1, x0, x5, x11, x337000, x337001, x353000, x353001, x365000, x365001, x365002, x365003, x365004 => if x11 < (x365003.length : Int) then (if 0 ≤ x11 then (oriellaw07_ScopeKeeps.l1 k x0 x5 (wrap64 (x11 + 1)) x337000 x337001 x353000 x353001 x365000 x365001 x365002 (x365003.set (x11 : Int).toNat (⟨(⟨(rd_T47 x365003 x11).f0.f0, (rd_T47 x365003 x11).f0.f1⟩ : S29), (⟨#[115, 112, 111, 105, 108, 116]⟩ : ByteArray)⟩ : S47)) x365004) else (none)) else ((scope_New.f).bind fun t367 => (oriellaw07_ScopeKeeps.l2 k x0 x5 t367 0 x337000 x337001 x353000 x353001))
def oriellaw07_ScopeKeeps.l2 : Nat → List (S44) → List (S44) → List (S44) → Int → ByteArray → List (S51) → ByteArray → List (S51) → Option (Bool)
 | 0, _, _, _, _, _, _, _, _ => none
 | k + 1, x0, x5, x12, x13, x337000, x337001, x353000, x353001 => if x13 < (x12.length : Int) then (if 0 ≤ x13 then (oriellaw07_ScopeKeeps.l2 k x0 x5 (x12.set (x13 : Int).toNat (⟨(rd_T44 x12 x13).f0, (⟨#[115, 112, 111, 105, 108, 116]⟩ : ByteArray)⟩ : S44)) (wrap64 (x13 + 1)) x337000 x337001 x353000 x353001) else (none)) else ((scope_New.f).bind fun t371 => ((orielref07_Same.f k x0 x5).bind fun t374 => (if t374 = true then ((orielref06_Same.f k x337000 x337001 x353000 x353001).bind fun t375 => (if t375 = true then (if (t371.length : Int) = 1 then (if 0 < (t371.length : Int) then (some (((rd_T44 t371 0).f1).toList == ([104, 116, 116, 112, 58, 47, 47, 119, 119, 119, 46, 119, 51, 46, 111, 114, 103, 47, 88, 77, 76, 47, 49, 57, 57, 56, 47, 110, 97, 109, 101, 115, 112, 97, 99, 101] : List UInt8))) else (none)) else (some false)) else (some false))) else (some false))))
end
def oriellaw07_ScopeKeeps.f (k : Nat) (l0 : List (S44)) (a1_0 : ByteArray) (l1_1 : List (S51)) : Option (Bool) := (oriellaw07_awake.f k).bind fun t337 => (if t337 = true then ((oriellaw07_few.f k l0 a1_0 l1_1).bind fun t338 => (oriellaw07_ScopeKeeps.j0 k l0 (!t338) a1_0 l1_1)) else (oriellaw07_ScopeKeeps.j0 k l0 true a1_0 l1_1))
theorem oriellaw07_ScopeKeeps.mono_l : ∀ k, (∀ y0 y1 y2 y3, LeO (oriellaw07_ScopeKeeps.j0 k y0 y1 y2 y3) (oriellaw07_ScopeKeeps.j0 (k + 1) y0 y1 y2 y3)) ∧ (∀ y0 y1 y2 y3 y4 y5 y6 y7 y8 y9 y10 y11 y12, LeO (oriellaw07_ScopeKeeps.l0 k y0 y1 y2 y3 y4 y5 y6 y7 y8 y9 y10 y11 y12) (oriellaw07_ScopeKeeps.l0 (k + 1) y0 y1 y2 y3 y4 y5 y6 y7 y8 y9 y10 y11 y12)) ∧ (∀ y0 y1 y2 y3 y4 y5 y6 y7 y8 y9 y10 y11, LeO (oriellaw07_ScopeKeeps.l1 k y0 y1 y2 y3 y4 y5 y6 y7 y8 y9 y10 y11) (oriellaw07_ScopeKeeps.l1 (k + 1) y0 y1 y2 y3 y4 y5 y6 y7 y8 y9 y10 y11)) ∧ (∀ y0 y1 y2 y3 y4 y5 y6 y7, LeO (oriellaw07_ScopeKeeps.l2 k y0 y1 y2 y3 y4 y5 y6 y7) (oriellaw07_ScopeKeeps.l2 (k + 1) y0 y1 y2 y3 y4 y5 y6 y7))
 | 0 => ⟨fun _ _ _ _ r h => by simp [oriellaw07_ScopeKeeps.j0] at h, fun _ _ _ _ _ _ _ _ _ _ _ _ _ r h => by simp [oriellaw07_ScopeKeeps.l0] at h, fun _ _ _ _ _ _ _ _ _ _ _ _ r h => by simp [oriellaw07_ScopeKeeps.l1] at h, fun _ _ _ _ _ _ _ _ r h => by simp [oriellaw07_ScopeKeeps.l2] at h⟩
 | k + 1 => by
  obtain ⟨ih0, ih1, ih2, ih3⟩ := oriellaw07_ScopeKeeps.mono_l k
  refine ⟨?_, ?_, ?_, ?_⟩
  ·
   intro y0 y1 y2 y3
   unfold oriellaw07_ScopeKeeps.j0
   repeat' first
   | (with_reducible exact ih0 _ _ _ _)
   | (with_reducible exact ih1 _ _ _ _ _ _ _ _ _ _ _ _ _)
   | (with_reducible exact ih2 _ _ _ _ _ _ _ _ _ _ _ _)
   | (with_reducible exact ih3 _ _ _ _ _ _ _ _)
   | (with_reducible exact oriellaw07_awake.mono _)
   | (with_reducible exact oriellaw07_few.mono _ _ _ _)
   | (with_reducible exact orielref06_Same.mono _ _ _ _ _)
   | (with_reducible exact orielref07_Same.mono _ _ _)
   | (with_reducible exact scope_Enter.mono _ _ _ _)
   | (with_reducible exact LeO.refl _)
   | (with_reducible exact LeO.none _)
   | (with_reducible refine LeO.ite ?_ ?_)
   | (with_reducible refine LeO.bind ?_ (fun _ => ?_))
   | exact ih0 _ _ _ _
   | exact ih1 _ _ _ _ _ _ _ _ _ _ _ _ _
   | exact ih2 _ _ _ _ _ _ _ _ _ _ _ _
   | exact ih3 _ _ _ _ _ _ _ _
   | exact oriellaw07_awake.mono _
   | exact oriellaw07_few.mono _ _ _ _
   | exact orielref06_Same.mono _ _ _ _ _
   | exact orielref07_Same.mono _ _ _
   | exact scope_Enter.mono _ _ _ _
   | exact LeO.none _
   | refine LeO.ite ?_ ?_
   | refine LeO.bind ?_ (fun _ => ?_)
  ·
   intro y0 y1 y2 y3 y4 y5 y6 y7 y8 y9 y10 y11 y12
   unfold oriellaw07_ScopeKeeps.l0
   repeat' first
   | (with_reducible exact ih0 _ _ _ _)
   | (with_reducible exact ih1 _ _ _ _ _ _ _ _ _ _ _ _ _)
   | (with_reducible exact ih2 _ _ _ _ _ _ _ _ _ _ _ _)
   | (with_reducible exact ih3 _ _ _ _ _ _ _ _)
   | (with_reducible exact oriellaw07_awake.mono _)
   | (with_reducible exact oriellaw07_few.mono _ _ _ _)
   | (with_reducible exact orielref06_Same.mono _ _ _ _ _)
   | (with_reducible exact orielref07_Same.mono _ _ _)
   | (with_reducible exact scope_Enter.mono _ _ _ _)
   | (with_reducible exact LeO.refl _)
   | (with_reducible exact LeO.none _)
   | (with_reducible refine LeO.ite ?_ ?_)
   | (with_reducible refine LeO.bind ?_ (fun _ => ?_))
   | exact ih0 _ _ _ _
   | exact ih1 _ _ _ _ _ _ _ _ _ _ _ _ _
   | exact ih2 _ _ _ _ _ _ _ _ _ _ _ _
   | exact ih3 _ _ _ _ _ _ _ _
   | exact oriellaw07_awake.mono _
   | exact oriellaw07_few.mono _ _ _ _
   | exact orielref06_Same.mono _ _ _ _ _
   | exact orielref07_Same.mono _ _ _
   | exact scope_Enter.mono _ _ _ _
   | exact LeO.none _
   | refine LeO.ite ?_ ?_
   | refine LeO.bind ?_ (fun _ => ?_)
  ·
   intro y0 y1 y2 y3 y4 y5 y6 y7 y8 y9 y10 y11
   unfold oriellaw07_ScopeKeeps.l1
   repeat' first
   | (with_reducible exact ih0 _ _ _ _)
   | (with_reducible exact ih1 _ _ _ _ _ _ _ _ _ _ _ _ _)
   | (with_reducible exact ih2 _ _ _ _ _ _ _ _ _ _ _ _)
   | (with_reducible exact ih3 _ _ _ _ _ _ _ _)
   | (with_reducible exact oriellaw07_awake.mono _)
   | (with_reducible exact oriellaw07_few.mono _ _ _ _)
   | (with_reducible exact orielref06_Same.mono _ _ _ _ _)
   | (with_reducible exact orielref07_Same.mono _ _ _)
   | (with_reducible exact scope_Enter.mono _ _ _ _)
   | (with_reducible exact LeO.refl _)
   | (with_reducible exact LeO.none _)
   | (with_reducible refine LeO.ite ?_ ?_)
   | (with_reducible refine LeO.bind ?_ (fun _ => ?_))
   | exact ih0 _ _ _ _
   | exact ih1 _ _ _ _ _ _ _ _ _ _ _ _ _
   | exact ih2 _ _ _ _ _ _ _ _ _ _ _ _
   | exact ih3 _ _ _ _ _ _ _ _
   | exact oriellaw07_awake.mono _
   | exact oriellaw07_few.mono _ _ _ _
   | exact orielref06_Same.mono _ _ _ _ _
   | exact orielref07_Same.mono _ _ _
   | exact scope_Enter.mono _ _ _ _
   | exact LeO.none _
   | refine LeO.ite ?_ ?_
   | refine LeO.bind ?_ (fun _ => ?_)
  ·
   intro y0 y1 y2 y3 y4 y5 y6 y7
   unfold oriellaw07_ScopeKeeps.l2
   repeat' first
   | (with_reducible exact ih0 _ _ _ _)
   | (with_reducible exact ih1 _ _ _ _ _ _ _ _ _ _ _ _ _)
   | (with_reducible exact ih2 _ _ _ _ _ _ _ _ _ _ _ _)
   | (with_reducible exact ih3 _ _ _ _ _ _ _ _)
   | (with_reducible exact oriellaw07_awake.mono _)
   | (with_reducible exact oriellaw07_few.mono _ _ _ _)
   | (with_reducible exact orielref06_Same.mono _ _ _ _ _)
   | (with_reducible exact orielref07_Same.mono _ _ _)
   | (with_reducible exact scope_Enter.mono _ _ _ _)
   | (with_reducible exact LeO.refl _)
   | (with_reducible exact LeO.none _)
   | (with_reducible refine LeO.ite ?_ ?_)
   | (with_reducible refine LeO.bind ?_ (fun _ => ?_))
   | exact ih0 _ _ _ _
   | exact ih1 _ _ _ _ _ _ _ _ _ _ _ _ _
   | exact ih2 _ _ _ _ _ _ _ _ _ _ _ _
   | exact ih3 _ _ _ _ _ _ _ _
   | exact oriellaw07_awake.mono _
   | exact oriellaw07_few.mono _ _ _ _
   | exact orielref06_Same.mono _ _ _ _ _
   | exact orielref07_Same.mono _ _ _
   | exact scope_Enter.mono _ _ _ _
   | exact LeO.none _
   | refine LeO.ite ?_ ?_
   | refine LeO.bind ?_ (fun _ => ?_)
theorem oriellaw07_ScopeKeeps.mono : ∀ a0 a1 a2 k, LeO (oriellaw07_ScopeKeeps.f k a0 a1 a2) (oriellaw07_ScopeKeeps.f (k + 1) a0 a1 a2) := by
 intro a0 a1 a2 k
 obtain ⟨ih0, ih1, ih2, ih3⟩ := oriellaw07_ScopeKeeps.mono_l k
 unfold oriellaw07_ScopeKeeps.f
 repeat' first
   | (with_reducible exact ih0 _ _ _ _)
   | (with_reducible exact ih1 _ _ _ _ _ _ _ _ _ _ _ _ _)
   | (with_reducible exact ih2 _ _ _ _ _ _ _ _ _ _ _ _)
   | (with_reducible exact ih3 _ _ _ _ _ _ _ _)
   | (with_reducible exact oriellaw07_awake.mono _)
   | (with_reducible exact oriellaw07_few.mono _ _ _ _)
   | (with_reducible exact orielref06_Same.mono _ _ _ _ _)
   | (with_reducible exact orielref07_Same.mono _ _ _)
   | (with_reducible exact scope_Enter.mono _ _ _ _)
   | (with_reducible exact LeO.refl _)
   | (with_reducible exact LeO.none _)
   | (with_reducible refine LeO.ite ?_ ?_)
   | (with_reducible refine LeO.bind ?_ (fun _ => ?_))
   | exact ih0 _ _ _ _
   | exact ih1 _ _ _ _ _ _ _ _ _ _ _ _ _
   | exact ih2 _ _ _ _ _ _ _ _ _ _ _ _
   | exact ih3 _ _ _ _ _ _ _ _
   | exact oriellaw07_awake.mono _
   | exact oriellaw07_few.mono _ _ _ _
   | exact orielref06_Same.mono _ _ _ _ _
   | exact orielref07_Same.mono _ _ _
   | exact scope_Enter.mono _ _ _ _
   | exact LeO.none _
   | refine LeO.ite ?_ ?_
   | refine LeO.bind ?_ (fun _ => ?_)
def oriellaw07_ScopeKeeps.T4 : Bool × List (List Nat × List Nat) := (true, [([], []), ([0], [0]), ([], []), ([], []), ([3], [3]), ([2, 4], [2, 4]), ([1, 5], [1, 5]), ([], []), ([7, 6, 5, 0, 1, 2, 3, 4, 5, 6, 7], [6, 7])])
def oriellaw07_ScopeKeeps.B4 : List Nat := [0, 1, 0, 0, 8, 28, 63, 0, 255]
theorem oriellaw07_ScopeKeeps.tab4 : rtab .any (opsOf Try.f5 4) = oriellaw07_ScopeKeeps.T4 := by kernel_rfl
theorem oriellaw07_ScopeKeeps.bits4 : waitsOk oriellaw07_ScopeKeeps.T4.2 oriellaw07_ScopeKeeps.B4 = true := by kernel_rfl
set_option maxHeartbeats 8000000 in
set_option maxRecDepth 100000 in
theorem oriellaw07_ScopeKeeps.calls (k : Nat) (A0 : Option Addr) (c0 : Nat) (l0 : List (S44)) (a1_0 : ByteArray) (A1_1 : Option Addr) (c1_1 : Nat) (l1_1 : List (S51)) (r : Bool) (w : World) (hr0 : Kd.C k44 w A0 l0.length l0) (hc0 : l0.length ≤ c0) (hr1_1 : Kd.C k51 w A1_1 l1_1.length l1_1) (hc1_1 : l1_1.length ≤ c1_1) (h : oriellaw07_ScopeKeeps.f k l0 a1_0 l1_1 = some r) :
  Calls Try.prog 5 #[.slice A0 l0.length c0, .agg #[.string a1_0, .slice A1_1 l1_1.length c1_1]] w fun e w' => e = .returned (.bool r) ∧ Below w.heap.size w w' := by
 have hu25 := Try.underlying25
 have hu32 := Try.underlying32
 have HR0 := Aside0.mk hr0
 have HC0 := Aside0.mk hc0
 clear hr0 hc0
 have HR1_1 := Aside0.mk hr1_1
 have HC1_1 := Aside0.mk hc1_1
 clear hr1_1 hc1_1
 have HB := Aside0.mk (Below.refl w.heap.size w)
 have H : ((oriellaw07_awake.f k).bind fun t337 => (if t337 = true then ((oriellaw07_few.f k l0 a1_0 l1_1).bind fun t338 => (oriellaw07_ScopeKeeps.j0 k l0 (!t338) a1_0 l1_1)) else (oriellaw07_ScopeKeeps.j0 k l0 true a1_0 l1_1))) = some r := h
 clear h
 have HC3 := Aside0.mk H
 clear H
 go_enter Try.func5, Try.ntmps5
 go_upto_region 1 with (first | ((with_reducible refine gate_dst (N := 3) rfl ?_); (try (refine gate_guard (by rfl) ?_; dsimp only)); refine box_event ?hg (N := 3) ?hd (cs := #[.string a1_0, .slice A1_1 l1_1.length c1_1]) (t := 25) ?hr ?_; (case hd => rfl); (case hg => rfl); (case hr => first | (go_simp; done) | (go_simp; rfl)); intro gb336 hg w4 hbox hb; have n0_ := Aside0.mk (below_step (by repeat (first | (with_reducible first | exact HB.out | apply below_alloc | apply pw_below_drewN | apply below_drew1) | exact HB.out)) hb); have n1_ := Aside0.mk (hbox); have n2_ := Aside0.mk ((by rw [hg]; exact (below_size (by repeat (first | (with_reducible first | exact HB.out | apply below_alloc | apply pw_below_drewN | apply below_drew1) | exact HB.out))) : w.heap.size ≤ gb336)); have n3_ := Aside0.mk ((by rw [hg]; exact (below_size (by repeat (first | (with_reducible first | exact HB.out | apply below_alloc | apply pw_below_drewN | apply below_drew1) | exact HB.out))) : w.heap.size ≤ gb336)); clear HB; have HB := n0_; have BK336 := n1_; have GW336 := n2_; have GE336 := n3_; clear n0_ n1_ n2_ n3_; clear hb hbox hg))
 (try simp only [Act.put, List.setIfInBounds_toArray, List.set_cons_zero, List.set_cons_succ])
 go_cut [22] (fun v22 wc => ∃ (kq : Nat) (x22_2 : Bool), v22 = .bool x22_2 ∧ Aside0 (oriellaw07_ScopeKeeps.j0 kq l0 x22_2 a1_0 l1_1 = some r) ∧ Aside0 (kq ≤ k) ∧ Aside0 (wc.heap[gb336]? = some (.cells #[.string a1_0, (.slice A1_1 l1_1.length c1_1)] 25 (0, 0))) ∧ Aside0 (Below w.heap.size w wc))
 case first =>
  have H := HC3.out
  clear HC3
  replace H := Option.bind_eq_some_iff.mp H
  obtain ⟨t337, A50, H⟩ := H
  replace H : (if t337 = true then ((oriellaw07_few.f k l0 a1_0 l1_1).bind fun t338 => (oriellaw07_ScopeKeeps.j0 k l0 (!t338) a1_0 l1_1)) else (oriellaw07_ScopeKeeps.j0 k l0 true a1_0 l1_1)) = some r := H
  have A5 := Aside0.mk A50
  clear A50
  by_cases c6 : t337 = true
  ·
   subst c6
   have H1 : ((oriellaw07_few.f k l0 a1_0 l1_1).bind fun t338 => (oriellaw07_ScopeKeeps.j0 k l0 (!t338) a1_0 l1_1)) = some r := by rw [if_pos rfl] at H; exact H
   clear H
   have H := H1
   clear H1
   replace H := Option.bind_eq_some_iff.mp H
   obtain ⟨t338, A70, H⟩ := H
   replace H : (oriellaw07_ScopeKeeps.j0 k l0 (!t338) a1_0 l1_1) = some r := H
   have A7 := Aside0.mk A70
   clear A70
   have H' := Aside0.mk H
   clear H
   go_wp2_with (first | ((with_reducible refine gate_callee (f := 8) rfl ?_); refine goesL_ (some 15) rfl rfl Try.func8 (by kernel_rfl) rfl #[] rfl (by (try simp only [List.map_toArray, List.map_cons, List.map_nil]); first | done | rfl | (simp only [List.length_drop, List.length_take]; rfl)) ?_; (with_reducible refine (oriellaw07_awake.calls k  true _ A5.out).mono ?_); rintro e w8 ⟨rfl, hb⟩; refine ⟨_, rfl, ?_⟩; have n0_ := Aside0.mk (blk_below (g := gb336) (o := .cells #[.string a1_0, .slice A1_1 l1_1.length c1_1] 25 (0, 0)) (by (with_reducible repeat (first | refine blk_drewN ?_ _ | refine blk_drew ?_ | refine blk_alloc ?_ _)); exact BK336.out) hb); have n1_ := Aside0.mk (below_step (by repeat (first | (with_reducible first | exact HB.out | apply below_alloc | apply pw_below_drewN | apply below_drew1 | refine below_set ?_ GE336.out) | exact HB.out)) hb); clear BK336; clear HB; have BK336 := n0_; have HB := n1_; clear n0_ n1_; (try clear hb); (try clear hb2); (try clear hk); (try clear hi); have hcz9_0 : w8.cell? ⟨gb336, 0, none⟩ = some (.string a1_0) := (blk_cell BK336.out 0).trans rfl; have hcz9_1 : w8.cell? ⟨gb336, 1, none⟩ = some (.slice A1_1 l1_1.length c1_1) := (blk_cell BK336.out 1).trans rfl; have hfz9_0 := blk_frozen BK336.out 0; have hfz9_1 := blk_frozen BK336.out 1) | (go_at_call 9; (with_reducible refine (oriellaw07_few.calls k _ _ l0 a1_0 _ _ l1_1 t338 _ ?side1 ?side2 ?side3 ?side4 A7.out).mono ?_); (case side1 => repeat (first | exact (Kd.C_below HR0.out HB.out) | (with_reducible refine Kd.C_alloc ?_ _) | (with_reducible refine Kd.C_drewN ?_ _) | (with_reducible refine Kd.C_drew ?_))); (case side2 => exact HC0.out); (case side3 => repeat (first | exact (Kd.C_below HR1_1.out HB.out) | (with_reducible refine Kd.C_alloc ?_ _) | (with_reducible refine Kd.C_drewN ?_ _) | (with_reducible refine Kd.C_drew ?_))); (case side4 => exact HC1_1.out); rintro e w10 ⟨rfl, hb⟩; have n0_ := Aside0.mk (blk_below (g := gb336) (o := .cells #[.string a1_0, .slice A1_1 l1_1.length c1_1] 25 (0, 0)) (by (with_reducible repeat (first | refine blk_drewN ?_ _ | refine blk_drew ?_ | refine blk_alloc ?_ _)); exact BK336.out) hb); have n1_ := Aside0.mk (below_step (by repeat (first | (with_reducible first | exact HB.out | apply below_alloc | apply pw_below_drewN | apply below_drew1 | refine below_set ?_ GE336.out) | exact HB.out)) hb); clear BK336; clear HB; have BK336 := n0_; have HB := n1_; clear n0_ n1_; (try clear hb); (try clear hb2); (try clear hk); (try clear hi)))
   go_meet
   case rel => exact ⟨_, (!t338), (by first | rfl | (simp; done) | (simp [*]; done)), H', ⟨by first | omega | exact Nat.le_refl _⟩, ⟨by (with_reducible repeat (first | refine blk_drewN ?_ _ | refine blk_drew ?_ | refine blk_alloc ?_ _)); exact BK336.out⟩, ⟨by repeat (first | (with_reducible first | exact HB.out | apply below_alloc | apply pw_below_drewN | apply below_drew1 | refine below_set ?_ GE336.out) | exact HB.out)⟩⟩
  ·
   replace c6 := Bool.eq_false_iff.mpr c6
   subst c6
   have H1 : (oriellaw07_ScopeKeeps.j0 k l0 true a1_0 l1_1) = some r := by rw [if_neg (show ¬ (false = true) by decide)] at H; exact H
   clear H
   have H := H1
   clear H1
   have H' := Aside0.mk H
   clear H
   go_wp2_with (first | ((with_reducible refine gate_callee (f := 8) rfl ?_); refine goesL_ (some 15) rfl rfl Try.func8 (by kernel_rfl) rfl #[] rfl (by (try simp only [List.map_toArray, List.map_cons, List.map_nil]); first | done | rfl | (simp only [List.length_drop, List.length_take]; rfl)) ?_; (with_reducible refine (oriellaw07_awake.calls k  false _ A5.out).mono ?_); rintro e w11 ⟨rfl, hb⟩; refine ⟨_, rfl, ?_⟩; have n0_ := Aside0.mk (blk_below (g := gb336) (o := .cells #[.string a1_0, .slice A1_1 l1_1.length c1_1] 25 (0, 0)) (by (with_reducible repeat (first | refine blk_drewN ?_ _ | refine blk_drew ?_ | refine blk_alloc ?_ _)); exact BK336.out) hb); have n1_ := Aside0.mk (below_step (by repeat (first | (with_reducible first | exact HB.out | apply below_alloc | apply pw_below_drewN | apply below_drew1 | refine below_set ?_ GE336.out) | exact HB.out)) hb); clear BK336; clear HB; have BK336 := n0_; have HB := n1_; clear n0_ n1_; (try clear hb); (try clear hb2); (try clear hk); (try clear hi)))
   go_meet
   case rel => exact ⟨_, (true), (by first | rfl | (simp; done) | (simp [*]; done)), H', ⟨by first | omega | exact Nat.le_refl _⟩, ⟨by (with_reducible repeat (first | refine blk_drewN ?_ _ | refine blk_drew ?_ | refine blk_alloc ?_ _)); exact BK336.out⟩, ⟨by repeat (first | (with_reducible first | exact HB.out | apply below_alloc | apply pw_below_drewN | apply below_drew1 | refine below_set ?_ GE336.out) | exact HB.out)⟩⟩
 case rest =>
  clear HC3
  try clear c1
  try clear p2
  try clear c5
  try clear c6
  try clear c8
  try clear hcz9_0
  try clear hcz9_1
  try clear hfz9_0
  try clear hfz9_1
  obtain ⟨kq, x22_2, rfl, HA, HJ2, BK336, HB⟩ := hcut
  cases kq with
  | zero => exact absurd HA.out (by simp [oriellaw07_ScopeKeeps.j0])
  | succ kj2 =>
   have H := HA.out
   clear HA
   simp only [oriellaw07_ScopeKeeps.j0] at H
   by_cases c12 : x22_2 = true
   ·
    subst c12
    have H1 : ((oriellaw07_awake.f kj2).bind fun t339 => (some t339)) = some r := by rw [if_pos rfl] at H; exact H
    clear H
    have H := H1
    clear H1
    replace H := Option.bind_eq_some_iff.mp H
    obtain ⟨t339, A130, H⟩ := H
    replace H : (some t339) = some r := H
    have A13 := Aside0.mk A130
    clear A130
    obtain rfl := Option.some.inj H
    go_wp2_with (first | ((with_reducible refine gate_callee (f := 8) rfl ?_); refine goesL_ (some 23) rfl rfl Try.func8 (by kernel_rfl) rfl #[] rfl (by (try simp only [List.map_toArray, List.map_cons, List.map_nil]); first | done | rfl | (simp only [List.length_drop, List.length_take]; rfl)) ?_; (with_reducible refine (oriellaw07_awake.calls kj2  t339 _ A13.out).mono ?_); rintro e w14 ⟨rfl, hb⟩; refine ⟨_, rfl, ?_⟩; have n0_ := Aside0.mk (blk_below (g := gb336) (o := .cells #[.string a1_0, .slice A1_1 l1_1.length c1_1] 25 (0, 0)) (by (with_reducible repeat (first | refine blk_drewN ?_ _ | refine blk_drew ?_ | refine blk_alloc ?_ _)); exact BK336.out) hb); have n1_ := Aside0.mk (below_step (by repeat (first | (with_reducible first | exact HB.out | apply below_alloc | apply pw_below_drewN | apply below_drew1 | refine below_set ?_ GE336.out) | exact HB.out)) hb); clear BK336; clear HB; have BK336 := n0_; have HB := n1_; clear n0_ n1_; (try clear hb); (try clear hb2); (try clear hk); (try clear hi)))
    go_ret
    exact ⟨by first | rfl | exact congrArg (fun b => Ending.returned (Value.bool b)) (isE_ne _).symm | exact congrArg (fun b => Ending.returned (Value.bool b)) (isE_eq _).symm | (simp only [isE_ne, isE_eq, Bool.not_not]; done) | (simp [errW_none, errW_some] <;> rfl) | (simp [*, errW_none, errW_some] <;> rfl), by repeat (first | (with_reducible first | exact HB.out | apply below_alloc | apply pw_below_drewN | apply below_drew1 | refine below_set ?_ GE336.out) | exact HB.out)⟩
   ·
    replace c12 := Bool.eq_false_iff.mpr c12
    subst c12
    have H1 : ((some (([] : List (S44)) : List (S44))).bind fun y340 => (if y340.length + l0.length < 4398046511104 then ((some (([] : List (S51)) : List (S51))).bind fun y346 => (if y346.length + l1_1.length < 4398046511104 then ((scope_Enter.f kj2 l0 a1_0 l1_1).bind fun bt353 => (oriellaw07_ScopeKeeps.l0 kj2 l0 (y340 ++ l0) bt353.1 0 a1_0 l1_1 a1_0 (y346 ++ l1_1) bt353.2.1 bt353.2.2.1 bt353.2.2.2.1 bt353.2.2.2.2.1 bt353.2.2.2.2.2.1)) else (none))) else (none))) = some r := by rw [if_neg (show ¬ (false = true) by decide)] at H; exact H
    clear H
    have H := H1
    clear H1
    obtain ⟨y340, hy340⟩ : ∃ y_ : List (S44), y_ = (([] : List (S44))) := ⟨_, rfl⟩
    replace H : (if y340.length + l0.length < 4398046511104 then ((some (([] : List (S51)) : List (S51))).bind fun y346 => (if y346.length + l1_1.length < 4398046511104 then ((scope_Enter.f kj2 l0 a1_0 l1_1).bind fun bt353 => (oriellaw07_ScopeKeeps.l0 kj2 l0 (y340 ++ l0) bt353.1 0 a1_0 l1_1 a1_0 (y346 ++ l1_1) bt353.2.1 bt353.2.2.1 bt353.2.2.2.1 bt353.2.2.2.2.1 bt353.2.2.2.2.2.1)) else (none))) else (none)) = some r := by first | (rw [hy340]; with_reducible exact H) | (have H2_ := (Option.bind_some _ _).symm.trans H; rw [hy340]; with_reducible exact H2_) | (have H2_ := (Option.bind_some _ _).symm.trans H; with_reducible exact H2_) | with_reducible exact H | (rw [hy340]; exact H) | exact H
    have Ny340 := Aside0.mk hy340
    clear hy340
    by_cases c15 : y340.length + l0.length < 4398046511104
    ·
     rw [if_pos c15] at H
     have LMc15 := Aside0.mk c15
     clear c15
     obtain ⟨y343, hy343⟩ : ∃ y_ : List (S44), y_ = (y340 ++ l0) := ⟨_, rfl⟩
     replace H : ((some (([] : List (S51)) : List (S51))).bind fun y346 => (if y346.length + l1_1.length < 4398046511104 then ((scope_Enter.f kj2 l0 a1_0 l1_1).bind fun bt353 => (oriellaw07_ScopeKeeps.l0 kj2 l0 y343 bt353.1 0 a1_0 l1_1 a1_0 (y346 ++ l1_1) bt353.2.1 bt353.2.2.1 bt353.2.2.2.1 bt353.2.2.2.2.1 bt353.2.2.2.2.2.1)) else (none))) = some r := by first | (rw [hy343]; with_reducible exact H) | (have H2_ := (Option.bind_some _ _).symm.trans H; rw [hy343]; with_reducible exact H2_) | (have H2_ := (Option.bind_some _ _).symm.trans H; with_reducible exact H2_) | with_reducible exact H | (rw [hy343]; exact H) | exact H
     have Ny343 := Aside0.mk hy343
     clear hy343
     obtain ⟨y346, hy346⟩ : ∃ y_ : List (S51), y_ = (([] : List (S51))) := ⟨_, rfl⟩
     replace H : (if y346.length + l1_1.length < 4398046511104 then ((scope_Enter.f kj2 l0 a1_0 l1_1).bind fun bt353 => (oriellaw07_ScopeKeeps.l0 kj2 l0 y343 bt353.1 0 a1_0 l1_1 a1_0 (y346 ++ l1_1) bt353.2.1 bt353.2.2.1 bt353.2.2.2.1 bt353.2.2.2.2.1 bt353.2.2.2.2.2.1)) else (none)) = some r := by first | (rw [hy346]; with_reducible exact H) | (have H2_ := (Option.bind_some _ _).symm.trans H; rw [hy346]; with_reducible exact H2_) | (have H2_ := (Option.bind_some _ _).symm.trans H; with_reducible exact H2_) | with_reducible exact H | (rw [hy346]; exact H) | exact H
     have Ny346 := Aside0.mk hy346
     clear hy346
     by_cases c16 : y346.length + l1_1.length < 4398046511104
     ·
      rw [if_pos c16] at H
      have LMc16 := Aside0.mk c16
      clear c16
      obtain ⟨y349, hy349⟩ : ∃ y_ : List (S51), y_ = (y346 ++ l1_1) := ⟨_, rfl⟩
      replace H : ((scope_Enter.f kj2 l0 a1_0 l1_1).bind fun bt353 => (oriellaw07_ScopeKeeps.l0 kj2 l0 y343 bt353.1 0 a1_0 l1_1 a1_0 y349 bt353.2.1 bt353.2.2.1 bt353.2.2.2.1 bt353.2.2.2.2.1 bt353.2.2.2.2.2.1)) = some r := by first | (rw [hy349]; with_reducible exact H) | (have H2_ := (Option.bind_some _ _).symm.trans H; rw [hy349]; with_reducible exact H2_) | (have H2_ := (Option.bind_some _ _).symm.trans H; with_reducible exact H2_) | with_reducible exact H | (rw [hy349]; exact H) | exact H
      have Ny349 := Aside0.mk hy349
      clear hy349
      replace H := Option.bind_eq_some_iff.mp H
      obtain ⟨⟨t353, t356, t357, t358, t359, t362, t363⟩, A170, H⟩ := H
      replace H : (oriellaw07_ScopeKeeps.l0 kj2 l0 y343 t353 0 a1_0 l1_1 a1_0 y349 t356 t357 t358 t359 t362) = some r := H
      have A17 := Aside0.mk A170
      clear A170
      have H' := Aside0.mk H
      clear H
      try go_wp2_with (first | ((with_reducible refine gate_dst (N := 24) rfl ?_); (try (refine gate_guard (by rfl) ?_; dsimp only)); refine Kd.R_lit k44 _ 44 ?hg (N := 24) ?hd (xs := ([] : List (S44))) (inner := []) (ok := fun _ => True) (okp := fun _ => True) ?hr ?hp (fun _ hk => hk) trivial (Below.refl _ _) (Nat.le_refl _) (by simp) ?_; (case hd => rfl); (case hg => rfl); (case hr => first | (go_simp; done) | (go_simp; rfl)); (case hp => exact (Reps.none _ _)); intro v341 w18 ho19 hb hg_ hnew_; clear hg_ hnew_; (first | rw [← Ny340.out] at ho19 | (simp only [Int.reduceToNat] at ho19; rw [← Ny340.out] at ho19)); have n0_ := Aside0.mk (Kd.R_lower ho19 (below_size (by repeat (first | (with_reducible first | exact HB.out | apply below_alloc | apply pw_below_drewN | apply below_drew1 | refine below_set ?_ GE336.out) | exact HB.out)))); have n1_ := Aside0.mk (blk_below (g := gb336) (o := .cells #[.string a1_0, .slice A1_1 l1_1.length c1_1] 25 (0, 0)) (by (with_reducible repeat (first | refine blk_drewN ?_ _ | refine blk_drew ?_ | refine blk_alloc ?_ _)); exact BK336.out) hb); have n2_ := Aside0.mk (below_step (by repeat (first | (with_reducible first | exact HB.out | apply below_alloc | apply pw_below_drewN | apply below_drew1 | refine below_set ?_ GE336.out) | exact HB.out)) hb); clear BK336; clear HB; have HO342 := n0_; have BK336 := n1_; have HB := n2_; clear n0_ n1_ n2_; clear hb ho19) | ((with_reducible refine gate_builtin (b := .append) (xs := #[.tmp 24, .tmp 25]) rfl ?_); (try (refine gate_guard (by rfl) ?_; dsimp only)); at_builtin; refine Kd.R_append_rows k44 (w0 := w) w.heap.size rfl (.tmp 24) (.tmp 25) 22 44 (.agg #[(.string ⟨#[]⟩), (.string ⟨#[]⟩)]) 32 rfl Try.underlying22 info44 rfl (by decide) (by omega) v341 y340 l0 _ _ _ (fun _ => True) (fun _ => False) rfl rfl ?aO ?aR (fun _ _ h => h) (fun _ h => h.elim) ?aF ?aB ?aS ?aL ?_; (case aR => repeat (first | exact (Kd.C_below HR0.out HB.out) | (with_reducible refine Kd.C_alloc ?_ _) | (with_reducible refine Kd.C_drewN ?_ _) | (with_reducible refine Kd.C_drew ?_))); (case aB => exact (by repeat (first | (with_reducible first | exact HB.out | apply below_alloc | apply pw_below_drewN | apply below_drew1 | refine below_set ?_ GE336.out) | exact HB.out))); (case aF => exact (fun _ _ => trivial)); (case aO => exact (by (with_reducible repeat (first | apply Kd.R_alloc | apply Kd.R_drewN | apply Kd.R_drew)); exact HO342.out)); (case aS => exact (below_size (by repeat (first | (with_reducible first | exact HB.out | apply below_alloc | apply pw_below_drewN | apply below_drew1 | refine below_set ?_ GE336.out) | exact HB.out)))); (case aL => have := LMc15.out; omega); intro v344 w20 ho hb hg hat; rw [← Ny343.out] at ho; have n0_ := Aside0.mk (blk_grown (g := gb336) (o := .cells #[.string a1_0, .slice A1_1 l1_1.length c1_1] 25 (0, 0)) (by (with_reducible repeat (first | refine blk_drewN ?_ _ | refine blk_drew ?_ | refine blk_alloc ?_ _)); exact BK336.out) hg (Kd.R_ne HO342.out BK336.out (by decide))); have n1_ := Aside0.mk (hb); have n2_ := Aside0.mk (ho); clear BK336; clear HB; clear HO342; have BK336 := n0_; have HB := n1_; have HO345 := n2_; clear n0_ n1_ n2_; clear ho hb hg hat))
      have n0_ := Aside0.mk (Kd.R_drew HO345.out)
      have n1_ := Aside0.mk (blk_drew BK336.out)
      have n2_ := Aside0.mk (below_drew1 HB.out)
      clear HO345
      clear BK336
      clear HB
      have HO345 := n0_
      have BK336 := n1_
      have HB := n2_
      clear n0_ n1_ n2_
      refine start_ (n := 9) (S := fun w' => w'.cell? ⟨gb336, 0, none⟩ = some (.string a1_0) ∧ w'.cell? ⟨gb336, 1, none⟩ = some (.slice A1_1 l1_1.length c1_1)) (ds := []) #[false, false, false, false, false, false, false, false, false] (by kernel_rfl) rfl rfl ⟨(blk_cell BK336.out 0).trans rfl, (blk_cell BK336.out 1).trans rfl⟩ (fun hHeld => ?_); refine with_tabW oriellaw07_ScopeKeeps.tab4 oriellaw07_ScopeKeeps.bits4 (fun HT_ HW_ => ?_)
      generalize w20.drew = w21 at HO345 BK336 HB hHeld ⊢
      refine pure_ (i := 0) (N := some 27) (v := ?_) (a' := ?_) #[true, false, false, false, false, false, false, false, false] rfl rfl (any_of HT_.out (by kernel_rfl)) (fun _ _ _ h => h) (Or.inl ⟨by rfl, ?_⟩) ?_ ?_
      rotate_left
      ·
       intro w'
       go_simp
       with_reducible rfl
      rotate_left
      ·
       simp only [Act.put, List.setIfInBounds_toArray, List.set_cons_zero, List.set_cons_succ, i64_w, i32_w]
       rfl
      refine pure_ (i := 3) (N := some 30) (v := ?_) (a' := ?_) #[true, false, false, true, false, false, false, false, false] rfl rfl (any_of HT_.out (by kernel_rfl)) (fun _ _ _ h => h) (Or.inl ⟨by rfl, ?_⟩) ?_ ?_
      rotate_left
      ·
       intro w'
       go_simp
       with_reducible rfl
      rotate_left
      ·
       simp only [Act.put, List.setIfInBounds_toArray, List.set_cons_zero, List.set_cons_succ, i64_w, i32_w]
       rfl
      refine take_ (i := 1) (N := some 28) (v := ?_) (a' := ?_) #[true, true, false, true, false, false, false, false, false] rfl rfl (take_ofW HT_.out HW_.out (by kernel_rfl)) (fun _ _ _ h => h) (Or.inl ⟨by rfl, ?_⟩) hHeld ?_ ?_
      rotate_left
      ·
       rintro w' ⟨s0, s1⟩
       go_simp
       with_reducible rfl
      rotate_left
      ·
       simp only [Act.put, List.setIfInBounds_toArray, List.set_cons_zero, List.set_cons_succ, i64_w, i32_w]
       rfl
      refine take_ (i := 4) (N := some 31) (v := ?_) (a' := ?_) #[true, true, false, true, true, false, false, false, false] rfl rfl (take_ofW HT_.out HW_.out (by kernel_rfl)) (fun _ _ _ h => h) (Or.inl ⟨by rfl, ?_⟩) hHeld ?_ ?_
      rotate_left
      ·
       rintro w' ⟨s0, s1⟩
       go_simp
       with_reducible rfl
      rotate_left
      ·
       simp only [Act.put, List.setIfInBounds_toArray, List.set_cons_zero, List.set_cons_succ, i64_w, i32_w]
       rfl
      refine join_ (σ := Value × Value × Nat) 1 #[true, true, true, true, true, true, true, true, false] (fun s_ => [(29, s_.1), (32, s_.2.1), (6, .pointer (some ⟨s_.2.2, 0, none⟩)), (33, .agg #[.string a1_0, s_.2.1])]) (fun s_ w' => (w'.cell? ⟨gb336, 0, none⟩ = some (.string a1_0) ∧ w'.cell? ⟨gb336, 1, none⟩ = some (.slice A1_1 l1_1.length c1_1)) ∧ (Kd.R k44 44 w' w.heap.size (fun _ => True) v344 y343) ∧ (Kd.R k51 51 w' w.heap.size (fun _ => True) s_.2.1 y349) ∧ (w'.heap[gb336]? = some (.cells #[.string a1_0, .slice A1_1 l1_1.length c1_1] 25 (0, 0))) ∧ (w'.heap[s_.2.2]? = some (.cells #[.string (⟨#[]⟩ : ByteArray), .slice none 0 0] 25 (0, 0))) ∧ (w.heap.size ≤ s_.2.2) ∧ (w.heap.size ≤ s_.2.2) ∧ (gb336 ≠ s_.2.2) ∧ (s_.2.2 ≠ gb336) ∧ (Below w.heap.size w w')) ?_ ?_
      rotate_left
      ·
       intro hCont
       refine two_ (i := 2) (j := 7) (Ni := some 29) (Nj := some 6) #[true, true, true, true, true, false, false, false, false] #[true, true, false, true, true, false, false, true, false] rfl rfl rfl rfl (two_of HT_.out (by kernel_rfl)) (by decide) (by decide) (fun K hK => ?_) (fun K hK => ?_)
       ·
        skip
        refine Kd.R_lit_step k51 _ 51 ?hg (N := 29) ?hd (xs := ([] : List (S51))) (inner := []) (ok := fun _ => True) (okp := fun _ => True) ?hr ?hp (fun _ hk => hk) trivial (Below.refl _ _) (Nat.le_refl _) (by simp) ?_; (case hd => rfl); (case hg => rfl); (case hr => first | (go_simp; done) | (go_simp; rfl)); (case hp => exact (Reps.none _ _))
        intro v347 w22 ho23 hb hg_ hnew_
        clear hg_ hnew_
        (first | rw [← Ny346.out] at ho23 | (simp only [Int.reduceToNat] at ho23; rw [← Ny346.out] at ho23))
        have n0_ := Aside0.mk (Kd.R_below (by (with_reducible repeat (first | apply Kd.R_alloc | apply Kd.R_drewN | apply Kd.R_drew)); exact HO345.out) hb)
        have n1_ := Aside0.mk (Kd.R_lower ho23 (below_size (by repeat (first | (with_reducible first | exact HB.out | apply below_alloc | apply pw_below_drewN | apply below_drew1 | refine below_set ?_ GE336.out) | exact HB.out))))
        have n2_ := Aside0.mk (blk_below (g := gb336) (o := .cells #[.string a1_0, .slice A1_1 l1_1.length c1_1] 25 (0, 0)) (by (with_reducible repeat (first | refine blk_drewN ?_ _ | refine blk_drew ?_ | refine blk_alloc ?_ _)); exact BK336.out) hb)
        have n3_ := Aside0.mk (below_step (by repeat (first | (with_reducible first | exact HB.out | apply below_alloc | apply pw_below_drewN | apply below_drew1 | refine below_set ?_ GE336.out) | exact HB.out)) hb)
        clear HO345
        clear BK336
        clear HB
        have HO345 := n0_
        have HO348 := n1_
        have BK336 := n2_
        have HB := n3_
        clear n0_ n1_ n2_ n3_
        clear hb ho23
        refine hK.out _ _ ⟨(blk_cell BK336.out 0).trans rfl, (blk_cell BK336.out 1).trans rfl⟩ (fun hHeld => ?_)
        clear hK K
        refine norm_ (a' := ?_) ?_ ?_
        rotate_left
        ·
         show Act.put _ (some 29) _ = _
         simp only [Act.put, List.setIfInBounds_toArray, List.set_cons_zero, List.set_cons_succ, i64_w, i32_w]
         rfl
        refine two_ (i := 5) (j := 7) (Ni := some 32) (Nj := some 6) #[true, true, true, true, true, true, false, false, false] #[true, true, true, true, true, false, false, true, false] rfl rfl rfl rfl (two_of HT_.out (by kernel_rfl)) (by decide) (by decide) (fun K hK => ?_) (fun K hK => ?_)
        ·
         skip
         refine Kd.R_append_rows_step k51 (w0 := w) w.heap.size (by rfl) (.tmp 29) (.tmp 31) 23 51 (.agg #[(.string ⟨#[]⟩), (.string ⟨#[]⟩)]) 32 rfl Try.underlying23 info51 rfl (by decide) (by omega) v347 y346 l1_1 _ _ _ (fun _ => True) (fun _ => False) rfl rfl ?aO ?aR (fun _ _ h => h) (fun _ h => h.elim) ?aF ?aB ?aS ?aL ?_
         (case aR => repeat (first | exact (Kd.C_below HR1_1.out HB.out) | (with_reducible refine Kd.C_alloc ?_ _) | (with_reducible refine Kd.C_drewN ?_ _) | (with_reducible refine Kd.C_drew ?_)))
         (case aB => exact (by repeat (first | (with_reducible first | exact HB.out | apply below_alloc | apply pw_below_drewN | apply below_drew1 | refine below_set ?_ GE336.out) | exact HB.out)))
         (case aF => exact (fun _ _ => trivial))
         (case aO => exact (by (with_reducible repeat (first | apply Kd.R_alloc | apply Kd.R_drewN | apply Kd.R_drew)); exact HO348.out))
         (case aS => exact (below_size (by repeat (first | (with_reducible first | exact HB.out | apply below_alloc | apply pw_below_drewN | apply below_drew1 | refine below_set ?_ GE336.out) | exact HB.out))))
         (case aL => have := LMc16.out; omega)
         intro v350 w24 ho hb hg hat
         rw [← Ny349.out] at ho
         have n0_ := Aside0.mk (blk_grown (g := gb336) (o := .cells #[.string a1_0, .slice A1_1 l1_1.length c1_1] 25 (0, 0)) (by (with_reducible repeat (first | refine blk_drewN ?_ _ | refine blk_drew ?_ | refine blk_alloc ?_ _)); exact BK336.out) hg (Kd.R_ne HO348.out BK336.out (by decide)))
         have n1_ := Aside0.mk (Kd.R_over' (by (with_reducible repeat (first | apply Kd.R_alloc | apply Kd.R_drewN | apply Kd.R_drew)); exact HO345.out) (Kd.R_typed (by (with_reducible repeat (first | apply Kd.R_alloc | apply Kd.R_drewN | apply Kd.R_drew)); exact HO348.out)) (by decide) hg)
         have n2_ := Aside0.mk (hb)
         have n3_ := Aside0.mk (ho)
         clear BK336
         clear HO345
         clear HB
         clear HO348
         have BK336 := n0_
         have HO345 := n1_
         have HB := n2_
         have HO351 := n3_
         clear n0_ n1_ n2_ n3_
         clear ho hb hg hat
         obtain ⟨Ao25, co25, eo25⟩ := Kd.R_slice HO351.out
         (first | subst eo25 | (injection eo25 with f1_ f2_ f3_; have f4_ := f1_.symm; have f5_ := f3_.symm; clear f1_ f2_ f3_; subst f4_; subst f5_))
         refine hK.out _ _ ⟨(blk_cell BK336.out 0).trans rfl, (blk_cell BK336.out 1).trans rfl⟩ (fun hHeld => ?_)
         clear hK K
         refine norm_ (a' := ?_) ?_ ?_
         rotate_left
         ·
          show Act.put _ (some 32) _ = _
          simp only [Act.put, List.setIfInBounds_toArray, List.set_cons_zero, List.set_cons_succ, i64_w, i32_w]
          rfl
         refine pure_ (i := 6) (N := some 33) (v := ?_) (a' := ?_) #[true, true, true, true, true, true, true, false, false] rfl rfl (any_of HT_.out (by kernel_rfl)) (fun _ _ _ h => h) (Or.inl ⟨by rfl, ?_⟩) ?_ ?_
         rotate_left
         ·
          intro w'
          go_simp
          with_reducible rfl
         rotate_left
         ·
          simp only [Act.put, List.setIfInBounds_toArray, List.set_cons_zero, List.set_cons_succ, i64_w, i32_w]
          rfl
         refine one_ (i := 7) (N := some 6) #[true, true, true, true, true, true, true, true, false] rfl rfl (one_of HT_.out (by kernel_rfl)) (by decide) (fun K hK => ?_)
         refine box_step ?hg (N := 6) ?hd (cs := #[.string (⟨#[]⟩ : ByteArray), .slice none 0 0]) (t := 25) ?hr ?_; (case hd => rfl); (case hg => rfl); (case hr => first | (go_simp; done) | (go_simp; rfl))
         intro gb352 hg w26 hbox hb
         have n0_ := Aside0.mk (Kd.R_below (by (with_reducible repeat (first | apply Kd.R_alloc | apply Kd.R_drewN | apply Kd.R_drew)); exact HO345.out) hb)
         have n1_ := Aside0.mk (Kd.R_below (by (with_reducible repeat (first | apply Kd.R_alloc | apply Kd.R_drewN | apply Kd.R_drew)); exact HO351.out) hb)
         have n2_ := Aside0.mk (blk_below (g := gb336) (o := .cells #[.string a1_0, .slice A1_1 l1_1.length c1_1] 25 (0, 0)) (by (with_reducible repeat (first | refine blk_drewN ?_ _ | refine blk_drew ?_ | refine blk_alloc ?_ _)); exact BK336.out) hb)
         have n3_ := Aside0.mk (below_step (by repeat (first | (with_reducible first | exact HB.out | apply below_alloc | apply pw_below_drewN | apply below_drew1 | refine below_set ?_ GE336.out) | exact HB.out)) hb)
         have n4_ := Aside0.mk (hbox)
         have n5_ := Aside0.mk ((by rw [hg]; exact (below_size (by repeat (first | (with_reducible first | exact HB.out | apply below_alloc | apply pw_below_drewN | apply below_drew1 | refine below_set ?_ GE336.out) | exact HB.out))) : w.heap.size ≤ gb352))
         have n6_ := Aside0.mk ((by rw [hg]; exact (below_size (by repeat (first | (with_reducible first | exact HB.out | apply below_alloc | apply pw_below_drewN | apply below_drew1 | refine below_set ?_ GE336.out) | exact HB.out))) : w.heap.size ≤ gb352))
         have n7_ := Aside0.mk ((by rw [hg]; exact Nat.ne_of_lt (blk_lt (g := gb336) (o := .cells #[.string a1_0, .slice A1_1 l1_1.length c1_1] 25 (0, 0)) (by (with_reducible repeat (first | refine blk_drewN ?_ _ | refine blk_drew ?_ | refine blk_alloc ?_ _)); exact BK336.out)) : gb336 ≠ gb352))
         have n8_ := Aside0.mk ((by rw [hg]; exact Nat.ne_of_gt (blk_lt (g := gb336) (o := .cells #[.string a1_0, .slice A1_1 l1_1.length c1_1] 25 (0, 0)) (by (with_reducible repeat (first | refine blk_drewN ?_ _ | refine blk_drew ?_ | refine blk_alloc ?_ _)); exact BK336.out)) : gb352 ≠ gb336))
         clear HO345
         clear HO351
         clear BK336
         clear HB
         have HO345 := n0_
         have HO351 := n1_
         have BK336 := n2_
         have HB := n3_
         have BK352 := n4_
         have GW352 := n5_
         have GE352 := n6_
         have NB336_352 := n7_
         have NB352_336 := n8_
         clear n0_ n1_ n2_ n3_ n4_ n5_ n6_ n7_ n8_
         clear hb hbox hg
         refine hK.out _ _ ⟨(blk_cell BK336.out 0).trans rfl, (blk_cell BK336.out 1).trans rfl⟩ (fun hHeld => ?_)
         clear hK K
         refine norm_ (a' := ?_) ?_ ?_
         rotate_left
         ·
          show Act.put _ (some 6) _ = _
          simp only [Act.put, List.setIfInBounds_toArray, List.set_cons_zero, List.set_cons_succ, i64_w, i32_w]
          rfl
         exact norm_ (by simp only [putAll, Act.put, List.setIfInBounds_toArray, List.set_cons_zero, List.set_cons_succ]) (hCont (v347, .slice Ao25 y349.length co25, gb352) _ ⟨hHeld, (by (with_reducible repeat (first | apply Kd.R_alloc | apply Kd.R_drewN | apply Kd.R_drew)); exact HO345.out), (by (with_reducible repeat (first | apply Kd.R_alloc | apply Kd.R_drewN | apply Kd.R_drew)); exact HO351.out), (by (with_reducible repeat (first | refine blk_drewN ?_ _ | refine blk_drew ?_ | refine blk_alloc ?_ _)); exact BK336.out), (by (with_reducible repeat (first | refine blk_drewN ?_ _ | refine blk_drew ?_ | refine blk_alloc ?_ _)); exact BK352.out), GW352.out, GE352.out, NB336_352.out, NB352_336.out, (by repeat (first | (with_reducible first | exact HB.out | apply below_alloc | apply pw_below_drewN | apply below_drew1 | refine below_set ?_ GE336.out | refine below_set ?_ GE352.out) | exact HB.out))⟩)
        ·
         skip
         refine box_step ?hg (N := 6) ?hd (cs := #[.string (⟨#[]⟩ : ByteArray), .slice none 0 0]) (t := 25) ?hr ?_; (case hd => rfl); (case hg => rfl); (case hr => first | (go_simp; done) | (go_simp; rfl))
         intro gb352 hg w24 hbox hb
         have n0_ := Aside0.mk (Kd.R_below (by (with_reducible repeat (first | apply Kd.R_alloc | apply Kd.R_drewN | apply Kd.R_drew)); exact HO345.out) hb)
         have n1_ := Aside0.mk (Kd.R_below (by (with_reducible repeat (first | apply Kd.R_alloc | apply Kd.R_drewN | apply Kd.R_drew)); exact HO348.out) hb)
         have n2_ := Aside0.mk (blk_below (g := gb336) (o := .cells #[.string a1_0, .slice A1_1 l1_1.length c1_1] 25 (0, 0)) (by (with_reducible repeat (first | refine blk_drewN ?_ _ | refine blk_drew ?_ | refine blk_alloc ?_ _)); exact BK336.out) hb)
         have n3_ := Aside0.mk (below_step (by repeat (first | (with_reducible first | exact HB.out | apply below_alloc | apply pw_below_drewN | apply below_drew1 | refine below_set ?_ GE336.out) | exact HB.out)) hb)
         have n4_ := Aside0.mk (hbox)
         have n5_ := Aside0.mk ((by rw [hg]; exact (below_size (by repeat (first | (with_reducible first | exact HB.out | apply below_alloc | apply pw_below_drewN | apply below_drew1 | refine below_set ?_ GE336.out) | exact HB.out))) : w.heap.size ≤ gb352))
         have n6_ := Aside0.mk ((by rw [hg]; exact (below_size (by repeat (first | (with_reducible first | exact HB.out | apply below_alloc | apply pw_below_drewN | apply below_drew1 | refine below_set ?_ GE336.out) | exact HB.out))) : w.heap.size ≤ gb352))
         have n7_ := Aside0.mk ((by rw [hg]; exact Nat.ne_of_lt (blk_lt (g := gb336) (o := .cells #[.string a1_0, .slice A1_1 l1_1.length c1_1] 25 (0, 0)) (by (with_reducible repeat (first | refine blk_drewN ?_ _ | refine blk_drew ?_ | refine blk_alloc ?_ _)); exact BK336.out)) : gb336 ≠ gb352))
         have n8_ := Aside0.mk ((by rw [hg]; exact Nat.ne_of_gt (blk_lt (g := gb336) (o := .cells #[.string a1_0, .slice A1_1 l1_1.length c1_1] 25 (0, 0)) (by (with_reducible repeat (first | refine blk_drewN ?_ _ | refine blk_drew ?_ | refine blk_alloc ?_ _)); exact BK336.out)) : gb352 ≠ gb336))
         clear HO345
         clear HO348
         clear BK336
         clear HB
         have HO345 := n0_
         have HO348 := n1_
         have BK336 := n2_
         have HB := n3_
         have BK352 := n4_
         have GW352 := n5_
         have GE352 := n6_
         have NB336_352 := n7_
         have NB352_336 := n8_
         clear n0_ n1_ n2_ n3_ n4_ n5_ n6_ n7_ n8_
         clear hb hbox hg
         refine hK.out _ _ ⟨(blk_cell BK336.out 0).trans rfl, (blk_cell BK336.out 1).trans rfl⟩ (fun hHeld => ?_)
         clear hK K
         refine norm_ (a' := ?_) ?_ ?_
         rotate_left
         ·
          show Act.put _ (some 6) _ = _
          simp only [Act.put, List.setIfInBounds_toArray, List.set_cons_zero, List.set_cons_succ, i64_w, i32_w]
          rfl
         refine one_ (i := 5) (N := some 32) #[true, true, true, true, true, true, false, true, false] rfl rfl (one_of HT_.out (by kernel_rfl)) (by decide) (fun K hK => ?_)
         refine Kd.R_append_rows_step k51 (w0 := w) w.heap.size (by rfl) (.tmp 29) (.tmp 31) 23 51 (.agg #[(.string ⟨#[]⟩), (.string ⟨#[]⟩)]) 32 rfl Try.underlying23 info51 rfl (by decide) (by omega) v347 y346 l1_1 _ _ _ (fun _ => True) (fun _ => False) rfl rfl ?aO ?aR (fun _ _ h => h) (fun _ h => h.elim) ?aF ?aB ?aS ?aL ?_
         (case aR => repeat (first | exact (Kd.C_below HR1_1.out HB.out) | (with_reducible refine Kd.C_alloc ?_ _) | (with_reducible refine Kd.C_drewN ?_ _) | (with_reducible refine Kd.C_drew ?_)))
         (case aB => exact (by repeat (first | (with_reducible first | exact HB.out | apply below_alloc | apply pw_below_drewN | apply below_drew1 | refine below_set ?_ GE336.out | refine below_set ?_ GE352.out) | exact HB.out)))
         (case aF => exact (fun _ _ => trivial))
         (case aO => exact (by (with_reducible repeat (first | apply Kd.R_alloc | apply Kd.R_drewN | apply Kd.R_drew)); exact HO348.out))
         (case aS => exact (below_size (by repeat (first | (with_reducible first | exact HB.out | apply below_alloc | apply pw_below_drewN | apply below_drew1 | refine below_set ?_ GE336.out | refine below_set ?_ GE352.out) | exact HB.out))))
         (case aL => have := LMc16.out; omega)
         intro v350 w25 ho hb hg hat
         rw [← Ny349.out] at ho
         have n0_ := Aside0.mk (blk_grown (g := gb336) (o := .cells #[.string a1_0, .slice A1_1 l1_1.length c1_1] 25 (0, 0)) (by (with_reducible repeat (first | refine blk_drewN ?_ _ | refine blk_drew ?_ | refine blk_alloc ?_ _)); exact BK336.out) hg (Kd.R_ne HO348.out BK336.out (by decide)))
         have n1_ := Aside0.mk (Kd.R_over' (by (with_reducible repeat (first | apply Kd.R_alloc | apply Kd.R_drewN | apply Kd.R_drew)); exact HO345.out) (Kd.R_typed (by (with_reducible repeat (first | apply Kd.R_alloc | apply Kd.R_drewN | apply Kd.R_drew)); exact HO348.out)) (by decide) hg)
         have n2_ := Aside0.mk (blk_grown (g := gb352) (o := .cells #[.string (⟨#[]⟩ : ByteArray), .slice none 0 0] 25 (0, 0)) (by (with_reducible repeat (first | refine blk_drewN ?_ _ | refine blk_drew ?_ | refine blk_alloc ?_ _)); exact BK352.out) hg (Kd.R_ne HO348.out BK352.out (by decide)))
         have n3_ := Aside0.mk (hb)
         have n4_ := Aside0.mk (ho)
         clear BK336
         clear HO345
         clear BK352
         clear HB
         clear HO348
         have BK336 := n0_
         have HO345 := n1_
         have BK352 := n2_
         have HB := n3_
         have HO351 := n4_
         clear n0_ n1_ n2_ n3_ n4_
         clear ho hb hg hat
         obtain ⟨Ao26, co26, eo26⟩ := Kd.R_slice HO351.out
         (first | subst eo26 | (injection eo26 with f1_ f2_ f3_; have f4_ := f1_.symm; have f5_ := f3_.symm; clear f1_ f2_ f3_; subst f4_; subst f5_))
         refine hK.out _ _ ⟨(blk_cell BK336.out 0).trans rfl, (blk_cell BK336.out 1).trans rfl⟩ (fun hHeld => ?_)
         clear hK K
         refine norm_ (a' := ?_) ?_ ?_
         rotate_left
         ·
          show Act.put _ (some 32) _ = _
          simp only [Act.put, List.setIfInBounds_toArray, List.set_cons_zero, List.set_cons_succ, i64_w, i32_w]
          rfl
         refine pure_ (i := 6) (N := some 33) (v := ?_) (a' := ?_) #[true, true, true, true, true, true, true, true, false] rfl rfl (any_of HT_.out (by kernel_rfl)) (fun _ _ _ h => h) (Or.inl ⟨by rfl, ?_⟩) ?_ ?_
         rotate_left
         ·
          intro w'
          go_simp
          with_reducible rfl
         rotate_left
         ·
          simp only [Act.put, List.setIfInBounds_toArray, List.set_cons_zero, List.set_cons_succ, i64_w, i32_w]
          rfl
         exact norm_ (by simp only [putAll, Act.put, List.setIfInBounds_toArray, List.set_cons_zero, List.set_cons_succ]) (hCont (v347, .slice Ao26 y349.length co26, gb352) _ ⟨hHeld, (by (with_reducible repeat (first | apply Kd.R_alloc | apply Kd.R_drewN | apply Kd.R_drew)); exact HO345.out), (by (with_reducible repeat (first | apply Kd.R_alloc | apply Kd.R_drewN | apply Kd.R_drew)); exact HO351.out), (by (with_reducible repeat (first | refine blk_drewN ?_ _ | refine blk_drew ?_ | refine blk_alloc ?_ _)); exact BK336.out), (by (with_reducible repeat (first | refine blk_drewN ?_ _ | refine blk_drew ?_ | refine blk_alloc ?_ _)); exact BK352.out), GW352.out, GE352.out, NB336_352.out, NB352_336.out, (by repeat (first | (with_reducible first | exact HB.out | apply below_alloc | apply pw_below_drewN | apply below_drew1 | refine below_set ?_ GE336.out | refine below_set ?_ GE352.out) | exact HB.out))⟩)
       ·
        skip
        refine box_step ?hg (N := 6) ?hd (cs := #[.string (⟨#[]⟩ : ByteArray), .slice none 0 0]) (t := 25) ?hr ?_; (case hd => rfl); (case hg => rfl); (case hr => first | (go_simp; done) | (go_simp; rfl))
        intro gb352 hg w22 hbox hb
        have n0_ := Aside0.mk (Kd.R_below (by (with_reducible repeat (first | apply Kd.R_alloc | apply Kd.R_drewN | apply Kd.R_drew)); exact HO345.out) hb)
        have n1_ := Aside0.mk (blk_below (g := gb336) (o := .cells #[.string a1_0, .slice A1_1 l1_1.length c1_1] 25 (0, 0)) (by (with_reducible repeat (first | refine blk_drewN ?_ _ | refine blk_drew ?_ | refine blk_alloc ?_ _)); exact BK336.out) hb)
        have n2_ := Aside0.mk (below_step (by repeat (first | (with_reducible first | exact HB.out | apply below_alloc | apply pw_below_drewN | apply below_drew1 | refine below_set ?_ GE336.out) | exact HB.out)) hb)
        have n3_ := Aside0.mk (hbox)
        have n4_ := Aside0.mk ((by rw [hg]; exact (below_size (by repeat (first | (with_reducible first | exact HB.out | apply below_alloc | apply pw_below_drewN | apply below_drew1 | refine below_set ?_ GE336.out) | exact HB.out))) : w.heap.size ≤ gb352))
        have n5_ := Aside0.mk ((by rw [hg]; exact (below_size (by repeat (first | (with_reducible first | exact HB.out | apply below_alloc | apply pw_below_drewN | apply below_drew1 | refine below_set ?_ GE336.out) | exact HB.out))) : w.heap.size ≤ gb352))
        have n6_ := Aside0.mk ((by rw [hg]; exact Nat.ne_of_lt (blk_lt (g := gb336) (o := .cells #[.string a1_0, .slice A1_1 l1_1.length c1_1] 25 (0, 0)) (by (with_reducible repeat (first | refine blk_drewN ?_ _ | refine blk_drew ?_ | refine blk_alloc ?_ _)); exact BK336.out)) : gb336 ≠ gb352))
        have n7_ := Aside0.mk ((by rw [hg]; exact Nat.ne_of_gt (blk_lt (g := gb336) (o := .cells #[.string a1_0, .slice A1_1 l1_1.length c1_1] 25 (0, 0)) (by (with_reducible repeat (first | refine blk_drewN ?_ _ | refine blk_drew ?_ | refine blk_alloc ?_ _)); exact BK336.out)) : gb352 ≠ gb336))
        clear HO345
        clear BK336
        clear HB
        have HO345 := n0_
        have BK336 := n1_
        have HB := n2_
        have BK352 := n3_
        have GW352 := n4_
        have GE352 := n5_
        have NB336_352 := n6_
        have NB352_336 := n7_
        clear n0_ n1_ n2_ n3_ n4_ n5_ n6_ n7_
        clear hb hbox hg
        refine hK.out _ _ ⟨(blk_cell BK336.out 0).trans rfl, (blk_cell BK336.out 1).trans rfl⟩ (fun hHeld => ?_)
        clear hK K
        refine norm_ (a' := ?_) ?_ ?_
        rotate_left
        ·
         show Act.put _ (some 6) _ = _
         simp only [Act.put, List.setIfInBounds_toArray, List.set_cons_zero, List.set_cons_succ, i64_w, i32_w]
         rfl
        refine one_ (i := 2) (N := some 29) #[true, true, true, true, true, false, false, true, false] rfl rfl (one_of HT_.out (by kernel_rfl)) (by decide) (fun K hK => ?_)
        refine Kd.R_lit_step k51 _ 51 ?hg (N := 29) ?hd (xs := ([] : List (S51))) (inner := []) (ok := fun _ => True) (okp := fun _ => True) ?hr ?hp (fun _ hk => hk) trivial (Below.refl _ _) (Nat.le_refl _) (by simp) ?_; (case hd => rfl); (case hg => rfl); (case hr => first | (go_simp; done) | (go_simp; rfl)); (case hp => exact (Reps.none _ _))
        intro v347 w23 ho24 hb hg_ hnew_
        clear hg_ hnew_
        (first | rw [← Ny346.out] at ho24 | (simp only [Int.reduceToNat] at ho24; rw [← Ny346.out] at ho24))
        have n0_ := Aside0.mk (Kd.R_below (by (with_reducible repeat (first | apply Kd.R_alloc | apply Kd.R_drewN | apply Kd.R_drew)); exact HO345.out) hb)
        have n1_ := Aside0.mk (Kd.R_lower ho24 (below_size (by repeat (first | (with_reducible first | exact HB.out | apply below_alloc | apply pw_below_drewN | apply below_drew1 | refine below_set ?_ GE336.out | refine below_set ?_ GE352.out) | exact HB.out))))
        have n2_ := Aside0.mk (blk_below (g := gb336) (o := .cells #[.string a1_0, .slice A1_1 l1_1.length c1_1] 25 (0, 0)) (by (with_reducible repeat (first | refine blk_drewN ?_ _ | refine blk_drew ?_ | refine blk_alloc ?_ _)); exact BK336.out) hb)
        have n3_ := Aside0.mk (blk_below (g := gb352) (o := .cells #[.string (⟨#[]⟩ : ByteArray), .slice none 0 0] 25 (0, 0)) (by (with_reducible repeat (first | refine blk_drewN ?_ _ | refine blk_drew ?_ | refine blk_alloc ?_ _)); exact BK352.out) hb)
        have n4_ := Aside0.mk (below_step (by repeat (first | (with_reducible first | exact HB.out | apply below_alloc | apply pw_below_drewN | apply below_drew1 | refine below_set ?_ GE336.out | refine below_set ?_ GE352.out) | exact HB.out)) hb)
        clear HO345
        clear BK336
        clear BK352
        clear HB
        have HO345 := n0_
        have HO348 := n1_
        have BK336 := n2_
        have BK352 := n3_
        have HB := n4_
        clear n0_ n1_ n2_ n3_ n4_
        clear hb ho24
        refine hK.out _ _ ⟨(blk_cell BK336.out 0).trans rfl, (blk_cell BK336.out 1).trans rfl⟩ (fun hHeld => ?_)
        clear hK K
        refine norm_ (a' := ?_) ?_ ?_
        rotate_left
        ·
         show Act.put _ (some 29) _ = _
         simp only [Act.put, List.setIfInBounds_toArray, List.set_cons_zero, List.set_cons_succ, i64_w, i32_w]
         rfl
        refine one_ (i := 5) (N := some 32) #[true, true, true, true, true, true, false, true, false] rfl rfl (one_of HT_.out (by kernel_rfl)) (by decide) (fun K hK => ?_)
        refine Kd.R_append_rows_step k51 (w0 := w) w.heap.size (by rfl) (.tmp 29) (.tmp 31) 23 51 (.agg #[(.string ⟨#[]⟩), (.string ⟨#[]⟩)]) 32 rfl Try.underlying23 info51 rfl (by decide) (by omega) v347 y346 l1_1 _ _ _ (fun _ => True) (fun _ => False) rfl rfl ?aO ?aR (fun _ _ h => h) (fun _ h => h.elim) ?aF ?aB ?aS ?aL ?_
        (case aR => repeat (first | exact (Kd.C_below HR1_1.out HB.out) | (with_reducible refine Kd.C_alloc ?_ _) | (with_reducible refine Kd.C_drewN ?_ _) | (with_reducible refine Kd.C_drew ?_)))
        (case aB => exact (by repeat (first | (with_reducible first | exact HB.out | apply below_alloc | apply pw_below_drewN | apply below_drew1 | refine below_set ?_ GE336.out | refine below_set ?_ GE352.out) | exact HB.out)))
        (case aF => exact (fun _ _ => trivial))
        (case aO => exact (by (with_reducible repeat (first | apply Kd.R_alloc | apply Kd.R_drewN | apply Kd.R_drew)); exact HO348.out))
        (case aS => exact (below_size (by repeat (first | (with_reducible first | exact HB.out | apply below_alloc | apply pw_below_drewN | apply below_drew1 | refine below_set ?_ GE336.out | refine below_set ?_ GE352.out) | exact HB.out))))
        (case aL => have := LMc16.out; omega)
        intro v350 w25 ho hb hg hat
        rw [← Ny349.out] at ho
        have n0_ := Aside0.mk (blk_grown (g := gb336) (o := .cells #[.string a1_0, .slice A1_1 l1_1.length c1_1] 25 (0, 0)) (by (with_reducible repeat (first | refine blk_drewN ?_ _ | refine blk_drew ?_ | refine blk_alloc ?_ _)); exact BK336.out) hg (Kd.R_ne HO348.out BK336.out (by decide)))
        have n1_ := Aside0.mk (Kd.R_over' (by (with_reducible repeat (first | apply Kd.R_alloc | apply Kd.R_drewN | apply Kd.R_drew)); exact HO345.out) (Kd.R_typed (by (with_reducible repeat (first | apply Kd.R_alloc | apply Kd.R_drewN | apply Kd.R_drew)); exact HO348.out)) (by decide) hg)
        have n2_ := Aside0.mk (blk_grown (g := gb352) (o := .cells #[.string (⟨#[]⟩ : ByteArray), .slice none 0 0] 25 (0, 0)) (by (with_reducible repeat (first | refine blk_drewN ?_ _ | refine blk_drew ?_ | refine blk_alloc ?_ _)); exact BK352.out) hg (Kd.R_ne HO348.out BK352.out (by decide)))
        have n3_ := Aside0.mk (hb)
        have n4_ := Aside0.mk (ho)
        clear BK336
        clear HO345
        clear BK352
        clear HB
        clear HO348
        have BK336 := n0_
        have HO345 := n1_
        have BK352 := n2_
        have HB := n3_
        have HO351 := n4_
        clear n0_ n1_ n2_ n3_ n4_
        clear ho hb hg hat
        obtain ⟨Ao26, co26, eo26⟩ := Kd.R_slice HO351.out
        (first | subst eo26 | (injection eo26 with f1_ f2_ f3_; have f4_ := f1_.symm; have f5_ := f3_.symm; clear f1_ f2_ f3_; subst f4_; subst f5_))
        refine hK.out _ _ ⟨(blk_cell BK336.out 0).trans rfl, (blk_cell BK336.out 1).trans rfl⟩ (fun hHeld => ?_)
        clear hK K
        refine norm_ (a' := ?_) ?_ ?_
        rotate_left
        ·
         show Act.put _ (some 32) _ = _
         simp only [Act.put, List.setIfInBounds_toArray, List.set_cons_zero, List.set_cons_succ, i64_w, i32_w]
         rfl
        refine pure_ (i := 6) (N := some 33) (v := ?_) (a' := ?_) #[true, true, true, true, true, true, true, true, false] rfl rfl (any_of HT_.out (by kernel_rfl)) (fun _ _ _ h => h) (Or.inl ⟨by rfl, ?_⟩) ?_ ?_
        rotate_left
        ·
         intro w'
         go_simp
         with_reducible rfl
        rotate_left
        ·
         simp only [Act.put, List.setIfInBounds_toArray, List.set_cons_zero, List.set_cons_succ, i64_w, i32_w]
         rfl
        exact norm_ (by simp only [putAll, Act.put, List.setIfInBounds_toArray, List.set_cons_zero, List.set_cons_succ]) (hCont (v347, .slice Ao26 y349.length co26, gb352) _ ⟨hHeld, (by (with_reducible repeat (first | apply Kd.R_alloc | apply Kd.R_drewN | apply Kd.R_drew)); exact HO345.out), (by (with_reducible repeat (first | apply Kd.R_alloc | apply Kd.R_drewN | apply Kd.R_drew)); exact HO351.out), (by (with_reducible repeat (first | refine blk_drewN ?_ _ | refine blk_drew ?_ | refine blk_alloc ?_ _)); exact BK336.out), (by (with_reducible repeat (first | refine blk_drewN ?_ _ | refine blk_drew ?_ | refine blk_alloc ?_ _)); exact BK352.out), GW352.out, GE352.out, NB336_352.out, NB352_336.out, (by repeat (first | (with_reducible first | exact HB.out | apply below_alloc | apply pw_below_drewN | apply below_drew1 | refine below_set ?_ GE336.out | refine below_set ?_ GE352.out) | exact HB.out))⟩)
      rintro ⟨v347, v350, gb352⟩ w27 ⟨hS_, h0_, h1_, h2_, h3_, h4_, h5_, h6_, h7_, h8_⟩
      have n0_ : Aside0 (Kd.R k44 44 w27 w.heap.size (fun _ => True) v344 y343) := ⟨h0_⟩
      have n1_ : Aside0 (Kd.R k51 51 w27 w.heap.size (fun _ => True) v350 y349) := ⟨h1_⟩
      have n2_ : Aside0 (w27.heap[gb336]? = some (.cells #[.string a1_0, .slice A1_1 l1_1.length c1_1] 25 (0, 0))) := ⟨h2_⟩
      have n3_ : Aside0 (w27.heap[gb352]? = some (.cells #[.string (⟨#[]⟩ : ByteArray), .slice none 0 0] 25 (0, 0))) := ⟨h3_⟩
      have n4_ : Aside0 (w.heap.size ≤ gb352) := ⟨h4_⟩
      have n5_ : Aside0 (w.heap.size ≤ gb352) := ⟨h5_⟩
      have n6_ : Aside0 (gb336 ≠ gb352) := ⟨h6_⟩
      have n7_ : Aside0 (gb352 ≠ gb336) := ⟨h7_⟩
      have n8_ : Aside0 (Below w.heap.size w w27) := ⟨h8_⟩
      clear HO345
      clear BK336
      clear HB
      clear h0_ h1_ h2_ h3_ h4_ h5_ h6_ h7_ h8_
      have HO345 := n0_
      have HO351 := n1_
      have BK336 := n2_
      have BK352 := n3_
      have GW352 := n4_
      have GE352 := n5_
      have NB336_352 := n6_
      have NB352_336 := n7_
      have HB := n8_
      clear n0_ n1_ n2_ n3_ n4_ n5_ n6_ n7_ n8_
      have hHeld : w27.cell? ⟨gb336, 0, none⟩ = some (.string a1_0) ∧ w27.cell? ⟨gb336, 1, none⟩ = some (.slice A1_1 l1_1.length c1_1) := hS_
      obtain ⟨Ao28, co28, eo28⟩ := Kd.R_slice HO351.out
      (first | subst eo28 | (injection eo28 with f1_ f2_ f3_; have f4_ := f1_.symm; have f5_ := f3_.symm; clear f1_ f2_ f3_; subst f4_; subst f5_))
      refine norm_ (a' := ?_) ?_ ?_
      rotate_left
      ·
       simp only [putAll, Act.put, List.setIfInBounds_toArray, List.set_cons_zero, List.set_cons_succ]
       rfl
      refine one_ (i := 8) (N := none) #[true, true, true, true, true, true, true, true, true] rfl rfl (one_of HT_.out (by kernel_rfl)) (by decide) (fun K hK => ?_)
      have hs29 : w27.cell? ⟨gb352, 0, none⟩ = some (.string (⟨#[]⟩ : ByteArray)) := (blk_cell BK352.out 0).trans rfl
      have hfs29 := blk_frozen BK352.out 0
      have hns29_0 := NB336_352.out
      have hms29_0 := NB352_336.out
      have hs30 : w27.cell? ⟨gb352, 1, none⟩ = some (.slice none 0 0) := (blk_cell BK352.out 1).trans rfl
      have hfs30 := blk_frozen BK352.out 1
      have hns30_0 := NB336_352.out
      have hms30_0 := NB352_336.out
      refine skip_ (w1 := ?_) (by rfl) rfl ?_ ?_
      rotate_left
      ·
       go_simp
       rfl
      refine hK.out _ _ ⟨((cell_far (p := ⟨gb352, _, none⟩) NB336_352.out _).trans (((cell_far (p := ⟨gb352, _, none⟩) NB336_352.out _).trans (hHeld.1)))), ((cell_far (p := ⟨gb352, _, none⟩) NB336_352.out _).trans (((cell_far (p := ⟨gb352, _, none⟩) NB336_352.out _).trans (hHeld.2))))⟩ (fun hHeld => ?_)
      clear hK K
      refine done_ (done_of HT_.out (by kernel_rfl)) ?_
      have hnb31 := NB336_352.out
      have hnc31 := NB352_336.out
      have hcz32_0 : w27.cell? ⟨gb336, 0, none⟩ = some (.string a1_0) := (blk_cell BK336.out 0).trans rfl
      have hcz32_1 : w27.cell? ⟨gb336, 1, none⟩ = some (.slice A1_1 l1_1.length c1_1) := (blk_cell BK336.out 1).trans rfl
      have hfz32_0 := blk_frozen BK336.out 0
      have hfz32_1 := blk_frozen BK336.out 1
      try go_wp2_with (first | ((with_reducible refine gate_callee (f := 10) rfl ?_); refine goesL_ (some 37) rfl rfl Try.func10 (by kernel_rfl) rfl #[.slice A0 l0.length c0, .agg #[.string a1_0, .slice A1_1 l1_1.length c1_1]] rfl (by (try simp only [List.map_toArray, List.map_cons, List.map_nil]); first | done | rfl | (simp only [List.length_drop, List.length_take]; rfl)) ?_; (with_reducible refine (scope_Enter.calls kj2 _ _ l0 a1_0 _ _ l1_1 t353 t356 t357 t358 t359 t362 t363 _ ?side1 ?side2 ?side3 ?side4 A17.out).mono ?_); (case side1 => exact Kd.C_below HR0.out (by repeat (first | (with_reducible first | exact HB.out | apply below_alloc | apply pw_below_drewN | apply below_drew1 | refine below_set ?_ GE336.out | refine below_set ?_ GE352.out) | exact HB.out))); (case side2 => exact HC0.out); (case side3 => exact Kd.C_below HR1_1.out (by repeat (first | (with_reducible first | exact HB.out | apply below_alloc | apply pw_below_drewN | apply below_drew1 | refine below_set ?_ GE336.out | refine below_set ?_ GE352.out) | exact HB.out))); (case side4 => exact HC1_1.out); rintro e w33 ⟨v354, v360, rfl, ho0, ho1, hb⟩; refine ⟨_, rfl, ?_⟩; have n0_ := Aside0.mk (Kd.R_elder' (by (with_reducible repeat (first | apply Kd.R_alloc | apply Kd.R_drewN | apply Kd.R_drew)); exact (Kd.R_mono (Kd.R_far (p := ⟨gb352, 1, none⟩) (Kd.R_far (p := ⟨gb352, 0, none⟩) (Kd.R_types HO345.out BK352.out (by decide)) (fun _ hk => hk.2) (.string a1_0)) (fun _ hk => hk.2) (.slice Ao28 y349.length co28)) (fun _ h_ => h_.1))) (Kd.R_base ho0) hb); have n1_ := Aside0.mk (Kd.R_below (by (with_reducible repeat (first | apply Kd.R_alloc | apply Kd.R_drewN | apply Kd.R_drew)); exact (Kd.R_mono (Kd.R_far (p := ⟨gb352, 1, none⟩) (Kd.R_far (p := ⟨gb352, 0, none⟩) (Kd.R_types HO351.out BK352.out (by decide)) (fun _ hk => hk.2) (.string a1_0)) (fun _ hk => hk.2) (.slice Ao28 y349.length co28)) (fun _ h_ => h_.1))) hb); have n2_ := Aside0.mk (Kd.R_lower (Kd.R_new' ho0 (Kd.R_lt (by (with_reducible repeat (first | apply Kd.R_alloc | apply Kd.R_drewN | apply Kd.R_drew)); exact (Kd.R_mono (Kd.R_far (p := ⟨gb352, 1, none⟩) (Kd.R_far (p := ⟨gb352, 0, none⟩) (Kd.R_types HO345.out BK352.out (by decide)) (fun _ hk => hk.2) (.string a1_0)) (fun _ hk => hk.2) (.slice Ao28 y349.length co28)) (fun _ h_ => h_.1))))) (below_size (by repeat (first | (with_reducible first | exact HB.out | apply below_alloc | apply pw_below_drewN | apply below_drew1 | refine below_set ?_ GE336.out | refine below_set ?_ GE352.out) | exact HB.out)))); have n3_ := Aside0.mk (Kd.R_lower ho1 (below_size (by repeat (first | (with_reducible first | exact HB.out | apply below_alloc | apply pw_below_drewN | apply below_drew1 | refine below_set ?_ GE336.out | refine below_set ?_ GE352.out) | exact HB.out)))); have n4_ := Aside0.mk (blk_below (g := gb336) (o := .cells #[.string a1_0, .slice A1_1 l1_1.length c1_1] 25 (0, 0)) (by (with_reducible repeat (first | refine blk_drewN ?_ _ | refine blk_drew ?_ | refine blk_alloc ?_ _)); refine blk_far ?_ NB336_352.out _; (with_reducible repeat (first | refine blk_drewN ?_ _ | refine blk_drew ?_ | refine blk_alloc ?_ _)); refine blk_far ?_ NB336_352.out _; (with_reducible repeat (first | refine blk_drewN ?_ _ | refine blk_drew ?_ | refine blk_alloc ?_ _)); exact BK336.out) hb); have n5_ := Aside0.mk (blk_below (g := gb352) (o := .cells #[.string a1_0, .slice Ao28 y349.length co28] 25 (0, 0)) (by (with_reducible repeat (first | refine blk_drewN ?_ _ | refine blk_drew ?_ | refine blk_alloc ?_ _)); refine blk_put (cs := #[.string a1_0, .slice none 0 0]) ?_ 1 _ rfl; (with_reducible repeat (first | refine blk_drewN ?_ _ | refine blk_drew ?_ | refine blk_alloc ?_ _)); refine blk_put (cs := #[.string (⟨#[]⟩ : ByteArray), .slice none 0 0]) ?_ 0 _ rfl; (with_reducible repeat (first | refine blk_drewN ?_ _ | refine blk_drew ?_ | refine blk_alloc ?_ _)); exact BK352.out) hb); have n6_ := Aside0.mk (below_step (by repeat (first | (with_reducible first | exact HB.out | apply below_alloc | apply pw_below_drewN | apply below_drew1 | refine below_set ?_ GE336.out | refine below_set ?_ GE352.out) | exact HB.out)) hb); clear HO345; clear HO351; clear BK336; clear BK352; clear HB; have HO345 := n0_; have HO351 := n1_; have HO355 := n2_; have HO361 := n3_; have BK336 := n4_; have BK352 := n5_; have HB := n6_; clear n0_ n1_ n2_ n3_ n4_ n5_ n6_; (try clear hb); (try clear hb2); (try clear hk); (try clear hi); (try clear ho0); (try clear ho1)) | ((with_reducible refine gate_dst (N := 8) rfl ?_); (try (refine gate_guard (by rfl) ?_; dsimp only)); refine box_event ?hg (N := 8) ?hd (cs := #[.int .i64 0, .string (⟨#[]⟩ : ByteArray), .string (⟨#[]⟩ : ByteArray), .slice none 0 0, .string (⟨#[]⟩ : ByteArray)]) (t := 32) ?hr ?_; (case hd => rfl); (case hg => rfl); (case hr => first | (go_simp; done) | (go_simp; rfl)); intro gb364 hg w34 hbox hb; have n0_ := Aside0.mk (Kd.R_below (by (with_reducible repeat (first | apply Kd.R_alloc | apply Kd.R_drewN | apply Kd.R_drew)); exact HO345.out) hb); have n1_ := Aside0.mk (Kd.R_below (by (with_reducible repeat (first | apply Kd.R_alloc | apply Kd.R_drewN | apply Kd.R_drew)); exact HO351.out) hb); have n2_ := Aside0.mk (Kd.R_below (by (with_reducible repeat (first | apply Kd.R_alloc | apply Kd.R_drewN | apply Kd.R_drew)); exact HO355.out) hb); have n3_ := Aside0.mk (Kd.R_below (by (with_reducible repeat (first | apply Kd.R_alloc | apply Kd.R_drewN | apply Kd.R_drew)); exact HO361.out) hb); have n4_ := Aside0.mk (blk_below (g := gb336) (o := .cells #[.string a1_0, .slice A1_1 l1_1.length c1_1] 25 (0, 0)) (by (with_reducible repeat (first | refine blk_drewN ?_ _ | refine blk_drew ?_ | refine blk_alloc ?_ _)); exact BK336.out) hb); have n5_ := Aside0.mk (blk_below (g := gb352) (o := .cells #[.string a1_0, .slice Ao28 y349.length co28] 25 (0, 0)) (by (with_reducible repeat (first | refine blk_drewN ?_ _ | refine blk_drew ?_ | refine blk_alloc ?_ _)); exact BK352.out) hb); have n6_ := Aside0.mk (below_step (by repeat (first | (with_reducible first | exact HB.out | apply below_alloc | apply pw_below_drewN | apply below_drew1 | refine below_set ?_ GE336.out | refine below_set ?_ GE352.out) | exact HB.out)) hb); have n7_ := Aside0.mk (hbox); have n8_ := Aside0.mk ((by rw [hg]; exact (below_size (by repeat (first | (with_reducible first | exact HB.out | apply below_alloc | apply pw_below_drewN | apply below_drew1 | refine below_set ?_ GE336.out | refine below_set ?_ GE352.out) | exact HB.out))) : w.heap.size ≤ gb364)); have n9_ := Aside0.mk ((by rw [hg]; exact (below_size (by repeat (first | (with_reducible first | exact HB.out | apply below_alloc | apply pw_below_drewN | apply below_drew1 | refine below_set ?_ GE336.out | refine below_set ?_ GE352.out) | exact HB.out))) : w.heap.size ≤ gb364)); have n10_ := Aside0.mk ((by rw [hg]; exact Nat.ne_of_lt (blk_lt (g := gb336) (o := .cells #[.string a1_0, .slice A1_1 l1_1.length c1_1] 25 (0, 0)) (by (with_reducible repeat (first | refine blk_drewN ?_ _ | refine blk_drew ?_ | refine blk_alloc ?_ _)); exact BK336.out)) : gb336 ≠ gb364)); have n11_ := Aside0.mk ((by rw [hg]; exact Nat.ne_of_gt (blk_lt (g := gb336) (o := .cells #[.string a1_0, .slice A1_1 l1_1.length c1_1] 25 (0, 0)) (by (with_reducible repeat (first | refine blk_drewN ?_ _ | refine blk_drew ?_ | refine blk_alloc ?_ _)); exact BK336.out)) : gb364 ≠ gb336)); have n12_ := Aside0.mk ((by rw [hg]; exact Nat.ne_of_lt (blk_lt (g := gb352) (o := .cells #[.string a1_0, .slice Ao28 y349.length co28] 25 (0, 0)) (by (with_reducible repeat (first | refine blk_drewN ?_ _ | refine blk_drew ?_ | refine blk_alloc ?_ _)); exact BK352.out)) : gb352 ≠ gb364)); have n13_ := Aside0.mk ((by rw [hg]; exact Nat.ne_of_gt (blk_lt (g := gb352) (o := .cells #[.string a1_0, .slice Ao28 y349.length co28] 25 (0, 0)) (by (with_reducible repeat (first | refine blk_drewN ?_ _ | refine blk_drew ?_ | refine blk_alloc ?_ _)); exact BK352.out)) : gb364 ≠ gb352)); clear HO345; clear HO351; clear HO355; clear HO361; clear BK336; clear BK352; clear HB; have HO345 := n0_; have HO351 := n1_; have HO355 := n2_; have HO361 := n3_; have BK336 := n4_; have BK352 := n5_; have HB := n6_; have BK364 := n7_; have GW364 := n8_; have GE364 := n9_; have NB336_364 := n10_; have NB364_336 := n11_; have NB352_364 := n12_; have NB364_352 := n13_; clear n0_ n1_ n2_ n3_ n4_ n5_ n6_ n7_ n8_ n9_ n10_ n11_ n12_ n13_; clear hb hbox hg; have hnb35 := NB364_336.out; have hnc35 := NB336_364.out; have hnb36 := NB364_352.out; have hnc36 := NB352_364.out; have hcz37_0 : w34.cell? ⟨gb364, 0, none⟩ = some (.int .i64 0) := (blk_cell BK364.out 0).trans rfl; have hcz37_1 : w34.cell? ⟨gb364, 1, none⟩ = some (.string (⟨#[]⟩ : ByteArray)) := (blk_cell BK364.out 1).trans rfl; have hcz37_2 : w34.cell? ⟨gb364, 2, none⟩ = some (.string (⟨#[]⟩ : ByteArray)) := (blk_cell BK364.out 2).trans rfl; have hcz37_3 : w34.cell? ⟨gb364, 3, none⟩ = some (.slice none 0 0) := (blk_cell BK364.out 3).trans rfl; have hcz37_4 : w34.cell? ⟨gb364, 4, none⟩ = some (.string (⟨#[]⟩ : ByteArray)) := (blk_cell BK364.out 4).trans rfl; have hfz37_0 := blk_frozen BK364.out 0; have hfz37_1 := blk_frozen BK364.out 1; have hfz37_2 := blk_frozen BK364.out 2; have hfz37_3 := blk_frozen BK364.out 3; have hfz37_4 := blk_frozen BK364.out 4; obtain ⟨Ao38, co38, eo38⟩ := Kd.R_slice HO361.out; subst eo38))
      go_loopg [10] kj2 (fun kq v10 w' => ∃ (x7_2 : List (S44)) (x10_2 : Int), v10 = .int .i64 x10_2 ∧ Aside0 (oriellaw07_ScopeKeeps.l0 kq l0 y343 x7_2 x10_2 a1_0 l1_1 a1_0 y349 t356 t357 t358 t359 t362 = some r) ∧ Aside0 (kq ≤ kj2) ∧ Aside0 (Kd.R k44 44 w' w.heap.size (fun k_ => some k_ ≠ (v354 : Value).ownBlock) v344 y343) ∧ Aside0 (Kd.R k44 44 w' w.heap.size (fun k_ => some k_ ≠ (v344 : Value).ownBlock) v354 x7_2) ∧ Aside0 (Kd.R k51 51 w' w.heap.size (fun _ => True) (.slice Ao28 y349.length co28) y349) ∧ Aside0 (Kd.R k47 47 w' w.heap.size (fun _ => True) (.slice Ao38 t359.length co38) t359) ∧ Aside0 (w'.heap[gb336]? = some (.cells #[.string a1_0, (.slice A1_1 l1_1.length c1_1)] 25 (0, 0))) ∧ Aside0 (w'.heap[gb352]? = some (.cells #[.string a1_0, (.slice Ao28 y349.length co28)] 25 (0, 0))) ∧ Aside0 (w'.heap[gb364]? = some (.cells #[.int .i64 t356, .string t357, .string t358, (.slice Ao38 t359.length co38), .string t362] 32 (0, 0))) ∧ Aside0 (Below w.heap.size w w'))
      case atStart => exact ⟨(t353), (0), (by first | rfl | (simp; done) | (simp [*]; done)), H', ⟨Nat.le_refl _⟩, ⟨by (with_reducible repeat (first | apply Kd.R_alloc | apply Kd.R_drewN | apply Kd.R_drew)); exact Kd.R_mono (Kd.R_far (p := ⟨gb364, 4, none⟩) (Kd.R_far (p := ⟨gb364, 3, none⟩) (Kd.R_far (p := ⟨gb364, 2, none⟩) (Kd.R_far (p := ⟨gb364, 1, none⟩) (Kd.R_far (p := ⟨gb364, 0, none⟩) (Kd.R_types HO345.out BK364.out (by decide)) (fun _ hk => hk.2) (.int .i64 t356)) (fun _ hk => hk.2) (.string t357)) (fun _ hk => hk.2) (.string t358)) (fun _ hk => hk.2) (.slice Ao38 t359.length co38)) (fun _ hk => hk.2) (.string t362)) (fun _ hk => hk.1.2)⟩, ⟨by (with_reducible repeat (first | apply Kd.R_alloc | apply Kd.R_drewN | apply Kd.R_drew)); exact Kd.R_mono (Kd.R_far (p := ⟨gb364, 4, none⟩) (Kd.R_far (p := ⟨gb364, 3, none⟩) (Kd.R_far (p := ⟨gb364, 2, none⟩) (Kd.R_far (p := ⟨gb364, 1, none⟩) (Kd.R_far (p := ⟨gb364, 0, none⟩) (Kd.R_types HO355.out BK364.out (by decide)) (fun _ hk => hk.2) (.int .i64 t356)) (fun _ hk => hk.2) (.string t357)) (fun _ hk => hk.2) (.string t358)) (fun _ hk => hk.2) (.slice Ao38 t359.length co38)) (fun _ hk => hk.2) (.string t362)) (fun _ hk => hk.1.2)⟩, ⟨by (with_reducible repeat (first | apply Kd.R_alloc | apply Kd.R_drewN | apply Kd.R_drew)); exact Kd.R_mono (Kd.R_far (p := ⟨gb364, 4, none⟩) (Kd.R_far (p := ⟨gb364, 3, none⟩) (Kd.R_far (p := ⟨gb364, 2, none⟩) (Kd.R_far (p := ⟨gb364, 1, none⟩) (Kd.R_far (p := ⟨gb364, 0, none⟩) (Kd.R_types HO351.out BK364.out (by decide)) (fun _ hk => hk.2) (.int .i64 t356)) (fun _ hk => hk.2) (.string t357)) (fun _ hk => hk.2) (.string t358)) (fun _ hk => hk.2) (.slice Ao38 t359.length co38)) (fun _ hk => hk.2) (.string t362)) (fun _ hk => trivial)⟩, ⟨by (with_reducible repeat (first | apply Kd.R_alloc | apply Kd.R_drewN | apply Kd.R_drew)); exact Kd.R_mono (Kd.R_far (p := ⟨gb364, 4, none⟩) (Kd.R_far (p := ⟨gb364, 3, none⟩) (Kd.R_far (p := ⟨gb364, 2, none⟩) (Kd.R_far (p := ⟨gb364, 1, none⟩) (Kd.R_far (p := ⟨gb364, 0, none⟩) (Kd.R_types HO361.out BK364.out (by decide)) (fun _ hk => hk.2) (.int .i64 t356)) (fun _ hk => hk.2) (.string t357)) (fun _ hk => hk.2) (.string t358)) (fun _ hk => hk.2) (.slice Ao38 t359.length co38)) (fun _ hk => hk.2) (.string t362)) (fun _ hk => trivial)⟩, ⟨by (with_reducible repeat (first | refine blk_drewN ?_ _ | refine blk_drew ?_ | refine blk_alloc ?_ _)); refine blk_far ?_ NB336_364.out _; (with_reducible repeat (first | refine blk_drewN ?_ _ | refine blk_drew ?_ | refine blk_alloc ?_ _)); refine blk_far ?_ NB336_364.out _; (with_reducible repeat (first | refine blk_drewN ?_ _ | refine blk_drew ?_ | refine blk_alloc ?_ _)); refine blk_far ?_ NB336_364.out _; (with_reducible repeat (first | refine blk_drewN ?_ _ | refine blk_drew ?_ | refine blk_alloc ?_ _)); refine blk_far ?_ NB336_364.out _; (with_reducible repeat (first | refine blk_drewN ?_ _ | refine blk_drew ?_ | refine blk_alloc ?_ _)); refine blk_far ?_ NB336_364.out _; (with_reducible repeat (first | refine blk_drewN ?_ _ | refine blk_drew ?_ | refine blk_alloc ?_ _)); exact BK336.out⟩, ⟨by (with_reducible repeat (first | refine blk_drewN ?_ _ | refine blk_drew ?_ | refine blk_alloc ?_ _)); refine blk_far ?_ NB352_364.out _; (with_reducible repeat (first | refine blk_drewN ?_ _ | refine blk_drew ?_ | refine blk_alloc ?_ _)); refine blk_far ?_ NB352_364.out _; (with_reducible repeat (first | refine blk_drewN ?_ _ | refine blk_drew ?_ | refine blk_alloc ?_ _)); refine blk_far ?_ NB352_364.out _; (with_reducible repeat (first | refine blk_drewN ?_ _ | refine blk_drew ?_ | refine blk_alloc ?_ _)); refine blk_far ?_ NB352_364.out _; (with_reducible repeat (first | refine blk_drewN ?_ _ | refine blk_drew ?_ | refine blk_alloc ?_ _)); refine blk_far ?_ NB352_364.out _; (with_reducible repeat (first | refine blk_drewN ?_ _ | refine blk_drew ?_ | refine blk_alloc ?_ _)); exact BK352.out⟩, ⟨by (with_reducible repeat (first | refine blk_drewN ?_ _ | refine blk_drew ?_ | refine blk_alloc ?_ _)); refine blk_put (cs := #[.int .i64 t356, .string t357, .string t358, .slice Ao38 t359.length co38, .string (⟨#[]⟩ : ByteArray)]) ?_ 4 _ rfl; (with_reducible repeat (first | refine blk_drewN ?_ _ | refine blk_drew ?_ | refine blk_alloc ?_ _)); refine blk_put (cs := #[.int .i64 t356, .string t357, .string t358, .slice none 0 0, .string (⟨#[]⟩ : ByteArray)]) ?_ 3 _ rfl; (with_reducible repeat (first | refine blk_drewN ?_ _ | refine blk_drew ?_ | refine blk_alloc ?_ _)); refine blk_put (cs := #[.int .i64 t356, .string t357, .string (⟨#[]⟩ : ByteArray), .slice none 0 0, .string (⟨#[]⟩ : ByteArray)]) ?_ 2 _ rfl; (with_reducible repeat (first | refine blk_drewN ?_ _ | refine blk_drew ?_ | refine blk_alloc ?_ _)); refine blk_put (cs := #[.int .i64 t356, .string (⟨#[]⟩ : ByteArray), .string (⟨#[]⟩ : ByteArray), .slice none 0 0, .string (⟨#[]⟩ : ByteArray)]) ?_ 1 _ rfl; (with_reducible repeat (first | refine blk_drewN ?_ _ | refine blk_drew ?_ | refine blk_alloc ?_ _)); refine blk_put (cs := #[.int .i64 0, .string (⟨#[]⟩ : ByteArray), .string (⟨#[]⟩ : ByteArray), .slice none 0 0, .string (⟨#[]⟩ : ByteArray)]) ?_ 0 _ rfl; (with_reducible repeat (first | refine blk_drewN ?_ _ | refine blk_drew ?_ | refine blk_alloc ?_ _)); exact BK364.out⟩, ⟨by repeat (first | (with_reducible first | exact HB.out | apply below_alloc | apply pw_below_drewN | apply below_drew1 | refine below_set ?_ GE336.out | refine below_set ?_ GE352.out | refine below_set ?_ GE364.out) | exact HB.out)⟩⟩
      case round =>
       clear H'
       try clear c1
       try clear p2
       try clear c3
       try clear c5
       try clear c6
       try clear c8
       try clear c10
       try clear c12
       try clear c15
       try clear c16
       try clear c31
       try clear c35
       try clear c36
       try clear hcz32_0
       try clear hcz32_1
       try clear hcz37_0
       try clear hcz37_1
       try clear hcz37_2
       try clear hcz37_3
       try clear hcz37_4
       try clear hcz9_0
       try clear hcz9_1
       try clear hfz32_0
       try clear hfz32_1
       try clear hfz37_0
       try clear hfz37_1
       try clear hfz37_2
       try clear hfz37_3
       try clear hfz37_4
       try clear hfz9_0
       try clear hfz9_1
       try clear p2
       obtain ⟨x7_2, x10_2, rfl, HA, HK2, HO_5, HO_7, HO_353001, HO_365003, BK336, BK352, BK364, HB⟩ := hrel
       cases gk with
       | zero => exact absurd HA.out (by simp [oriellaw07_ScopeKeeps.l0])
       | succ k2 =>
        have H := HA.out
        clear HA
        simp only [oriellaw07_ScopeKeeps.l0] at H
        by_cases c39 : x10_2 < (x7_2.length : Int)
        ·
         rw [if_pos c39] at H
         have c39b0 : decide (x10_2 < (x7_2.length : Int)) = true := decide_eq_true c39
         clear c39
         by_cases c40 : 0 ≤ x10_2
         ·
          rw [if_pos c40] at H
          have c40b0 : decide (0 ≤ x10_2) = true := decide_eq_true c40
          clear c40
          obtain ⟨y365, hy365⟩ : ∃ y_ : List (S44), y_ = (x7_2.set (x10_2 : Int).toNat (⟨(rd_T44 x7_2 x10_2).f0, (⟨#[115, 112, 111, 105, 108, 116]⟩ : ByteArray)⟩ : S44)) := ⟨_, rfl⟩
          replace H : (oriellaw07_ScopeKeeps.l0 k2 l0 y343 y365 (wrap64 (x10_2 + 1)) a1_0 l1_1 a1_0 y349 t356 t357 t358 t359 t362) = some r := by first | (rw [hy365]; with_reducible exact H) | (have H2_ := (Option.bind_some _ _).symm.trans H; rw [hy365]; with_reducible exact H2_) | (have H2_ := (Option.bind_some _ _).symm.trans H; with_reducible exact H2_) | with_reducible exact H | (rw [hy365]; exact H) | exact H
          have Ny365 := Aside0.mk hy365
          clear hy365
          have H' := Aside0.mk H
          clear H
          obtain ⟨Ao42, co42, eo42⟩ := Kd.R_slice HO_7.out
          subst eo42
          have p41 : 0 ≤ (x10_2 : Int) := of_decide_eq_true (by first | (with_reducible assumption) | assumption)
          have q41 : (x10_2 : Int) < ((x7_2.length : Int) : Int) := of_decide_eq_true (by first | (with_reducible assumption) | assumption)
          obtain ⟨go41, co41, eo41, gb41, gl41, cl41, HG41⟩ := Kd.R_form HO_7.out (by omega)
          (first | cases eo41 | (injection eo41 with ea_ en_ ec_; (first | subst ea_ | (injection ea_ with ea_; subst ea_)); subst ec_; clear en_))
          have GB41 := Aside0.mk gb41
          have GG41 := Aside0.mk HG41
          clear gb41 gl41 HG41
          obtain ⟨ce41, hcl41, hM41, hcc41, hfr41⟩ := Kd.R_elem HO_7.out z44 (x10_2 : Int) p41 q41
          obtain rfl := k44_openM hM41
          have hx41_0 : wr.cell? ⟨go41, (x10_2 : Int).toNat * 2, none⟩ = some (.string ((rd_T44 x7_2 x10_2).f0)) := hcc41 0 _ rfl
          have hx41_1 : wr.cell? ⟨go41, (x10_2 : Int).toNat * 2 + 1, none⟩ = some (.string ((rd_T44 x7_2 x10_2).f1)) := hcc41 1 _ rfl
          have hf41_0 : wr.frozen? ⟨go41, (x10_2 : Int).toNat * 2, none⟩ = false := hfr41 0
          have hf41_1 : wr.frozen? ⟨go41, (x10_2 : Int).toNat * 2 + 1, none⟩ = false := hfr41 1
          clear hcl41 hcc41 hfr41 hM41
          replace p41 := eq_true p41
          replace q41 := eq_true q41
          have HX43 := Aside0.mk (show Kd.R k44 44 wr w.heap.size (fun k_ => some k_ ≠ (v344 : Value).ownBlock) (.slice (some ⟨go41, 0, none⟩) x7_2.length co42) x7_2 from (by (with_reducible repeat (first | apply Kd.R_alloc | apply Kd.R_drewN | apply Kd.R_drew)); exact HO_7.out))
          obtain ⟨ce43, hcl43, hM43, hcc43, hfr43⟩ := Kd.R_elem HX43.out z44 (x10_2 : Int) (of_decide_eq_true (by first | (with_reducible assumption) | assumption)) (by have h_ : (x10_2 : Int) < ((x7_2.length : Int) : Int) := of_decide_eq_true (by first | (with_reducible assumption) | assumption); first | exact h_ | (have e_ := (Kd.R_reads' HO_7.out).1; omega) | simpa using h_)
          obtain rfl := k44_openM hM43
          have HP43 := Kd.R_seg HX43.out (x10_2 : Int) (of_decide_eq_true (by first | (with_reducible assumption) | assumption)) (by have h_ : (x10_2 : Int) < ((x7_2.length : Int) : Int) := of_decide_eq_true (by first | (with_reducible assumption) | assumption); first | exact h_ | (have e_ := (Kd.R_reads' HO_7.out).1; omega) | simpa using h_) (seg := [.string (⟨#[115, 112, 111, 105, 108, 116]⟩ : ByteArray)]) (j := 1) hcl43 hcc43 (show 2 ≤ 2 from by decide) (x' := (⟨(rd_T44 x7_2 x10_2).f0, (⟨#[115, 112, 111, 105, 108, 116]⟩ : ByteArray)⟩ : S44)) (k44_mkM _ _ _ (⟨(rd_T44 x7_2 x10_2).f0, (⟨#[115, 112, 111, 105, 108, 116]⟩ : ByteArray)⟩ : S44) ) (fun _ hk => hk)
          have hx43_1 := hcc43 1 _ rfl
          (try simp only [show (k44).sz = 2 from rfl, Nat.mul_one, Nat.add_zero] at hx43_1)
          have hf43_1 := hfr43 1
          (try simp only [show (k44).sz = 2 from rfl, Nat.mul_one, Nat.add_zero] at hf43_1)
          clear hcl43 hcc43 hfr43 hM43
          go_wp2_with (first | ((with_reducible refine gate_store (t := 9) (p := 50) rfl ?_); refine store_event (t := 9) (p := 50) (v := ?vo_w44) (w1 := (wr.setCell ⟨go41, (x10_2 : Int).toNat * 2 + 1, none⟩ (.string (⟨#[115, 112, 111, 105, 108, 116]⟩ : ByteArray)))) ?hg ?ho ?hn ?hr ?_; (case ho => rfl); (case hg => rfl); (case hn => rfl); (case hr => first | (go_simp; done) | (go_simp; rfl)); intro w44 hw; have hg : wr.grownBy w44 (some go41) := (by rw [hw]; exact HP43.2); have hp_ : Kd.R k44 44 w44 w.heap.size (fun k_ => some k_ ≠ (v344 : Value).ownBlock) (.slice (some ⟨go41, 0, none⟩) x7_2.length co42) y365 := (by rw [hw, Ny365.out]; exact HP43.1); clear HP43; have n0_ := Aside0.mk (Kd.R_after (v := (.slice (some ⟨go41, 0, none⟩) x7_2.length co42)) (v1 := (.slice (some ⟨go41, 0, none⟩) x7_2.length co42)) (ok := (fun _ => True)) (by (with_reducible repeat (first | apply Kd.R_alloc | apply Kd.R_drewN | apply Kd.R_drew)); exact Kd.R_mono HO_5.out (fun _ hk => ⟨trivial, hk⟩)) hg (.inl rfl)); have n1_ := Aside0.mk (hp_); have n2_ := Aside0.mk (Kd.R_over' (v := (.slice (some ⟨go41, 0, none⟩) x7_2.length co42)) (by (with_reducible repeat (first | apply Kd.R_alloc | apply Kd.R_drewN | apply Kd.R_drew)); exact HO_353001.out) (Kd.R_typed HO_7.out) (by decide) hg); have n3_ := Aside0.mk (Kd.R_over' (v := (.slice (some ⟨go41, 0, none⟩) x7_2.length co42)) (by (with_reducible repeat (first | apply Kd.R_alloc | apply Kd.R_drewN | apply Kd.R_drew)); exact HO_365003.out) (Kd.R_typed HO_7.out) (by decide) hg); have n4_ := Aside0.mk (blk_grown (g := gb336) (o := .cells #[.string a1_0, .slice A1_1 l1_1.length c1_1] 25 (0, 0)) (by (with_reducible repeat (first | refine blk_drewN ?_ _ | refine blk_drew ?_ | refine blk_alloc ?_ _)); exact BK336.out) hg (Kd.R_ne HO_7.out BK336.out (by decide))); have n5_ := Aside0.mk (blk_grown (g := gb352) (o := .cells #[.string a1_0, .slice Ao28 y349.length co28] 25 (0, 0)) (by (with_reducible repeat (first | refine blk_drewN ?_ _ | refine blk_drew ?_ | refine blk_alloc ?_ _)); exact BK352.out) hg (Kd.R_ne HO_7.out BK352.out (by decide))); have n6_ := Aside0.mk (blk_grown (g := gb364) (o := .cells #[.int .i64 t356, .string t357, .string t358, .slice Ao38 t359.length co38, .string t362] 32 (0, 0)) (by (with_reducible repeat (first | refine blk_drewN ?_ _ | refine blk_drew ?_ | refine blk_alloc ?_ _)); exact BK364.out) hg (Kd.R_ne HO_7.out BK364.out (by decide))); have n7_ := Aside0.mk ((by rw [hw]; exact below_set (HB.out) GB41.out : Below w.heap.size w w44)); clear HO_5; clear HO_7; clear HO_353001; clear HO_365003; clear BK336; clear BK352; clear BK364; clear HB; have HO_5 := n0_; have HO_7 := n1_; have HO_353001 := n2_; have HO_365003 := n3_; have BK336 := n4_; have BK352 := n5_; have BK364 := n6_; have HB := n7_; clear n0_ n1_ n2_ n3_ n4_ n5_ n6_ n7_; clear hg hw hp_))
          go_roundg k2
          case measure => have := HJ2.out; have := HK2.out; omega
          case rel => exact ⟨(y365), (wrap64 (x10_2 + 1)), (by first | rfl | (simp; done) | (simp [*]; done)), H', ⟨by have := HJ2.out; have := HK2.out; omega⟩, ⟨by (with_reducible repeat (first | apply Kd.R_alloc | apply Kd.R_drewN | apply Kd.R_drew)); exact Kd.R_mono HO_5.out (fun _ hk => hk.2)⟩, ⟨by (with_reducible repeat (first | apply Kd.R_alloc | apply Kd.R_drewN | apply Kd.R_drew)); exact HO_7.out⟩, ⟨by (with_reducible repeat (first | apply Kd.R_alloc | apply Kd.R_drewN | apply Kd.R_drew)); exact HO_353001.out⟩, ⟨by (with_reducible repeat (first | apply Kd.R_alloc | apply Kd.R_drewN | apply Kd.R_drew)); exact HO_365003.out⟩, ⟨by (with_reducible repeat (first | refine blk_drewN ?_ _ | refine blk_drew ?_ | refine blk_alloc ?_ _)); exact BK336.out⟩, ⟨by (with_reducible repeat (first | refine blk_drewN ?_ _ | refine blk_drew ?_ | refine blk_alloc ?_ _)); exact BK352.out⟩, ⟨by (with_reducible repeat (first | refine blk_drewN ?_ _ | refine blk_drew ?_ | refine blk_alloc ?_ _)); exact BK364.out⟩, ⟨by repeat (first | (with_reducible first | exact HB.out | apply below_alloc | apply pw_below_drewN | apply below_drew1 | refine below_set ?_ GE336.out | refine below_set ?_ GE352.out | refine below_set ?_ GE364.out) | exact HB.out)⟩⟩
         ·
          rw [if_neg c40] at H
          exact absurd H (by simp)
        ·
         rw [if_neg c39] at H
         have c39b0 : decide (x10_2 < (x7_2.length : Int)) = false := decide_eq_false c39
         clear c39
         have H' := Aside0.mk H
         clear H
         obtain ⟨Ao45, co45, eo45⟩ := Kd.R_slice HO_7.out
         subst eo45
         go_wp2
         go_loopg [11] k2 (fun kq v11 w' => ∃ (x11_3 : Int) (x365003_3 : List (S47)) (u365003 : Value), v11 = .int .i64 x11_3 ∧ Aside0 (oriellaw07_ScopeKeeps.l1 kq l0 y343 x11_3 a1_0 l1_1 a1_0 y349 t356 t357 t358 x365003_3 t362 = some r) ∧ Aside0 (kq ≤ k2) ∧ Aside0 (Kd.R k44 44 w' w.heap.size (fun _ => True) v344 y343) ∧ Aside0 (Kd.R k51 51 w' w.heap.size (fun _ => True) (.slice Ao28 y349.length co28) y349) ∧ Aside0 (Kd.R k47 47 w' w.heap.size (fun _ => True) u365003 x365003_3) ∧ Aside0 (w'.heap[gb336]? = some (.cells #[.string a1_0, (.slice A1_1 l1_1.length c1_1)] 25 (0, 0))) ∧ Aside0 (w'.heap[gb352]? = some (.cells #[.string a1_0, (.slice Ao28 y349.length co28)] 25 (0, 0))) ∧ Aside0 (w'.heap[gb364]? = some (.cells #[.int .i64 t356, .string t357, .string t358, u365003, .string t362] 32 (0, 0))) ∧ Aside0 (Below w.heap.size w w'))
         case atStart => exact ⟨(0), (t359), (.slice Ao38 t359.length co38), (by first | rfl | (simp; done) | (simp [*]; done)), H', ⟨Nat.le_refl _⟩, ⟨by (with_reducible repeat (first | apply Kd.R_alloc | apply Kd.R_drewN | apply Kd.R_drew)); exact Kd.R_mono HO_5.out (fun _ hk => trivial)⟩, ⟨by (with_reducible repeat (first | apply Kd.R_alloc | apply Kd.R_drewN | apply Kd.R_drew)); exact HO_353001.out⟩, ⟨by (with_reducible repeat (first | apply Kd.R_alloc | apply Kd.R_drewN | apply Kd.R_drew)); exact HO_365003.out⟩, ⟨by (with_reducible repeat (first | refine blk_drewN ?_ _ | refine blk_drew ?_ | refine blk_alloc ?_ _)); exact BK336.out⟩, ⟨by (with_reducible repeat (first | refine blk_drewN ?_ _ | refine blk_drew ?_ | refine blk_alloc ?_ _)); exact BK352.out⟩, ⟨by (with_reducible repeat (first | refine blk_drewN ?_ _ | refine blk_drew ?_ | refine blk_alloc ?_ _)); exact BK364.out⟩, ⟨by repeat (first | (with_reducible first | exact HB.out | apply below_alloc | apply pw_below_drewN | apply below_drew1 | refine below_set ?_ GE336.out | refine below_set ?_ GE352.out | refine below_set ?_ GE364.out) | exact HB.out)⟩⟩
         case round =>
          clear H'
          try clear c1
          try clear p2
          try clear c3
          try clear c4
          try clear p4
          try clear q4
          try clear hx4
          try clear hf4
          try clear c5
          try clear c6
          try clear p6
          try clear c8
          try clear c10
          try clear c12
          try clear c15
          try clear c16
          try clear c31
          try clear c35
          try clear c36
          try clear c39
          try clear c39b0
          try clear c40
          try clear c40b0
          try clear c41
          try clear p41
          try clear q41
          try clear hx41
          try clear hf41
          try clear c43
          try clear hx43
          try clear hf43
          try clear hcz32_0
          try clear hcz32_1
          try clear hcz37_0
          try clear hcz37_1
          try clear hcz37_2
          try clear hcz37_3
          try clear hcz37_4
          try clear hcz9_0
          try clear hcz9_1
          try clear hfz32_0
          try clear hfz32_1
          try clear hfz37_0
          try clear hfz37_1
          try clear hfz37_2
          try clear hfz37_3
          try clear hfz37_4
          try clear hfz9_0
          try clear hfz9_1
          try clear hx41_0
          try clear hx41_1
          try clear hx43_1
          try clear p2
          try clear p41
          try clear q41
          obtain ⟨x11_3, x365003_3, u365003, rfl, HA, HK3, HO_5, HO_353001, HO_365003, BK336, BK352, BK364, HB⟩ := hrel
          cases gk with
          | zero => exact absurd HA.out (by simp [oriellaw07_ScopeKeeps.l1])
          | succ k3 =>
           have H := HA.out
           clear HA
           simp only [oriellaw07_ScopeKeeps.l1] at H
           by_cases c46 : x11_3 < (x365003_3.length : Int)
           ·
            rw [if_pos c46] at H
            have c46b0 : decide (x11_3 < (x365003_3.length : Int)) = true := decide_eq_true c46
            clear c46
            by_cases c47 : 0 ≤ x11_3
            ·
             rw [if_pos c47] at H
             have c47b0 : decide (0 ≤ x11_3) = true := decide_eq_true c47
             clear c47
             obtain ⟨y366, hy366⟩ : ∃ y_ : List (S47), y_ = (x365003_3.set (x11_3 : Int).toNat (⟨(⟨(rd_T47 x365003_3 x11_3).f0.f0, (rd_T47 x365003_3 x11_3).f0.f1⟩ : S29), (⟨#[115, 112, 111, 105, 108, 116]⟩ : ByteArray)⟩ : S47)) := ⟨_, rfl⟩
             replace H : (oriellaw07_ScopeKeeps.l1 k3 l0 y343 (wrap64 (x11_3 + 1)) a1_0 l1_1 a1_0 y349 t356 t357 t358 y366 t362) = some r := by first | (rw [hy366]; with_reducible exact H) | (have H2_ := (Option.bind_some _ _).symm.trans H; rw [hy366]; with_reducible exact H2_) | (have H2_ := (Option.bind_some _ _).symm.trans H; with_reducible exact H2_) | with_reducible exact H | (rw [hy366]; exact H) | exact H
             have Ny366 := Aside0.mk hy366
             clear hy366
             have H' := Aside0.mk H
             clear H
             have hnb49 := NB364_336.out
             have hnc49 := NB336_364.out
             have hnb50 := NB364_352.out
             have hnc50 := NB352_364.out
             have hcz51_0 : wr.cell? ⟨gb364, 0, none⟩ = some (.int .i64 t356) := (blk_cell BK364.out 0).trans rfl
             have hcz51_1 : wr.cell? ⟨gb364, 1, none⟩ = some (.string t357) := (blk_cell BK364.out 1).trans rfl
             have hcz51_2 : wr.cell? ⟨gb364, 2, none⟩ = some (.string t358) := (blk_cell BK364.out 2).trans rfl
             have hcz51_3 : wr.cell? ⟨gb364, 3, none⟩ = some (u365003) := (blk_cell BK364.out 3).trans rfl
             have hcz51_4 : wr.cell? ⟨gb364, 4, none⟩ = some (.string t362) := (blk_cell BK364.out 4).trans rfl
             have hfz51_0 := blk_frozen BK364.out 0
             have hfz51_1 := blk_frozen BK364.out 1
             have hfz51_2 := blk_frozen BK364.out 2
             have hfz51_3 := blk_frozen BK364.out 3
             have hfz51_4 := blk_frozen BK364.out 4
             obtain ⟨Ao52, co52, eo52⟩ := Kd.R_slice HO_365003.out
             subst eo52
             have p48 : 0 ≤ (x11_3 : Int) := of_decide_eq_true (by first | (with_reducible assumption) | assumption)
             have q48 : (x11_3 : Int) < ((x365003_3.length : Int) : Int) := of_decide_eq_true (by first | (with_reducible assumption) | assumption)
             obtain ⟨go48, co48, eo48, gb48, gl48, cl48, HG48⟩ := Kd.R_form HO_365003.out (by omega)
             (first | cases eo48 | (injection eo48 with ea_ en_ ec_; (first | subst ea_ | (injection ea_ with ea_; subst ea_)); subst ec_; clear en_))
             have GB48 := Aside0.mk gb48
             have GG48 := Aside0.mk HG48
             clear gb48 gl48 HG48
             obtain ⟨ce48, hcl48, hM48, hcc48, hfr48⟩ := Kd.R_elem HO_365003.out z47 (x11_3 : Int) p48 q48
             obtain rfl := k47_openM hM48
             have hx48_0 : wr.cell? ⟨go48, (x11_3 : Int).toNat * 3, none⟩ = some (.string ((rd_T47 x365003_3 x11_3).f0.f0)) := hcc48 0 _ rfl
             have hx48_1 : wr.cell? ⟨go48, (x11_3 : Int).toNat * 3 + 1, none⟩ = some (.string ((rd_T47 x365003_3 x11_3).f0.f1)) := hcc48 1 _ rfl
             have hx48_2 : wr.cell? ⟨go48, (x11_3 : Int).toNat * 3 + 2, none⟩ = some (.string ((rd_T47 x365003_3 x11_3).f1)) := hcc48 2 _ rfl
             have hf48_0 : wr.frozen? ⟨go48, (x11_3 : Int).toNat * 3, none⟩ = false := hfr48 0
             have hf48_1 : wr.frozen? ⟨go48, (x11_3 : Int).toNat * 3 + 1, none⟩ = false := hfr48 1
             have hf48_2 : wr.frozen? ⟨go48, (x11_3 : Int).toNat * 3 + 2, none⟩ = false := hfr48 2
             clear hcl48 hcc48 hfr48 hM48
             replace p48 := eq_true p48
             replace q48 := eq_true q48
             have HX53 := Aside0.mk (show Kd.R k47 47 wr w.heap.size (fun _ => True) (.slice (some ⟨go48, 0, none⟩) x365003_3.length co52) x365003_3 from (by (with_reducible repeat (first | apply Kd.R_alloc | apply Kd.R_drewN | apply Kd.R_drew)); exact HO_365003.out))
             obtain ⟨ce53, hcl53, hM53, hcc53, hfr53⟩ := Kd.R_elem HX53.out z47 (x11_3 : Int) (of_decide_eq_true (by first | (with_reducible assumption) | assumption)) (by have h_ : (x11_3 : Int) < ((x365003_3.length : Int) : Int) := of_decide_eq_true (by first | (with_reducible assumption) | assumption); first | exact h_ | (have e_ := (Kd.R_reads' HO_365003.out).1; omega) | simpa using h_)
             obtain rfl := k47_openM hM53
             have HP53 := Kd.R_seg HX53.out (x11_3 : Int) (of_decide_eq_true (by first | (with_reducible assumption) | assumption)) (by have h_ : (x11_3 : Int) < ((x365003_3.length : Int) : Int) := of_decide_eq_true (by first | (with_reducible assumption) | assumption); first | exact h_ | (have e_ := (Kd.R_reads' HO_365003.out).1; omega) | simpa using h_) (seg := [.string (⟨#[115, 112, 111, 105, 108, 116]⟩ : ByteArray)]) (j := 2) hcl53 hcc53 (show 3 ≤ 3 from by decide) (x' := (⟨(⟨(rd_T47 x365003_3 x11_3).f0.f0, (rd_T47 x365003_3 x11_3).f0.f1⟩ : S29), (⟨#[115, 112, 111, 105, 108, 116]⟩ : ByteArray)⟩ : S47)) (k47_mkM _ _ _ (⟨(⟨(rd_T47 x365003_3 x11_3).f0.f0, (rd_T47 x365003_3 x11_3).f0.f1⟩ : S29), (⟨#[115, 112, 111, 105, 108, 116]⟩ : ByteArray)⟩ : S47) ) (fun _ hk => hk)
             have hx53_2 := hcc53 2 _ rfl
             (try simp only [show (k47).sz = 3 from rfl, Nat.mul_one, Nat.add_zero] at hx53_2)
             have hf53_2 := hfr53 2
             (try simp only [show (k47).sz = 3 from rfl, Nat.mul_one, Nat.add_zero] at hf53_2)
             clear hcl53 hcc53 hfr53 hM53
             go_wp2_with (first | ((with_reducible refine gate_store (t := 9) (p := 62) rfl ?_); refine store_event (t := 9) (p := 62) (v := ?vo_w54) (w1 := (wr.setCell ⟨go48, (x11_3 : Int).toNat * 3 + 2, none⟩ (.string (⟨#[115, 112, 111, 105, 108, 116]⟩ : ByteArray)))) ?hg ?ho ?hn ?hr ?_; (case ho => rfl); (case hg => rfl); (case hn => rfl); (case hr => first | (go_simp; done) | (go_simp; rfl)); intro w54 hw; have hg : wr.grownBy w54 (some go48) := (by rw [hw]; exact HP53.2); have hp_ : Kd.R k47 47 w54 w.heap.size (fun _ => True) (.slice (some ⟨go48, 0, none⟩) x365003_3.length co52) y366 := (by rw [hw, Ny366.out]; exact HP53.1); clear HP53; have n0_ := Aside0.mk (Kd.R_over' (v := (.slice (some ⟨go48, 0, none⟩) x365003_3.length co52)) (by (with_reducible repeat (first | apply Kd.R_alloc | apply Kd.R_drewN | apply Kd.R_drew)); exact HO_5.out) (Kd.R_typed HO_365003.out) (by decide) hg); have n1_ := Aside0.mk (Kd.R_over' (v := (.slice (some ⟨go48, 0, none⟩) x365003_3.length co52)) (by (with_reducible repeat (first | apply Kd.R_alloc | apply Kd.R_drewN | apply Kd.R_drew)); exact HO_353001.out) (Kd.R_typed HO_365003.out) (by decide) hg); have n2_ := Aside0.mk (hp_); have n3_ := Aside0.mk (blk_grown (g := gb336) (o := .cells #[.string a1_0, .slice A1_1 l1_1.length c1_1] 25 (0, 0)) (by (with_reducible repeat (first | refine blk_drewN ?_ _ | refine blk_drew ?_ | refine blk_alloc ?_ _)); exact BK336.out) hg (Kd.R_ne HO_365003.out BK336.out (by decide))); have n4_ := Aside0.mk (blk_grown (g := gb352) (o := .cells #[.string a1_0, .slice Ao28 y349.length co28] 25 (0, 0)) (by (with_reducible repeat (first | refine blk_drewN ?_ _ | refine blk_drew ?_ | refine blk_alloc ?_ _)); exact BK352.out) hg (Kd.R_ne HO_365003.out BK352.out (by decide))); have n5_ := Aside0.mk (blk_grown (g := gb364) (o := .cells #[.int .i64 t356, .string t357, .string t358, .slice (some ⟨go48, 0, none⟩) x365003_3.length co52, .string t362] 32 (0, 0)) (by (with_reducible repeat (first | refine blk_drewN ?_ _ | refine blk_drew ?_ | refine blk_alloc ?_ _)); exact BK364.out) hg (Kd.R_ne HO_365003.out BK364.out (by decide))); have n6_ := Aside0.mk ((by rw [hw]; exact below_set (HB.out) GB48.out : Below w.heap.size w w54)); clear HO_5; clear HO_353001; clear HO_365003; clear BK336; clear BK352; clear BK364; clear HB; have HO_5 := n0_; have HO_353001 := n1_; have HO_365003 := n2_; have BK336 := n3_; have BK352 := n4_; have BK364 := n5_; have HB := n6_; clear n0_ n1_ n2_ n3_ n4_ n5_ n6_; clear hg hw hp_))
             go_roundg k3
             case measure => have := HJ2.out; have := HK2.out; have := HK3.out; omega
             case rel => exact ⟨(wrap64 (x11_3 + 1)), (y366), (.slice (some ⟨go48, 0, none⟩) x365003_3.length co52), (by first | rfl | (simp; done) | (simp [*]; done)), H', ⟨by have := HJ2.out; have := HK2.out; have := HK3.out; omega⟩, ⟨by (with_reducible repeat (first | apply Kd.R_alloc | apply Kd.R_drewN | apply Kd.R_drew)); exact HO_5.out⟩, ⟨by (with_reducible repeat (first | apply Kd.R_alloc | apply Kd.R_drewN | apply Kd.R_drew)); exact HO_353001.out⟩, ⟨by (with_reducible repeat (first | apply Kd.R_alloc | apply Kd.R_drewN | apply Kd.R_drew)); exact HO_365003.out⟩, ⟨by (with_reducible repeat (first | refine blk_drewN ?_ _ | refine blk_drew ?_ | refine blk_alloc ?_ _)); exact BK336.out⟩, ⟨by (with_reducible repeat (first | refine blk_drewN ?_ _ | refine blk_drew ?_ | refine blk_alloc ?_ _)); exact BK352.out⟩, ⟨by (with_reducible repeat (first | refine blk_drewN ?_ _ | refine blk_drew ?_ | refine blk_alloc ?_ _)); exact BK364.out⟩, ⟨by repeat (first | (with_reducible first | exact HB.out | apply below_alloc | apply pw_below_drewN | apply below_drew1 | refine below_set ?_ GE336.out | refine below_set ?_ GE352.out | refine below_set ?_ GE364.out) | exact HB.out)⟩⟩
            ·
             rw [if_neg c47] at H
             exact absurd H (by simp)
           ·
            rw [if_neg c46] at H
            have c46b0 : decide (x11_3 < (x365003_3.length : Int)) = false := decide_eq_false c46
            clear c46
            replace H := Option.bind_eq_some_iff.mp H
            obtain ⟨t367, A550, H⟩ := H
            replace H : (oriellaw07_ScopeKeeps.l2 k3 l0 y343 t367 0 a1_0 l1_1 a1_0 y349) = some r := H
            have A55 := Aside0.mk A550
            clear A550
            have H' := Aside0.mk H
            clear H
            have hnb56 := NB364_336.out
            have hnc56 := NB336_364.out
            have hnb57 := NB364_352.out
            have hnc57 := NB352_364.out
            have hcz58_0 : wr.cell? ⟨gb364, 0, none⟩ = some (.int .i64 t356) := (blk_cell BK364.out 0).trans rfl
            have hcz58_1 : wr.cell? ⟨gb364, 1, none⟩ = some (.string t357) := (blk_cell BK364.out 1).trans rfl
            have hcz58_2 : wr.cell? ⟨gb364, 2, none⟩ = some (.string t358) := (blk_cell BK364.out 2).trans rfl
            have hcz58_3 : wr.cell? ⟨gb364, 3, none⟩ = some (u365003) := (blk_cell BK364.out 3).trans rfl
            have hcz58_4 : wr.cell? ⟨gb364, 4, none⟩ = some (.string t362) := (blk_cell BK364.out 4).trans rfl
            have hfz58_0 := blk_frozen BK364.out 0
            have hfz58_1 := blk_frozen BK364.out 1
            have hfz58_2 := blk_frozen BK364.out 2
            have hfz58_3 := blk_frozen BK364.out 3
            have hfz58_4 := blk_frozen BK364.out 4
            obtain ⟨Ao59, co59, eo59⟩ := Kd.R_slice HO_365003.out
            subst eo59
            go_wp2_with (first | ((with_reducible refine gate_callee (f := 16) rfl ?_); refine goesL_ (some 63) rfl rfl Try.func16 (by kernel_rfl) rfl #[] rfl (by (try simp only [List.map_toArray, List.map_cons, List.map_nil]); first | done | rfl | (simp only [List.length_drop, List.length_take]; rfl)) ?_; (with_reducible refine (scope_New.calls  t367 _ A55.out).mono ?_); rintro e w60 ⟨v368, rfl, ho0, hb⟩; refine ⟨_, rfl, ?_⟩; have n0_ := Aside0.mk (Kd.R_elder' (by (with_reducible repeat (first | apply Kd.R_alloc | apply Kd.R_drewN | apply Kd.R_drew)); exact HO_5.out) (Kd.R_base ho0) hb); have n1_ := Aside0.mk (Kd.R_below (by (with_reducible repeat (first | apply Kd.R_alloc | apply Kd.R_drewN | apply Kd.R_drew)); exact HO_353001.out) hb); have n2_ := Aside0.mk (Kd.R_below (by (with_reducible repeat (first | apply Kd.R_alloc | apply Kd.R_drewN | apply Kd.R_drew)); exact HO_365003.out) hb); have n3_ := Aside0.mk (Kd.R_lower (Kd.R_new' ho0 (Kd.R_lt (by (with_reducible repeat (first | apply Kd.R_alloc | apply Kd.R_drewN | apply Kd.R_drew)); exact HO_5.out))) (below_size (by repeat (first | (with_reducible first | exact HB.out | apply below_alloc | apply pw_below_drewN | apply below_drew1 | refine below_set ?_ GE336.out | refine below_set ?_ GE352.out | refine below_set ?_ GE364.out) | exact HB.out)))); have n4_ := Aside0.mk (blk_below (g := gb336) (o := .cells #[.string a1_0, .slice A1_1 l1_1.length c1_1] 25 (0, 0)) (by (with_reducible repeat (first | refine blk_drewN ?_ _ | refine blk_drew ?_ | refine blk_alloc ?_ _)); exact BK336.out) hb); have n5_ := Aside0.mk (blk_below (g := gb352) (o := .cells #[.string a1_0, .slice Ao28 y349.length co28] 25 (0, 0)) (by (with_reducible repeat (first | refine blk_drewN ?_ _ | refine blk_drew ?_ | refine blk_alloc ?_ _)); exact BK352.out) hb); have n6_ := Aside0.mk (blk_below (g := gb364) (o := .cells #[.int .i64 t356, .string t357, .string t358, .slice Ao59 x365003_3.length co59, .string t362] 32 (0, 0)) (by (with_reducible repeat (first | refine blk_drewN ?_ _ | refine blk_drew ?_ | refine blk_alloc ?_ _)); exact BK364.out) hb); have n7_ := Aside0.mk (below_step (by repeat (first | (with_reducible first | exact HB.out | apply below_alloc | apply pw_below_drewN | apply below_drew1 | refine below_set ?_ GE336.out | refine below_set ?_ GE352.out | refine below_set ?_ GE364.out) | exact HB.out)) hb); clear HO_5; clear HO_353001; clear HO_365003; clear BK336; clear BK352; clear BK364; clear HB; have HO_5 := n0_; have HO_353001 := n1_; have HO_365003 := n2_; have HO369 := n3_; have BK336 := n4_; have BK352 := n5_; have BK364 := n6_; have HB := n7_; clear n0_ n1_ n2_ n3_ n4_ n5_ n6_ n7_; (try clear hb); (try clear hb2); (try clear hk); (try clear hi); (try clear ho0)))
            go_loopg [13] k3 (fun kq v13 w' => ∃ (x12_4 : List (S44)) (x13_4 : Int), v13 = .int .i64 x13_4 ∧ Aside0 (oriellaw07_ScopeKeeps.l2 kq l0 y343 x12_4 x13_4 a1_0 l1_1 a1_0 y349 = some r) ∧ Aside0 (kq ≤ k3) ∧ Aside0 (Kd.R k44 44 w' w.heap.size (fun k_ => some k_ ≠ (v368 : Value).ownBlock) v344 y343) ∧ Aside0 (Kd.R k44 44 w' w.heap.size (fun k_ => some k_ ≠ (v344 : Value).ownBlock) v368 x12_4) ∧ Aside0 (Kd.R k51 51 w' w.heap.size (fun _ => True) (.slice Ao28 y349.length co28) y349) ∧ Aside0 (Kd.R k47 47 w' w.heap.size (fun _ => True) (.slice Ao59 x365003_3.length co59) x365003_3) ∧ Aside0 (w'.heap[gb336]? = some (.cells #[.string a1_0, (.slice A1_1 l1_1.length c1_1)] 25 (0, 0))) ∧ Aside0 (w'.heap[gb352]? = some (.cells #[.string a1_0, (.slice Ao28 y349.length co28)] 25 (0, 0))) ∧ Aside0 (w'.heap[gb364]? = some (.cells #[.int .i64 t356, .string t357, .string t358, (.slice Ao59 x365003_3.length co59), .string t362] 32 (0, 0))) ∧ Aside0 (Below w.heap.size w w'))
            case atStart => exact ⟨(t367), (0), (by first | rfl | (simp; done) | (simp [*]; done)), H', ⟨Nat.le_refl _⟩, ⟨by (with_reducible repeat (first | apply Kd.R_alloc | apply Kd.R_drewN | apply Kd.R_drew)); exact Kd.R_mono HO_5.out (fun _ hk => hk.2)⟩, ⟨by (with_reducible repeat (first | apply Kd.R_alloc | apply Kd.R_drewN | apply Kd.R_drew)); exact Kd.R_mono HO369.out (fun _ hk => hk.2)⟩, ⟨by (with_reducible repeat (first | apply Kd.R_alloc | apply Kd.R_drewN | apply Kd.R_drew)); exact HO_353001.out⟩, ⟨by (with_reducible repeat (first | apply Kd.R_alloc | apply Kd.R_drewN | apply Kd.R_drew)); exact HO_365003.out⟩, ⟨by (with_reducible repeat (first | refine blk_drewN ?_ _ | refine blk_drew ?_ | refine blk_alloc ?_ _)); exact BK336.out⟩, ⟨by (with_reducible repeat (first | refine blk_drewN ?_ _ | refine blk_drew ?_ | refine blk_alloc ?_ _)); exact BK352.out⟩, ⟨by (with_reducible repeat (first | refine blk_drewN ?_ _ | refine blk_drew ?_ | refine blk_alloc ?_ _)); exact BK364.out⟩, ⟨by repeat (first | (with_reducible first | exact HB.out | apply below_alloc | apply pw_below_drewN | apply below_drew1 | refine below_set ?_ GE336.out | refine below_set ?_ GE352.out | refine below_set ?_ GE364.out) | exact HB.out)⟩⟩
            case round =>
             clear H'
             try clear c1
             try clear p2
             try clear c3
             try clear c4
             try clear p4
             try clear q4
             try clear hx4
             try clear hf4
             try clear c5
             try clear hx5
             try clear hf5
             try clear c6
             try clear p6
             try clear c8
             try clear c10
             try clear c12
             try clear c15
             try clear c16
             try clear c31
             try clear c35
             try clear c36
             try clear c39
             try clear c39b0
             try clear c40
             try clear c40b0
             try clear c41
             try clear p41
             try clear q41
             try clear hx41
             try clear hf41
             try clear c43
             try clear hx43
             try clear hf43
             try clear c46
             try clear c46b0
             try clear c47
             try clear c47b0
             try clear c48
             try clear p48
             try clear q48
             try clear hx48
             try clear hf48
             try clear c49
             try clear c50
             try clear c53
             try clear hx53
             try clear hf53
             try clear c56
             try clear c57
             try clear hcz32_0
             try clear hcz32_1
             try clear hcz37_0
             try clear hcz37_1
             try clear hcz37_2
             try clear hcz37_3
             try clear hcz37_4
             try clear hcz51_0
             try clear hcz51_1
             try clear hcz51_2
             try clear hcz51_3
             try clear hcz51_4
             try clear hcz58_0
             try clear hcz58_1
             try clear hcz58_2
             try clear hcz58_3
             try clear hcz58_4
             try clear hcz9_0
             try clear hcz9_1
             try clear hfz32_0
             try clear hfz32_1
             try clear hfz37_0
             try clear hfz37_1
             try clear hfz37_2
             try clear hfz37_3
             try clear hfz37_4
             try clear hfz51_0
             try clear hfz51_1
             try clear hfz51_2
             try clear hfz51_3
             try clear hfz51_4
             try clear hfz58_0
             try clear hfz58_1
             try clear hfz58_2
             try clear hfz58_3
             try clear hfz58_4
             try clear hfz9_0
             try clear hfz9_1
             try clear hx41_0
             try clear hx41_1
             try clear hx43_1
             try clear hx48_0
             try clear hx48_1
             try clear hx48_2
             try clear hx53_2
             try clear p2
             try clear p4
             try clear p41
             try clear p48
             try clear p6
             try clear q4
             try clear q41
             try clear q48
             obtain ⟨x12_4, x13_4, rfl, HA, HK4, HO_5, HO_12, HO_353001, HO_365003, BK336, BK352, BK364, HB⟩ := hrel
             cases gk with
             | zero => exact absurd HA.out (by simp [oriellaw07_ScopeKeeps.l2])
             | succ k4 =>
              have H := HA.out
              clear HA
              simp only [oriellaw07_ScopeKeeps.l2] at H
              by_cases c61 : x13_4 < (x12_4.length : Int)
              ·
               rw [if_pos c61] at H
               have c61b0 : decide (x13_4 < (x12_4.length : Int)) = true := decide_eq_true c61
               clear c61
               by_cases c62 : 0 ≤ x13_4
               ·
                rw [if_pos c62] at H
                have c62b0 : decide (0 ≤ x13_4) = true := decide_eq_true c62
                clear c62
                obtain ⟨y370, hy370⟩ : ∃ y_ : List (S44), y_ = (x12_4.set (x13_4 : Int).toNat (⟨(rd_T44 x12_4 x13_4).f0, (⟨#[115, 112, 111, 105, 108, 116]⟩ : ByteArray)⟩ : S44)) := ⟨_, rfl⟩
                replace H : (oriellaw07_ScopeKeeps.l2 k4 l0 y343 y370 (wrap64 (x13_4 + 1)) a1_0 l1_1 a1_0 y349) = some r := by first | (rw [hy370]; with_reducible exact H) | (have H2_ := (Option.bind_some _ _).symm.trans H; rw [hy370]; with_reducible exact H2_) | (have H2_ := (Option.bind_some _ _).symm.trans H; with_reducible exact H2_) | with_reducible exact H | (rw [hy370]; exact H) | exact H
                have Ny370 := Aside0.mk hy370
                clear hy370
                have H' := Aside0.mk H
                clear H
                obtain ⟨Ao64, co64, eo64⟩ := Kd.R_slice HO_12.out
                subst eo64
                have p63 : 0 ≤ (x13_4 : Int) := of_decide_eq_true (by first | (with_reducible assumption) | assumption)
                have q63 : (x13_4 : Int) < ((x12_4.length : Int) : Int) := of_decide_eq_true (by first | (with_reducible assumption) | assumption)
                obtain ⟨go63, co63, eo63, gb63, gl63, cl63, HG63⟩ := Kd.R_form HO_12.out (by omega)
                (first | cases eo63 | (injection eo63 with ea_ en_ ec_; (first | subst ea_ | (injection ea_ with ea_; subst ea_)); subst ec_; clear en_))
                have GB63 := Aside0.mk gb63
                have GG63 := Aside0.mk HG63
                clear gb63 gl63 HG63
                obtain ⟨ce63, hcl63, hM63, hcc63, hfr63⟩ := Kd.R_elem HO_12.out z44 (x13_4 : Int) p63 q63
                obtain rfl := k44_openM hM63
                have hx63_0 : wr.cell? ⟨go63, (x13_4 : Int).toNat * 2, none⟩ = some (.string ((rd_T44 x12_4 x13_4).f0)) := hcc63 0 _ rfl
                have hx63_1 : wr.cell? ⟨go63, (x13_4 : Int).toNat * 2 + 1, none⟩ = some (.string ((rd_T44 x12_4 x13_4).f1)) := hcc63 1 _ rfl
                have hf63_0 : wr.frozen? ⟨go63, (x13_4 : Int).toNat * 2, none⟩ = false := hfr63 0
                have hf63_1 : wr.frozen? ⟨go63, (x13_4 : Int).toNat * 2 + 1, none⟩ = false := hfr63 1
                clear hcl63 hcc63 hfr63 hM63
                replace p63 := eq_true p63
                replace q63 := eq_true q63
                have HX65 := Aside0.mk (show Kd.R k44 44 wr w.heap.size (fun k_ => some k_ ≠ (v344 : Value).ownBlock) (.slice (some ⟨go63, 0, none⟩) x12_4.length co64) x12_4 from (by (with_reducible repeat (first | apply Kd.R_alloc | apply Kd.R_drewN | apply Kd.R_drew)); exact HO_12.out))
                obtain ⟨ce65, hcl65, hM65, hcc65, hfr65⟩ := Kd.R_elem HX65.out z44 (x13_4 : Int) (of_decide_eq_true (by first | (with_reducible assumption) | assumption)) (by have h_ : (x13_4 : Int) < ((x12_4.length : Int) : Int) := of_decide_eq_true (by first | (with_reducible assumption) | assumption); first | exact h_ | (have e_ := (Kd.R_reads' HO_12.out).1; omega) | simpa using h_)
                obtain rfl := k44_openM hM65
                have HP65 := Kd.R_seg HX65.out (x13_4 : Int) (of_decide_eq_true (by first | (with_reducible assumption) | assumption)) (by have h_ : (x13_4 : Int) < ((x12_4.length : Int) : Int) := of_decide_eq_true (by first | (with_reducible assumption) | assumption); first | exact h_ | (have e_ := (Kd.R_reads' HO_12.out).1; omega) | simpa using h_) (seg := [.string (⟨#[115, 112, 111, 105, 108, 116]⟩ : ByteArray)]) (j := 1) hcl65 hcc65 (show 2 ≤ 2 from by decide) (x' := (⟨(rd_T44 x12_4 x13_4).f0, (⟨#[115, 112, 111, 105, 108, 116]⟩ : ByteArray)⟩ : S44)) (k44_mkM _ _ _ (⟨(rd_T44 x12_4 x13_4).f0, (⟨#[115, 112, 111, 105, 108, 116]⟩ : ByteArray)⟩ : S44) ) (fun _ hk => hk)
                have hx65_1 := hcc65 1 _ rfl
                (try simp only [show (k44).sz = 2 from rfl, Nat.mul_one, Nat.add_zero] at hx65_1)
                have hf65_1 := hfr65 1
                (try simp only [show (k44).sz = 2 from rfl, Nat.mul_one, Nat.add_zero] at hf65_1)
                clear hcl65 hcc65 hfr65 hM65
                go_wp2_with (first | ((with_reducible refine gate_store (t := 9) (p := 73) rfl ?_); refine store_event (t := 9) (p := 73) (v := ?vo_w66) (w1 := (wr.setCell ⟨go63, (x13_4 : Int).toNat * 2 + 1, none⟩ (.string (⟨#[115, 112, 111, 105, 108, 116]⟩ : ByteArray)))) ?hg ?ho ?hn ?hr ?_; (case ho => rfl); (case hg => rfl); (case hn => rfl); (case hr => first | (go_simp; done) | (go_simp; rfl)); intro w66 hw; have hg : wr.grownBy w66 (some go63) := (by rw [hw]; exact HP65.2); have hp_ : Kd.R k44 44 w66 w.heap.size (fun k_ => some k_ ≠ (v344 : Value).ownBlock) (.slice (some ⟨go63, 0, none⟩) x12_4.length co64) y370 := (by rw [hw, Ny370.out]; exact HP65.1); clear HP65; have n0_ := Aside0.mk (Kd.R_after (v := (.slice (some ⟨go63, 0, none⟩) x12_4.length co64)) (v1 := (.slice (some ⟨go63, 0, none⟩) x12_4.length co64)) (ok := (fun _ => True)) (by (with_reducible repeat (first | apply Kd.R_alloc | apply Kd.R_drewN | apply Kd.R_drew)); exact Kd.R_mono HO_5.out (fun _ hk => ⟨trivial, hk⟩)) hg (.inl rfl)); have n1_ := Aside0.mk (hp_); have n2_ := Aside0.mk (Kd.R_over' (v := (.slice (some ⟨go63, 0, none⟩) x12_4.length co64)) (by (with_reducible repeat (first | apply Kd.R_alloc | apply Kd.R_drewN | apply Kd.R_drew)); exact HO_353001.out) (Kd.R_typed HO_12.out) (by decide) hg); have n3_ := Aside0.mk (Kd.R_over' (v := (.slice (some ⟨go63, 0, none⟩) x12_4.length co64)) (by (with_reducible repeat (first | apply Kd.R_alloc | apply Kd.R_drewN | apply Kd.R_drew)); exact HO_365003.out) (Kd.R_typed HO_12.out) (by decide) hg); have n4_ := Aside0.mk (blk_grown (g := gb336) (o := .cells #[.string a1_0, .slice A1_1 l1_1.length c1_1] 25 (0, 0)) (by (with_reducible repeat (first | refine blk_drewN ?_ _ | refine blk_drew ?_ | refine blk_alloc ?_ _)); exact BK336.out) hg (Kd.R_ne HO_12.out BK336.out (by decide))); have n5_ := Aside0.mk (blk_grown (g := gb352) (o := .cells #[.string a1_0, .slice Ao28 y349.length co28] 25 (0, 0)) (by (with_reducible repeat (first | refine blk_drewN ?_ _ | refine blk_drew ?_ | refine blk_alloc ?_ _)); exact BK352.out) hg (Kd.R_ne HO_12.out BK352.out (by decide))); have n6_ := Aside0.mk (blk_grown (g := gb364) (o := .cells #[.int .i64 t356, .string t357, .string t358, .slice Ao59 x365003_3.length co59, .string t362] 32 (0, 0)) (by (with_reducible repeat (first | refine blk_drewN ?_ _ | refine blk_drew ?_ | refine blk_alloc ?_ _)); exact BK364.out) hg (Kd.R_ne HO_12.out BK364.out (by decide))); have n7_ := Aside0.mk ((by rw [hw]; exact below_set (HB.out) GB63.out : Below w.heap.size w w66)); clear HO_5; clear HO_12; clear HO_353001; clear HO_365003; clear BK336; clear BK352; clear BK364; clear HB; have HO_5 := n0_; have HO_12 := n1_; have HO_353001 := n2_; have HO_365003 := n3_; have BK336 := n4_; have BK352 := n5_; have BK364 := n6_; have HB := n7_; clear n0_ n1_ n2_ n3_ n4_ n5_ n6_ n7_; clear hg hw hp_))
                go_roundg k4
                case measure => have := HJ2.out; have := HK2.out; have := HK3.out; have := HK4.out; omega
                case rel => exact ⟨(y370), (wrap64 (x13_4 + 1)), (by first | rfl | (simp; done) | (simp [*]; done)), H', ⟨by have := HJ2.out; have := HK2.out; have := HK3.out; have := HK4.out; omega⟩, ⟨by (with_reducible repeat (first | apply Kd.R_alloc | apply Kd.R_drewN | apply Kd.R_drew)); exact Kd.R_mono HO_5.out (fun _ hk => hk.2)⟩, ⟨by (with_reducible repeat (first | apply Kd.R_alloc | apply Kd.R_drewN | apply Kd.R_drew)); exact HO_12.out⟩, ⟨by (with_reducible repeat (first | apply Kd.R_alloc | apply Kd.R_drewN | apply Kd.R_drew)); exact HO_353001.out⟩, ⟨by (with_reducible repeat (first | apply Kd.R_alloc | apply Kd.R_drewN | apply Kd.R_drew)); exact HO_365003.out⟩, ⟨by (with_reducible repeat (first | refine blk_drewN ?_ _ | refine blk_drew ?_ | refine blk_alloc ?_ _)); exact BK336.out⟩, ⟨by (with_reducible repeat (first | refine blk_drewN ?_ _ | refine blk_drew ?_ | refine blk_alloc ?_ _)); exact BK352.out⟩, ⟨by (with_reducible repeat (first | refine blk_drewN ?_ _ | refine blk_drew ?_ | refine blk_alloc ?_ _)); exact BK364.out⟩, ⟨by repeat (first | (with_reducible first | exact HB.out | apply below_alloc | apply pw_below_drewN | apply below_drew1 | refine below_set ?_ GE336.out | refine below_set ?_ GE352.out | refine below_set ?_ GE364.out) | exact HB.out)⟩⟩
               ·
                rw [if_neg c62] at H
                exact absurd H (by simp)
              ·
               rw [if_neg c61] at H
               have c61b0 : decide (x13_4 < (x12_4.length : Int)) = false := decide_eq_false c61
               clear c61
               replace H := Option.bind_eq_some_iff.mp H
               obtain ⟨t371, A670, H⟩ := H
               replace H : ((orielref07_Same.f k4 l0 y343).bind fun t374 => (if t374 = true then ((orielref06_Same.f k4 a1_0 l1_1 a1_0 y349).bind fun t375 => (if t375 = true then (if (t371.length : Int) = 1 then (if 0 < (t371.length : Int) then (some (((rd_T44 t371 0).f1).toList == ([104, 116, 116, 112, 58, 47, 47, 119, 119, 119, 46, 119, 51, 46, 111, 114, 103, 47, 88, 77, 76, 47, 49, 57, 57, 56, 47, 110, 97, 109, 101, 115, 112, 97, 99, 101] : List UInt8))) else (none)) else (some false)) else (some false))) else (some false))) = some r := H
               have A67 := Aside0.mk A670
               clear A670
               replace H := Option.bind_eq_some_iff.mp H
               obtain ⟨t374, A680, H⟩ := H
               replace H : (if t374 = true then ((orielref06_Same.f k4 a1_0 l1_1 a1_0 y349).bind fun t375 => (if t375 = true then (if (t371.length : Int) = 1 then (if 0 < (t371.length : Int) then (some (((rd_T44 t371 0).f1).toList == ([104, 116, 116, 112, 58, 47, 47, 119, 119, 119, 46, 119, 51, 46, 111, 114, 103, 47, 88, 77, 76, 47, 49, 57, 57, 56, 47, 110, 97, 109, 101, 115, 112, 97, 99, 101] : List UInt8))) else (none)) else (some false)) else (some false))) else (some false)) = some r := H
               have A68 := Aside0.mk A680
               clear A680
               by_cases c69 : t374 = true
               ·
                subst c69
                have H1 : ((orielref06_Same.f k4 a1_0 l1_1 a1_0 y349).bind fun t375 => (if t375 = true then (if (t371.length : Int) = 1 then (if 0 < (t371.length : Int) then (some (((rd_T44 t371 0).f1).toList == ([104, 116, 116, 112, 58, 47, 47, 119, 119, 119, 46, 119, 51, 46, 111, 114, 103, 47, 88, 77, 76, 47, 49, 57, 57, 56, 47, 110, 97, 109, 101, 115, 112, 97, 99, 101] : List UInt8))) else (none)) else (some false)) else (some false))) = some r := by rw [if_pos rfl] at H; exact H
                clear H
                have H := H1
                clear H1
                replace H := Option.bind_eq_some_iff.mp H
                obtain ⟨t375, A700, H⟩ := H
                replace H : (if t375 = true then (if (t371.length : Int) = 1 then (if 0 < (t371.length : Int) then (some (((rd_T44 t371 0).f1).toList == ([104, 116, 116, 112, 58, 47, 47, 119, 119, 119, 46, 119, 51, 46, 111, 114, 103, 47, 88, 77, 76, 47, 49, 57, 57, 56, 47, 110, 97, 109, 101, 115, 112, 97, 99, 101] : List UInt8))) else (none)) else (some false)) else (some false)) = some r := H
                have A70 := Aside0.mk A700
                clear A700
                by_cases c71 : t375 = true
                ·
                 subst c71
                 have H1 : (if (t371.length : Int) = 1 then (if 0 < (t371.length : Int) then (some (((rd_T44 t371 0).f1).toList == ([104, 116, 116, 112, 58, 47, 47, 119, 119, 119, 46, 119, 51, 46, 111, 114, 103, 47, 88, 77, 76, 47, 49, 57, 57, 56, 47, 110, 97, 109, 101, 115, 112, 97, 99, 101] : List UInt8))) else (none)) else (some false)) = some r := by rw [if_pos rfl] at H; exact H
                 clear H
                 have H := H1
                 clear H1
                 by_cases c72 : (t371.length : Int) = 1
                 ·
                  rw [if_pos c72] at H
                  have c72b0 : ((t371.length : Int) == 1) = true := beq_iff_eq.mpr c72
                  have c72b1 : ((t371.length : Int) != 1) = false := bne_eq_false_iff_eq.mpr c72
                  clear c72
                  by_cases c73 : 0 < (t371.length : Int)
                  ·
                   rw [if_pos c73] at H
                   have c73b0 : decide (0 < (t371.length : Int)) = true := decide_eq_true c73
                   have c73b1 : decide (0 < t371.length) = true := decide_eq_true (by omega)
                   clear c73
                   obtain rfl := Option.some.inj H
                   obtain ⟨Ao74, co74, eo74⟩ := Kd.R_slice HO_12.out
                   subst eo74
                   go_wp2_with (first | ((with_reducible refine gate_callee (f := 16) rfl ?_); refine goesL_ (some 74) rfl rfl Try.func16 (by kernel_rfl) rfl #[] rfl (by (try simp only [List.map_toArray, List.map_cons, List.map_nil]); first | done | rfl | (simp only [List.length_drop, List.length_take]; rfl)) ?_; (with_reducible refine (scope_New.calls  t371 _ A67.out).mono ?_); rintro e w75 ⟨v372, rfl, ho0, hb⟩; refine ⟨_, rfl, ?_⟩; have n0_ := Aside0.mk (Kd.R_elder' (by (with_reducible repeat (first | apply Kd.R_alloc | apply Kd.R_drewN | apply Kd.R_drew)); exact HO_5.out) (Kd.R_base ho0) hb); have n1_ := Aside0.mk (Kd.R_elder' (by (with_reducible repeat (first | apply Kd.R_alloc | apply Kd.R_drewN | apply Kd.R_drew)); exact HO_12.out) (Kd.R_base ho0) hb); have n2_ := Aside0.mk (Kd.R_below (by (with_reducible repeat (first | apply Kd.R_alloc | apply Kd.R_drewN | apply Kd.R_drew)); exact HO_353001.out) hb); have n3_ := Aside0.mk (Kd.R_below (by (with_reducible repeat (first | apply Kd.R_alloc | apply Kd.R_drewN | apply Kd.R_drew)); exact HO_365003.out) hb); have n4_ := Aside0.mk (Kd.R_lower (Kd.R_new' (Kd.R_new' ho0 (Kd.R_lt (by (with_reducible repeat (first | apply Kd.R_alloc | apply Kd.R_drewN | apply Kd.R_drew)); exact HO_5.out))) (Kd.R_lt (by (with_reducible repeat (first | apply Kd.R_alloc | apply Kd.R_drewN | apply Kd.R_drew)); exact HO_12.out))) (below_size (by repeat (first | (with_reducible first | exact HB.out | apply below_alloc | apply pw_below_drewN | apply below_drew1 | refine below_set ?_ GE336.out | refine below_set ?_ GE352.out | refine below_set ?_ GE364.out) | exact HB.out)))); have n5_ := Aside0.mk (blk_below (g := gb336) (o := .cells #[.string a1_0, .slice A1_1 l1_1.length c1_1] 25 (0, 0)) (by (with_reducible repeat (first | refine blk_drewN ?_ _ | refine blk_drew ?_ | refine blk_alloc ?_ _)); exact BK336.out) hb); have n6_ := Aside0.mk (blk_below (g := gb352) (o := .cells #[.string a1_0, .slice Ao28 y349.length co28] 25 (0, 0)) (by (with_reducible repeat (first | refine blk_drewN ?_ _ | refine blk_drew ?_ | refine blk_alloc ?_ _)); exact BK352.out) hb); have n7_ := Aside0.mk (blk_below (g := gb364) (o := .cells #[.int .i64 t356, .string t357, .string t358, .slice Ao59 x365003_3.length co59, .string t362] 32 (0, 0)) (by (with_reducible repeat (first | refine blk_drewN ?_ _ | refine blk_drew ?_ | refine blk_alloc ?_ _)); exact BK364.out) hb); have n8_ := Aside0.mk (below_step (by repeat (first | (with_reducible first | exact HB.out | apply below_alloc | apply pw_below_drewN | apply below_drew1 | refine below_set ?_ GE336.out | refine below_set ?_ GE352.out | refine below_set ?_ GE364.out) | exact HB.out)) hb); clear HO_5; clear HO_12; clear HO_353001; clear HO_365003; clear BK336; clear BK352; clear BK364; clear HB; have HO_5 := n0_; have HO_12 := n1_; have HO_353001 := n2_; have HO_365003 := n3_; have HO373 := n4_; have BK336 := n5_; have BK352 := n6_; have BK364 := n7_; have HB := n8_; clear n0_ n1_ n2_ n3_ n4_ n5_ n6_ n7_ n8_; (try clear hb); (try clear hb2); (try clear hk); (try clear hi); (try clear ho0); obtain ⟨Ao76, co76, eo76⟩ := Kd.R_slice HO_5.out; subst eo76) | ((with_reducible refine gate_callee (f := 14) rfl ?_); refine goesL_ (some 77) rfl rfl Try.func14 (by kernel_rfl) rfl #[.slice A0 l0.length c0, .slice Ao76 y343.length co76] rfl (by (try simp only [List.map_toArray, List.map_cons, List.map_nil]); first | done | rfl | (simp only [List.length_drop, List.length_take]; rfl)) ?_; (with_reducible refine (orielref07_Same.calls k4 _ _ l0 _ _ y343 true _ ?side1 ?side2 ?side3 ?side4 A68.out).mono ?_); (case side1 => repeat (first | exact (Kd.C_below HR0.out HB.out) | (with_reducible refine Kd.C_alloc ?_ _) | (with_reducible refine Kd.C_drewN ?_ _) | (with_reducible refine Kd.C_drew ?_))); (case side2 => exact HC0.out); (case side3 => repeat (first | exact (Kd.R_reads' HO_5.out).2.2 | (with_reducible refine Kd.C_alloc ?_ _) | (with_reducible refine Kd.C_drewN ?_ _) | (with_reducible refine Kd.C_drew ?_))); (case side4 => exact (Kd.R_reads' HO_5.out).2.1); rintro e w' ⟨rfl, ⟨nd, rfl⟩⟩; refine ⟨_, rfl, ?_⟩; have hnb77 := NB336_352.out; have hnc77 := NB352_336.out; have hnb78 := NB336_364.out; have hnc78 := NB364_336.out; have hcz79_0 : w75.cell? ⟨gb336, 0, none⟩ = some (.string a1_0) := (blk_cell BK336.out 0).trans rfl; have hcz79_1 : w75.cell? ⟨gb336, 1, none⟩ = some (.slice A1_1 l1_1.length c1_1) := (blk_cell BK336.out 1).trans rfl; have hfz79_0 := blk_frozen BK336.out 0; have hfz79_1 := blk_frozen BK336.out 1; have hnb80 := NB352_364.out; have hnc80 := NB364_352.out; have hcz81_0 : w75.cell? ⟨gb352, 0, none⟩ = some (.string a1_0) := (blk_cell BK352.out 0).trans rfl; have hcz81_1 : w75.cell? ⟨gb352, 1, none⟩ = some (.slice Ao28 y349.length co28) := (blk_cell BK352.out 1).trans rfl; have hfz81_0 := blk_frozen BK352.out 0; have hfz81_1 := blk_frozen BK352.out 1) | (go_at_call 17; (with_reducible refine (orielref06_Same.calls k4 a1_0 _ _ l1_1 a1_0 _ _ y349 true _ ?side1 ?side2 ?side3 ?side4 A70.out).mono ?_); (case side1 => repeat (first | exact (Kd.C_below HR1_1.out (by repeat (first | (with_reducible first | exact HB.out | apply below_alloc | apply pw_below_drewN | apply below_drew1 | refine below_set ?_ GE336.out | refine below_set ?_ GE352.out | refine below_set ?_ GE364.out) | exact HB.out))) | (with_reducible refine Kd.C_alloc ?_ _) | (with_reducible refine Kd.C_drewN ?_ _) | (with_reducible refine Kd.C_drew ?_))); (case side2 => exact HC1_1.out); (case side3 => repeat (first | exact (Kd.R_reads' HO_353001.out).2.2 | (with_reducible refine Kd.C_alloc ?_ _) | (with_reducible refine Kd.C_drewN ?_ _) | (with_reducible refine Kd.C_drew ?_))); (case side4 => exact (Kd.R_reads' HO_353001.out).2.1); rintro e w82 ⟨rfl, hb⟩; have n0_ := Aside0.mk (Kd.R_below (by (with_reducible repeat (first | apply Kd.R_alloc | apply Kd.R_drewN | apply Kd.R_drew)); exact HO_5.out) hb); have n1_ := Aside0.mk (Kd.R_below (by (with_reducible repeat (first | apply Kd.R_alloc | apply Kd.R_drewN | apply Kd.R_drew)); exact HO_12.out) hb); have n2_ := Aside0.mk (Kd.R_below (by (with_reducible repeat (first | apply Kd.R_alloc | apply Kd.R_drewN | apply Kd.R_drew)); exact HO_353001.out) hb); have n3_ := Aside0.mk (Kd.R_below (by (with_reducible repeat (first | apply Kd.R_alloc | apply Kd.R_drewN | apply Kd.R_drew)); exact HO_365003.out) hb); have n4_ := Aside0.mk (Kd.R_below (by (with_reducible repeat (first | apply Kd.R_alloc | apply Kd.R_drewN | apply Kd.R_drew)); exact HO373.out) hb); have n5_ := Aside0.mk (blk_below (g := gb336) (o := .cells #[.string a1_0, .slice A1_1 l1_1.length c1_1] 25 (0, 0)) (by (with_reducible repeat (first | refine blk_drewN ?_ _ | refine blk_drew ?_ | refine blk_alloc ?_ _)); exact BK336.out) hb); have n6_ := Aside0.mk (blk_below (g := gb352) (o := .cells #[.string a1_0, .slice Ao28 y349.length co28] 25 (0, 0)) (by (with_reducible repeat (first | refine blk_drewN ?_ _ | refine blk_drew ?_ | refine blk_alloc ?_ _)); exact BK352.out) hb); have n7_ := Aside0.mk (blk_below (g := gb364) (o := .cells #[.int .i64 t356, .string t357, .string t358, .slice Ao59 x365003_3.length co59, .string t362] 32 (0, 0)) (by (with_reducible repeat (first | refine blk_drewN ?_ _ | refine blk_drew ?_ | refine blk_alloc ?_ _)); exact BK364.out) hb); have n8_ := Aside0.mk (below_step (by repeat (first | (with_reducible first | exact HB.out | apply below_alloc | apply pw_below_drewN | apply below_drew1 | refine below_set ?_ GE336.out | refine below_set ?_ GE352.out | refine below_set ?_ GE364.out) | exact HB.out)) hb); clear HO_5; clear HO_12; clear HO_353001; clear HO_365003; clear HO373; clear BK336; clear BK352; clear BK364; clear HB; have HO_5 := n0_; have HO_12 := n1_; have HO_353001 := n2_; have HO_365003 := n3_; have HO373 := n4_; have BK336 := n5_; have BK352 := n6_; have BK364 := n7_; have HB := n8_; clear n0_ n1_ n2_ n3_ n4_ n5_ n6_ n7_ n8_; (try clear hb); (try clear hb2); (try clear hk); (try clear hi); obtain ⟨Ao83, co83, eo83⟩ := Kd.R_slice HO373.out; subst eo83; have p376 : 0 ≤ (0 : Int) := (by omega); have q376 : 0 < (t371.length : Int) := of_decide_eq_true (by first | (with_reducible assumption) | assumption); obtain ⟨ad376, e376, hx376_0, hx376_1⟩ := at_T44 (Kd.R_reads' HO373.out).2.2 0 p376 q376; cases e376; have qi376 : (0 < t371.length) = True := eq_true (by omega); (try rw [show ((0 : Int)).toNat = 0 from rfl] at hx376_0); (try rw [show 0 * 2 = 0 from rfl] at hx376_0); (try rw [Addr.add_zero'] at hx376_0); (try rw [show ((0 : Int)).toNat = 0 from rfl] at hx376_1); (try rw [show 0 * 2 = 0 from rfl] at hx376_1); (try rw [Addr.add_zero'] at hx376_1); replace p376 := eq_true p376; replace q376 := eq_true q376))
                   go_ret
                   exact ⟨by first | rfl | exact congrArg (fun b => Ending.returned (Value.bool b)) (isE_ne _).symm | exact congrArg (fun b => Ending.returned (Value.bool b)) (isE_eq _).symm | (simp only [isE_ne, isE_eq, Bool.not_not]; done) | (simp [errW_none, errW_some] <;> rfl) | (simp [*, errW_none, errW_some] <;> rfl), by repeat (first | (with_reducible first | exact HB.out | apply below_alloc | apply pw_below_drewN | apply below_drew1 | refine below_set ?_ GE336.out | refine below_set ?_ GE352.out | refine below_set ?_ GE364.out) | exact HB.out)⟩
                  ·
                   rw [if_neg c73] at H
                   exact absurd H (by simp)
                 ·
                  rw [if_neg c72] at H
                  have c72b0 : ((t371.length : Int) == 1) = false := beq_eq_false_iff_ne.mpr c72
                  have c72b1 : ((t371.length : Int) != 1) = true := bne_iff_ne.mpr c72
                  obtain rfl := Option.some.inj H
                  obtain ⟨Ao84, co84, eo84⟩ := Kd.R_slice HO_12.out
                  subst eo84
                  go_wp2_with (first | ((with_reducible refine gate_callee (f := 16) rfl ?_); refine goesL_ (some 74) rfl rfl Try.func16 (by kernel_rfl) rfl #[] rfl (by (try simp only [List.map_toArray, List.map_cons, List.map_nil]); first | done | rfl | (simp only [List.length_drop, List.length_take]; rfl)) ?_; (with_reducible refine (scope_New.calls  t371 _ A67.out).mono ?_); rintro e w85 ⟨v372, rfl, ho0, hb⟩; refine ⟨_, rfl, ?_⟩; have n0_ := Aside0.mk (Kd.R_elder' (by (with_reducible repeat (first | apply Kd.R_alloc | apply Kd.R_drewN | apply Kd.R_drew)); exact HO_5.out) (Kd.R_base ho0) hb); have n1_ := Aside0.mk (Kd.R_elder' (by (with_reducible repeat (first | apply Kd.R_alloc | apply Kd.R_drewN | apply Kd.R_drew)); exact HO_12.out) (Kd.R_base ho0) hb); have n2_ := Aside0.mk (Kd.R_below (by (with_reducible repeat (first | apply Kd.R_alloc | apply Kd.R_drewN | apply Kd.R_drew)); exact HO_353001.out) hb); have n3_ := Aside0.mk (Kd.R_below (by (with_reducible repeat (first | apply Kd.R_alloc | apply Kd.R_drewN | apply Kd.R_drew)); exact HO_365003.out) hb); have n4_ := Aside0.mk (Kd.R_lower (Kd.R_new' (Kd.R_new' ho0 (Kd.R_lt (by (with_reducible repeat (first | apply Kd.R_alloc | apply Kd.R_drewN | apply Kd.R_drew)); exact HO_5.out))) (Kd.R_lt (by (with_reducible repeat (first | apply Kd.R_alloc | apply Kd.R_drewN | apply Kd.R_drew)); exact HO_12.out))) (below_size (by repeat (first | (with_reducible first | exact HB.out | apply below_alloc | apply pw_below_drewN | apply below_drew1 | refine below_set ?_ GE336.out | refine below_set ?_ GE352.out | refine below_set ?_ GE364.out) | exact HB.out)))); have n5_ := Aside0.mk (blk_below (g := gb336) (o := .cells #[.string a1_0, .slice A1_1 l1_1.length c1_1] 25 (0, 0)) (by (with_reducible repeat (first | refine blk_drewN ?_ _ | refine blk_drew ?_ | refine blk_alloc ?_ _)); exact BK336.out) hb); have n6_ := Aside0.mk (blk_below (g := gb352) (o := .cells #[.string a1_0, .slice Ao28 y349.length co28] 25 (0, 0)) (by (with_reducible repeat (first | refine blk_drewN ?_ _ | refine blk_drew ?_ | refine blk_alloc ?_ _)); exact BK352.out) hb); have n7_ := Aside0.mk (blk_below (g := gb364) (o := .cells #[.int .i64 t356, .string t357, .string t358, .slice Ao59 x365003_3.length co59, .string t362] 32 (0, 0)) (by (with_reducible repeat (first | refine blk_drewN ?_ _ | refine blk_drew ?_ | refine blk_alloc ?_ _)); exact BK364.out) hb); have n8_ := Aside0.mk (below_step (by repeat (first | (with_reducible first | exact HB.out | apply below_alloc | apply pw_below_drewN | apply below_drew1 | refine below_set ?_ GE336.out | refine below_set ?_ GE352.out | refine below_set ?_ GE364.out) | exact HB.out)) hb); clear HO_5; clear HO_12; clear HO_353001; clear HO_365003; clear BK336; clear BK352; clear BK364; clear HB; have HO_5 := n0_; have HO_12 := n1_; have HO_353001 := n2_; have HO_365003 := n3_; have HO373 := n4_; have BK336 := n5_; have BK352 := n6_; have BK364 := n7_; have HB := n8_; clear n0_ n1_ n2_ n3_ n4_ n5_ n6_ n7_ n8_; (try clear hb); (try clear hb2); (try clear hk); (try clear hi); (try clear ho0); obtain ⟨Ao86, co86, eo86⟩ := Kd.R_slice HO_5.out; subst eo86) | ((with_reducible refine gate_callee (f := 14) rfl ?_); refine goesL_ (some 77) rfl rfl Try.func14 (by kernel_rfl) rfl #[.slice A0 l0.length c0, .slice Ao86 y343.length co86] rfl (by (try simp only [List.map_toArray, List.map_cons, List.map_nil]); first | done | rfl | (simp only [List.length_drop, List.length_take]; rfl)) ?_; (with_reducible refine (orielref07_Same.calls k4 _ _ l0 _ _ y343 true _ ?side1 ?side2 ?side3 ?side4 A68.out).mono ?_); (case side1 => repeat (first | exact (Kd.C_below HR0.out HB.out) | (with_reducible refine Kd.C_alloc ?_ _) | (with_reducible refine Kd.C_drewN ?_ _) | (with_reducible refine Kd.C_drew ?_))); (case side2 => exact HC0.out); (case side3 => repeat (first | exact (Kd.R_reads' HO_5.out).2.2 | (with_reducible refine Kd.C_alloc ?_ _) | (with_reducible refine Kd.C_drewN ?_ _) | (with_reducible refine Kd.C_drew ?_))); (case side4 => exact (Kd.R_reads' HO_5.out).2.1); rintro e w' ⟨rfl, ⟨nd, rfl⟩⟩; refine ⟨_, rfl, ?_⟩; have hnb87 := NB336_352.out; have hnc87 := NB352_336.out; have hnb88 := NB336_364.out; have hnc88 := NB364_336.out; have hcz89_0 : w85.cell? ⟨gb336, 0, none⟩ = some (.string a1_0) := (blk_cell BK336.out 0).trans rfl; have hcz89_1 : w85.cell? ⟨gb336, 1, none⟩ = some (.slice A1_1 l1_1.length c1_1) := (blk_cell BK336.out 1).trans rfl; have hfz89_0 := blk_frozen BK336.out 0; have hfz89_1 := blk_frozen BK336.out 1; have hnb90 := NB352_364.out; have hnc90 := NB364_352.out; have hcz91_0 : w85.cell? ⟨gb352, 0, none⟩ = some (.string a1_0) := (blk_cell BK352.out 0).trans rfl; have hcz91_1 : w85.cell? ⟨gb352, 1, none⟩ = some (.slice Ao28 y349.length co28) := (blk_cell BK352.out 1).trans rfl; have hfz91_0 := blk_frozen BK352.out 0; have hfz91_1 := blk_frozen BK352.out 1) | (go_at_call 17; (with_reducible refine (orielref06_Same.calls k4 a1_0 _ _ l1_1 a1_0 _ _ y349 true _ ?side1 ?side2 ?side3 ?side4 A70.out).mono ?_); (case side1 => repeat (first | exact (Kd.C_below HR1_1.out (by repeat (first | (with_reducible first | exact HB.out | apply below_alloc | apply pw_below_drewN | apply below_drew1 | refine below_set ?_ GE336.out | refine below_set ?_ GE352.out | refine below_set ?_ GE364.out) | exact HB.out))) | (with_reducible refine Kd.C_alloc ?_ _) | (with_reducible refine Kd.C_drewN ?_ _) | (with_reducible refine Kd.C_drew ?_))); (case side2 => exact HC1_1.out); (case side3 => repeat (first | exact (Kd.R_reads' HO_353001.out).2.2 | (with_reducible refine Kd.C_alloc ?_ _) | (with_reducible refine Kd.C_drewN ?_ _) | (with_reducible refine Kd.C_drew ?_))); (case side4 => exact (Kd.R_reads' HO_353001.out).2.1); rintro e w92 ⟨rfl, hb⟩; have n0_ := Aside0.mk (Kd.R_below (by (with_reducible repeat (first | apply Kd.R_alloc | apply Kd.R_drewN | apply Kd.R_drew)); exact HO_5.out) hb); have n1_ := Aside0.mk (Kd.R_below (by (with_reducible repeat (first | apply Kd.R_alloc | apply Kd.R_drewN | apply Kd.R_drew)); exact HO_12.out) hb); have n2_ := Aside0.mk (Kd.R_below (by (with_reducible repeat (first | apply Kd.R_alloc | apply Kd.R_drewN | apply Kd.R_drew)); exact HO_353001.out) hb); have n3_ := Aside0.mk (Kd.R_below (by (with_reducible repeat (first | apply Kd.R_alloc | apply Kd.R_drewN | apply Kd.R_drew)); exact HO_365003.out) hb); have n4_ := Aside0.mk (Kd.R_below (by (with_reducible repeat (first | apply Kd.R_alloc | apply Kd.R_drewN | apply Kd.R_drew)); exact HO373.out) hb); have n5_ := Aside0.mk (blk_below (g := gb336) (o := .cells #[.string a1_0, .slice A1_1 l1_1.length c1_1] 25 (0, 0)) (by (with_reducible repeat (first | refine blk_drewN ?_ _ | refine blk_drew ?_ | refine blk_alloc ?_ _)); exact BK336.out) hb); have n6_ := Aside0.mk (blk_below (g := gb352) (o := .cells #[.string a1_0, .slice Ao28 y349.length co28] 25 (0, 0)) (by (with_reducible repeat (first | refine blk_drewN ?_ _ | refine blk_drew ?_ | refine blk_alloc ?_ _)); exact BK352.out) hb); have n7_ := Aside0.mk (blk_below (g := gb364) (o := .cells #[.int .i64 t356, .string t357, .string t358, .slice Ao59 x365003_3.length co59, .string t362] 32 (0, 0)) (by (with_reducible repeat (first | refine blk_drewN ?_ _ | refine blk_drew ?_ | refine blk_alloc ?_ _)); exact BK364.out) hb); have n8_ := Aside0.mk (below_step (by repeat (first | (with_reducible first | exact HB.out | apply below_alloc | apply pw_below_drewN | apply below_drew1 | refine below_set ?_ GE336.out | refine below_set ?_ GE352.out | refine below_set ?_ GE364.out) | exact HB.out)) hb); clear HO_5; clear HO_12; clear HO_353001; clear HO_365003; clear HO373; clear BK336; clear BK352; clear BK364; clear HB; have HO_5 := n0_; have HO_12 := n1_; have HO_353001 := n2_; have HO_365003 := n3_; have HO373 := n4_; have BK336 := n5_; have BK352 := n6_; have BK364 := n7_; have HB := n8_; clear n0_ n1_ n2_ n3_ n4_ n5_ n6_ n7_ n8_; (try clear hb); (try clear hb2); (try clear hk); (try clear hi); obtain ⟨Ao93, co93, eo93⟩ := Kd.R_slice HO373.out; subst eo93))
                  go_ret
                  exact ⟨by first | rfl | exact congrArg (fun b => Ending.returned (Value.bool b)) (isE_ne _).symm | exact congrArg (fun b => Ending.returned (Value.bool b)) (isE_eq _).symm | (simp only [isE_ne, isE_eq, Bool.not_not]; done) | (simp [errW_none, errW_some] <;> rfl) | (simp [*, errW_none, errW_some] <;> rfl), by repeat (first | (with_reducible first | exact HB.out | apply below_alloc | apply pw_below_drewN | apply below_drew1 | refine below_set ?_ GE336.out | refine below_set ?_ GE352.out | refine below_set ?_ GE364.out) | exact HB.out)⟩
                ·
                 replace c71 := Bool.eq_false_iff.mpr c71
                 subst c71
                 have H1 : (some false) = some r := by rw [if_neg (show ¬ (false = true) by decide)] at H; exact H
                 clear H
                 have H := H1
                 clear H1
                 obtain rfl := Option.some.inj H
                 obtain ⟨Ao94, co94, eo94⟩ := Kd.R_slice HO_12.out
                 subst eo94
                 go_wp2_with (first | ((with_reducible refine gate_callee (f := 16) rfl ?_); refine goesL_ (some 74) rfl rfl Try.func16 (by kernel_rfl) rfl #[] rfl (by (try simp only [List.map_toArray, List.map_cons, List.map_nil]); first | done | rfl | (simp only [List.length_drop, List.length_take]; rfl)) ?_; (with_reducible refine (scope_New.calls  t371 _ A67.out).mono ?_); rintro e w95 ⟨v372, rfl, ho0, hb⟩; refine ⟨_, rfl, ?_⟩; have n0_ := Aside0.mk (Kd.R_elder' (by (with_reducible repeat (first | apply Kd.R_alloc | apply Kd.R_drewN | apply Kd.R_drew)); exact HO_5.out) (Kd.R_base ho0) hb); have n1_ := Aside0.mk (Kd.R_elder' (by (with_reducible repeat (first | apply Kd.R_alloc | apply Kd.R_drewN | apply Kd.R_drew)); exact HO_12.out) (Kd.R_base ho0) hb); have n2_ := Aside0.mk (Kd.R_below (by (with_reducible repeat (first | apply Kd.R_alloc | apply Kd.R_drewN | apply Kd.R_drew)); exact HO_353001.out) hb); have n3_ := Aside0.mk (Kd.R_below (by (with_reducible repeat (first | apply Kd.R_alloc | apply Kd.R_drewN | apply Kd.R_drew)); exact HO_365003.out) hb); have n4_ := Aside0.mk (Kd.R_lower (Kd.R_new' (Kd.R_new' ho0 (Kd.R_lt (by (with_reducible repeat (first | apply Kd.R_alloc | apply Kd.R_drewN | apply Kd.R_drew)); exact HO_5.out))) (Kd.R_lt (by (with_reducible repeat (first | apply Kd.R_alloc | apply Kd.R_drewN | apply Kd.R_drew)); exact HO_12.out))) (below_size (by repeat (first | (with_reducible first | exact HB.out | apply below_alloc | apply pw_below_drewN | apply below_drew1 | refine below_set ?_ GE336.out | refine below_set ?_ GE352.out | refine below_set ?_ GE364.out) | exact HB.out)))); have n5_ := Aside0.mk (blk_below (g := gb336) (o := .cells #[.string a1_0, .slice A1_1 l1_1.length c1_1] 25 (0, 0)) (by (with_reducible repeat (first | refine blk_drewN ?_ _ | refine blk_drew ?_ | refine blk_alloc ?_ _)); exact BK336.out) hb); have n6_ := Aside0.mk (blk_below (g := gb352) (o := .cells #[.string a1_0, .slice Ao28 y349.length co28] 25 (0, 0)) (by (with_reducible repeat (first | refine blk_drewN ?_ _ | refine blk_drew ?_ | refine blk_alloc ?_ _)); exact BK352.out) hb); have n7_ := Aside0.mk (blk_below (g := gb364) (o := .cells #[.int .i64 t356, .string t357, .string t358, .slice Ao59 x365003_3.length co59, .string t362] 32 (0, 0)) (by (with_reducible repeat (first | refine blk_drewN ?_ _ | refine blk_drew ?_ | refine blk_alloc ?_ _)); exact BK364.out) hb); have n8_ := Aside0.mk (below_step (by repeat (first | (with_reducible first | exact HB.out | apply below_alloc | apply pw_below_drewN | apply below_drew1 | refine below_set ?_ GE336.out | refine below_set ?_ GE352.out | refine below_set ?_ GE364.out) | exact HB.out)) hb); clear HO_5; clear HO_12; clear HO_353001; clear HO_365003; clear BK336; clear BK352; clear BK364; clear HB; have HO_5 := n0_; have HO_12 := n1_; have HO_353001 := n2_; have HO_365003 := n3_; have HO373 := n4_; have BK336 := n5_; have BK352 := n6_; have BK364 := n7_; have HB := n8_; clear n0_ n1_ n2_ n3_ n4_ n5_ n6_ n7_ n8_; (try clear hb); (try clear hb2); (try clear hk); (try clear hi); (try clear ho0); obtain ⟨Ao96, co96, eo96⟩ := Kd.R_slice HO_5.out; subst eo96) | ((with_reducible refine gate_callee (f := 14) rfl ?_); refine goesL_ (some 77) rfl rfl Try.func14 (by kernel_rfl) rfl #[.slice A0 l0.length c0, .slice Ao96 y343.length co96] rfl (by (try simp only [List.map_toArray, List.map_cons, List.map_nil]); first | done | rfl | (simp only [List.length_drop, List.length_take]; rfl)) ?_; (with_reducible refine (orielref07_Same.calls k4 _ _ l0 _ _ y343 true _ ?side1 ?side2 ?side3 ?side4 A68.out).mono ?_); (case side1 => repeat (first | exact (Kd.C_below HR0.out HB.out) | (with_reducible refine Kd.C_alloc ?_ _) | (with_reducible refine Kd.C_drewN ?_ _) | (with_reducible refine Kd.C_drew ?_))); (case side2 => exact HC0.out); (case side3 => repeat (first | exact (Kd.R_reads' HO_5.out).2.2 | (with_reducible refine Kd.C_alloc ?_ _) | (with_reducible refine Kd.C_drewN ?_ _) | (with_reducible refine Kd.C_drew ?_))); (case side4 => exact (Kd.R_reads' HO_5.out).2.1); rintro e w' ⟨rfl, ⟨nd, rfl⟩⟩; refine ⟨_, rfl, ?_⟩; have hnb97 := NB336_352.out; have hnc97 := NB352_336.out; have hnb98 := NB336_364.out; have hnc98 := NB364_336.out; have hcz99_0 : w95.cell? ⟨gb336, 0, none⟩ = some (.string a1_0) := (blk_cell BK336.out 0).trans rfl; have hcz99_1 : w95.cell? ⟨gb336, 1, none⟩ = some (.slice A1_1 l1_1.length c1_1) := (blk_cell BK336.out 1).trans rfl; have hfz99_0 := blk_frozen BK336.out 0; have hfz99_1 := blk_frozen BK336.out 1; have hnb100 := NB352_364.out; have hnc100 := NB364_352.out; have hcz101_0 : w95.cell? ⟨gb352, 0, none⟩ = some (.string a1_0) := (blk_cell BK352.out 0).trans rfl; have hcz101_1 : w95.cell? ⟨gb352, 1, none⟩ = some (.slice Ao28 y349.length co28) := (blk_cell BK352.out 1).trans rfl; have hfz101_0 := blk_frozen BK352.out 0; have hfz101_1 := blk_frozen BK352.out 1) | (go_at_call 17; (with_reducible refine (orielref06_Same.calls k4 a1_0 _ _ l1_1 a1_0 _ _ y349 false _ ?side1 ?side2 ?side3 ?side4 A70.out).mono ?_); (case side1 => repeat (first | exact (Kd.C_below HR1_1.out (by repeat (first | (with_reducible first | exact HB.out | apply below_alloc | apply pw_below_drewN | apply below_drew1 | refine below_set ?_ GE336.out | refine below_set ?_ GE352.out | refine below_set ?_ GE364.out) | exact HB.out))) | (with_reducible refine Kd.C_alloc ?_ _) | (with_reducible refine Kd.C_drewN ?_ _) | (with_reducible refine Kd.C_drew ?_))); (case side2 => exact HC1_1.out); (case side3 => repeat (first | exact (Kd.R_reads' HO_353001.out).2.2 | (with_reducible refine Kd.C_alloc ?_ _) | (with_reducible refine Kd.C_drewN ?_ _) | (with_reducible refine Kd.C_drew ?_))); (case side4 => exact (Kd.R_reads' HO_353001.out).2.1); rintro e w102 ⟨rfl, hb⟩; have n0_ := Aside0.mk (Kd.R_below (by (with_reducible repeat (first | apply Kd.R_alloc | apply Kd.R_drewN | apply Kd.R_drew)); exact HO_5.out) hb); have n1_ := Aside0.mk (Kd.R_below (by (with_reducible repeat (first | apply Kd.R_alloc | apply Kd.R_drewN | apply Kd.R_drew)); exact HO_12.out) hb); have n2_ := Aside0.mk (Kd.R_below (by (with_reducible repeat (first | apply Kd.R_alloc | apply Kd.R_drewN | apply Kd.R_drew)); exact HO_353001.out) hb); have n3_ := Aside0.mk (Kd.R_below (by (with_reducible repeat (first | apply Kd.R_alloc | apply Kd.R_drewN | apply Kd.R_drew)); exact HO_365003.out) hb); have n4_ := Aside0.mk (Kd.R_below (by (with_reducible repeat (first | apply Kd.R_alloc | apply Kd.R_drewN | apply Kd.R_drew)); exact HO373.out) hb); have n5_ := Aside0.mk (blk_below (g := gb336) (o := .cells #[.string a1_0, .slice A1_1 l1_1.length c1_1] 25 (0, 0)) (by (with_reducible repeat (first | refine blk_drewN ?_ _ | refine blk_drew ?_ | refine blk_alloc ?_ _)); exact BK336.out) hb); have n6_ := Aside0.mk (blk_below (g := gb352) (o := .cells #[.string a1_0, .slice Ao28 y349.length co28] 25 (0, 0)) (by (with_reducible repeat (first | refine blk_drewN ?_ _ | refine blk_drew ?_ | refine blk_alloc ?_ _)); exact BK352.out) hb); have n7_ := Aside0.mk (blk_below (g := gb364) (o := .cells #[.int .i64 t356, .string t357, .string t358, .slice Ao59 x365003_3.length co59, .string t362] 32 (0, 0)) (by (with_reducible repeat (first | refine blk_drewN ?_ _ | refine blk_drew ?_ | refine blk_alloc ?_ _)); exact BK364.out) hb); have n8_ := Aside0.mk (below_step (by repeat (first | (with_reducible first | exact HB.out | apply below_alloc | apply pw_below_drewN | apply below_drew1 | refine below_set ?_ GE336.out | refine below_set ?_ GE352.out | refine below_set ?_ GE364.out) | exact HB.out)) hb); clear HO_5; clear HO_12; clear HO_353001; clear HO_365003; clear HO373; clear BK336; clear BK352; clear BK364; clear HB; have HO_5 := n0_; have HO_12 := n1_; have HO_353001 := n2_; have HO_365003 := n3_; have HO373 := n4_; have BK336 := n5_; have BK352 := n6_; have BK364 := n7_; have HB := n8_; clear n0_ n1_ n2_ n3_ n4_ n5_ n6_ n7_ n8_; (try clear hb); (try clear hb2); (try clear hk); (try clear hi)))
                 go_ret
                 exact ⟨by first | rfl | exact congrArg (fun b => Ending.returned (Value.bool b)) (isE_ne _).symm | exact congrArg (fun b => Ending.returned (Value.bool b)) (isE_eq _).symm | (simp only [isE_ne, isE_eq, Bool.not_not]; done) | (simp [errW_none, errW_some] <;> rfl) | (simp [*, errW_none, errW_some] <;> rfl), by repeat (first | (with_reducible first | exact HB.out | apply below_alloc | apply pw_below_drewN | apply below_drew1 | refine below_set ?_ GE336.out | refine below_set ?_ GE352.out | refine below_set ?_ GE364.out) | exact HB.out)⟩
               ·
                replace c69 := Bool.eq_false_iff.mpr c69
                subst c69
                have H1 : (some false) = some r := by rw [if_neg (show ¬ (false = true) by decide)] at H; exact H
                clear H
                have H := H1
                clear H1
                obtain rfl := Option.some.inj H
                obtain ⟨Ao103, co103, eo103⟩ := Kd.R_slice HO_12.out
                subst eo103
                go_wp2_with (first | ((with_reducible refine gate_callee (f := 16) rfl ?_); refine goesL_ (some 74) rfl rfl Try.func16 (by kernel_rfl) rfl #[] rfl (by (try simp only [List.map_toArray, List.map_cons, List.map_nil]); first | done | rfl | (simp only [List.length_drop, List.length_take]; rfl)) ?_; (with_reducible refine (scope_New.calls  t371 _ A67.out).mono ?_); rintro e w104 ⟨v372, rfl, ho0, hb⟩; refine ⟨_, rfl, ?_⟩; have n0_ := Aside0.mk (Kd.R_elder' (by (with_reducible repeat (first | apply Kd.R_alloc | apply Kd.R_drewN | apply Kd.R_drew)); exact HO_5.out) (Kd.R_base ho0) hb); have n1_ := Aside0.mk (Kd.R_elder' (by (with_reducible repeat (first | apply Kd.R_alloc | apply Kd.R_drewN | apply Kd.R_drew)); exact HO_12.out) (Kd.R_base ho0) hb); have n2_ := Aside0.mk (Kd.R_below (by (with_reducible repeat (first | apply Kd.R_alloc | apply Kd.R_drewN | apply Kd.R_drew)); exact HO_353001.out) hb); have n3_ := Aside0.mk (Kd.R_below (by (with_reducible repeat (first | apply Kd.R_alloc | apply Kd.R_drewN | apply Kd.R_drew)); exact HO_365003.out) hb); have n4_ := Aside0.mk (Kd.R_lower (Kd.R_new' (Kd.R_new' ho0 (Kd.R_lt (by (with_reducible repeat (first | apply Kd.R_alloc | apply Kd.R_drewN | apply Kd.R_drew)); exact HO_5.out))) (Kd.R_lt (by (with_reducible repeat (first | apply Kd.R_alloc | apply Kd.R_drewN | apply Kd.R_drew)); exact HO_12.out))) (below_size (by repeat (first | (with_reducible first | exact HB.out | apply below_alloc | apply pw_below_drewN | apply below_drew1 | refine below_set ?_ GE336.out | refine below_set ?_ GE352.out | refine below_set ?_ GE364.out) | exact HB.out)))); have n5_ := Aside0.mk (blk_below (g := gb336) (o := .cells #[.string a1_0, .slice A1_1 l1_1.length c1_1] 25 (0, 0)) (by (with_reducible repeat (first | refine blk_drewN ?_ _ | refine blk_drew ?_ | refine blk_alloc ?_ _)); exact BK336.out) hb); have n6_ := Aside0.mk (blk_below (g := gb352) (o := .cells #[.string a1_0, .slice Ao28 y349.length co28] 25 (0, 0)) (by (with_reducible repeat (first | refine blk_drewN ?_ _ | refine blk_drew ?_ | refine blk_alloc ?_ _)); exact BK352.out) hb); have n7_ := Aside0.mk (blk_below (g := gb364) (o := .cells #[.int .i64 t356, .string t357, .string t358, .slice Ao59 x365003_3.length co59, .string t362] 32 (0, 0)) (by (with_reducible repeat (first | refine blk_drewN ?_ _ | refine blk_drew ?_ | refine blk_alloc ?_ _)); exact BK364.out) hb); have n8_ := Aside0.mk (below_step (by repeat (first | (with_reducible first | exact HB.out | apply below_alloc | apply pw_below_drewN | apply below_drew1 | refine below_set ?_ GE336.out | refine below_set ?_ GE352.out | refine below_set ?_ GE364.out) | exact HB.out)) hb); clear HO_5; clear HO_12; clear HO_353001; clear HO_365003; clear BK336; clear BK352; clear BK364; clear HB; have HO_5 := n0_; have HO_12 := n1_; have HO_353001 := n2_; have HO_365003 := n3_; have HO373 := n4_; have BK336 := n5_; have BK352 := n6_; have BK364 := n7_; have HB := n8_; clear n0_ n1_ n2_ n3_ n4_ n5_ n6_ n7_ n8_; (try clear hb); (try clear hb2); (try clear hk); (try clear hi); (try clear ho0); obtain ⟨Ao105, co105, eo105⟩ := Kd.R_slice HO_5.out; subst eo105) | ((with_reducible refine gate_callee (f := 14) rfl ?_); refine goesL_ (some 77) rfl rfl Try.func14 (by kernel_rfl) rfl #[.slice A0 l0.length c0, .slice Ao105 y343.length co105] rfl (by (try simp only [List.map_toArray, List.map_cons, List.map_nil]); first | done | rfl | (simp only [List.length_drop, List.length_take]; rfl)) ?_; (with_reducible refine (orielref07_Same.calls k4 _ _ l0 _ _ y343 false _ ?side1 ?side2 ?side3 ?side4 A68.out).mono ?_); (case side1 => repeat (first | exact (Kd.C_below HR0.out HB.out) | (with_reducible refine Kd.C_alloc ?_ _) | (with_reducible refine Kd.C_drewN ?_ _) | (with_reducible refine Kd.C_drew ?_))); (case side2 => exact HC0.out); (case side3 => repeat (first | exact (Kd.R_reads' HO_5.out).2.2 | (with_reducible refine Kd.C_alloc ?_ _) | (with_reducible refine Kd.C_drewN ?_ _) | (with_reducible refine Kd.C_drew ?_))); (case side4 => exact (Kd.R_reads' HO_5.out).2.1); rintro e w' ⟨rfl, ⟨nd, rfl⟩⟩; refine ⟨_, rfl, ?_⟩))
                go_ret
                exact ⟨by first | rfl | exact congrArg (fun b => Ending.returned (Value.bool b)) (isE_ne _).symm | exact congrArg (fun b => Ending.returned (Value.bool b)) (isE_eq _).symm | (simp only [isE_ne, isE_eq, Bool.not_not]; done) | (simp [errW_none, errW_some] <;> rfl) | (simp [*, errW_none, errW_some] <;> rfl), by repeat (first | (with_reducible first | exact HB.out | apply below_alloc | apply pw_below_drewN | apply below_drew1 | refine below_set ?_ GE336.out | refine below_set ?_ GE352.out | refine below_set ?_ GE364.out) | exact HB.out)⟩
     ·
      rw [if_neg c16] at H
      exact absurd H (by simp)
    ·
     rw [if_neg c15] at H
     exact absurd H (by simp)

/-- THE ONE PURE STATEMENT of oriellaw07_ScopeKeeps: yours. -/
def oriellaw07_ScopeKeeps.Pure : Prop := ∀ (x0 : List (S44)) (x1 : S25), (x0.length * 32 ≤ 140737488351232) → (∀ y_, y_ ∈ x0 → Fit44 y_) → (Fit25 x1) → ∃ k, oriellaw07_ScopeKeeps.f k x0 x1.f0 x1.f1 = some true
theorem oriellaw07_ScopeKeeps.walk (P : oriellaw07_ScopeKeeps.Pure) (x0 : List (S44)) (x1 : S25) (A0 : Option Addr) (c0 : Nat) (A1_1 : Option Addr) (c1_1 : Nat) (w : World) (w0 : x0.length * 32 ≤ 140737488351232) (w1 : ∀ y_, y_ ∈ x0 → Fit44 y_) (w2 : Fit25 x1) (hr0 : Kd.C k44 w A0 x0.length x0) (hc0 : x0.length ≤ c0) (hr1_1 : Kd.C k51 w A1_1 x1.f1.length x1.f1) (hc1_1 : x1.f1.length ≤ c1_1) :
  Calls Try.prog 5 #[.slice A0 x0.length c0, .agg #[.string x1.f0, .slice A1_1 x1.f1.length c1_1]] w fun e w' => e = .returned (.bool true) ∧ Below w.heap.size w w' := by
 obtain ⟨k, h⟩ := P x0 x1 w0 w1 w2
 refine (oriellaw07_ScopeKeeps.calls k _ _ x0 x1.f0 _ _ x1.f1 true w hr0 hc0 hr1_1 hc1_1 h).mono ?_
 rintro e w' ⟨rfl, hd⟩
 exact ⟨rfl, hd⟩

end Go.Proofs.Ytjhchjjpopbieaa.X
