/- Printed by a program of this session (xprint) out of the kit's print, with functions proved by hand. -/
import Derived.Test.YtjhchjjpopbieaaX0
import Derived.Test.YtjhchjjpopbieaaX1
import Derived.Test.YtjhchjjpopbieaaX6
import Derived.Test.YtjhchjjpopbieaaX7
import Derived.Test.YtjhchjjpopbieaaX8
import Derived.Test.YtjhchjjpopbieaaX11
namespace Go.Proofs.Ytjhchjjpopbieaa.X
open Go.RowKit Go.Proofs.YtjhchjjpopbieaaW.PrintWords Go.Proofs.YtjhchjjpopbieaaW.PrintLast Go.Proofs.YtjhchjjpopbieaaW.PrintMore Go.Proofs.YtjhchjjpopbieaaW.XConv
attribute [local go_sem] max2_int min2_int max_two min_two max_three min_three max_four min_four   -- for this text's walks alone
set_option linter.unusedVariables false
set_option linter.unusedSimpArgs false

attribute [local go_sem high] eqA29
/-! ### oriellaw07_ScopeAttrs: function 6 -/
def oriellaw07_ScopeAttrs.j0 : Nat → List (S44) → ByteArray → Bool → Option (Bool)
 | 0, _, _, _ => none
 | k + 1, x0, x1, x26 => if x26 = true then ((oriellaw07_awake.f k).bind fun t378 => (some t378)) else ((scope_Enter.f k x0 (⟨#[97]⟩ : ByteArray) (([(⟨(⟨#[120, 109, 108, 110, 115]⟩ : ByteArray), x1⟩ : S51), (⟨(⟨#[98]⟩ : ByteArray), (⟨#[49]⟩ : ByteArray)⟩ : S51)] : List (S51)))).bind fun bt382 => (if bt382.2.2.2.2.2.2 = 0 then (if (bt382.2.2.1.toList == x1.toList && (bt382.2.2.2.1.toList == ([97] : List UInt8))) = true then (if (bt382.2.2.2.2.1.length : Int) = 1 then (if 0 < (bt382.2.2.2.2.1.length : Int) then (some ((((rd_T47 bt382.2.2.2.2.1 0).f0.f0).toList) == ([] : List UInt8) && ((((rd_T47 bt382.2.2.2.2.1 0).f0.f1).toList) == ([98] : List UInt8)))) else (none)) else (some false)) else (some false)) else (some false)))
def oriellaw07_ScopeAttrs.f (k : Nat) (l0 : List (S44)) (a1 : ByteArray) : Option (Bool) := (oriellaw07_awake.f k).bind fun t377 => (if t377 = true then (if (l0.length : Int) > 60 then (oriellaw07_ScopeAttrs.j0 k l0 a1 true) else (if a1.toList = ([] : List UInt8) then (oriellaw07_ScopeAttrs.j0 k l0 a1 true) else (if a1.toList = ([104, 116, 116, 112, 58, 47, 47, 119, 119, 119, 46, 119, 51, 46, 111, 114, 103, 47, 88, 77, 76, 47, 49, 57, 57, 56, 47, 110, 97, 109, 101, 115, 112, 97, 99, 101] : List UInt8) then (oriellaw07_ScopeAttrs.j0 k l0 a1 true) else (oriellaw07_ScopeAttrs.j0 k l0 a1 (a1.toList == ([104, 116, 116, 112, 58, 47, 47, 119, 119, 119, 46, 119, 51, 46, 111, 114, 103, 47, 50, 48, 48, 48, 47, 120, 109, 108, 110, 115, 47] : List UInt8)))))) else (oriellaw07_ScopeAttrs.j0 k l0 a1 true))
theorem oriellaw07_ScopeAttrs.mono_l : ∀ k, (∀ y0 y1 y2, LeO (oriellaw07_ScopeAttrs.j0 k y0 y1 y2) (oriellaw07_ScopeAttrs.j0 (k + 1) y0 y1 y2))
 | 0 => fun _ _ _ r h => by simp [oriellaw07_ScopeAttrs.j0] at h
 | k + 1 => by
  have ih0 := oriellaw07_ScopeAttrs.mono_l k
  ·
   intro y0 y1 y2
   unfold oriellaw07_ScopeAttrs.j0
   repeat' first
   | (with_reducible exact ih0 _ _ _)
   | (with_reducible exact oriellaw07_awake.mono _)
   | (with_reducible exact scope_Enter.mono _ _ _ _)
   | (with_reducible exact LeO.refl _)
   | (with_reducible exact LeO.none _)
   | (with_reducible refine LeO.ite ?_ ?_)
   | (with_reducible refine LeO.bind ?_ (fun _ => ?_))
   | exact ih0 _ _ _
   | exact oriellaw07_awake.mono _
   | exact scope_Enter.mono _ _ _ _
   | exact LeO.none _
   | refine LeO.ite ?_ ?_
   | refine LeO.bind ?_ (fun _ => ?_)
theorem oriellaw07_ScopeAttrs.mono : ∀ a0 a1 k, LeO (oriellaw07_ScopeAttrs.f k a0 a1) (oriellaw07_ScopeAttrs.f (k + 1) a0 a1) := by
 intro a0 a1 k
 have ih0 := oriellaw07_ScopeAttrs.mono_l k
 unfold oriellaw07_ScopeAttrs.f
 repeat' first
   | (with_reducible exact ih0 _ _ _)
   | (with_reducible exact oriellaw07_awake.mono _)
   | (with_reducible exact scope_Enter.mono _ _ _ _)
   | (with_reducible exact LeO.refl _)
   | (with_reducible exact LeO.none _)
   | (with_reducible refine LeO.ite ?_ ?_)
   | (with_reducible refine LeO.bind ?_ (fun _ => ?_))
   | exact ih0 _ _ _
   | exact oriellaw07_awake.mono _
   | exact scope_Enter.mono _ _ _ _
   | exact LeO.none _
   | refine LeO.ite ?_ ?_
   | refine LeO.bind ?_ (fun _ => ?_)
set_option maxHeartbeats 8000000 in
set_option maxRecDepth 100000 in
theorem oriellaw07_ScopeAttrs.calls (k : Nat) (A0 : Option Addr) (c0 : Nat) (l0 : List (S44)) (a1 : ByteArray) (r : Bool) (w : World) (hr0 : Kd.C k44 w A0 l0.length l0) (hc0 : l0.length ≤ c0) (h : oriellaw07_ScopeAttrs.f k l0 a1 = some r) :
  Calls Try.prog 6 #[.slice A0 l0.length c0, .string a1] w fun e w' => e = .returned (.bool r) ∧ Below w.heap.size w w' := by
 have hu51 := Try.underlying51
 have hu25 := Try.underlying25
 have hu32 := Try.underlying32
 have hu29 := Try.underlying29
 have HR0 := Aside0.mk hr0
 have HC0 := Aside0.mk hc0
 clear hr0 hc0
 have HB := Aside0.mk (Below.refl w.heap.size w)
 have H : ((oriellaw07_awake.f k).bind fun t377 => (if t377 = true then (if (l0.length : Int) > 60 then (oriellaw07_ScopeAttrs.j0 k l0 a1 true) else (if a1.toList = ([] : List UInt8) then (oriellaw07_ScopeAttrs.j0 k l0 a1 true) else (if a1.toList = ([104, 116, 116, 112, 58, 47, 47, 119, 119, 119, 46, 119, 51, 46, 111, 114, 103, 47, 88, 77, 76, 47, 49, 57, 57, 56, 47, 110, 97, 109, 101, 115, 112, 97, 99, 101] : List UInt8) then (oriellaw07_ScopeAttrs.j0 k l0 a1 true) else (oriellaw07_ScopeAttrs.j0 k l0 a1 (a1.toList == ([104, 116, 116, 112, 58, 47, 47, 119, 119, 119, 46, 119, 51, 46, 111, 114, 103, 47, 50, 48, 48, 48, 47, 120, 109, 108, 110, 115, 47] : List UInt8)))))) else (oriellaw07_ScopeAttrs.j0 k l0 a1 true))) = some r := h
 clear h
 have HC3 := Aside0.mk H
 clear H
 go_enter Try.func6, Try.ntmps6
 go_upto_region 1 with (fail)
 go_cut [26] (fun v26 wc => ∃ (kq : Nat) (x26_2 : Bool), v26 = .bool x26_2 ∧ Aside0 (oriellaw07_ScopeAttrs.j0 kq l0 a1 x26_2 = some r) ∧ Aside0 (kq ≤ k) ∧ Aside0 (Below w.heap.size w wc))
 case first =>
  have H := HC3.out
  clear HC3
  replace H := Option.bind_eq_some_iff.mp H
  obtain ⟨t377, A40, H⟩ := H
  replace H : (if t377 = true then (if (l0.length : Int) > 60 then (oriellaw07_ScopeAttrs.j0 k l0 a1 true) else (if a1.toList = ([] : List UInt8) then (oriellaw07_ScopeAttrs.j0 k l0 a1 true) else (if a1.toList = ([104, 116, 116, 112, 58, 47, 47, 119, 119, 119, 46, 119, 51, 46, 111, 114, 103, 47, 88, 77, 76, 47, 49, 57, 57, 56, 47, 110, 97, 109, 101, 115, 112, 97, 99, 101] : List UInt8) then (oriellaw07_ScopeAttrs.j0 k l0 a1 true) else (oriellaw07_ScopeAttrs.j0 k l0 a1 (a1.toList == ([104, 116, 116, 112, 58, 47, 47, 119, 119, 119, 46, 119, 51, 46, 111, 114, 103, 47, 50, 48, 48, 48, 47, 120, 109, 108, 110, 115, 47] : List UInt8)))))) else (oriellaw07_ScopeAttrs.j0 k l0 a1 true)) = some r := H
  have A4 := Aside0.mk A40
  clear A40
  by_cases c5 : t377 = true
  ·
   subst c5
   have H1 : (if (l0.length : Int) > 60 then (oriellaw07_ScopeAttrs.j0 k l0 a1 true) else (if a1.toList = ([] : List UInt8) then (oriellaw07_ScopeAttrs.j0 k l0 a1 true) else (if a1.toList = ([104, 116, 116, 112, 58, 47, 47, 119, 119, 119, 46, 119, 51, 46, 111, 114, 103, 47, 88, 77, 76, 47, 49, 57, 57, 56, 47, 110, 97, 109, 101, 115, 112, 97, 99, 101] : List UInt8) then (oriellaw07_ScopeAttrs.j0 k l0 a1 true) else (oriellaw07_ScopeAttrs.j0 k l0 a1 (a1.toList == ([104, 116, 116, 112, 58, 47, 47, 119, 119, 119, 46, 119, 51, 46, 111, 114, 103, 47, 50, 48, 48, 48, 47, 120, 109, 108, 110, 115, 47] : List UInt8)))))) = some r := by rw [if_pos rfl] at H; exact H
   clear H
   have H := H1
   clear H1
   by_cases c6 : (l0.length : Int) > 60
   ·
    rw [if_pos c6] at H
    have c6b0 : decide (60 < (l0.length : Int)) = true := decide_eq_true c6
    have c6b1 : decide (60 < l0.length) = true := decide_eq_true (by omega)
    clear c6
    (first | rw [c6b0] | (simp only [i64_w, i32_w]; rw [c6b0]) | skip)
    have H' := Aside0.mk H
    clear H
    go_wp2_with (first | ((with_reducible refine gate_callee (f := 8) rfl ?_); refine goesL_ (some 8) rfl rfl Try.func8 (by kernel_rfl) rfl #[] rfl (by (try simp only [List.map_toArray, List.map_cons, List.map_nil]); first | done | rfl | (simp only [List.length_drop, List.length_take]; rfl)) ?_; (with_reducible refine (oriellaw07_awake.calls k  true _ A4.out).mono ?_); rintro e w7 ⟨rfl, hb⟩; refine ⟨_, rfl, ?_⟩; have n0_ := Aside0.mk (below_step (by repeat (first | (with_reducible first | exact HB.out | apply below_alloc | apply pw_below_drewN | apply below_drew1) | exact HB.out)) hb); clear HB; have HB := n0_; clear n0_; (try clear hb); (try clear hb2); (try clear hk); (try clear hi)))
    go_meet
    case rel => exact ⟨_, (true), (by first | rfl | (simp; done) | (simp [*]; done)), H', ⟨by first | omega | exact Nat.le_refl _⟩, ⟨by repeat (first | (with_reducible first | exact HB.out | apply below_alloc | apply pw_below_drewN | apply below_drew1) | exact HB.out)⟩⟩
   ·
    rw [if_neg c6] at H
    have c6b0 : decide (60 < (l0.length : Int)) = false := decide_eq_false c6
    have c6b1 : decide (60 < l0.length) = false := decide_eq_false (by omega)
    clear c6
    (first | rw [c6b0] | (simp only [i64_w, i32_w]; rw [c6b0]) | skip)
    by_cases c8 : a1.toList = ([] : List UInt8)
    ·
     rw [if_pos c8] at H
     have c8b0 : (a1.toList == ([] : List UInt8)) = true := beq_iff_eq.mpr c8
     have c8b1 : (a1.toList != ([] : List UInt8)) = false := bne_eq_false_iff_eq.mpr c8
     clear c8
     have H' := Aside0.mk H
     clear H
     go_wp2_with (first | ((with_reducible refine gate_callee (f := 8) rfl ?_); refine goesL_ (some 8) rfl rfl Try.func8 (by kernel_rfl) rfl #[] rfl (by (try simp only [List.map_toArray, List.map_cons, List.map_nil]); first | done | rfl | (simp only [List.length_drop, List.length_take]; rfl)) ?_; (with_reducible refine (oriellaw07_awake.calls k  true _ A4.out).mono ?_); rintro e w9 ⟨rfl, hb⟩; refine ⟨_, rfl, ?_⟩; have n0_ := Aside0.mk (below_step (by repeat (first | (with_reducible first | exact HB.out | apply below_alloc | apply pw_below_drewN | apply below_drew1) | exact HB.out)) hb); clear HB; have HB := n0_; clear n0_; (try clear hb); (try clear hb2); (try clear hk); (try clear hi)))
     go_meet
     case rel => exact ⟨_, (true), (by first | rfl | (simp; done) | (simp [*]; done)), H', ⟨by first | omega | exact Nat.le_refl _⟩, ⟨by repeat (first | (with_reducible first | exact HB.out | apply below_alloc | apply pw_below_drewN | apply below_drew1) | exact HB.out)⟩⟩
    ·
     rw [if_neg c8] at H
     have c8b0 : (a1.toList == ([] : List UInt8)) = false := beq_eq_false_iff_ne.mpr c8
     have c8b1 : (a1.toList != ([] : List UInt8)) = true := bne_iff_ne.mpr c8
     by_cases c10 : a1.toList = ([104, 116, 116, 112, 58, 47, 47, 119, 119, 119, 46, 119, 51, 46, 111, 114, 103, 47, 88, 77, 76, 47, 49, 57, 57, 56, 47, 110, 97, 109, 101, 115, 112, 97, 99, 101] : List UInt8)
     ·
      rw [if_pos c10] at H
      have c10b0 : (a1.toList == ([104, 116, 116, 112, 58, 47, 47, 119, 119, 119, 46, 119, 51, 46, 111, 114, 103, 47, 88, 77, 76, 47, 49, 57, 57, 56, 47, 110, 97, 109, 101, 115, 112, 97, 99, 101] : List UInt8)) = true := beq_iff_eq.mpr c10
      have c10b1 : (a1.toList != ([104, 116, 116, 112, 58, 47, 47, 119, 119, 119, 46, 119, 51, 46, 111, 114, 103, 47, 88, 77, 76, 47, 49, 57, 57, 56, 47, 110, 97, 109, 101, 115, 112, 97, 99, 101] : List UInt8)) = false := bne_eq_false_iff_eq.mpr c10
      clear c10
      have H' := Aside0.mk H
      clear H
      go_wp2_with (first | ((with_reducible refine gate_callee (f := 8) rfl ?_); refine goesL_ (some 8) rfl rfl Try.func8 (by kernel_rfl) rfl #[] rfl (by (try simp only [List.map_toArray, List.map_cons, List.map_nil]); first | done | rfl | (simp only [List.length_drop, List.length_take]; rfl)) ?_; (with_reducible refine (oriellaw07_awake.calls k  true _ A4.out).mono ?_); rintro e w11 ⟨rfl, hb⟩; refine ⟨_, rfl, ?_⟩; have n0_ := Aside0.mk (below_step (by repeat (first | (with_reducible first | exact HB.out | apply below_alloc | apply pw_below_drewN | apply below_drew1) | exact HB.out)) hb); clear HB; have HB := n0_; clear n0_; (try clear hb); (try clear hb2); (try clear hk); (try clear hi)))
      go_meet
      case rel => exact ⟨_, (true), (by first | rfl | (simp; done) | (simp [*]; done)), H', ⟨by first | omega | exact Nat.le_refl _⟩, ⟨by repeat (first | (with_reducible first | exact HB.out | apply below_alloc | apply pw_below_drewN | apply below_drew1) | exact HB.out)⟩⟩
     ·
      rw [if_neg c10] at H
      have c10b0 : (a1.toList == ([104, 116, 116, 112, 58, 47, 47, 119, 119, 119, 46, 119, 51, 46, 111, 114, 103, 47, 88, 77, 76, 47, 49, 57, 57, 56, 47, 110, 97, 109, 101, 115, 112, 97, 99, 101] : List UInt8)) = false := beq_eq_false_iff_ne.mpr c10
      have c10b1 : (a1.toList != ([104, 116, 116, 112, 58, 47, 47, 119, 119, 119, 46, 119, 51, 46, 111, 114, 103, 47, 88, 77, 76, 47, 49, 57, 57, 56, 47, 110, 97, 109, 101, 115, 112, 97, 99, 101] : List UInt8)) = true := bne_iff_ne.mpr c10
      have H' := Aside0.mk H
      clear H
      go_wp2_with (first | ((with_reducible refine gate_callee (f := 8) rfl ?_); refine goesL_ (some 8) rfl rfl Try.func8 (by kernel_rfl) rfl #[] rfl (by (try simp only [List.map_toArray, List.map_cons, List.map_nil]); first | done | rfl | (simp only [List.length_drop, List.length_take]; rfl)) ?_; (with_reducible refine (oriellaw07_awake.calls k  true _ A4.out).mono ?_); rintro e w12 ⟨rfl, hb⟩; refine ⟨_, rfl, ?_⟩; have n0_ := Aside0.mk (below_step (by repeat (first | (with_reducible first | exact HB.out | apply below_alloc | apply pw_below_drewN | apply below_drew1) | exact HB.out)) hb); clear HB; have HB := n0_; clear n0_; (try clear hb); (try clear hb2); (try clear hk); (try clear hi)))
      go_meet
      case rel => exact ⟨_, ((a1.toList == ([104, 116, 116, 112, 58, 47, 47, 119, 119, 119, 46, 119, 51, 46, 111, 114, 103, 47, 50, 48, 48, 48, 47, 120, 109, 108, 110, 115, 47] : List UInt8))), (by first | rfl | (simp; done) | (simp [*]; done)), H', ⟨by first | omega | exact Nat.le_refl _⟩, ⟨by repeat (first | (with_reducible first | exact HB.out | apply below_alloc | apply pw_below_drewN | apply below_drew1) | exact HB.out)⟩⟩
  ·
   replace c5 := Bool.eq_false_iff.mpr c5
   subst c5
   have H1 : (oriellaw07_ScopeAttrs.j0 k l0 a1 true) = some r := by rw [if_neg (show ¬ (false = true) by decide)] at H; exact H
   clear H
   have H := H1
   clear H1
   have H' := Aside0.mk H
   clear H
   go_wp2_with (first | ((with_reducible refine gate_callee (f := 8) rfl ?_); refine goesL_ (some 8) rfl rfl Try.func8 (by kernel_rfl) rfl #[] rfl (by (try simp only [List.map_toArray, List.map_cons, List.map_nil]); first | done | rfl | (simp only [List.length_drop, List.length_take]; rfl)) ?_; (with_reducible refine (oriellaw07_awake.calls k  false _ A4.out).mono ?_); rintro e w13 ⟨rfl, hb⟩; refine ⟨_, rfl, ?_⟩; have n0_ := Aside0.mk (below_step (by repeat (first | (with_reducible first | exact HB.out | apply below_alloc | apply pw_below_drewN | apply below_drew1) | exact HB.out)) hb); clear HB; have HB := n0_; clear n0_; (try clear hb); (try clear hb2); (try clear hk); (try clear hi)))
   go_meet
   case rel => exact ⟨_, (true), (by first | rfl | (simp; done) | (simp [*]; done)), H', ⟨by first | omega | exact Nat.le_refl _⟩, ⟨by repeat (first | (with_reducible first | exact HB.out | apply below_alloc | apply pw_below_drewN | apply below_drew1) | exact HB.out)⟩⟩
 case rest =>
  clear HC3
  try clear c1
  try clear p2
  try clear c5
  try clear c6
  try clear c6b0
  try clear c6b1
  try clear c8
  try clear c8b0
  try clear c8b1
  try clear c10
  try clear c10b0
  try clear c10b1
  obtain ⟨kq, x26_2, rfl, HA, HJ2, HB⟩ := hcut
  cases kq with
  | zero => exact absurd HA.out (by simp [oriellaw07_ScopeAttrs.j0])
  | succ kj2 =>
   have H := HA.out
   clear HA
   simp only [oriellaw07_ScopeAttrs.j0] at H
   by_cases c14 : x26_2 = true
   ·
    subst c14
    have H1 : ((oriellaw07_awake.f kj2).bind fun t378 => (some t378)) = some r := by rw [if_pos rfl] at H; exact H
    clear H
    have H := H1
    clear H1
    replace H := Option.bind_eq_some_iff.mp H
    obtain ⟨t378, A150, H⟩ := H
    replace H : (some t378) = some r := H
    have A15 := Aside0.mk A150
    clear A150
    obtain rfl := Option.some.inj H
    go_wp2_with (first | ((with_reducible refine gate_callee (f := 8) rfl ?_); refine goesL_ (some 27) rfl rfl Try.func8 (by kernel_rfl) rfl #[] rfl (by (try simp only [List.map_toArray, List.map_cons, List.map_nil]); first | done | rfl | (simp only [List.length_drop, List.length_take]; rfl)) ?_; (with_reducible refine (oriellaw07_awake.calls kj2  t378 _ A15.out).mono ?_); rintro e w16 ⟨rfl, hb⟩; refine ⟨_, rfl, ?_⟩; have n0_ := Aside0.mk (below_step (by repeat (first | (with_reducible first | exact HB.out | apply below_alloc | apply pw_below_drewN | apply below_drew1) | exact HB.out)) hb); clear HB; have HB := n0_; clear n0_; (try clear hb); (try clear hb2); (try clear hk); (try clear hi)))
    go_ret
    exact ⟨by first | rfl | exact congrArg (fun b => Ending.returned (Value.bool b)) (isE_ne _).symm | exact congrArg (fun b => Ending.returned (Value.bool b)) (isE_eq _).symm | (simp only [isE_ne, isE_eq, Bool.not_not]; done) | (simp [errW_none, errW_some] <;> rfl) | (simp [*, errW_none, errW_some] <;> rfl), by repeat (first | (with_reducible first | exact HB.out | apply below_alloc | apply pw_below_drewN | apply below_drew1) | exact HB.out)⟩
   ·
    replace c14 := Bool.eq_false_iff.mpr c14
    subst c14
    have H1 : ((scope_Enter.f kj2 l0 (⟨#[97]⟩ : ByteArray) (([(⟨(⟨#[120, 109, 108, 110, 115]⟩ : ByteArray), a1⟩ : S51), (⟨(⟨#[98]⟩ : ByteArray), (⟨#[49]⟩ : ByteArray)⟩ : S51)] : List (S51)))).bind fun bt382 => (if bt382.2.2.2.2.2.2 = 0 then (if (bt382.2.2.1.toList == a1.toList && (bt382.2.2.2.1.toList == ([97] : List UInt8))) = true then (if (bt382.2.2.2.2.1.length : Int) = 1 then (if 0 < (bt382.2.2.2.2.1.length : Int) then (some ((((rd_T47 bt382.2.2.2.2.1 0).f0.f0).toList) == ([] : List UInt8) && ((((rd_T47 bt382.2.2.2.2.1 0).f0.f1).toList) == ([98] : List UInt8)))) else (none)) else (some false)) else (some false)) else (some false))) = some r := by rw [if_neg (show ¬ (false = true) by decide)] at H; exact H
    clear H
    have H := H1
    clear H1
    obtain ⟨y379, hy379⟩ : ∃ y_ : List (S51), y_ = (([(⟨(⟨#[120, 109, 108, 110, 115]⟩ : ByteArray), a1⟩ : S51), (⟨(⟨#[98]⟩ : ByteArray), (⟨#[49]⟩ : ByteArray)⟩ : S51)] : List (S51))) := ⟨_, rfl⟩
    replace H : ((scope_Enter.f kj2 l0 (⟨#[97]⟩ : ByteArray) y379).bind fun bt382 => (if bt382.2.2.2.2.2.2 = 0 then (if (bt382.2.2.1.toList == a1.toList && (bt382.2.2.2.1.toList == ([97] : List UInt8))) = true then (if (bt382.2.2.2.2.1.length : Int) = 1 then (if 0 < (bt382.2.2.2.2.1.length : Int) then (some ((((rd_T47 bt382.2.2.2.2.1 0).f0.f0).toList) == ([] : List UInt8) && ((((rd_T47 bt382.2.2.2.2.1 0).f0.f1).toList) == ([98] : List UInt8)))) else (none)) else (some false)) else (some false)) else (some false))) = some r := by first | (rw [hy379]; with_reducible exact H) | (have H2_ := (Option.bind_some _ _).symm.trans H; rw [hy379]; with_reducible exact H2_) | (have H2_ := (Option.bind_some _ _).symm.trans H; with_reducible exact H2_) | with_reducible exact H | (rw [hy379]; exact H) | exact H
    have Ny379 := Aside0.mk hy379
    clear hy379
    replace H := Option.bind_eq_some_iff.mp H
    obtain ⟨⟨t382, t385, t386, t387, t388, t391, t392⟩, A170, H⟩ := H
    replace H : (if t392 = 0 then (if (t386.toList == a1.toList && (t387.toList == ([97] : List UInt8))) = true then (if (t388.length : Int) = 1 then (if 0 < (t388.length : Int) then (some ((((rd_T47 t388 0).f0.f0).toList) == ([] : List UInt8) && ((((rd_T47 t388 0).f0.f1).toList) == ([98] : List UInt8)))) else (none)) else (some false)) else (some false)) else (some false)) = some r := H
    have A17 := Aside0.mk A170
    clear A170
    by_cases c18 : t392 = 0
    ·
     rw [if_pos c18] at H
     have c18b0 : (t392 == 0) = true := beq_iff_eq.mpr c18
     have c18b1 : (t392 != 0) = false := bne_eq_false_iff_eq.mpr c18
     clear c18
     by_cases c19 : (t386.toList == a1.toList && (t387.toList == ([97] : List UInt8))) = true
     ·
      rw [if_pos c19] at H
      have c19b0 : (t386.toList == a1.toList && (t387.toList == ([97] : List UInt8))) = true := c19
      (try (have c19b1 : decide (t386.toList = a1.toList && (t387.toList == ([97] : List UInt8))) = true := by simpa using c19))
      (try (have c19b2 : (t386.toList == a1.toList && (t387.toList == ([97] : List UInt8))) = true := by simpa using c19))
      clear c19
      by_cases c20 : (t388.length : Int) = 1
      ·
       rw [if_pos c20] at H
       have c20b0 : ((t388.length : Int) == 1) = true := beq_iff_eq.mpr c20
       have c20b1 : ((t388.length : Int) != 1) = false := bne_eq_false_iff_eq.mpr c20
       clear c20
       by_cases c21 : 0 < (t388.length : Int)
       ·
        rw [if_pos c21] at H
        have c21b0 : decide (0 < (t388.length : Int)) = true := decide_eq_true c21
        have c21b1 : decide (0 < t388.length) = true := decide_eq_true (by omega)
        clear c21
        obtain rfl := Option.some.inj H
        go_wp2_with (first | ((with_reducible refine gate_dst (N := 33) rfl ?_); (try (refine gate_guard (by rfl) ?_; dsimp only)); refine Kd.R_lit k51 _ 51 ?hg (N := 33) ?hd (xs := ([(⟨(⟨#[120, 109, 108, 110, 115]⟩ : ByteArray), a1⟩ : S51), (⟨(⟨#[98]⟩ : ByteArray), (⟨#[49]⟩ : ByteArray)⟩ : S51)] : List (S51))) (inner := [.string (⟨#[120, 109, 108, 110, 115]⟩ : ByteArray), .string a1, .string (⟨#[98]⟩ : ByteArray), .string (⟨#[49]⟩ : ByteArray)]) (ok := fun _ => True) (okp := fun _ => True) ?hr ?hp (fun _ hk => hk) trivial (Below.refl _ _) (Nat.le_refl _) (by simp) ?_; (case hd => rfl); (case hg => rfl); (case hr => first | (go_simp; done) | (go_simp; rfl)); (case hp => exact (Reps.c2 (show Kd.M k51 _ _ _ (⟨(⟨#[120, 109, 108, 110, 115]⟩ : ByteArray), a1⟩ : S51) [.string (⟨#[120, 109, 108, 110, 115]⟩ : ByteArray), .string a1] from (k51_mkM _ _ _ (⟨(⟨#[120, 109, 108, 110, 115]⟩ : ByteArray), a1⟩ : S51) )) (Reps.c2 (show Kd.M k51 _ _ _ (⟨(⟨#[98]⟩ : ByteArray), (⟨#[49]⟩ : ByteArray)⟩ : S51) [.string (⟨#[98]⟩ : ByteArray), .string (⟨#[49]⟩ : ByteArray)] from (k51_mkM _ _ _ (⟨(⟨#[98]⟩ : ByteArray), (⟨#[49]⟩ : ByteArray)⟩ : S51) )) (Reps.none _ _)))); intro v380 w22 ho23 hb hg_ hnew_; clear hg_ hnew_; (first | rw [← Ny379.out] at ho23 | (simp only [Int.reduceToNat] at ho23; rw [← Ny379.out] at ho23)); have n0_ := Aside0.mk (Kd.R_lower ho23 (below_size (by repeat (first | (with_reducible first | exact HB.out | apply below_alloc | apply pw_below_drewN | apply below_drew1) | exact HB.out)))); have n1_ := Aside0.mk (below_step (by repeat (first | (with_reducible first | exact HB.out | apply below_alloc | apply pw_below_drewN | apply below_drew1) | exact HB.out)) hb); clear HB; have HO381 := n0_; have HB := n1_; clear n0_ n1_; clear hb ho23; obtain ⟨Ao24, co24, eo24⟩ := Kd.R_slice HO381.out; subst eo24) | ((with_reducible refine gate_callee (f := 10) rfl ?_); refine goesL_ (some 35) rfl rfl Try.func10 (by kernel_rfl) rfl #[.slice A0 l0.length c0, .agg #[.string (⟨#[97]⟩ : ByteArray), .slice Ao24 y379.length co24]] rfl (by (try simp only [List.map_toArray, List.map_cons, List.map_nil]); first | done | rfl | (simp only [List.length_drop, List.length_take]; rfl)) ?_; (with_reducible refine (scope_Enter.calls kj2 _ _ l0 (⟨#[97]⟩ : ByteArray) _ _ y379 t382 t385 t386 t387 t388 t391 t392 _ ?side1 ?side2 ?side3 ?side4 A17.out).mono ?_); (case side1 => repeat (first | exact (Kd.C_below HR0.out HB.out) | (with_reducible refine Kd.C_alloc ?_ _) | (with_reducible refine Kd.C_drewN ?_ _) | (with_reducible refine Kd.C_drew ?_))); (case side2 => exact HC0.out); (case side3 => repeat (first | exact (Kd.R_reads' HO381.out).2.2 | (with_reducible refine Kd.C_alloc ?_ _) | (with_reducible refine Kd.C_drewN ?_ _) | (with_reducible refine Kd.C_drew ?_))); (case side4 => exact (Kd.R_reads' HO381.out).2.1); rintro e w25 ⟨v383, v389, rfl, ho0, ho1, hb⟩; refine ⟨_, rfl, ?_⟩; have n0_ := Aside0.mk (Kd.R_below (by (with_reducible repeat (first | apply Kd.R_alloc | apply Kd.R_drewN | apply Kd.R_drew)); exact HO381.out) hb); have n1_ := Aside0.mk (Kd.R_lower ho0 (below_size (by repeat (first | (with_reducible first | exact HB.out | apply below_alloc | apply pw_below_drewN | apply below_drew1) | exact HB.out)))); have n2_ := Aside0.mk (Kd.R_lower ho1 (below_size (by repeat (first | (with_reducible first | exact HB.out | apply below_alloc | apply pw_below_drewN | apply below_drew1) | exact HB.out)))); have n3_ := Aside0.mk (below_step (by repeat (first | (with_reducible first | exact HB.out | apply below_alloc | apply pw_below_drewN | apply below_drew1) | exact HB.out)) hb); clear HO381; clear HB; have HO381 := n0_; have HO384 := n1_; have HO390 := n2_; have HB := n3_; clear n0_ n1_ n2_ n3_; (try clear hb); (try clear hb2); (try clear hk); (try clear hi); (try clear ho0); (try clear ho1)) | ((with_reducible refine gate_dst (N := 6) rfl ?_); (try (refine gate_guard (by rfl) ?_; dsimp only)); refine box_event ?hg (N := 6) ?hd (cs := #[.int .i64 0, .string (⟨#[]⟩ : ByteArray), .string (⟨#[]⟩ : ByteArray), .slice none 0 0, .string (⟨#[]⟩ : ByteArray)]) (t := 32) ?hr ?_; (case hd => rfl); (case hg => rfl); (case hr => first | (go_simp; done) | (go_simp; rfl)); intro gb393 hg w26 hbox hb; have n0_ := Aside0.mk (Kd.R_below (by (with_reducible repeat (first | apply Kd.R_alloc | apply Kd.R_drewN | apply Kd.R_drew)); exact HO381.out) hb); have n1_ := Aside0.mk (Kd.R_below (by (with_reducible repeat (first | apply Kd.R_alloc | apply Kd.R_drewN | apply Kd.R_drew)); exact HO384.out) hb); have n2_ := Aside0.mk (Kd.R_below (by (with_reducible repeat (first | apply Kd.R_alloc | apply Kd.R_drewN | apply Kd.R_drew)); exact HO390.out) hb); have n3_ := Aside0.mk (below_step (by repeat (first | (with_reducible first | exact HB.out | apply below_alloc | apply pw_below_drewN | apply below_drew1) | exact HB.out)) hb); have n4_ := Aside0.mk (hbox); have n5_ := Aside0.mk ((by rw [hg]; exact (below_size (by repeat (first | (with_reducible first | exact HB.out | apply below_alloc | apply pw_below_drewN | apply below_drew1) | exact HB.out))) : w.heap.size ≤ gb393)); have n6_ := Aside0.mk ((by rw [hg]; exact (below_size (by repeat (first | (with_reducible first | exact HB.out | apply below_alloc | apply pw_below_drewN | apply below_drew1) | exact HB.out))) : w.heap.size ≤ gb393)); clear HO381; clear HO384; clear HO390; clear HB; have HO381 := n0_; have HO384 := n1_; have HO390 := n2_; have HB := n3_; have BK393 := n4_; have GW393 := n5_; have GE393 := n6_; clear n0_ n1_ n2_ n3_ n4_ n5_ n6_; clear hb hbox hg; have hcz27_0 : w26.cell? ⟨gb393, 0, none⟩ = some (.int .i64 0) := (blk_cell BK393.out 0).trans rfl; have hcz27_1 : w26.cell? ⟨gb393, 1, none⟩ = some (.string (⟨#[]⟩ : ByteArray)) := (blk_cell BK393.out 1).trans rfl; have hcz27_2 : w26.cell? ⟨gb393, 2, none⟩ = some (.string (⟨#[]⟩ : ByteArray)) := (blk_cell BK393.out 2).trans rfl; have hcz27_3 : w26.cell? ⟨gb393, 3, none⟩ = some (.slice none 0 0) := (blk_cell BK393.out 3).trans rfl; have hcz27_4 : w26.cell? ⟨gb393, 4, none⟩ = some (.string (⟨#[]⟩ : ByteArray)) := (blk_cell BK393.out 4).trans rfl; have hfz27_0 := blk_frozen BK393.out 0; have hfz27_1 := blk_frozen BK393.out 1; have hfz27_2 := blk_frozen BK393.out 2; have hfz27_3 := blk_frozen BK393.out 3; have hfz27_4 := blk_frozen BK393.out 4; obtain ⟨Ao28, co28, eo28⟩ := Kd.R_slice HO390.out; subst eo28; have p394 : 0 ≤ (0 : Int) := (by omega); have q394 : 0 < (t388.length : Int) := of_decide_eq_true (by first | (with_reducible assumption) | assumption); obtain ⟨ad394, e394, hx394_0, hx394_1, hx394_2⟩ := at_T47 (Kd.R_reads' HO390.out).2.2 0 p394 q394; cases e394; have qi394 : (0 < t388.length) = True := eq_true (by omega); (try rw [show ((0 : Int)).toNat = 0 from rfl] at hx394_0); (try rw [show 0 * 3 = 0 from rfl] at hx394_0); (try rw [Addr.add_zero'] at hx394_0); (try rw [show ((0 : Int)).toNat = 0 from rfl] at hx394_1); (try rw [show 0 * 3 = 0 from rfl] at hx394_1); (try rw [Addr.add_zero'] at hx394_1); (try rw [show ((0 : Int)).toNat = 0 from rfl] at hx394_2); (try rw [show 0 * 3 = 0 from rfl] at hx394_2); (try rw [Addr.add_zero'] at hx394_2); have hn394_0 : ad394.block ≠ gb393 := Kd.own_blk (Kd.R_ne HO390.out BK393.out (by decide)); have hn394_1 : ad394.block ≠ gb393 := Kd.own_blk (Kd.R_ne HO390.out BK393.out (by decide)); have hn394_2 : ad394.block ≠ gb393 := Kd.own_blk (Kd.R_ne HO390.out BK393.out (by decide)); have hn394_3 : ad394.block ≠ gb393 := Kd.own_blk (Kd.R_ne HO390.out BK393.out (by decide)); have hn394_4 : ad394.block ≠ gb393 := Kd.own_blk (Kd.R_ne HO390.out BK393.out (by decide)); replace hx394_0 := (cell_far (p := ⟨gb393, 0, none⟩) (by first | (rw [add_block]; exact hn394_0) | (show (Addr.add _ _).block ≠ _; rw [add_block]; exact hn394_0) | exact hn394_0) (.int .i64 t385)).trans hx394_0; replace hx394_1 := (cell_far (p := ⟨gb393, 0, none⟩) (by first | (rw [add_block]; exact hn394_0) | (show (Addr.add _ _).block ≠ _; rw [add_block]; exact hn394_0) | exact hn394_0) (.int .i64 t385)).trans hx394_1; replace hx394_2 := (cell_far (p := ⟨gb393, 0, none⟩) (by first | (rw [add_block]; exact hn394_0) | (show (Addr.add _ _).block ≠ _; rw [add_block]; exact hn394_0) | exact hn394_0) (.int .i64 t385)).trans hx394_2; replace hx394_0 := (cell_far (p := ⟨gb393, 1, none⟩) (by first | (rw [add_block]; exact hn394_1) | (show (Addr.add _ _).block ≠ _; rw [add_block]; exact hn394_1) | exact hn394_1) (.string t386)).trans hx394_0; replace hx394_1 := (cell_far (p := ⟨gb393, 1, none⟩) (by first | (rw [add_block]; exact hn394_1) | (show (Addr.add _ _).block ≠ _; rw [add_block]; exact hn394_1) | exact hn394_1) (.string t386)).trans hx394_1; replace hx394_2 := (cell_far (p := ⟨gb393, 1, none⟩) (by first | (rw [add_block]; exact hn394_1) | (show (Addr.add _ _).block ≠ _; rw [add_block]; exact hn394_1) | exact hn394_1) (.string t386)).trans hx394_2; replace hx394_0 := (cell_far (p := ⟨gb393, 2, none⟩) (by first | (rw [add_block]; exact hn394_2) | (show (Addr.add _ _).block ≠ _; rw [add_block]; exact hn394_2) | exact hn394_2) (.string t387)).trans hx394_0; replace hx394_1 := (cell_far (p := ⟨gb393, 2, none⟩) (by first | (rw [add_block]; exact hn394_2) | (show (Addr.add _ _).block ≠ _; rw [add_block]; exact hn394_2) | exact hn394_2) (.string t387)).trans hx394_1; replace hx394_2 := (cell_far (p := ⟨gb393, 2, none⟩) (by first | (rw [add_block]; exact hn394_2) | (show (Addr.add _ _).block ≠ _; rw [add_block]; exact hn394_2) | exact hn394_2) (.string t387)).trans hx394_2; replace hx394_0 := (cell_far (p := ⟨gb393, 3, none⟩) (by first | (rw [add_block]; exact hn394_3) | (show (Addr.add _ _).block ≠ _; rw [add_block]; exact hn394_3) | exact hn394_3) (.slice (some ad394) t388.length co28)).trans hx394_0; replace hx394_1 := (cell_far (p := ⟨gb393, 3, none⟩) (by first | (rw [add_block]; exact hn394_3) | (show (Addr.add _ _).block ≠ _; rw [add_block]; exact hn394_3) | exact hn394_3) (.slice (some ad394) t388.length co28)).trans hx394_1; replace hx394_2 := (cell_far (p := ⟨gb393, 3, none⟩) (by first | (rw [add_block]; exact hn394_3) | (show (Addr.add _ _).block ≠ _; rw [add_block]; exact hn394_3) | exact hn394_3) (.slice (some ad394) t388.length co28)).trans hx394_2; replace hx394_0 := (cell_far (p := ⟨gb393, 4, none⟩) (by first | (rw [add_block]; exact hn394_4) | (show (Addr.add _ _).block ≠ _; rw [add_block]; exact hn394_4) | exact hn394_4) (.string t391)).trans hx394_0; replace hx394_1 := (cell_far (p := ⟨gb393, 4, none⟩) (by first | (rw [add_block]; exact hn394_4) | (show (Addr.add _ _).block ≠ _; rw [add_block]; exact hn394_4) | exact hn394_4) (.string t391)).trans hx394_1; replace hx394_2 := (cell_far (p := ⟨gb393, 4, none⟩) (by first | (rw [add_block]; exact hn394_4) | (show (Addr.add _ _).block ≠ _; rw [add_block]; exact hn394_4) | exact hn394_4) (.string t391)).trans hx394_2; clear hn394_0; clear hn394_1; clear hn394_2; clear hn394_3; clear hn394_4; replace p394 := eq_true p394; replace q394 := eq_true q394))
        go_ret
        exact ⟨by first | rfl | exact congrArg (fun b => Ending.returned (Value.bool b)) (isE_ne _).symm | exact congrArg (fun b => Ending.returned (Value.bool b)) (isE_eq _).symm | (simp only [isE_ne, isE_eq, Bool.not_not]; done) | (simp [errW_none, errW_some] <;> rfl) | (simp [*, errW_none, errW_some] <;> rfl), by repeat (first | (with_reducible first | exact HB.out | apply below_alloc | apply pw_below_drewN | apply below_drew1 | refine below_set ?_ GE393.out) | exact HB.out)⟩
       ·
        rw [if_neg c21] at H
        exact absurd H (by simp)
      ·
       rw [if_neg c20] at H
       have c20b0 : ((t388.length : Int) == 1) = false := beq_eq_false_iff_ne.mpr c20
       have c20b1 : ((t388.length : Int) != 1) = true := bne_iff_ne.mpr c20
       obtain rfl := Option.some.inj H
       go_wp2_with (first | ((with_reducible refine gate_dst (N := 33) rfl ?_); (try (refine gate_guard (by rfl) ?_; dsimp only)); refine Kd.R_lit k51 _ 51 ?hg (N := 33) ?hd (xs := ([(⟨(⟨#[120, 109, 108, 110, 115]⟩ : ByteArray), a1⟩ : S51), (⟨(⟨#[98]⟩ : ByteArray), (⟨#[49]⟩ : ByteArray)⟩ : S51)] : List (S51))) (inner := [.string (⟨#[120, 109, 108, 110, 115]⟩ : ByteArray), .string a1, .string (⟨#[98]⟩ : ByteArray), .string (⟨#[49]⟩ : ByteArray)]) (ok := fun _ => True) (okp := fun _ => True) ?hr ?hp (fun _ hk => hk) trivial (Below.refl _ _) (Nat.le_refl _) (by simp) ?_; (case hd => rfl); (case hg => rfl); (case hr => first | (go_simp; done) | (go_simp; rfl)); (case hp => exact (Reps.c2 (show Kd.M k51 _ _ _ (⟨(⟨#[120, 109, 108, 110, 115]⟩ : ByteArray), a1⟩ : S51) [.string (⟨#[120, 109, 108, 110, 115]⟩ : ByteArray), .string a1] from (k51_mkM _ _ _ (⟨(⟨#[120, 109, 108, 110, 115]⟩ : ByteArray), a1⟩ : S51) )) (Reps.c2 (show Kd.M k51 _ _ _ (⟨(⟨#[98]⟩ : ByteArray), (⟨#[49]⟩ : ByteArray)⟩ : S51) [.string (⟨#[98]⟩ : ByteArray), .string (⟨#[49]⟩ : ByteArray)] from (k51_mkM _ _ _ (⟨(⟨#[98]⟩ : ByteArray), (⟨#[49]⟩ : ByteArray)⟩ : S51) )) (Reps.none _ _)))); intro v380 w29 ho30 hb hg_ hnew_; clear hg_ hnew_; (first | rw [← Ny379.out] at ho30 | (simp only [Int.reduceToNat] at ho30; rw [← Ny379.out] at ho30)); have n0_ := Aside0.mk (Kd.R_lower ho30 (below_size (by repeat (first | (with_reducible first | exact HB.out | apply below_alloc | apply pw_below_drewN | apply below_drew1) | exact HB.out)))); have n1_ := Aside0.mk (below_step (by repeat (first | (with_reducible first | exact HB.out | apply below_alloc | apply pw_below_drewN | apply below_drew1) | exact HB.out)) hb); clear HB; have HO381 := n0_; have HB := n1_; clear n0_ n1_; clear hb ho30; obtain ⟨Ao31, co31, eo31⟩ := Kd.R_slice HO381.out; subst eo31) | ((with_reducible refine gate_callee (f := 10) rfl ?_); refine goesL_ (some 35) rfl rfl Try.func10 (by kernel_rfl) rfl #[.slice A0 l0.length c0, .agg #[.string (⟨#[97]⟩ : ByteArray), .slice Ao31 y379.length co31]] rfl (by (try simp only [List.map_toArray, List.map_cons, List.map_nil]); first | done | rfl | (simp only [List.length_drop, List.length_take]; rfl)) ?_; (with_reducible refine (scope_Enter.calls kj2 _ _ l0 (⟨#[97]⟩ : ByteArray) _ _ y379 t382 t385 t386 t387 t388 t391 t392 _ ?side1 ?side2 ?side3 ?side4 A17.out).mono ?_); (case side1 => repeat (first | exact (Kd.C_below HR0.out HB.out) | (with_reducible refine Kd.C_alloc ?_ _) | (with_reducible refine Kd.C_drewN ?_ _) | (with_reducible refine Kd.C_drew ?_))); (case side2 => exact HC0.out); (case side3 => repeat (first | exact (Kd.R_reads' HO381.out).2.2 | (with_reducible refine Kd.C_alloc ?_ _) | (with_reducible refine Kd.C_drewN ?_ _) | (with_reducible refine Kd.C_drew ?_))); (case side4 => exact (Kd.R_reads' HO381.out).2.1); rintro e w32 ⟨v383, v389, rfl, ho0, ho1, hb⟩; refine ⟨_, rfl, ?_⟩; have n0_ := Aside0.mk (Kd.R_below (by (with_reducible repeat (first | apply Kd.R_alloc | apply Kd.R_drewN | apply Kd.R_drew)); exact HO381.out) hb); have n1_ := Aside0.mk (Kd.R_lower ho0 (below_size (by repeat (first | (with_reducible first | exact HB.out | apply below_alloc | apply pw_below_drewN | apply below_drew1) | exact HB.out)))); have n2_ := Aside0.mk (Kd.R_lower ho1 (below_size (by repeat (first | (with_reducible first | exact HB.out | apply below_alloc | apply pw_below_drewN | apply below_drew1) | exact HB.out)))); have n3_ := Aside0.mk (below_step (by repeat (first | (with_reducible first | exact HB.out | apply below_alloc | apply pw_below_drewN | apply below_drew1) | exact HB.out)) hb); clear HO381; clear HB; have HO381 := n0_; have HO384 := n1_; have HO390 := n2_; have HB := n3_; clear n0_ n1_ n2_ n3_; (try clear hb); (try clear hb2); (try clear hk); (try clear hi); (try clear ho0); (try clear ho1)) | ((with_reducible refine gate_dst (N := 6) rfl ?_); (try (refine gate_guard (by rfl) ?_; dsimp only)); refine box_event ?hg (N := 6) ?hd (cs := #[.int .i64 0, .string (⟨#[]⟩ : ByteArray), .string (⟨#[]⟩ : ByteArray), .slice none 0 0, .string (⟨#[]⟩ : ByteArray)]) (t := 32) ?hr ?_; (case hd => rfl); (case hg => rfl); (case hr => first | (go_simp; done) | (go_simp; rfl)); intro gb393 hg w33 hbox hb; have n0_ := Aside0.mk (Kd.R_below (by (with_reducible repeat (first | apply Kd.R_alloc | apply Kd.R_drewN | apply Kd.R_drew)); exact HO381.out) hb); have n1_ := Aside0.mk (Kd.R_below (by (with_reducible repeat (first | apply Kd.R_alloc | apply Kd.R_drewN | apply Kd.R_drew)); exact HO384.out) hb); have n2_ := Aside0.mk (Kd.R_below (by (with_reducible repeat (first | apply Kd.R_alloc | apply Kd.R_drewN | apply Kd.R_drew)); exact HO390.out) hb); have n3_ := Aside0.mk (below_step (by repeat (first | (with_reducible first | exact HB.out | apply below_alloc | apply pw_below_drewN | apply below_drew1) | exact HB.out)) hb); have n4_ := Aside0.mk (hbox); have n5_ := Aside0.mk ((by rw [hg]; exact (below_size (by repeat (first | (with_reducible first | exact HB.out | apply below_alloc | apply pw_below_drewN | apply below_drew1) | exact HB.out))) : w.heap.size ≤ gb393)); have n6_ := Aside0.mk ((by rw [hg]; exact (below_size (by repeat (first | (with_reducible first | exact HB.out | apply below_alloc | apply pw_below_drewN | apply below_drew1) | exact HB.out))) : w.heap.size ≤ gb393)); clear HO381; clear HO384; clear HO390; clear HB; have HO381 := n0_; have HO384 := n1_; have HO390 := n2_; have HB := n3_; have BK393 := n4_; have GW393 := n5_; have GE393 := n6_; clear n0_ n1_ n2_ n3_ n4_ n5_ n6_; clear hb hbox hg; have hcz34_0 : w33.cell? ⟨gb393, 0, none⟩ = some (.int .i64 0) := (blk_cell BK393.out 0).trans rfl; have hcz34_1 : w33.cell? ⟨gb393, 1, none⟩ = some (.string (⟨#[]⟩ : ByteArray)) := (blk_cell BK393.out 1).trans rfl; have hcz34_2 : w33.cell? ⟨gb393, 2, none⟩ = some (.string (⟨#[]⟩ : ByteArray)) := (blk_cell BK393.out 2).trans rfl; have hcz34_3 : w33.cell? ⟨gb393, 3, none⟩ = some (.slice none 0 0) := (blk_cell BK393.out 3).trans rfl; have hcz34_4 : w33.cell? ⟨gb393, 4, none⟩ = some (.string (⟨#[]⟩ : ByteArray)) := (blk_cell BK393.out 4).trans rfl; have hfz34_0 := blk_frozen BK393.out 0; have hfz34_1 := blk_frozen BK393.out 1; have hfz34_2 := blk_frozen BK393.out 2; have hfz34_3 := blk_frozen BK393.out 3; have hfz34_4 := blk_frozen BK393.out 4; obtain ⟨Ao35, co35, eo35⟩ := Kd.R_slice HO390.out; subst eo35))
       go_ret
       exact ⟨by first | rfl | exact congrArg (fun b => Ending.returned (Value.bool b)) (isE_ne _).symm | exact congrArg (fun b => Ending.returned (Value.bool b)) (isE_eq _).symm | (simp only [isE_ne, isE_eq, Bool.not_not]; done) | (simp [errW_none, errW_some] <;> rfl) | (simp [*, errW_none, errW_some] <;> rfl), by repeat (first | (with_reducible first | exact HB.out | apply below_alloc | apply pw_below_drewN | apply below_drew1 | refine below_set ?_ GE393.out) | exact HB.out)⟩
     ·
      rw [if_neg c19] at H
      have c19b0 : (t386.toList == a1.toList && (t387.toList == ([97] : List UInt8))) = false := by simpa using c19
      (try (have c19b1 : decide (t386.toList = a1.toList && (t387.toList == ([97] : List UInt8))) = false := by simpa using c19))
      (try (have c19b2 : (t386.toList == a1.toList && (t387.toList == ([97] : List UInt8))) = false := by simpa using c19))
      (try (have c19b3 : ¬ (t386.toList = a1.toList && (t387.toList == ([97] : List UInt8))) := by simpa using c19))
      clear c19
      obtain rfl := Option.some.inj H
      go_wp2_with (first | ((with_reducible refine gate_dst (N := 33) rfl ?_); (try (refine gate_guard (by rfl) ?_; dsimp only)); refine Kd.R_lit k51 _ 51 ?hg (N := 33) ?hd (xs := ([(⟨(⟨#[120, 109, 108, 110, 115]⟩ : ByteArray), a1⟩ : S51), (⟨(⟨#[98]⟩ : ByteArray), (⟨#[49]⟩ : ByteArray)⟩ : S51)] : List (S51))) (inner := [.string (⟨#[120, 109, 108, 110, 115]⟩ : ByteArray), .string a1, .string (⟨#[98]⟩ : ByteArray), .string (⟨#[49]⟩ : ByteArray)]) (ok := fun _ => True) (okp := fun _ => True) ?hr ?hp (fun _ hk => hk) trivial (Below.refl _ _) (Nat.le_refl _) (by simp) ?_; (case hd => rfl); (case hg => rfl); (case hr => first | (go_simp; done) | (go_simp; rfl)); (case hp => exact (Reps.c2 (show Kd.M k51 _ _ _ (⟨(⟨#[120, 109, 108, 110, 115]⟩ : ByteArray), a1⟩ : S51) [.string (⟨#[120, 109, 108, 110, 115]⟩ : ByteArray), .string a1] from (k51_mkM _ _ _ (⟨(⟨#[120, 109, 108, 110, 115]⟩ : ByteArray), a1⟩ : S51) )) (Reps.c2 (show Kd.M k51 _ _ _ (⟨(⟨#[98]⟩ : ByteArray), (⟨#[49]⟩ : ByteArray)⟩ : S51) [.string (⟨#[98]⟩ : ByteArray), .string (⟨#[49]⟩ : ByteArray)] from (k51_mkM _ _ _ (⟨(⟨#[98]⟩ : ByteArray), (⟨#[49]⟩ : ByteArray)⟩ : S51) )) (Reps.none _ _)))); intro v380 w36 ho37 hb hg_ hnew_; clear hg_ hnew_; (first | rw [← Ny379.out] at ho37 | (simp only [Int.reduceToNat] at ho37; rw [← Ny379.out] at ho37)); have n0_ := Aside0.mk (Kd.R_lower ho37 (below_size (by repeat (first | (with_reducible first | exact HB.out | apply below_alloc | apply pw_below_drewN | apply below_drew1) | exact HB.out)))); have n1_ := Aside0.mk (below_step (by repeat (first | (with_reducible first | exact HB.out | apply below_alloc | apply pw_below_drewN | apply below_drew1) | exact HB.out)) hb); clear HB; have HO381 := n0_; have HB := n1_; clear n0_ n1_; clear hb ho37; obtain ⟨Ao38, co38, eo38⟩ := Kd.R_slice HO381.out; subst eo38) | ((with_reducible refine gate_callee (f := 10) rfl ?_); refine goesL_ (some 35) rfl rfl Try.func10 (by kernel_rfl) rfl #[.slice A0 l0.length c0, .agg #[.string (⟨#[97]⟩ : ByteArray), .slice Ao38 y379.length co38]] rfl (by (try simp only [List.map_toArray, List.map_cons, List.map_nil]); first | done | rfl | (simp only [List.length_drop, List.length_take]; rfl)) ?_; (with_reducible refine (scope_Enter.calls kj2 _ _ l0 (⟨#[97]⟩ : ByteArray) _ _ y379 t382 t385 t386 t387 t388 t391 t392 _ ?side1 ?side2 ?side3 ?side4 A17.out).mono ?_); (case side1 => repeat (first | exact (Kd.C_below HR0.out HB.out) | (with_reducible refine Kd.C_alloc ?_ _) | (with_reducible refine Kd.C_drewN ?_ _) | (with_reducible refine Kd.C_drew ?_))); (case side2 => exact HC0.out); (case side3 => repeat (first | exact (Kd.R_reads' HO381.out).2.2 | (with_reducible refine Kd.C_alloc ?_ _) | (with_reducible refine Kd.C_drewN ?_ _) | (with_reducible refine Kd.C_drew ?_))); (case side4 => exact (Kd.R_reads' HO381.out).2.1); rintro e w39 ⟨v383, v389, rfl, ho0, ho1, hb⟩; refine ⟨_, rfl, ?_⟩; have n0_ := Aside0.mk (Kd.R_below (by (with_reducible repeat (first | apply Kd.R_alloc | apply Kd.R_drewN | apply Kd.R_drew)); exact HO381.out) hb); have n1_ := Aside0.mk (Kd.R_lower ho0 (below_size (by repeat (first | (with_reducible first | exact HB.out | apply below_alloc | apply pw_below_drewN | apply below_drew1) | exact HB.out)))); have n2_ := Aside0.mk (Kd.R_lower ho1 (below_size (by repeat (first | (with_reducible first | exact HB.out | apply below_alloc | apply pw_below_drewN | apply below_drew1) | exact HB.out)))); have n3_ := Aside0.mk (below_step (by repeat (first | (with_reducible first | exact HB.out | apply below_alloc | apply pw_below_drewN | apply below_drew1) | exact HB.out)) hb); clear HO381; clear HB; have HO381 := n0_; have HO384 := n1_; have HO390 := n2_; have HB := n3_; clear n0_ n1_ n2_ n3_; (try clear hb); (try clear hb2); (try clear hk); (try clear hi); (try clear ho0); (try clear ho1)) | ((with_reducible refine gate_dst (N := 6) rfl ?_); (try (refine gate_guard (by rfl) ?_; dsimp only)); refine box_event ?hg (N := 6) ?hd (cs := #[.int .i64 0, .string (⟨#[]⟩ : ByteArray), .string (⟨#[]⟩ : ByteArray), .slice none 0 0, .string (⟨#[]⟩ : ByteArray)]) (t := 32) ?hr ?_; (case hd => rfl); (case hg => rfl); (case hr => first | (go_simp; done) | (go_simp; rfl)); intro gb393 hg w40 hbox hb; have n0_ := Aside0.mk (Kd.R_below (by (with_reducible repeat (first | apply Kd.R_alloc | apply Kd.R_drewN | apply Kd.R_drew)); exact HO381.out) hb); have n1_ := Aside0.mk (Kd.R_below (by (with_reducible repeat (first | apply Kd.R_alloc | apply Kd.R_drewN | apply Kd.R_drew)); exact HO384.out) hb); have n2_ := Aside0.mk (Kd.R_below (by (with_reducible repeat (first | apply Kd.R_alloc | apply Kd.R_drewN | apply Kd.R_drew)); exact HO390.out) hb); have n3_ := Aside0.mk (below_step (by repeat (first | (with_reducible first | exact HB.out | apply below_alloc | apply pw_below_drewN | apply below_drew1) | exact HB.out)) hb); have n4_ := Aside0.mk (hbox); have n5_ := Aside0.mk ((by rw [hg]; exact (below_size (by repeat (first | (with_reducible first | exact HB.out | apply below_alloc | apply pw_below_drewN | apply below_drew1) | exact HB.out))) : w.heap.size ≤ gb393)); have n6_ := Aside0.mk ((by rw [hg]; exact (below_size (by repeat (first | (with_reducible first | exact HB.out | apply below_alloc | apply pw_below_drewN | apply below_drew1) | exact HB.out))) : w.heap.size ≤ gb393)); clear HO381; clear HO384; clear HO390; clear HB; have HO381 := n0_; have HO384 := n1_; have HO390 := n2_; have HB := n3_; have BK393 := n4_; have GW393 := n5_; have GE393 := n6_; clear n0_ n1_ n2_ n3_ n4_ n5_ n6_; clear hb hbox hg; have hcz41_0 : w40.cell? ⟨gb393, 0, none⟩ = some (.int .i64 0) := (blk_cell BK393.out 0).trans rfl; have hcz41_1 : w40.cell? ⟨gb393, 1, none⟩ = some (.string (⟨#[]⟩ : ByteArray)) := (blk_cell BK393.out 1).trans rfl; have hcz41_2 : w40.cell? ⟨gb393, 2, none⟩ = some (.string (⟨#[]⟩ : ByteArray)) := (blk_cell BK393.out 2).trans rfl; have hcz41_3 : w40.cell? ⟨gb393, 3, none⟩ = some (.slice none 0 0) := (blk_cell BK393.out 3).trans rfl; have hcz41_4 : w40.cell? ⟨gb393, 4, none⟩ = some (.string (⟨#[]⟩ : ByteArray)) := (blk_cell BK393.out 4).trans rfl; have hfz41_0 := blk_frozen BK393.out 0; have hfz41_1 := blk_frozen BK393.out 1; have hfz41_2 := blk_frozen BK393.out 2; have hfz41_3 := blk_frozen BK393.out 3; have hfz41_4 := blk_frozen BK393.out 4; obtain ⟨Ao42, co42, eo42⟩ := Kd.R_slice HO390.out; subst eo42))
      go_ret
      exact ⟨by first | rfl | exact congrArg (fun b => Ending.returned (Value.bool b)) (isE_ne _).symm | exact congrArg (fun b => Ending.returned (Value.bool b)) (isE_eq _).symm | (simp only [isE_ne, isE_eq, Bool.not_not]; done) | (simp [errW_none, errW_some] <;> rfl) | (simp [*, errW_none, errW_some] <;> rfl), by repeat (first | (with_reducible first | exact HB.out | apply below_alloc | apply pw_below_drewN | apply below_drew1 | refine below_set ?_ GE393.out) | exact HB.out)⟩
    ·
     rw [if_neg c18] at H
     have c18b0 : (t392 == 0) = false := beq_eq_false_iff_ne.mpr c18
     have c18b1 : (t392 != 0) = true := bne_iff_ne.mpr c18
     obtain rfl := Option.some.inj H
     go_wp2_with (first | ((with_reducible refine gate_dst (N := 33) rfl ?_); (try (refine gate_guard (by rfl) ?_; dsimp only)); refine Kd.R_lit k51 _ 51 ?hg (N := 33) ?hd (xs := ([(⟨(⟨#[120, 109, 108, 110, 115]⟩ : ByteArray), a1⟩ : S51), (⟨(⟨#[98]⟩ : ByteArray), (⟨#[49]⟩ : ByteArray)⟩ : S51)] : List (S51))) (inner := [.string (⟨#[120, 109, 108, 110, 115]⟩ : ByteArray), .string a1, .string (⟨#[98]⟩ : ByteArray), .string (⟨#[49]⟩ : ByteArray)]) (ok := fun _ => True) (okp := fun _ => True) ?hr ?hp (fun _ hk => hk) trivial (Below.refl _ _) (Nat.le_refl _) (by simp) ?_; (case hd => rfl); (case hg => rfl); (case hr => first | (go_simp; done) | (go_simp; rfl)); (case hp => exact (Reps.c2 (show Kd.M k51 _ _ _ (⟨(⟨#[120, 109, 108, 110, 115]⟩ : ByteArray), a1⟩ : S51) [.string (⟨#[120, 109, 108, 110, 115]⟩ : ByteArray), .string a1] from (k51_mkM _ _ _ (⟨(⟨#[120, 109, 108, 110, 115]⟩ : ByteArray), a1⟩ : S51) )) (Reps.c2 (show Kd.M k51 _ _ _ (⟨(⟨#[98]⟩ : ByteArray), (⟨#[49]⟩ : ByteArray)⟩ : S51) [.string (⟨#[98]⟩ : ByteArray), .string (⟨#[49]⟩ : ByteArray)] from (k51_mkM _ _ _ (⟨(⟨#[98]⟩ : ByteArray), (⟨#[49]⟩ : ByteArray)⟩ : S51) )) (Reps.none _ _)))); intro v380 w43 ho44 hb hg_ hnew_; clear hg_ hnew_; (first | rw [← Ny379.out] at ho44 | (simp only [Int.reduceToNat] at ho44; rw [← Ny379.out] at ho44)); have n0_ := Aside0.mk (Kd.R_lower ho44 (below_size (by repeat (first | (with_reducible first | exact HB.out | apply below_alloc | apply pw_below_drewN | apply below_drew1) | exact HB.out)))); have n1_ := Aside0.mk (below_step (by repeat (first | (with_reducible first | exact HB.out | apply below_alloc | apply pw_below_drewN | apply below_drew1) | exact HB.out)) hb); clear HB; have HO381 := n0_; have HB := n1_; clear n0_ n1_; clear hb ho44; obtain ⟨Ao45, co45, eo45⟩ := Kd.R_slice HO381.out; subst eo45) | ((with_reducible refine gate_callee (f := 10) rfl ?_); refine goesL_ (some 35) rfl rfl Try.func10 (by kernel_rfl) rfl #[.slice A0 l0.length c0, .agg #[.string (⟨#[97]⟩ : ByteArray), .slice Ao45 y379.length co45]] rfl (by (try simp only [List.map_toArray, List.map_cons, List.map_nil]); first | done | rfl | (simp only [List.length_drop, List.length_take]; rfl)) ?_; (with_reducible refine (scope_Enter.calls kj2 _ _ l0 (⟨#[97]⟩ : ByteArray) _ _ y379 t382 t385 t386 t387 t388 t391 t392 _ ?side1 ?side2 ?side3 ?side4 A17.out).mono ?_); (case side1 => repeat (first | exact (Kd.C_below HR0.out HB.out) | (with_reducible refine Kd.C_alloc ?_ _) | (with_reducible refine Kd.C_drewN ?_ _) | (with_reducible refine Kd.C_drew ?_))); (case side2 => exact HC0.out); (case side3 => repeat (first | exact (Kd.R_reads' HO381.out).2.2 | (with_reducible refine Kd.C_alloc ?_ _) | (with_reducible refine Kd.C_drewN ?_ _) | (with_reducible refine Kd.C_drew ?_))); (case side4 => exact (Kd.R_reads' HO381.out).2.1); rintro e w46 ⟨v383, v389, rfl, ho0, ho1, hb⟩; refine ⟨_, rfl, ?_⟩; have n0_ := Aside0.mk (Kd.R_below (by (with_reducible repeat (first | apply Kd.R_alloc | apply Kd.R_drewN | apply Kd.R_drew)); exact HO381.out) hb); have n1_ := Aside0.mk (Kd.R_lower ho0 (below_size (by repeat (first | (with_reducible first | exact HB.out | apply below_alloc | apply pw_below_drewN | apply below_drew1) | exact HB.out)))); have n2_ := Aside0.mk (Kd.R_lower ho1 (below_size (by repeat (first | (with_reducible first | exact HB.out | apply below_alloc | apply pw_below_drewN | apply below_drew1) | exact HB.out)))); have n3_ := Aside0.mk (below_step (by repeat (first | (with_reducible first | exact HB.out | apply below_alloc | apply pw_below_drewN | apply below_drew1) | exact HB.out)) hb); clear HO381; clear HB; have HO381 := n0_; have HO384 := n1_; have HO390 := n2_; have HB := n3_; clear n0_ n1_ n2_ n3_; (try clear hb); (try clear hb2); (try clear hk); (try clear hi); (try clear ho0); (try clear ho1)) | ((with_reducible refine gate_dst (N := 6) rfl ?_); (try (refine gate_guard (by rfl) ?_; dsimp only)); refine box_event ?hg (N := 6) ?hd (cs := #[.int .i64 0, .string (⟨#[]⟩ : ByteArray), .string (⟨#[]⟩ : ByteArray), .slice none 0 0, .string (⟨#[]⟩ : ByteArray)]) (t := 32) ?hr ?_; (case hd => rfl); (case hg => rfl); (case hr => first | (go_simp; done) | (go_simp; rfl)); intro gb393 hg w47 hbox hb; have n0_ := Aside0.mk (Kd.R_below (by (with_reducible repeat (first | apply Kd.R_alloc | apply Kd.R_drewN | apply Kd.R_drew)); exact HO381.out) hb); have n1_ := Aside0.mk (Kd.R_below (by (with_reducible repeat (first | apply Kd.R_alloc | apply Kd.R_drewN | apply Kd.R_drew)); exact HO384.out) hb); have n2_ := Aside0.mk (Kd.R_below (by (with_reducible repeat (first | apply Kd.R_alloc | apply Kd.R_drewN | apply Kd.R_drew)); exact HO390.out) hb); have n3_ := Aside0.mk (below_step (by repeat (first | (with_reducible first | exact HB.out | apply below_alloc | apply pw_below_drewN | apply below_drew1) | exact HB.out)) hb); have n4_ := Aside0.mk (hbox); have n5_ := Aside0.mk ((by rw [hg]; exact (below_size (by repeat (first | (with_reducible first | exact HB.out | apply below_alloc | apply pw_below_drewN | apply below_drew1) | exact HB.out))) : w.heap.size ≤ gb393)); have n6_ := Aside0.mk ((by rw [hg]; exact (below_size (by repeat (first | (with_reducible first | exact HB.out | apply below_alloc | apply pw_below_drewN | apply below_drew1) | exact HB.out))) : w.heap.size ≤ gb393)); clear HO381; clear HO384; clear HO390; clear HB; have HO381 := n0_; have HO384 := n1_; have HO390 := n2_; have HB := n3_; have BK393 := n4_; have GW393 := n5_; have GE393 := n6_; clear n0_ n1_ n2_ n3_ n4_ n5_ n6_; clear hb hbox hg; have hcz48_0 : w47.cell? ⟨gb393, 0, none⟩ = some (.int .i64 0) := (blk_cell BK393.out 0).trans rfl; have hcz48_1 : w47.cell? ⟨gb393, 1, none⟩ = some (.string (⟨#[]⟩ : ByteArray)) := (blk_cell BK393.out 1).trans rfl; have hcz48_2 : w47.cell? ⟨gb393, 2, none⟩ = some (.string (⟨#[]⟩ : ByteArray)) := (blk_cell BK393.out 2).trans rfl; have hcz48_3 : w47.cell? ⟨gb393, 3, none⟩ = some (.slice none 0 0) := (blk_cell BK393.out 3).trans rfl; have hcz48_4 : w47.cell? ⟨gb393, 4, none⟩ = some (.string (⟨#[]⟩ : ByteArray)) := (blk_cell BK393.out 4).trans rfl; have hfz48_0 := blk_frozen BK393.out 0; have hfz48_1 := blk_frozen BK393.out 1; have hfz48_2 := blk_frozen BK393.out 2; have hfz48_3 := blk_frozen BK393.out 3; have hfz48_4 := blk_frozen BK393.out 4; obtain ⟨Ao49, co49, eo49⟩ := Kd.R_slice HO390.out; subst eo49))
     go_ret
     exact ⟨by first | rfl | exact congrArg (fun b => Ending.returned (Value.bool b)) (isE_ne _).symm | exact congrArg (fun b => Ending.returned (Value.bool b)) (isE_eq _).symm | (simp only [isE_ne, isE_eq, Bool.not_not]; done) | (simp [errW_none, errW_some] <;> rfl) | (simp [*, errW_none, errW_some] <;> rfl), by repeat (first | (with_reducible first | exact HB.out | apply below_alloc | apply pw_below_drewN | apply below_drew1 | refine below_set ?_ GE393.out) | exact HB.out)⟩

/-- THE ONE PURE STATEMENT of oriellaw07_ScopeAttrs: yours. -/
def oriellaw07_ScopeAttrs.Pure : Prop := ∀ (x0 : List (S44)) (x1 : ByteArray), (x0.length * 32 ≤ 140737488351232) → (∀ y_, y_ ∈ x0 → Fit44 y_) → (x1.size ≤ 140737488351232) → ∃ k, oriellaw07_ScopeAttrs.f k x0 x1 = some true
theorem oriellaw07_ScopeAttrs.walk (P : oriellaw07_ScopeAttrs.Pure) (x0 : List (S44)) (x1 : ByteArray) (A0 : Option Addr) (c0 : Nat) (w : World) (w0 : x0.length * 32 ≤ 140737488351232) (w1 : ∀ y_, y_ ∈ x0 → Fit44 y_) (w2 : x1.size ≤ 140737488351232) (hr0 : Kd.C k44 w A0 x0.length x0) (hc0 : x0.length ≤ c0) :
  Calls Try.prog 6 #[.slice A0 x0.length c0, .string x1] w fun e w' => e = .returned (.bool true) ∧ Below w.heap.size w w' := by
 obtain ⟨k, h⟩ := P x0 x1 w0 w1 w2
 refine (oriellaw07_ScopeAttrs.calls k _ _ x0 x1 true w hr0 hc0 h).mono ?_
 rintro e w' ⟨rfl, hd⟩
 exact ⟨rfl, hd⟩

/-! ### scope_Names: function 18 -/
def scope_Names.l0 : Nat → List (S44) → List (S29) → List ByteArray → Int → Int → Option ((List (S29)) × Int)
 | 0, _, _, _, _, _ => none
 | k + 1, x0, x6, x11, x12, x13 => if x13 < x12 then (if 0 ≤ x13 then (if x13 < (x11.length : Int) then ((scope_resolve.f k x0 (rdOf ByteArray.empty x11 x13) false).bind fun bt396 => (if bt396.2.2 = true then (if x6.length < 4398046511104 then (scope_Names.l0 k x0 (x6 ++ [(⟨bt396.1, bt396.2.1⟩ : S29)]) x11 x12 (wrap64 (x13 + 1))) else (none)) else (some (([] : List (S29)), 9)))) else (none)) else (none)) else (some (x6, 0))
def scope_Names.f (k : Nat) (l0 : List (S44)) (l1 : List ByteArray) : Option ((List (S29)) × Int) := scope_Names.l0 k l0 ([] : List (S29)) l1 (l1.length : Int) 0
theorem scope_Names.mono_l : ∀ k, (∀ y0 y1 y2 y3 y4, LeO (scope_Names.l0 k y0 y1 y2 y3 y4) (scope_Names.l0 (k + 1) y0 y1 y2 y3 y4))
 | 0 => fun _ _ _ _ _ r h => by simp [scope_Names.l0] at h
 | k + 1 => by
  have ih0 := scope_Names.mono_l k
  ·
   intro y0 y1 y2 y3 y4
   unfold scope_Names.l0
   repeat' first
   | (with_reducible exact ih0 _ _ _ _ _)
   | (with_reducible exact scope_resolve.mono _ _ _ _)
   | (with_reducible exact LeO.refl _)
   | (with_reducible exact LeO.none _)
   | (with_reducible refine LeO.ite ?_ ?_)
   | (with_reducible refine LeO.bind ?_ (fun _ => ?_))
   | exact ih0 _ _ _ _ _
   | exact scope_resolve.mono _ _ _ _
   | exact LeO.none _
   | refine LeO.ite ?_ ?_
   | refine LeO.bind ?_ (fun _ => ?_)
theorem scope_Names.mono : ∀ a0 a1 k, LeO (scope_Names.f k a0 a1) (scope_Names.f (k + 1) a0 a1) := by
 intro a0 a1 k
 have ih0 := scope_Names.mono_l k
 unfold scope_Names.f
 repeat' first
   | (with_reducible exact ih0 _ _ _ _ _)
   | (with_reducible exact scope_resolve.mono _ _ _ _)
   | (with_reducible exact LeO.refl _)
   | (with_reducible exact LeO.none _)
   | (with_reducible refine LeO.ite ?_ ?_)
   | (with_reducible refine LeO.bind ?_ (fun _ => ?_))
   | exact ih0 _ _ _ _ _
   | exact scope_resolve.mono _ _ _ _
   | exact LeO.none _
   | refine LeO.ite ?_ ?_
   | refine LeO.bind ?_ (fun _ => ?_)
set_option maxHeartbeats 8000000 in
set_option maxRecDepth 100000 in
theorem scope_Names.calls (k : Nat) (A0 : Option Addr) (c0 : Nat) (l0 : List (S44)) (A1 : Option Addr) (c1 : Nat) (l1 : List ByteArray) (r1 : List (S29)) (r2 : Int) (w : World) (hr0 : Kd.C k44 w A0 l0.length l0) (hc0 : l0.length ≤ c0) (hr1 : Kd.C Kd.string w A1 l1.length l1) (hc1 : l1.length ≤ c1) (h : scope_Names.f k l0 l1 = some (r1, r2)) :
  Calls Try.prog 18 #[.slice A0 l0.length c0, .slice A1 l1.length c1] w fun e w' => ∃ v0_ : Value, e = .returned (.tuple #[v0_, .int .i64 r2]) ∧ Kd.R k29 29 w' w.heap.size (fun _ => True) v0_ r1 ∧ Below w.heap.size w w' := by
 have hu29 := Try.underlying29
 have HR0 := Aside0.mk hr0
 have HC0 := Aside0.mk hc0
 clear hr0 hc0
 have HR1 := Aside0.mk hr1
 have HC1 := Aside0.mk hc1
 clear hr1 hc1
 have HB := Aside0.mk (Below.refl w.heap.size w)
 have H : (scope_Names.l0 k l0 ([] : List (S29)) l1 (l1.length : Int) 0) = some (r1, r2) := h
 clear h
 have H' := Aside0.mk H
 clear H
 go_enter Try.func18, Try.ntmps18
 go_wp2
 go_loopg [6, 13] k (fun kq v6 v13 w' => ∃ (x6_1 : List (S29)) (x13_1 : Int), v13 = .int .i64 x13_1 ∧ Aside0 (scope_Names.l0 kq l0 x6_1 l1 (l1.length : Int) x13_1 = some (r1, r2)) ∧ Aside0 (kq ≤ k) ∧ Aside0 (Kd.R k29 29 w' w.heap.size (fun _ => True) v6 x6_1) ∧ Aside0 (Below w.heap.size w w'))
 case atStart => exact ⟨(([] : List (S29))), (0), (by first | rfl | (simp; done) | (simp [*]; done)), H', ⟨Nat.le_refl _⟩, ⟨by first | exact Kd.R_nil _ _ _ _ _ | exact Kd.N_nil _ _ _ _ _ | exact Kd.V_nil _ _ _ _ _ | exact Kd.Q_nil _ _ _ _ _ | exact Kd.S_nil _ _ _ _ _⟩, ⟨by repeat (first | (with_reducible first | exact HB.out | apply below_alloc | apply pw_below_drewN | apply below_drew1) | exact HB.out)⟩⟩
 case round =>
  clear H'
  try clear c1
  try clear p2
  obtain ⟨x6_1, x13_1, rfl, HA, HK1, HO_6, HB⟩ := hrel
  cases gk with
  | zero => exact absurd HA.out (by simp [scope_Names.l0])
  | succ k1 =>
   have H := HA.out
   clear HA
   simp only [scope_Names.l0] at H
   by_cases c3 : x13_1 < (l1.length : Int)
   ·
    rw [if_pos c3] at H
    have c3b0 : decide (x13_1 < (l1.length : Int)) = true := decide_eq_true c3
    clear c3
    by_cases c4 : 0 ≤ x13_1
    ·
     rw [if_pos c4] at H
     have c4b0 : decide (0 ≤ x13_1) = true := decide_eq_true c4
     clear c4
     by_cases c5 : x13_1 < (l1.length : Int)
     ·
      rw [if_pos c5] at H
      have c5b0 : decide (x13_1 < (l1.length : Int)) = true := decide_eq_true c5
      clear c5
      replace H := Option.bind_eq_some_iff.mp H
      obtain ⟨⟨t396, t397, t398⟩, A60, H⟩ := H
      replace H : (if t398 = true then (if x6_1.length < 4398046511104 then (scope_Names.l0 k1 l0 (x6_1 ++ [(⟨t396, t397⟩ : S29)]) l1 (l1.length : Int) (wrap64 (x13_1 + 1))) else (none)) else (some (([] : List (S29)), 9))) = some (r1, r2) := H
      have A6 := Aside0.mk A60
      clear A60
      by_cases c7 : t398 = true
      ·
       subst c7
       have H1 : (if x6_1.length < 4398046511104 then (scope_Names.l0 k1 l0 (x6_1 ++ [(⟨t396, t397⟩ : S29)]) l1 (l1.length : Int) (wrap64 (x13_1 + 1))) else (none)) = some (r1, r2) := by rw [if_pos rfl] at H; exact H
       clear H
       have H := H1
       clear H1
       by_cases c8 : x6_1.length < 4398046511104
       ·
        rw [if_pos c8] at H
        have LMc8 := Aside0.mk c8
        clear c8
        obtain ⟨y400, hy400⟩ : ∃ y_ : List (S29), y_ = (x6_1 ++ [(⟨t396, t397⟩ : S29)]) := ⟨_, rfl⟩
        replace H : (scope_Names.l0 k1 l0 y400 l1 (l1.length : Int) (wrap64 (x13_1 + 1))) = some (r1, r2) := by first | (rw [hy400]; with_reducible exact H) | (have H2_ := (Option.bind_some _ _).symm.trans H; rw [hy400]; with_reducible exact H2_) | (have H2_ := (Option.bind_some _ _).symm.trans H; with_reducible exact H2_) | with_reducible exact H | (rw [hy400]; exact H) | exact H
        have Ny400 := Aside0.mk hy400
        clear hy400
        have H' := Aside0.mk H
        clear H
        have p395 : 0 ≤ (x13_1 : Int) := of_decide_eq_true (by first | (with_reducible assumption) | assumption)
        have q395 : x13_1 < (l1.length : Int) := of_decide_eq_true (by first | (with_reducible assumption) | assumption)
        obtain ⟨ad395, e395, hx395_0⟩ := Kd.at_string HR1.out x13_1 p395 q395
        cases e395
        replace hx395_0 := (HB.out.cell (World.block_lt_of_cell? w _ hx395_0)).trans hx395_0
        replace p395 := eq_true p395
        replace q395 := eq_true q395
        go_wp2_with (first | ((with_reducible refine gate_callee (f := 25) rfl ?_); refine goesL_ (some 20) rfl rfl Try.func25 (by kernel_rfl) rfl #[.slice A0 l0.length c0, .string (rdOf ByteArray.empty l1 x13_1), .bool false] rfl (by (try simp only [List.map_toArray, List.map_cons, List.map_nil]); first | done | rfl | (simp only [List.length_drop, List.length_take]; rfl)) ?_; (with_reducible refine (scope_resolve.calls k1 _ _ l0 (rdOf ByteArray.empty l1 x13_1) false t396 t397 true _ ?side1 ?side2 A6.out).mono ?_); (case side1 => repeat (first | exact (Kd.C_below HR0.out HB.out) | (with_reducible refine Kd.C_alloc ?_ _) | (with_reducible refine Kd.C_drewN ?_ _) | (with_reducible refine Kd.C_drew ?_))); (case side2 => exact HC0.out); rintro e w9 ⟨rfl, hb⟩; refine ⟨_, rfl, ?_⟩; have n0_ := Aside0.mk (Kd.R_below (by (with_reducible repeat (first | apply Kd.R_alloc | apply Kd.R_drewN | apply Kd.R_drew)); exact HO_6.out) hb); have n1_ := Aside0.mk (below_step (by repeat (first | (with_reducible first | exact HB.out | apply below_alloc | apply pw_below_drewN | apply below_drew1) | exact HB.out)) hb); clear HO_6; clear HB; have HO_6 := n0_; have HB := n1_; clear n0_ n1_; (try clear hb); (try clear hb2); (try clear hk); (try clear hi)) | ((with_reducible refine gate_dst (N := 9) rfl ?_); refine box_event ?hg (N := 9) ?hd (cs := #[.string (⟨#[]⟩ : ByteArray), .string (⟨#[]⟩ : ByteArray)]) (t := 29) ?hr ?_; (case hd => rfl); (case hg => rfl); (case hr => first | (go_simp; done) | (go_simp; rfl)); intro gb399 hg w10 hbox hb; have n0_ := Aside0.mk (Kd.R_below (Kd.R_elderB (by (with_reducible repeat (first | apply Kd.R_alloc | apply Kd.R_drewN | apply Kd.R_drew)); exact HO_6.out) gb399 (Nat.le_of_eq hg.symm)) hb); have n1_ := Aside0.mk (below_step (by repeat (first | (with_reducible first | exact HB.out | apply below_alloc | apply pw_below_drewN | apply below_drew1) | exact HB.out)) hb); have n2_ := Aside0.mk (hbox); have n3_ := Aside0.mk ((by rw [hg]; exact (below_size (by repeat (first | (with_reducible first | exact HB.out | apply below_alloc | apply pw_below_drewN | apply below_drew1) | exact HB.out))) : w.heap.size ≤ gb399)); have n4_ := Aside0.mk ((by rw [hg]; exact (below_size (by repeat (first | (with_reducible first | exact HB.out | apply below_alloc | apply pw_below_drewN | apply below_drew1) | exact HB.out))) : w.heap.size ≤ gb399)); clear HO_6; clear HB; have HO_6 := n0_; have HB := n1_; have BK399 := n2_; have GW399 := n3_; have GE399 := n4_; clear n0_ n1_ n2_ n3_ n4_; clear hb hbox hg; have hcz11_0 : w10.cell? ⟨gb399, 0, none⟩ = some (.string (⟨#[]⟩ : ByteArray)) := (blk_cell BK399.out 0).trans rfl; have hcz11_1 : w10.cell? ⟨gb399, 1, none⟩ = some (.string (⟨#[]⟩ : ByteArray)) := (blk_cell BK399.out 1).trans rfl; have hfz11_0 := blk_frozen BK399.out 0; have hfz11_1 := blk_frozen BK399.out 1) | ((with_reducible refine gate_builtin (b := .append) (xs := #[.tmp 25, .tmp 27]) rfl ?_); at_builtin; refine Kd.R_append k29 (w0 := w) w.heap.size rfl (.tmp 25) (.tmp 27) 53 29 (.agg #[(.string ⟨#[]⟩), (.string ⟨#[]⟩)]) 32 rfl Try.underlying53 info29 rfl (by decide) (by omega) u6 x6_1 (⟨t396, t397⟩ : S29) [.string t396, .string t397] (fun k_ => k_ ≠ gb399) (fun _ => False) rfl (by first | (go_simp; done) | (go_simp; rfl)) ?aP (fun _ hk => hk.elim) ?aF ?aO ?aB ?aS ?aL ?_; (case aP => exact k29_mkM _ _ _ (⟨t396, t397⟩ : S29)); (case aB => exact (by repeat (first | (with_reducible first | exact HB.out | apply below_alloc | apply pw_below_drewN | apply below_drew1 | refine below_set ?_ GE399.out) | exact HB.out))); (case aF => exact (fun k_ hk => Kd.freshB (g := gb399) (o := .cells #[.string t396, .string t397] 29 (0, 0)) (by (with_reducible repeat (first | refine blk_drewN ?_ _ | refine blk_drew ?_ | refine blk_alloc ?_ _)); refine blk_put (cs := #[.string t396, .string (⟨#[]⟩ : ByteArray)]) ?_ 1 _ rfl; (with_reducible repeat (first | refine blk_drewN ?_ _ | refine blk_drew ?_ | refine blk_alloc ?_ _)); refine blk_put (cs := #[.string (⟨#[]⟩ : ByteArray), .string (⟨#[]⟩ : ByteArray)]) ?_ 0 _ rfl; (with_reducible repeat (first | refine blk_drewN ?_ _ | refine blk_drew ?_ | refine blk_alloc ?_ _)); exact BK399.out) k_ hk)); (case aO => exact (by (with_reducible repeat (first | apply Kd.R_alloc | apply Kd.R_drewN | apply Kd.R_drew)); exact Kd.R_mono (Kd.R_far (p := ⟨gb399, 1, none⟩) (Kd.R_far (p := ⟨gb399, 0, none⟩) (Kd.R_mono HO_6.out (fun k_ hk => (⟨hk, hk.2⟩ : _ ∧ k_ ≠ gb399))) (fun _ hk => hk.2) (.string t396)) (fun _ hk => hk.2) (.string t397)) (fun _ hk => hk.1.2))); (case aS => exact (below_size (by repeat (first | (with_reducible first | exact HB.out | apply below_alloc | apply pw_below_drewN | apply below_drew1 | refine below_set ?_ GE399.out) | exact HB.out)))); (case aL => have := LMc8.out; omega); intro v401 w12 ho hb hg hat; rw [← Ny400.out] at ho; have n0_ := Aside0.mk (blk_grown (g := gb399) (o := .cells #[.string t396, .string t397] 29 (0, 0)) (by (with_reducible repeat (first | refine blk_drewN ?_ _ | refine blk_drew ?_ | refine blk_alloc ?_ _)); refine blk_put (cs := #[.string t396, .string (⟨#[]⟩ : ByteArray)]) ?_ 1 _ rfl; (with_reducible repeat (first | refine blk_drewN ?_ _ | refine blk_drew ?_ | refine blk_alloc ?_ _)); refine blk_put (cs := #[.string (⟨#[]⟩ : ByteArray), .string (⟨#[]⟩ : ByteArray)]) ?_ 0 _ rfl; (with_reducible repeat (first | refine blk_drewN ?_ _ | refine blk_drew ?_ | refine blk_alloc ?_ _)); exact BK399.out) hg (Kd.R_away HO_6.out (fun _ hk => hk.2))); have n1_ := Aside0.mk (hb); have n2_ := Aside0.mk (ho); clear BK399; clear HB; clear HO_6; have BK399 := n0_; have HB := n1_; have HO402 := n2_; clear n0_ n1_ n2_; clear ho hb hg hat))
        go_roundg k1
        case measure => have := HK1.out; omega
        case rel => exact ⟨(y400), (wrap64 (x13_1 + 1)), (by first | rfl | (simp; done) | (simp [*]; done)), H', ⟨by have := HK1.out; omega⟩, ⟨by (with_reducible repeat (first | apply Kd.R_alloc | apply Kd.R_drewN | apply Kd.R_drew)); exact Kd.R_mono HO402.out (fun _ hk => trivial)⟩, ⟨by repeat (first | (with_reducible first | exact HB.out | apply below_alloc | apply pw_below_drewN | apply below_drew1 | refine below_set ?_ GE399.out) | exact HB.out)⟩⟩
       ·
        rw [if_neg c8] at H
        exact absurd H (by simp)
      ·
       replace c7 := Bool.eq_false_iff.mpr c7
       subst c7
       have H1 : (some (([] : List (S29)), 9)) = some (r1, r2) := by rw [if_neg (show ¬ (false = true) by decide)] at H; exact H
       clear H
       have H := H1
       clear H1
       simp only [Option.some.injEq, Prod.mk.injEq] at H
       obtain ⟨rfl, rfl⟩ := H
       have p395 : 0 ≤ (x13_1 : Int) := of_decide_eq_true (by first | (with_reducible assumption) | assumption)
       have q395 : x13_1 < (l1.length : Int) := of_decide_eq_true (by first | (with_reducible assumption) | assumption)
       obtain ⟨ad395, e395, hx395_0⟩ := Kd.at_string HR1.out x13_1 p395 q395
       cases e395
       replace hx395_0 := (HB.out.cell (World.block_lt_of_cell? w _ hx395_0)).trans hx395_0
       replace p395 := eq_true p395
       replace q395 := eq_true q395
       go_wp2_with (first | ((with_reducible refine gate_callee (f := 25) rfl ?_); refine goesL_ (some 20) rfl rfl Try.func25 (by kernel_rfl) rfl #[.slice A0 l0.length c0, .string (rdOf ByteArray.empty l1 x13_1), .bool false] rfl (by (try simp only [List.map_toArray, List.map_cons, List.map_nil]); first | done | rfl | (simp only [List.length_drop, List.length_take]; rfl)) ?_; (with_reducible refine (scope_resolve.calls k1 _ _ l0 (rdOf ByteArray.empty l1 x13_1) false t396 t397 false _ ?side1 ?side2 A6.out).mono ?_); (case side1 => repeat (first | exact (Kd.C_below HR0.out HB.out) | (with_reducible refine Kd.C_alloc ?_ _) | (with_reducible refine Kd.C_drewN ?_ _) | (with_reducible refine Kd.C_drew ?_))); (case side2 => exact HC0.out); rintro e w13 ⟨rfl, hb⟩; refine ⟨_, rfl, ?_⟩; have n0_ := Aside0.mk (Kd.R_below (by (with_reducible repeat (first | apply Kd.R_alloc | apply Kd.R_drewN | apply Kd.R_drew)); exact HO_6.out) hb); have n1_ := Aside0.mk (below_step (by repeat (first | (with_reducible first | exact HB.out | apply below_alloc | apply pw_below_drewN | apply below_drew1) | exact HB.out)) hb); clear HO_6; clear HB; have HO_6 := n0_; have HB := n1_; clear n0_ n1_; (try clear hb); (try clear hb2); (try clear hk); (try clear hi)) | ((with_reducible refine gate_dst (N := 9) rfl ?_); refine box_event ?hg (N := 9) ?hd (cs := #[.string (⟨#[]⟩ : ByteArray), .string (⟨#[]⟩ : ByteArray)]) (t := 29) ?hr ?_; (case hd => rfl); (case hg => rfl); (case hr => first | (go_simp; done) | (go_simp; rfl)); intro gb399 hg w14 hbox hb; have n0_ := Aside0.mk (Kd.R_below (Kd.R_elderB (by (with_reducible repeat (first | apply Kd.R_alloc | apply Kd.R_drewN | apply Kd.R_drew)); exact HO_6.out) gb399 (Nat.le_of_eq hg.symm)) hb); have n1_ := Aside0.mk (below_step (by repeat (first | (with_reducible first | exact HB.out | apply below_alloc | apply pw_below_drewN | apply below_drew1) | exact HB.out)) hb); have n2_ := Aside0.mk (hbox); have n3_ := Aside0.mk ((by rw [hg]; exact (below_size (by repeat (first | (with_reducible first | exact HB.out | apply below_alloc | apply pw_below_drewN | apply below_drew1) | exact HB.out))) : w.heap.size ≤ gb399)); have n4_ := Aside0.mk ((by rw [hg]; exact (below_size (by repeat (first | (with_reducible first | exact HB.out | apply below_alloc | apply pw_below_drewN | apply below_drew1) | exact HB.out))) : w.heap.size ≤ gb399)); clear HO_6; clear HB; have HO_6 := n0_; have HB := n1_; have BK399 := n2_; have GW399 := n3_; have GE399 := n4_; clear n0_ n1_ n2_ n3_ n4_; clear hb hbox hg; have hcz15_0 : w14.cell? ⟨gb399, 0, none⟩ = some (.string (⟨#[]⟩ : ByteArray)) := (blk_cell BK399.out 0).trans rfl; have hcz15_1 : w14.cell? ⟨gb399, 1, none⟩ = some (.string (⟨#[]⟩ : ByteArray)) := (blk_cell BK399.out 1).trans rfl; have hfz15_0 := blk_frozen BK399.out 0; have hfz15_1 := blk_frozen BK399.out 1))
       go_ret2
       exact ⟨_, by first | rfl | exact congrArg (fun b => Ending.returned (Value.bool b)) (isE_ne _).symm | exact congrArg (fun b => Ending.returned (Value.bool b)) (isE_eq _).symm | (simp only [isE_ne, isE_eq, Bool.not_not]; done) | (simp [errW_none, errW_some] <;> rfl) | (simp [*, errW_none, errW_some] <;> rfl), by first | exact Kd.R_nil _ _ _ _ _ | exact Kd.N_nil _ _ _ _ _ | exact Kd.V_nil _ _ _ _ _ | exact Kd.Q_nil _ _ _ _ _ | exact Kd.S_nil _ _ _ _ _, by repeat (first | (with_reducible first | exact HB.out | apply below_alloc | apply pw_below_drewN | apply below_drew1 | refine below_set ?_ GE399.out) | exact HB.out)⟩
     ·
      rw [if_neg c5] at H
      exact absurd H (by simp)
    ·
     rw [if_neg c4] at H
     exact absurd H (by simp)
   ·
    rw [if_neg c3] at H
    have c3b0 : decide (x13_1 < (l1.length : Int)) = false := decide_eq_false c3
    clear c3
    simp only [Option.some.injEq, Prod.mk.injEq] at H
    obtain ⟨rfl, rfl⟩ := H
    go_wp2
    go_ret2
    exact ⟨_, by first | rfl | exact congrArg (fun b => Ending.returned (Value.bool b)) (isE_ne _).symm | exact congrArg (fun b => Ending.returned (Value.bool b)) (isE_eq _).symm | (simp only [isE_ne, isE_eq, Bool.not_not]; done) | (simp [errW_none, errW_some] <;> rfl) | (simp [*, errW_none, errW_some] <;> rfl), by (with_reducible repeat (first | apply Kd.R_alloc | apply Kd.R_drewN | apply Kd.R_drew)); exact HO_6.out, by repeat (first | (with_reducible first | exact HB.out | apply below_alloc | apply pw_below_drewN | apply below_drew1) | exact HB.out)⟩

/-! ### oriellaw07_ScopeNames: function 7 -/
mutual
def oriellaw07_ScopeNames.j0 : Nat → List (S44) → ByteArray → ByteArray → Bool → Option (Bool)
 | 0, _, _, _, _ => none
 | k + 1, x0, x1, x2, x31 => if x31 = true then ((oriellaw07_awake.f k).bind fun t404 => (some t404)) else ((scope_Names.f k x0 (([x1, x2] : List ByteArray))).bind fun bt408 => ((orielref07_Resolve.f k x0 x1 true).bind fun bt412 => ((orielref07_Resolve.f k x0 x2 true).bind fun bt416 => ((scope_Names.f k x0 ([] : List ByteArray)).bind fun bt420 => (if bt420.2 = 0 then (oriellaw07_ScopeNames.j1 k bt408.1 bt408.2 bt412.2.2 bt416.2.2 ((bt420.1.length : Int) != 0) bt412.1 bt412.2.1 bt416.1 bt416.2.1) else (oriellaw07_ScopeNames.j1 k bt408.1 bt408.2 bt412.2.2 bt416.2.2 true bt412.1 bt412.2.1 bt416.1 bt416.2.1))))))
def oriellaw07_ScopeNames.j1 : Nat → List (S29) → Int → Bool → Bool → Bool → ByteArray → ByteArray → ByteArray → ByteArray → Option (Bool)
 | 0, _, _, _, _, _, _, _, _, _ => none
 | k + 1, x7, x8, x10, x12, x64, x416000, x416001, x420000, x420001 => if x64 = true then (some false) else (if x10 = true then (if x12 = true then (if x8 = 0 then (if (x7.length : Int) = 2 then (if 0 < (x7.length : Int) then (if ((((rd_T29 x7 0).f0).toList) == x416000.toList && ((((rd_T29 x7 0).f1).toList) == x416001.toList)) = true then (if 1 < (x7.length : Int) then (some ((((rd_T29 x7 1).f0).toList) == x420000.toList && ((((rd_T29 x7 1).f1).toList) == x420001.toList))) else (none)) else (some false)) else (none)) else (some false)) else (some false)) else (if x8 = 9 then (some ((x7.length : Int) == 0)) else (some false))) else (if x8 = 9 then (some ((x7.length : Int) == 0)) else (some false)))
end
def oriellaw07_ScopeNames.f (k : Nat) (l0 : List (S44)) (a1 : ByteArray) (a2 : ByteArray) : Option (Bool) := (oriellaw07_awake.f k).bind fun t403 => (if t403 = true then (if (l0.length : Int) > 60 then (oriellaw07_ScopeNames.j0 k l0 a1 a2 true) else (if (a1.size : Int) > 200 then (oriellaw07_ScopeNames.j0 k l0 a1 a2 true) else (oriellaw07_ScopeNames.j0 k l0 a1 a2 (decide ((a2.size : Int) > 200))))) else (oriellaw07_ScopeNames.j0 k l0 a1 a2 true))
theorem oriellaw07_ScopeNames.mono_l : ∀ k, (∀ y0 y1 y2 y3, LeO (oriellaw07_ScopeNames.j0 k y0 y1 y2 y3) (oriellaw07_ScopeNames.j0 (k + 1) y0 y1 y2 y3)) ∧ (∀ y0 y1 y2 y3 y4 y5 y6 y7 y8, LeO (oriellaw07_ScopeNames.j1 k y0 y1 y2 y3 y4 y5 y6 y7 y8) (oriellaw07_ScopeNames.j1 (k + 1) y0 y1 y2 y3 y4 y5 y6 y7 y8))
 | 0 => ⟨fun _ _ _ _ r h => by simp [oriellaw07_ScopeNames.j0] at h, fun _ _ _ _ _ _ _ _ _ r h => by simp [oriellaw07_ScopeNames.j1] at h⟩
 | k + 1 => by
  obtain ⟨ih0, ih1⟩ := oriellaw07_ScopeNames.mono_l k
  refine ⟨?_, ?_⟩
  ·
   intro y0 y1 y2 y3
   unfold oriellaw07_ScopeNames.j0
   repeat' first
   | (with_reducible exact ih0 _ _ _ _)
   | (with_reducible exact ih1 _ _ _ _ _ _ _ _ _)
   | (with_reducible exact oriellaw07_awake.mono _)
   | (with_reducible exact orielref07_Resolve.mono _ _ _ _)
   | (with_reducible exact scope_Names.mono _ _ _)
   | (with_reducible exact LeO.refl _)
   | (with_reducible exact LeO.none _)
   | (with_reducible refine LeO.ite ?_ ?_)
   | (with_reducible refine LeO.bind ?_ (fun _ => ?_))
   | exact ih0 _ _ _ _
   | exact ih1 _ _ _ _ _ _ _ _ _
   | exact oriellaw07_awake.mono _
   | exact orielref07_Resolve.mono _ _ _ _
   | exact scope_Names.mono _ _ _
   | exact LeO.none _
   | refine LeO.ite ?_ ?_
   | refine LeO.bind ?_ (fun _ => ?_)
  ·
   intro y0 y1 y2 y3 y4 y5 y6 y7 y8
   unfold oriellaw07_ScopeNames.j1
   repeat' first
   | (with_reducible exact ih0 _ _ _ _)
   | (with_reducible exact ih1 _ _ _ _ _ _ _ _ _)
   | (with_reducible exact oriellaw07_awake.mono _)
   | (with_reducible exact orielref07_Resolve.mono _ _ _ _)
   | (with_reducible exact scope_Names.mono _ _ _)
   | (with_reducible exact LeO.refl _)
   | (with_reducible exact LeO.none _)
   | (with_reducible refine LeO.ite ?_ ?_)
   | (with_reducible refine LeO.bind ?_ (fun _ => ?_))
   | exact ih0 _ _ _ _
   | exact ih1 _ _ _ _ _ _ _ _ _
   | exact oriellaw07_awake.mono _
   | exact orielref07_Resolve.mono _ _ _ _
   | exact scope_Names.mono _ _ _
   | exact LeO.none _
   | refine LeO.ite ?_ ?_
   | refine LeO.bind ?_ (fun _ => ?_)
theorem oriellaw07_ScopeNames.mono : ∀ a0 a1 a2 k, LeO (oriellaw07_ScopeNames.f k a0 a1 a2) (oriellaw07_ScopeNames.f (k + 1) a0 a1 a2) := by
 intro a0 a1 a2 k
 obtain ⟨ih0, ih1⟩ := oriellaw07_ScopeNames.mono_l k
 unfold oriellaw07_ScopeNames.f
 repeat' first
   | (with_reducible exact ih0 _ _ _ _)
   | (with_reducible exact ih1 _ _ _ _ _ _ _ _ _)
   | (with_reducible exact oriellaw07_awake.mono _)
   | (with_reducible exact orielref07_Resolve.mono _ _ _ _)
   | (with_reducible exact scope_Names.mono _ _ _)
   | (with_reducible exact LeO.refl _)
   | (with_reducible exact LeO.none _)
   | (with_reducible refine LeO.ite ?_ ?_)
   | (with_reducible refine LeO.bind ?_ (fun _ => ?_))
   | exact ih0 _ _ _ _
   | exact ih1 _ _ _ _ _ _ _ _ _
   | exact oriellaw07_awake.mono _
   | exact orielref07_Resolve.mono _ _ _ _
   | exact scope_Names.mono _ _ _
   | exact LeO.none _
   | refine LeO.ite ?_ ?_
   | refine LeO.bind ?_ (fun _ => ?_)
set_option maxHeartbeats 8000000 in
set_option maxRecDepth 100000 in
theorem oriellaw07_ScopeNames.calls (k : Nat) (A0 : Option Addr) (c0 : Nat) (l0 : List (S44)) (a1 : ByteArray) (a2 : ByteArray) (r : Bool) (w : World) (hr0 : Kd.C k44 w A0 l0.length l0) (hc0 : l0.length ≤ c0) (h : oriellaw07_ScopeNames.f k l0 a1 a2 = some r) :
  Calls Try.prog 7 #[.slice A0 l0.length c0, .string a1, .string a2] w fun e w' => e = .returned (.bool r) ∧ Below w.heap.size w w' := by
 have hu29 := Try.underlying29
 have HR0 := Aside0.mk hr0
 have HC0 := Aside0.mk hc0
 clear hr0 hc0
 have HB := Aside0.mk (Below.refl w.heap.size w)
 have H : ((oriellaw07_awake.f k).bind fun t403 => (if t403 = true then (if (l0.length : Int) > 60 then (oriellaw07_ScopeNames.j0 k l0 a1 a2 true) else (if (a1.size : Int) > 200 then (oriellaw07_ScopeNames.j0 k l0 a1 a2 true) else (oriellaw07_ScopeNames.j0 k l0 a1 a2 (decide ((a2.size : Int) > 200))))) else (oriellaw07_ScopeNames.j0 k l0 a1 a2 true))) = some r := h
 clear h
 have HC4 := Aside0.mk H
 clear H
 go_enter Try.func7, Try.ntmps7
 go_upto_region 1 with (fail)
 repeat (go_quiet (fail); go_upto_region 1 with (fail))
 go_cut [31] (fun v31 wc => ∃ (kq : Nat) (x31_3 : Bool), v31 = .bool x31_3 ∧ Aside0 (oriellaw07_ScopeNames.j0 kq l0 a1 a2 x31_3 = some r) ∧ Aside0 (kq ≤ k) ∧ Aside0 (Below w.heap.size w wc))
 case first =>
  have H := HC4.out
  clear HC4
  replace H := Option.bind_eq_some_iff.mp H
  obtain ⟨t403, A50, H⟩ := H
  replace H : (if t403 = true then (if (l0.length : Int) > 60 then (oriellaw07_ScopeNames.j0 k l0 a1 a2 true) else (if (a1.size : Int) > 200 then (oriellaw07_ScopeNames.j0 k l0 a1 a2 true) else (oriellaw07_ScopeNames.j0 k l0 a1 a2 (decide ((a2.size : Int) > 200))))) else (oriellaw07_ScopeNames.j0 k l0 a1 a2 true)) = some r := H
  have A5 := Aside0.mk A50
  clear A50
  by_cases c6 : t403 = true
  ·
   subst c6
   have H1 : (if (l0.length : Int) > 60 then (oriellaw07_ScopeNames.j0 k l0 a1 a2 true) else (if (a1.size : Int) > 200 then (oriellaw07_ScopeNames.j0 k l0 a1 a2 true) else (oriellaw07_ScopeNames.j0 k l0 a1 a2 (decide ((a2.size : Int) > 200))))) = some r := by rw [if_pos rfl] at H; exact H
   clear H
   have H := H1
   clear H1
   by_cases c7 : (l0.length : Int) > 60
   ·
    rw [if_pos c7] at H
    have c7b0 : decide (60 < (l0.length : Int)) = true := decide_eq_true c7
    have c7b1 : decide (60 < l0.length) = true := decide_eq_true (by omega)
    clear c7
    (first | rw [c7b0] | (simp only [i64_w, i32_w]; rw [c7b0]) | skip)
    have H' := Aside0.mk H
    clear H
    go_wp2_with (first | (go_at_call 8; (with_reducible refine (oriellaw07_awake.calls k  true _ A5.out).mono ?_); rintro e w8 ⟨rfl, hb⟩; have n0_ := Aside0.mk (below_step (by repeat (first | (with_reducible first | exact HB.out | apply below_alloc | apply pw_below_drewN | apply below_drew1) | exact HB.out)) hb); clear HB; have HB := n0_; clear n0_; (try clear hb); (try clear hb2); (try clear hk); (try clear hi)))
    repeat (go_quiet (first | (go_at_call 8; (with_reducible refine (oriellaw07_awake.calls k  true _ A5.out).mono ?_); rintro e w8 ⟨rfl, hb⟩; have n0_ := Aside0.mk (below_step (by repeat (first | (with_reducible first | exact HB.out | apply below_alloc | apply pw_below_drewN | apply below_drew1) | exact HB.out)) hb); clear HB; have HB := n0_; clear n0_; (try clear hb); (try clear hb2); (try clear hk); (try clear hi))); try go_wp2_with (first | (go_at_call 8; (with_reducible refine (oriellaw07_awake.calls k  true _ A5.out).mono ?_); rintro e w8 ⟨rfl, hb⟩; have n0_ := Aside0.mk (below_step (by repeat (first | (with_reducible first | exact HB.out | apply below_alloc | apply pw_below_drewN | apply below_drew1) | exact HB.out)) hb); clear HB; have HB := n0_; clear n0_; (try clear hb); (try clear hb2); (try clear hk); (try clear hi))))
    go_meet
    case rel => exact ⟨_, (true), (by first | rfl | (simp; done) | (simp [*]; done)), H', ⟨by first | omega | exact Nat.le_refl _⟩, ⟨by repeat (first | (with_reducible first | exact HB.out | apply below_alloc | apply pw_below_drewN | apply below_drew1) | exact HB.out)⟩⟩
   ·
    rw [if_neg c7] at H
    have c7b0 : decide (60 < (l0.length : Int)) = false := decide_eq_false c7
    have c7b1 : decide (60 < l0.length) = false := decide_eq_false (by omega)
    clear c7
    (first | rw [c7b0] | (simp only [i64_w, i32_w]; rw [c7b0]) | skip)
    by_cases c9 : (a1.size : Int) > 200
    ·
     rw [if_pos c9] at H
     have c9b0 : decide (200 < (a1.size : Int)) = true := decide_eq_true c9
     have c9b1 : decide (200 < a1.size) = true := decide_eq_true (by omega)
     clear c9
     have H' := Aside0.mk H
     clear H
     go_wp2_with (first | (go_at_call 8; (with_reducible refine (oriellaw07_awake.calls k  true _ A5.out).mono ?_); rintro e w10 ⟨rfl, hb⟩; have n0_ := Aside0.mk (below_step (by repeat (first | (with_reducible first | exact HB.out | apply below_alloc | apply pw_below_drewN | apply below_drew1) | exact HB.out)) hb); clear HB; have HB := n0_; clear n0_; (try clear hb); (try clear hb2); (try clear hk); (try clear hi)))
     repeat (go_quiet (first | (go_at_call 8; (with_reducible refine (oriellaw07_awake.calls k  true _ A5.out).mono ?_); rintro e w10 ⟨rfl, hb⟩; have n0_ := Aside0.mk (below_step (by repeat (first | (with_reducible first | exact HB.out | apply below_alloc | apply pw_below_drewN | apply below_drew1) | exact HB.out)) hb); clear HB; have HB := n0_; clear n0_; (try clear hb); (try clear hb2); (try clear hk); (try clear hi))); try go_wp2_with (first | (go_at_call 8; (with_reducible refine (oriellaw07_awake.calls k  true _ A5.out).mono ?_); rintro e w10 ⟨rfl, hb⟩; have n0_ := Aside0.mk (below_step (by repeat (first | (with_reducible first | exact HB.out | apply below_alloc | apply pw_below_drewN | apply below_drew1) | exact HB.out)) hb); clear HB; have HB := n0_; clear n0_; (try clear hb); (try clear hb2); (try clear hk); (try clear hi))))
     go_meet
     case rel => exact ⟨_, (true), (by first | rfl | (simp; done) | (simp [*]; done)), H', ⟨by first | omega | exact Nat.le_refl _⟩, ⟨by repeat (first | (with_reducible first | exact HB.out | apply below_alloc | apply pw_below_drewN | apply below_drew1) | exact HB.out)⟩⟩
    ·
     rw [if_neg c9] at H
     have c9b0 : decide (200 < (a1.size : Int)) = false := decide_eq_false c9
     have c9b1 : decide (200 < a1.size) = false := decide_eq_false (by omega)
     clear c9
     have H' := Aside0.mk H
     clear H
     go_wp2_with (first | (go_at_call 8; (with_reducible refine (oriellaw07_awake.calls k  true _ A5.out).mono ?_); rintro e w11 ⟨rfl, hb⟩; have n0_ := Aside0.mk (below_step (by repeat (first | (with_reducible first | exact HB.out | apply below_alloc | apply pw_below_drewN | apply below_drew1) | exact HB.out)) hb); clear HB; have HB := n0_; clear n0_; (try clear hb); (try clear hb2); (try clear hk); (try clear hi)))
     repeat (go_quiet (first | (go_at_call 8; (with_reducible refine (oriellaw07_awake.calls k  true _ A5.out).mono ?_); rintro e w11 ⟨rfl, hb⟩; have n0_ := Aside0.mk (below_step (by repeat (first | (with_reducible first | exact HB.out | apply below_alloc | apply pw_below_drewN | apply below_drew1) | exact HB.out)) hb); clear HB; have HB := n0_; clear n0_; (try clear hb); (try clear hb2); (try clear hk); (try clear hi))); try go_wp2_with (first | (go_at_call 8; (with_reducible refine (oriellaw07_awake.calls k  true _ A5.out).mono ?_); rintro e w11 ⟨rfl, hb⟩; have n0_ := Aside0.mk (below_step (by repeat (first | (with_reducible first | exact HB.out | apply below_alloc | apply pw_below_drewN | apply below_drew1) | exact HB.out)) hb); clear HB; have HB := n0_; clear n0_; (try clear hb); (try clear hb2); (try clear hk); (try clear hi))))
     go_meet
     case rel => exact ⟨_, (decide ((a2.size : Int) > 200)), (by first | rfl | (simp; done) | (simp [*]; done)), H', ⟨by first | omega | exact Nat.le_refl _⟩, ⟨by repeat (first | (with_reducible first | exact HB.out | apply below_alloc | apply pw_below_drewN | apply below_drew1) | exact HB.out)⟩⟩
  ·
   replace c6 := Bool.eq_false_iff.mpr c6
   subst c6
   have H1 : (oriellaw07_ScopeNames.j0 k l0 a1 a2 true) = some r := by rw [if_neg (show ¬ (false = true) by decide)] at H; exact H
   clear H
   have H := H1
   clear H1
   have H' := Aside0.mk H
   clear H
   go_wp2_with (first | (go_at_call 8; (with_reducible refine (oriellaw07_awake.calls k  false _ A5.out).mono ?_); rintro e w12 ⟨rfl, hb⟩; have n0_ := Aside0.mk (below_step (by repeat (first | (with_reducible first | exact HB.out | apply below_alloc | apply pw_below_drewN | apply below_drew1) | exact HB.out)) hb); clear HB; have HB := n0_; clear n0_; (try clear hb); (try clear hb2); (try clear hk); (try clear hi)))
   repeat (go_quiet (first | (go_at_call 8; (with_reducible refine (oriellaw07_awake.calls k  false _ A5.out).mono ?_); rintro e w12 ⟨rfl, hb⟩; have n0_ := Aside0.mk (below_step (by repeat (first | (with_reducible first | exact HB.out | apply below_alloc | apply pw_below_drewN | apply below_drew1) | exact HB.out)) hb); clear HB; have HB := n0_; clear n0_; (try clear hb); (try clear hb2); (try clear hk); (try clear hi))); try go_wp2_with (first | (go_at_call 8; (with_reducible refine (oriellaw07_awake.calls k  false _ A5.out).mono ?_); rintro e w12 ⟨rfl, hb⟩; have n0_ := Aside0.mk (below_step (by repeat (first | (with_reducible first | exact HB.out | apply below_alloc | apply pw_below_drewN | apply below_drew1) | exact HB.out)) hb); clear HB; have HB := n0_; clear n0_; (try clear hb); (try clear hb2); (try clear hk); (try clear hi))))
   go_meet
   case rel => exact ⟨_, (true), (by first | rfl | (simp; done) | (simp [*]; done)), H', ⟨by first | omega | exact Nat.le_refl _⟩, ⟨by repeat (first | (with_reducible first | exact HB.out | apply below_alloc | apply pw_below_drewN | apply below_drew1) | exact HB.out)⟩⟩
 case rest =>
  clear HC4
  try clear p2
  try clear c6
  try clear c7
  try clear c7b0
  try clear c7b1
  try clear c9
  try clear c9b0
  try clear c9b1
  obtain ⟨kq, x31_3, rfl, HA, HJ3, HB⟩ := hcut
  cases kq with
  | zero => exact absurd HA.out (by simp [oriellaw07_ScopeNames.j0])
  | succ kj3 =>
   have H := HA.out
   clear HA
   simp only [oriellaw07_ScopeNames.j0] at H
   by_cases c13 : x31_3 = true
   ·
    subst c13
    have H1 : ((oriellaw07_awake.f kj3).bind fun t404 => (some t404)) = some r := by rw [if_pos rfl] at H; exact H
    clear H
    have H := H1
    clear H1
    replace H := Option.bind_eq_some_iff.mp H
    obtain ⟨t404, A140, H⟩ := H
    replace H : (some t404) = some r := H
    have A14 := Aside0.mk A140
    clear A140
    obtain rfl := Option.some.inj H
    go_wp2_with (first | (go_at_call 8; (with_reducible refine (oriellaw07_awake.calls kj3  t404 _ A14.out).mono ?_); rintro e w15 ⟨rfl, hb⟩; have n0_ := Aside0.mk (below_step (by repeat (first | (with_reducible first | exact HB.out | apply below_alloc | apply pw_below_drewN | apply below_drew1) | exact HB.out)) hb); clear HB; have HB := n0_; clear n0_; (try clear hb); (try clear hb2); (try clear hk); (try clear hi)))
    repeat (go_quiet (first | (go_at_call 8; (with_reducible refine (oriellaw07_awake.calls kj3  t404 _ A14.out).mono ?_); rintro e w15 ⟨rfl, hb⟩; have n0_ := Aside0.mk (below_step (by repeat (first | (with_reducible first | exact HB.out | apply below_alloc | apply pw_below_drewN | apply below_drew1) | exact HB.out)) hb); clear HB; have HB := n0_; clear n0_; (try clear hb); (try clear hb2); (try clear hk); (try clear hi))); try go_wp2_with (first | (go_at_call 8; (with_reducible refine (oriellaw07_awake.calls kj3  t404 _ A14.out).mono ?_); rintro e w15 ⟨rfl, hb⟩; have n0_ := Aside0.mk (below_step (by repeat (first | (with_reducible first | exact HB.out | apply below_alloc | apply pw_below_drewN | apply below_drew1) | exact HB.out)) hb); clear HB; have HB := n0_; clear n0_; (try clear hb); (try clear hb2); (try clear hk); (try clear hi))))
    go_ret
    exact ⟨by first | rfl | exact congrArg (fun b => Ending.returned (Value.bool b)) (isE_ne _).symm | exact congrArg (fun b => Ending.returned (Value.bool b)) (isE_eq _).symm | (simp only [isE_ne, isE_eq, Bool.not_not]; done) | (simp [errW_none, errW_some] <;> rfl) | (simp [*, errW_none, errW_some] <;> rfl), by repeat (first | (with_reducible first | exact HB.out | apply below_alloc | apply pw_below_drewN | apply below_drew1) | exact HB.out)⟩
   ·
    replace c13 := Bool.eq_false_iff.mpr c13
    subst c13
    have H1 : ((scope_Names.f kj3 l0 (([a1, a2] : List ByteArray))).bind fun bt408 => ((orielref07_Resolve.f kj3 l0 a1 true).bind fun bt412 => ((orielref07_Resolve.f kj3 l0 a2 true).bind fun bt416 => ((scope_Names.f kj3 l0 ([] : List ByteArray)).bind fun bt420 => (if bt420.2 = 0 then (oriellaw07_ScopeNames.j1 kj3 bt408.1 bt408.2 bt412.2.2 bt416.2.2 ((bt420.1.length : Int) != 0) bt412.1 bt412.2.1 bt416.1 bt416.2.1) else (oriellaw07_ScopeNames.j1 kj3 bt408.1 bt408.2 bt412.2.2 bt416.2.2 true bt412.1 bt412.2.1 bt416.1 bt416.2.1)))))) = some r := by rw [if_neg (show ¬ (false = true) by decide)] at H; exact H
    clear H
    have H := H1
    clear H1
    obtain ⟨y405, hy405⟩ : ∃ y_ : List ByteArray, y_ = (([a1, a2] : List ByteArray)) := ⟨_, rfl⟩
    replace H : ((scope_Names.f kj3 l0 y405).bind fun bt408 => ((orielref07_Resolve.f kj3 l0 a1 true).bind fun bt412 => ((orielref07_Resolve.f kj3 l0 a2 true).bind fun bt416 => ((scope_Names.f kj3 l0 ([] : List ByteArray)).bind fun bt420 => (if bt420.2 = 0 then (oriellaw07_ScopeNames.j1 kj3 bt408.1 bt408.2 bt412.2.2 bt416.2.2 ((bt420.1.length : Int) != 0) bt412.1 bt412.2.1 bt416.1 bt416.2.1) else (oriellaw07_ScopeNames.j1 kj3 bt408.1 bt408.2 bt412.2.2 bt416.2.2 true bt412.1 bt412.2.1 bt416.1 bt416.2.1)))))) = some r := by first | (rw [hy405]; with_reducible exact H) | (have H2_ := (Option.bind_some _ _).symm.trans H; rw [hy405]; with_reducible exact H2_) | (have H2_ := (Option.bind_some _ _).symm.trans H; with_reducible exact H2_) | with_reducible exact H | (rw [hy405]; exact H) | exact H
    have Ny405 := Aside0.mk hy405
    clear hy405
    replace H := Option.bind_eq_some_iff.mp H
    obtain ⟨⟨t408, t409⟩, A160, H⟩ := H
    replace H : ((orielref07_Resolve.f kj3 l0 a1 true).bind fun bt412 => ((orielref07_Resolve.f kj3 l0 a2 true).bind fun bt416 => ((scope_Names.f kj3 l0 ([] : List ByteArray)).bind fun bt420 => (if bt420.2 = 0 then (oriellaw07_ScopeNames.j1 kj3 t408 t409 bt412.2.2 bt416.2.2 ((bt420.1.length : Int) != 0) bt412.1 bt412.2.1 bt416.1 bt416.2.1) else (oriellaw07_ScopeNames.j1 kj3 t408 t409 bt412.2.2 bt416.2.2 true bt412.1 bt412.2.1 bt416.1 bt416.2.1))))) = some r := H
    have A16 := Aside0.mk A160
    clear A160
    replace H := Option.bind_eq_some_iff.mp H
    obtain ⟨⟨t412, t413, t414⟩, A170, H⟩ := H
    replace H : ((orielref07_Resolve.f kj3 l0 a2 true).bind fun bt416 => ((scope_Names.f kj3 l0 ([] : List ByteArray)).bind fun bt420 => (if bt420.2 = 0 then (oriellaw07_ScopeNames.j1 kj3 t408 t409 t414 bt416.2.2 ((bt420.1.length : Int) != 0) t412 t413 bt416.1 bt416.2.1) else (oriellaw07_ScopeNames.j1 kj3 t408 t409 t414 bt416.2.2 true t412 t413 bt416.1 bt416.2.1)))) = some r := H
    have A17 := Aside0.mk A170
    clear A170
    replace H := Option.bind_eq_some_iff.mp H
    obtain ⟨⟨t416, t417, t418⟩, A180, H⟩ := H
    replace H : ((scope_Names.f kj3 l0 ([] : List ByteArray)).bind fun bt420 => (if bt420.2 = 0 then (oriellaw07_ScopeNames.j1 kj3 t408 t409 t414 t418 ((bt420.1.length : Int) != 0) t412 t413 t416 t417) else (oriellaw07_ScopeNames.j1 kj3 t408 t409 t414 t418 true t412 t413 t416 t417))) = some r := H
    have A18 := Aside0.mk A180
    clear A180
    replace H := Option.bind_eq_some_iff.mp H
    obtain ⟨⟨t420, t421⟩, A190, H⟩ := H
    replace H : (if t421 = 0 then (oriellaw07_ScopeNames.j1 kj3 t408 t409 t414 t418 ((t420.length : Int) != 0) t412 t413 t416 t417) else (oriellaw07_ScopeNames.j1 kj3 t408 t409 t414 t418 true t412 t413 t416 t417)) = some r := H
    have A19 := Aside0.mk A190
    clear A190
    have HC20 := Aside0.mk H
    clear H
    go_upto_region 7 with (first | ((with_reducible refine gate_dst (N := 37) rfl ?_); (try (refine gate_guard (by rfl) ?_; dsimp only)); refine Kd.R_lit Kd.string _ 9 ?hg (N := 37) ?hd (xs := ([a1, a2] : List ByteArray)) (inner := [.string a1, .string a2]) (ok := fun _ => True) (okp := fun _ => True) ?hr ?hp (fun _ hk => hk) trivial (Below.refl _ _) (Nat.le_refl _) (by simp) ?_; (case hd => rfl); (case hg => rfl); (case hr => first | (go_simp; done) | (go_simp; rfl)); (case hp => exact (Reps.one (show Kd.M Kd.string _ _ _ a1 [.string a1] from rfl) (Reps.one (show Kd.M Kd.string _ _ _ a2 [.string a2] from rfl) (Reps.none _ _)))); intro v406 w21 ho22 hb hg_ hnew_; clear hg_ hnew_; (first | rw [← Ny405.out] at ho22 | (simp only [Int.reduceToNat] at ho22; rw [← Ny405.out] at ho22)); have n0_ := Aside0.mk (Kd.R_lower ho22 (below_size (by repeat (first | (with_reducible first | exact HB.out | apply below_alloc | apply pw_below_drewN | apply below_drew1) | exact HB.out)))); have n1_ := Aside0.mk (below_step (by repeat (first | (with_reducible first | exact HB.out | apply below_alloc | apply pw_below_drewN | apply below_drew1) | exact HB.out)) hb); clear HB; have HO407 := n0_; have HB := n1_; clear n0_ n1_; clear hb ho22; obtain ⟨Ao23, co23, eo23⟩ := Kd.R_slice HO407.out; subst eo23) | (go_at_call 18; (with_reducible refine (scope_Names.calls kj3 _ _ l0 _ _ y405 t408 t409 _ ?side1 ?side2 ?side3 ?side4 A16.out).mono ?_); (case side1 => repeat (first | exact (Kd.C_below HR0.out HB.out) | (with_reducible refine Kd.C_alloc ?_ _) | (with_reducible refine Kd.C_drewN ?_ _) | (with_reducible refine Kd.C_drew ?_))); (case side2 => exact HC0.out); (case side3 => repeat (first | exact (Kd.R_reads' HO407.out).2.2 | (with_reducible refine Kd.C_alloc ?_ _) | (with_reducible refine Kd.C_drewN ?_ _) | (with_reducible refine Kd.C_drew ?_))); (case side4 => exact (Kd.R_reads' HO407.out).2.1); rintro e w24 ⟨v410, rfl, ho0, hb⟩; have n0_ := Aside0.mk (Kd.R_below (by (with_reducible repeat (first | apply Kd.R_alloc | apply Kd.R_drewN | apply Kd.R_drew)); exact HO407.out) hb); have n1_ := Aside0.mk (Kd.R_lower ho0 (below_size (by repeat (first | (with_reducible first | exact HB.out | apply below_alloc | apply pw_below_drewN | apply below_drew1) | exact HB.out)))); have n2_ := Aside0.mk (below_step (by repeat (first | (with_reducible first | exact HB.out | apply below_alloc | apply pw_below_drewN | apply below_drew1) | exact HB.out)) hb); clear HO407; clear HB; have HO407 := n0_; have HO411 := n1_; have HB := n2_; clear n0_ n1_ n2_; (try clear hb); (try clear hb2); (try clear hk); (try clear hi); (try clear ho0)) | (go_at_call 19; (with_reducible refine (orielref07_Resolve.calls kj3 _ _ l0 a1 true t412 t413 t414 _ ?side1 ?side2 A17.out).mono ?_); (case side1 => repeat (first | exact (Kd.C_below HR0.out HB.out) | (with_reducible refine Kd.C_alloc ?_ _) | (with_reducible refine Kd.C_drewN ?_ _) | (with_reducible refine Kd.C_drew ?_))); (case side2 => exact HC0.out); rintro e w25 ⟨rfl, hb⟩; have n0_ := Aside0.mk (Kd.R_below (by (with_reducible repeat (first | apply Kd.R_alloc | apply Kd.R_drewN | apply Kd.R_drew)); exact HO407.out) hb); have n1_ := Aside0.mk (Kd.R_below (by (with_reducible repeat (first | apply Kd.R_alloc | apply Kd.R_drewN | apply Kd.R_drew)); exact HO411.out) hb); have n2_ := Aside0.mk (below_step (by repeat (first | (with_reducible first | exact HB.out | apply below_alloc | apply pw_below_drewN | apply below_drew1) | exact HB.out)) hb); clear HO407; clear HO411; clear HB; have HO407 := n0_; have HO411 := n1_; have HB := n2_; clear n0_ n1_ n2_; (try clear hb); (try clear hb2); (try clear hk); (try clear hi)) | ((with_reducible refine gate_dst (N := 9) rfl ?_); (try (refine gate_guard (by rfl) ?_; dsimp only)); refine box_event ?hg (N := 9) ?hd (cs := #[.string (⟨#[]⟩ : ByteArray), .string (⟨#[]⟩ : ByteArray)]) (t := 29) ?hr ?_; (case hd => rfl); (case hg => rfl); (case hr => first | (go_simp; done) | (go_simp; rfl)); intro gb415 hg w26 hbox hb; have n0_ := Aside0.mk (Kd.R_below (by (with_reducible repeat (first | apply Kd.R_alloc | apply Kd.R_drewN | apply Kd.R_drew)); exact HO407.out) hb); have n1_ := Aside0.mk (Kd.R_below (Kd.R_elderB (by (with_reducible repeat (first | apply Kd.R_alloc | apply Kd.R_drewN | apply Kd.R_drew)); exact HO411.out) gb415 (Nat.le_of_eq hg.symm)) hb); have n2_ := Aside0.mk (below_step (by repeat (first | (with_reducible first | exact HB.out | apply below_alloc | apply pw_below_drewN | apply below_drew1) | exact HB.out)) hb); have n3_ := Aside0.mk (hbox); have n4_ := Aside0.mk ((by rw [hg]; exact (below_size (by repeat (first | (with_reducible first | exact HB.out | apply below_alloc | apply pw_below_drewN | apply below_drew1) | exact HB.out))) : w.heap.size ≤ gb415)); have n5_ := Aside0.mk ((by rw [hg]; exact (below_size (by repeat (first | (with_reducible first | exact HB.out | apply below_alloc | apply pw_below_drewN | apply below_drew1) | exact HB.out))) : w.heap.size ≤ gb415)); clear HO407; clear HO411; clear HB; have HO407 := n0_; have HO411 := n1_; have HB := n2_; have BK415 := n3_; have GW415 := n4_; have GE415 := n5_; clear n0_ n1_ n2_ n3_ n4_ n5_; clear hb hbox hg; have hcz27_0 : w26.cell? ⟨gb415, 0, none⟩ = some (.string (⟨#[]⟩ : ByteArray)) := (blk_cell BK415.out 0).trans rfl; have hcz27_1 : w26.cell? ⟨gb415, 1, none⟩ = some (.string (⟨#[]⟩ : ByteArray)) := (blk_cell BK415.out 1).trans rfl; have hfz27_0 := blk_frozen BK415.out 0; have hfz27_1 := blk_frozen BK415.out 1) | (go_at_call 19; (with_reducible refine (orielref07_Resolve.calls kj3 _ _ l0 a2 true t416 t417 t418 _ ?side1 ?side2 A18.out).mono ?_); (case side1 => exact Kd.C_below HR0.out (by repeat (first | (with_reducible first | exact HB.out | apply below_alloc | apply pw_below_drewN | apply below_drew1 | refine below_set ?_ GE415.out) | exact HB.out))); (case side2 => exact HC0.out); rintro e w28 ⟨rfl, hb⟩; have n0_ := Aside0.mk (Kd.R_below (by (with_reducible repeat (first | apply Kd.R_alloc | apply Kd.R_drewN | apply Kd.R_drew)); exact (Kd.R_mono (Kd.R_far (p := ⟨gb415, 1, none⟩) (Kd.R_far (p := ⟨gb415, 0, none⟩) (Kd.R_types HO407.out BK415.out (by decide)) (fun _ hk => hk.2) (.string t412)) (fun _ hk => hk.2) (.string t413)) (fun _ h_ => h_.1))) hb); have n1_ := Aside0.mk (Kd.R_below (by (with_reducible repeat (first | apply Kd.R_alloc | apply Kd.R_drewN | apply Kd.R_drew)); exact (Kd.R_mono (Kd.R_far (p := ⟨gb415, 1, none⟩) (Kd.R_far (p := ⟨gb415, 0, none⟩) (Kd.R_mono HO411.out (fun k_ hk => (⟨hk, hk.2⟩ : _ ∧ k_ ≠ gb415))) (fun _ hk => hk.2) (.string t412)) (fun _ hk => hk.2) (.string t413)) (fun _ h_ => h_.1))) hb); have n2_ := Aside0.mk (blk_below (g := gb415) (o := .cells #[.string t412, .string t413] 29 (0, 0)) (by (with_reducible repeat (first | refine blk_drewN ?_ _ | refine blk_drew ?_ | refine blk_alloc ?_ _)); refine blk_put (cs := #[.string t412, .string (⟨#[]⟩ : ByteArray)]) ?_ 1 _ rfl; (with_reducible repeat (first | refine blk_drewN ?_ _ | refine blk_drew ?_ | refine blk_alloc ?_ _)); refine blk_put (cs := #[.string (⟨#[]⟩ : ByteArray), .string (⟨#[]⟩ : ByteArray)]) ?_ 0 _ rfl; (with_reducible repeat (first | refine blk_drewN ?_ _ | refine blk_drew ?_ | refine blk_alloc ?_ _)); exact BK415.out) hb); have n3_ := Aside0.mk (below_step (by repeat (first | (with_reducible first | exact HB.out | apply below_alloc | apply pw_below_drewN | apply below_drew1 | refine below_set ?_ GE415.out) | exact HB.out)) hb); clear HO407; clear HO411; clear BK415; clear HB; have HO407 := n0_; have HO411 := n1_; have BK415 := n2_; have HB := n3_; clear n0_ n1_ n2_ n3_; (try clear hb); (try clear hb2); (try clear hk); (try clear hi)) | ((with_reducible refine gate_dst (N := 11) rfl ?_); (try (refine gate_guard (by rfl) ?_; dsimp only)); refine box_event ?hg (N := 11) ?hd (cs := #[.string (⟨#[]⟩ : ByteArray), .string (⟨#[]⟩ : ByteArray)]) (t := 29) ?hr ?_; (case hd => rfl); (case hg => rfl); (case hr => first | (go_simp; done) | (go_simp; rfl)); intro gb419 hg w29 hbox hb; have n0_ := Aside0.mk (Kd.R_below (by (with_reducible repeat (first | apply Kd.R_alloc | apply Kd.R_drewN | apply Kd.R_drew)); exact HO407.out) hb); have n1_ := Aside0.mk (Kd.R_below (Kd.R_elderB (by (with_reducible repeat (first | apply Kd.R_alloc | apply Kd.R_drewN | apply Kd.R_drew)); exact HO411.out) gb419 (Nat.le_of_eq hg.symm)) hb); have n2_ := Aside0.mk (blk_below (g := gb415) (o := .cells #[.string t412, .string t413] 29 (0, 0)) (by (with_reducible repeat (first | refine blk_drewN ?_ _ | refine blk_drew ?_ | refine blk_alloc ?_ _)); exact BK415.out) hb); have n3_ := Aside0.mk (below_step (by repeat (first | (with_reducible first | exact HB.out | apply below_alloc | apply pw_below_drewN | apply below_drew1 | refine below_set ?_ GE415.out) | exact HB.out)) hb); have n4_ := Aside0.mk (hbox); have n5_ := Aside0.mk ((by rw [hg]; exact (below_size (by repeat (first | (with_reducible first | exact HB.out | apply below_alloc | apply pw_below_drewN | apply below_drew1 | refine below_set ?_ GE415.out) | exact HB.out))) : w.heap.size ≤ gb419)); have n6_ := Aside0.mk ((by rw [hg]; exact (below_size (by repeat (first | (with_reducible first | exact HB.out | apply below_alloc | apply pw_below_drewN | apply below_drew1 | refine below_set ?_ GE415.out) | exact HB.out))) : w.heap.size ≤ gb419)); have n7_ := Aside0.mk ((by rw [hg]; exact Nat.ne_of_lt (blk_lt (g := gb415) (o := .cells #[.string t412, .string t413] 29 (0, 0)) (by (with_reducible repeat (first | refine blk_drewN ?_ _ | refine blk_drew ?_ | refine blk_alloc ?_ _)); exact BK415.out)) : gb415 ≠ gb419)); have n8_ := Aside0.mk ((by rw [hg]; exact Nat.ne_of_gt (blk_lt (g := gb415) (o := .cells #[.string t412, .string t413] 29 (0, 0)) (by (with_reducible repeat (first | refine blk_drewN ?_ _ | refine blk_drew ?_ | refine blk_alloc ?_ _)); exact BK415.out)) : gb419 ≠ gb415)); clear HO407; clear HO411; clear BK415; clear HB; have HO407 := n0_; have HO411 := n1_; have BK415 := n2_; have HB := n3_; have BK419 := n4_; have GW419 := n5_; have GE419 := n6_; have NB415_419 := n7_; have NB419_415 := n8_; clear n0_ n1_ n2_ n3_ n4_ n5_ n6_ n7_ n8_; clear hb hbox hg; have hnb30 := NB419_415.out; have hnc30 := NB415_419.out; have hcz31_0 : w29.cell? ⟨gb419, 0, none⟩ = some (.string (⟨#[]⟩ : ByteArray)) := (blk_cell BK419.out 0).trans rfl; have hcz31_1 : w29.cell? ⟨gb419, 1, none⟩ = some (.string (⟨#[]⟩ : ByteArray)) := (blk_cell BK419.out 1).trans rfl; have hfz31_0 := blk_frozen BK419.out 0; have hfz31_1 := blk_frozen BK419.out 1) | (go_at_call 18; (refine (scope_Names.calls kj3 _ _ l0 _ _ ([] : List ByteArray) t420 t421 _ ?side1 ?side2 ?side3 ?side4 A19.out).mono ?_); (case side1 => exact Kd.C_below HR0.out (by repeat (first | (with_reducible first | exact HB.out | apply below_alloc | apply pw_below_drewN | apply below_drew1 | refine below_set ?_ GE415.out | refine below_set ?_ GE419.out) | exact HB.out))); (case side2 => exact HC0.out); (case side3 => exact Kd.C_nil _ _); (case side4 => exact Nat.le_refl _); rintro e w32 ⟨v422, rfl, ho0, hb⟩; have n0_ := Aside0.mk (Kd.R_below (by (with_reducible repeat (first | apply Kd.R_alloc | apply Kd.R_drewN | apply Kd.R_drew)); exact (Kd.R_mono (Kd.R_far (p := ⟨gb419, 1, none⟩) (Kd.R_far (p := ⟨gb419, 0, none⟩) (Kd.R_types HO407.out BK419.out (by decide)) (fun _ hk => hk.2) (.string t416)) (fun _ hk => hk.2) (.string t417)) (fun _ h_ => h_.1))) hb); have n1_ := Aside0.mk (Kd.R_elder' (by (with_reducible repeat (first | apply Kd.R_alloc | apply Kd.R_drewN | apply Kd.R_drew)); exact (Kd.R_mono (Kd.R_far (p := ⟨gb419, 1, none⟩) (Kd.R_far (p := ⟨gb419, 0, none⟩) (Kd.R_mono HO411.out (fun k_ hk => (⟨hk, hk.2⟩ : _ ∧ k_ ≠ gb419))) (fun _ hk => hk.2) (.string t416)) (fun _ hk => hk.2) (.string t417)) (fun _ h_ => h_.1))) (Kd.R_base ho0) hb); have n2_ := Aside0.mk (Kd.R_lower (Kd.R_newB (Kd.R_newB (Kd.R_new' ho0 (Kd.R_lt (by (with_reducible repeat (first | apply Kd.R_alloc | apply Kd.R_drewN | apply Kd.R_drew)); exact (Kd.R_mono (Kd.R_far (p := ⟨gb419, 1, none⟩) (Kd.R_far (p := ⟨gb419, 0, none⟩) (Kd.R_mono HO411.out (fun k_ hk => (⟨hk, hk.2⟩ : _ ∧ k_ ≠ gb419))) (fun _ hk => hk.2) (.string t416)) (fun _ hk => hk.2) (.string t417)) (fun _ h_ => h_.1))))) (g := gb415) (o := .cells #[.string t412, .string t413] 29 (0, 0)) (by (with_reducible repeat (first | refine blk_drewN ?_ _ | refine blk_drew ?_ | refine blk_alloc ?_ _)); refine blk_far ?_ NB415_419.out _; (with_reducible repeat (first | refine blk_drewN ?_ _ | refine blk_drew ?_ | refine blk_alloc ?_ _)); refine blk_far ?_ NB415_419.out _; (with_reducible repeat (first | refine blk_drewN ?_ _ | refine blk_drew ?_ | refine blk_alloc ?_ _)); exact BK415.out)) (g := gb419) (o := .cells #[.string t416, .string t417] 29 (0, 0)) (by (with_reducible repeat (first | refine blk_drewN ?_ _ | refine blk_drew ?_ | refine blk_alloc ?_ _)); refine blk_put (cs := #[.string t416, .string (⟨#[]⟩ : ByteArray)]) ?_ 1 _ rfl; (with_reducible repeat (first | refine blk_drewN ?_ _ | refine blk_drew ?_ | refine blk_alloc ?_ _)); refine blk_put (cs := #[.string (⟨#[]⟩ : ByteArray), .string (⟨#[]⟩ : ByteArray)]) ?_ 0 _ rfl; (with_reducible repeat (first | refine blk_drewN ?_ _ | refine blk_drew ?_ | refine blk_alloc ?_ _)); exact BK419.out)) (below_size (by repeat (first | (with_reducible first | exact HB.out | apply below_alloc | apply pw_below_drewN | apply below_drew1 | refine below_set ?_ GE415.out | refine below_set ?_ GE419.out) | exact HB.out)))); have n3_ := Aside0.mk (blk_below (g := gb415) (o := .cells #[.string t412, .string t413] 29 (0, 0)) (by (with_reducible repeat (first | refine blk_drewN ?_ _ | refine blk_drew ?_ | refine blk_alloc ?_ _)); refine blk_far ?_ NB415_419.out _; (with_reducible repeat (first | refine blk_drewN ?_ _ | refine blk_drew ?_ | refine blk_alloc ?_ _)); refine blk_far ?_ NB415_419.out _; (with_reducible repeat (first | refine blk_drewN ?_ _ | refine blk_drew ?_ | refine blk_alloc ?_ _)); exact BK415.out) hb); have n4_ := Aside0.mk (blk_below (g := gb419) (o := .cells #[.string t416, .string t417] 29 (0, 0)) (by (with_reducible repeat (first | refine blk_drewN ?_ _ | refine blk_drew ?_ | refine blk_alloc ?_ _)); refine blk_put (cs := #[.string t416, .string (⟨#[]⟩ : ByteArray)]) ?_ 1 _ rfl; (with_reducible repeat (first | refine blk_drewN ?_ _ | refine blk_drew ?_ | refine blk_alloc ?_ _)); refine blk_put (cs := #[.string (⟨#[]⟩ : ByteArray), .string (⟨#[]⟩ : ByteArray)]) ?_ 0 _ rfl; (with_reducible repeat (first | refine blk_drewN ?_ _ | refine blk_drew ?_ | refine blk_alloc ?_ _)); exact BK419.out) hb); have n5_ := Aside0.mk (below_step (by repeat (first | (with_reducible first | exact HB.out | apply below_alloc | apply pw_below_drewN | apply below_drew1 | refine below_set ?_ GE415.out | refine below_set ?_ GE419.out) | exact HB.out)) hb); clear HO407; clear HO411; clear BK415; clear BK419; clear HB; have HO407 := n0_; have HO411 := n1_; have HO423 := n2_; have BK415 := n3_; have BK419 := n4_; have HB := n5_; clear n0_ n1_ n2_ n3_ n4_ n5_; (try clear hb); (try clear hb2); (try clear hk); (try clear hi); (try clear ho0)))
    repeat (go_quiet (first | ((with_reducible refine gate_dst (N := 37) rfl ?_); (try (refine gate_guard (by rfl) ?_; dsimp only)); refine Kd.R_lit Kd.string _ 9 ?hg (N := 37) ?hd (xs := ([a1, a2] : List ByteArray)) (inner := [.string a1, .string a2]) (ok := fun _ => True) (okp := fun _ => True) ?hr ?hp (fun _ hk => hk) trivial (Below.refl _ _) (Nat.le_refl _) (by simp) ?_; (case hd => rfl); (case hg => rfl); (case hr => first | (go_simp; done) | (go_simp; rfl)); (case hp => exact (Reps.one (show Kd.M Kd.string _ _ _ a1 [.string a1] from rfl) (Reps.one (show Kd.M Kd.string _ _ _ a2 [.string a2] from rfl) (Reps.none _ _)))); intro v406 w21 ho22 hb hg_ hnew_; clear hg_ hnew_; (first | rw [← Ny405.out] at ho22 | (simp only [Int.reduceToNat] at ho22; rw [← Ny405.out] at ho22)); have n0_ := Aside0.mk (Kd.R_lower ho22 (below_size (by repeat (first | (with_reducible first | exact HB.out | apply below_alloc | apply pw_below_drewN | apply below_drew1) | exact HB.out)))); have n1_ := Aside0.mk (below_step (by repeat (first | (with_reducible first | exact HB.out | apply below_alloc | apply pw_below_drewN | apply below_drew1) | exact HB.out)) hb); clear HB; have HO407 := n0_; have HB := n1_; clear n0_ n1_; clear hb ho22; obtain ⟨Ao23, co23, eo23⟩ := Kd.R_slice HO407.out; subst eo23) | (go_at_call 18; (with_reducible refine (scope_Names.calls kj3 _ _ l0 _ _ y405 t408 t409 _ ?side1 ?side2 ?side3 ?side4 A16.out).mono ?_); (case side1 => repeat (first | exact (Kd.C_below HR0.out HB.out) | (with_reducible refine Kd.C_alloc ?_ _) | (with_reducible refine Kd.C_drewN ?_ _) | (with_reducible refine Kd.C_drew ?_))); (case side2 => exact HC0.out); (case side3 => repeat (first | exact (Kd.R_reads' HO407.out).2.2 | (with_reducible refine Kd.C_alloc ?_ _) | (with_reducible refine Kd.C_drewN ?_ _) | (with_reducible refine Kd.C_drew ?_))); (case side4 => exact (Kd.R_reads' HO407.out).2.1); rintro e w24 ⟨v410, rfl, ho0, hb⟩; have n0_ := Aside0.mk (Kd.R_below (by (with_reducible repeat (first | apply Kd.R_alloc | apply Kd.R_drewN | apply Kd.R_drew)); exact HO407.out) hb); have n1_ := Aside0.mk (Kd.R_lower ho0 (below_size (by repeat (first | (with_reducible first | exact HB.out | apply below_alloc | apply pw_below_drewN | apply below_drew1) | exact HB.out)))); have n2_ := Aside0.mk (below_step (by repeat (first | (with_reducible first | exact HB.out | apply below_alloc | apply pw_below_drewN | apply below_drew1) | exact HB.out)) hb); clear HO407; clear HB; have HO407 := n0_; have HO411 := n1_; have HB := n2_; clear n0_ n1_ n2_; (try clear hb); (try clear hb2); (try clear hk); (try clear hi); (try clear ho0)) | (go_at_call 19; (with_reducible refine (orielref07_Resolve.calls kj3 _ _ l0 a1 true t412 t413 t414 _ ?side1 ?side2 A17.out).mono ?_); (case side1 => repeat (first | exact (Kd.C_below HR0.out HB.out) | (with_reducible refine Kd.C_alloc ?_ _) | (with_reducible refine Kd.C_drewN ?_ _) | (with_reducible refine Kd.C_drew ?_))); (case side2 => exact HC0.out); rintro e w25 ⟨rfl, hb⟩; have n0_ := Aside0.mk (Kd.R_below (by (with_reducible repeat (first | apply Kd.R_alloc | apply Kd.R_drewN | apply Kd.R_drew)); exact HO407.out) hb); have n1_ := Aside0.mk (Kd.R_below (by (with_reducible repeat (first | apply Kd.R_alloc | apply Kd.R_drewN | apply Kd.R_drew)); exact HO411.out) hb); have n2_ := Aside0.mk (below_step (by repeat (first | (with_reducible first | exact HB.out | apply below_alloc | apply pw_below_drewN | apply below_drew1) | exact HB.out)) hb); clear HO407; clear HO411; clear HB; have HO407 := n0_; have HO411 := n1_; have HB := n2_; clear n0_ n1_ n2_; (try clear hb); (try clear hb2); (try clear hk); (try clear hi)) | ((with_reducible refine gate_dst (N := 9) rfl ?_); (try (refine gate_guard (by rfl) ?_; dsimp only)); refine box_event ?hg (N := 9) ?hd (cs := #[.string (⟨#[]⟩ : ByteArray), .string (⟨#[]⟩ : ByteArray)]) (t := 29) ?hr ?_; (case hd => rfl); (case hg => rfl); (case hr => first | (go_simp; done) | (go_simp; rfl)); intro gb415 hg w26 hbox hb; have n0_ := Aside0.mk (Kd.R_below (by (with_reducible repeat (first | apply Kd.R_alloc | apply Kd.R_drewN | apply Kd.R_drew)); exact HO407.out) hb); have n1_ := Aside0.mk (Kd.R_below (Kd.R_elderB (by (with_reducible repeat (first | apply Kd.R_alloc | apply Kd.R_drewN | apply Kd.R_drew)); exact HO411.out) gb415 (Nat.le_of_eq hg.symm)) hb); have n2_ := Aside0.mk (below_step (by repeat (first | (with_reducible first | exact HB.out | apply below_alloc | apply pw_below_drewN | apply below_drew1) | exact HB.out)) hb); have n3_ := Aside0.mk (hbox); have n4_ := Aside0.mk ((by rw [hg]; exact (below_size (by repeat (first | (with_reducible first | exact HB.out | apply below_alloc | apply pw_below_drewN | apply below_drew1) | exact HB.out))) : w.heap.size ≤ gb415)); have n5_ := Aside0.mk ((by rw [hg]; exact (below_size (by repeat (first | (with_reducible first | exact HB.out | apply below_alloc | apply pw_below_drewN | apply below_drew1) | exact HB.out))) : w.heap.size ≤ gb415)); clear HO407; clear HO411; clear HB; have HO407 := n0_; have HO411 := n1_; have HB := n2_; have BK415 := n3_; have GW415 := n4_; have GE415 := n5_; clear n0_ n1_ n2_ n3_ n4_ n5_; clear hb hbox hg; have hcz27_0 : w26.cell? ⟨gb415, 0, none⟩ = some (.string (⟨#[]⟩ : ByteArray)) := (blk_cell BK415.out 0).trans rfl; have hcz27_1 : w26.cell? ⟨gb415, 1, none⟩ = some (.string (⟨#[]⟩ : ByteArray)) := (blk_cell BK415.out 1).trans rfl; have hfz27_0 := blk_frozen BK415.out 0; have hfz27_1 := blk_frozen BK415.out 1) | (go_at_call 19; (with_reducible refine (orielref07_Resolve.calls kj3 _ _ l0 a2 true t416 t417 t418 _ ?side1 ?side2 A18.out).mono ?_); (case side1 => exact Kd.C_below HR0.out (by repeat (first | (with_reducible first | exact HB.out | apply below_alloc | apply pw_below_drewN | apply below_drew1 | refine below_set ?_ GE415.out) | exact HB.out))); (case side2 => exact HC0.out); rintro e w28 ⟨rfl, hb⟩; have n0_ := Aside0.mk (Kd.R_below (by (with_reducible repeat (first | apply Kd.R_alloc | apply Kd.R_drewN | apply Kd.R_drew)); exact (Kd.R_mono (Kd.R_far (p := ⟨gb415, 1, none⟩) (Kd.R_far (p := ⟨gb415, 0, none⟩) (Kd.R_types HO407.out BK415.out (by decide)) (fun _ hk => hk.2) (.string t412)) (fun _ hk => hk.2) (.string t413)) (fun _ h_ => h_.1))) hb); have n1_ := Aside0.mk (Kd.R_below (by (with_reducible repeat (first | apply Kd.R_alloc | apply Kd.R_drewN | apply Kd.R_drew)); exact (Kd.R_mono (Kd.R_far (p := ⟨gb415, 1, none⟩) (Kd.R_far (p := ⟨gb415, 0, none⟩) (Kd.R_mono HO411.out (fun k_ hk => (⟨hk, hk.2⟩ : _ ∧ k_ ≠ gb415))) (fun _ hk => hk.2) (.string t412)) (fun _ hk => hk.2) (.string t413)) (fun _ h_ => h_.1))) hb); have n2_ := Aside0.mk (blk_below (g := gb415) (o := .cells #[.string t412, .string t413] 29 (0, 0)) (by (with_reducible repeat (first | refine blk_drewN ?_ _ | refine blk_drew ?_ | refine blk_alloc ?_ _)); refine blk_put (cs := #[.string t412, .string (⟨#[]⟩ : ByteArray)]) ?_ 1 _ rfl; (with_reducible repeat (first | refine blk_drewN ?_ _ | refine blk_drew ?_ | refine blk_alloc ?_ _)); refine blk_put (cs := #[.string (⟨#[]⟩ : ByteArray), .string (⟨#[]⟩ : ByteArray)]) ?_ 0 _ rfl; (with_reducible repeat (first | refine blk_drewN ?_ _ | refine blk_drew ?_ | refine blk_alloc ?_ _)); exact BK415.out) hb); have n3_ := Aside0.mk (below_step (by repeat (first | (with_reducible first | exact HB.out | apply below_alloc | apply pw_below_drewN | apply below_drew1 | refine below_set ?_ GE415.out) | exact HB.out)) hb); clear HO407; clear HO411; clear BK415; clear HB; have HO407 := n0_; have HO411 := n1_; have BK415 := n2_; have HB := n3_; clear n0_ n1_ n2_ n3_; (try clear hb); (try clear hb2); (try clear hk); (try clear hi)) | ((with_reducible refine gate_dst (N := 11) rfl ?_); (try (refine gate_guard (by rfl) ?_; dsimp only)); refine box_event ?hg (N := 11) ?hd (cs := #[.string (⟨#[]⟩ : ByteArray), .string (⟨#[]⟩ : ByteArray)]) (t := 29) ?hr ?_; (case hd => rfl); (case hg => rfl); (case hr => first | (go_simp; done) | (go_simp; rfl)); intro gb419 hg w29 hbox hb; have n0_ := Aside0.mk (Kd.R_below (by (with_reducible repeat (first | apply Kd.R_alloc | apply Kd.R_drewN | apply Kd.R_drew)); exact HO407.out) hb); have n1_ := Aside0.mk (Kd.R_below (Kd.R_elderB (by (with_reducible repeat (first | apply Kd.R_alloc | apply Kd.R_drewN | apply Kd.R_drew)); exact HO411.out) gb419 (Nat.le_of_eq hg.symm)) hb); have n2_ := Aside0.mk (blk_below (g := gb415) (o := .cells #[.string t412, .string t413] 29 (0, 0)) (by (with_reducible repeat (first | refine blk_drewN ?_ _ | refine blk_drew ?_ | refine blk_alloc ?_ _)); exact BK415.out) hb); have n3_ := Aside0.mk (below_step (by repeat (first | (with_reducible first | exact HB.out | apply below_alloc | apply pw_below_drewN | apply below_drew1 | refine below_set ?_ GE415.out) | exact HB.out)) hb); have n4_ := Aside0.mk (hbox); have n5_ := Aside0.mk ((by rw [hg]; exact (below_size (by repeat (first | (with_reducible first | exact HB.out | apply below_alloc | apply pw_below_drewN | apply below_drew1 | refine below_set ?_ GE415.out) | exact HB.out))) : w.heap.size ≤ gb419)); have n6_ := Aside0.mk ((by rw [hg]; exact (below_size (by repeat (first | (with_reducible first | exact HB.out | apply below_alloc | apply pw_below_drewN | apply below_drew1 | refine below_set ?_ GE415.out) | exact HB.out))) : w.heap.size ≤ gb419)); have n7_ := Aside0.mk ((by rw [hg]; exact Nat.ne_of_lt (blk_lt (g := gb415) (o := .cells #[.string t412, .string t413] 29 (0, 0)) (by (with_reducible repeat (first | refine blk_drewN ?_ _ | refine blk_drew ?_ | refine blk_alloc ?_ _)); exact BK415.out)) : gb415 ≠ gb419)); have n8_ := Aside0.mk ((by rw [hg]; exact Nat.ne_of_gt (blk_lt (g := gb415) (o := .cells #[.string t412, .string t413] 29 (0, 0)) (by (with_reducible repeat (first | refine blk_drewN ?_ _ | refine blk_drew ?_ | refine blk_alloc ?_ _)); exact BK415.out)) : gb419 ≠ gb415)); clear HO407; clear HO411; clear BK415; clear HB; have HO407 := n0_; have HO411 := n1_; have BK415 := n2_; have HB := n3_; have BK419 := n4_; have GW419 := n5_; have GE419 := n6_; have NB415_419 := n7_; have NB419_415 := n8_; clear n0_ n1_ n2_ n3_ n4_ n5_ n6_ n7_ n8_; clear hb hbox hg; have hnb30 := NB419_415.out; have hnc30 := NB415_419.out; have hcz31_0 : w29.cell? ⟨gb419, 0, none⟩ = some (.string (⟨#[]⟩ : ByteArray)) := (blk_cell BK419.out 0).trans rfl; have hcz31_1 : w29.cell? ⟨gb419, 1, none⟩ = some (.string (⟨#[]⟩ : ByteArray)) := (blk_cell BK419.out 1).trans rfl; have hfz31_0 := blk_frozen BK419.out 0; have hfz31_1 := blk_frozen BK419.out 1) | (go_at_call 18; (refine (scope_Names.calls kj3 _ _ l0 _ _ ([] : List ByteArray) t420 t421 _ ?side1 ?side2 ?side3 ?side4 A19.out).mono ?_); (case side1 => exact Kd.C_below HR0.out (by repeat (first | (with_reducible first | exact HB.out | apply below_alloc | apply pw_below_drewN | apply below_drew1 | refine below_set ?_ GE415.out | refine below_set ?_ GE419.out) | exact HB.out))); (case side2 => exact HC0.out); (case side3 => exact Kd.C_nil _ _); (case side4 => exact Nat.le_refl _); rintro e w32 ⟨v422, rfl, ho0, hb⟩; have n0_ := Aside0.mk (Kd.R_below (by (with_reducible repeat (first | apply Kd.R_alloc | apply Kd.R_drewN | apply Kd.R_drew)); exact (Kd.R_mono (Kd.R_far (p := ⟨gb419, 1, none⟩) (Kd.R_far (p := ⟨gb419, 0, none⟩) (Kd.R_types HO407.out BK419.out (by decide)) (fun _ hk => hk.2) (.string t416)) (fun _ hk => hk.2) (.string t417)) (fun _ h_ => h_.1))) hb); have n1_ := Aside0.mk (Kd.R_elder' (by (with_reducible repeat (first | apply Kd.R_alloc | apply Kd.R_drewN | apply Kd.R_drew)); exact (Kd.R_mono (Kd.R_far (p := ⟨gb419, 1, none⟩) (Kd.R_far (p := ⟨gb419, 0, none⟩) (Kd.R_mono HO411.out (fun k_ hk => (⟨hk, hk.2⟩ : _ ∧ k_ ≠ gb419))) (fun _ hk => hk.2) (.string t416)) (fun _ hk => hk.2) (.string t417)) (fun _ h_ => h_.1))) (Kd.R_base ho0) hb); have n2_ := Aside0.mk (Kd.R_lower (Kd.R_newB (Kd.R_newB (Kd.R_new' ho0 (Kd.R_lt (by (with_reducible repeat (first | apply Kd.R_alloc | apply Kd.R_drewN | apply Kd.R_drew)); exact (Kd.R_mono (Kd.R_far (p := ⟨gb419, 1, none⟩) (Kd.R_far (p := ⟨gb419, 0, none⟩) (Kd.R_mono HO411.out (fun k_ hk => (⟨hk, hk.2⟩ : _ ∧ k_ ≠ gb419))) (fun _ hk => hk.2) (.string t416)) (fun _ hk => hk.2) (.string t417)) (fun _ h_ => h_.1))))) (g := gb415) (o := .cells #[.string t412, .string t413] 29 (0, 0)) (by (with_reducible repeat (first | refine blk_drewN ?_ _ | refine blk_drew ?_ | refine blk_alloc ?_ _)); refine blk_far ?_ NB415_419.out _; (with_reducible repeat (first | refine blk_drewN ?_ _ | refine blk_drew ?_ | refine blk_alloc ?_ _)); refine blk_far ?_ NB415_419.out _; (with_reducible repeat (first | refine blk_drewN ?_ _ | refine blk_drew ?_ | refine blk_alloc ?_ _)); exact BK415.out)) (g := gb419) (o := .cells #[.string t416, .string t417] 29 (0, 0)) (by (with_reducible repeat (first | refine blk_drewN ?_ _ | refine blk_drew ?_ | refine blk_alloc ?_ _)); refine blk_put (cs := #[.string t416, .string (⟨#[]⟩ : ByteArray)]) ?_ 1 _ rfl; (with_reducible repeat (first | refine blk_drewN ?_ _ | refine blk_drew ?_ | refine blk_alloc ?_ _)); refine blk_put (cs := #[.string (⟨#[]⟩ : ByteArray), .string (⟨#[]⟩ : ByteArray)]) ?_ 0 _ rfl; (with_reducible repeat (first | refine blk_drewN ?_ _ | refine blk_drew ?_ | refine blk_alloc ?_ _)); exact BK419.out)) (below_size (by repeat (first | (with_reducible first | exact HB.out | apply below_alloc | apply pw_below_drewN | apply below_drew1 | refine below_set ?_ GE415.out | refine below_set ?_ GE419.out) | exact HB.out)))); have n3_ := Aside0.mk (blk_below (g := gb415) (o := .cells #[.string t412, .string t413] 29 (0, 0)) (by (with_reducible repeat (first | refine blk_drewN ?_ _ | refine blk_drew ?_ | refine blk_alloc ?_ _)); refine blk_far ?_ NB415_419.out _; (with_reducible repeat (first | refine blk_drewN ?_ _ | refine blk_drew ?_ | refine blk_alloc ?_ _)); refine blk_far ?_ NB415_419.out _; (with_reducible repeat (first | refine blk_drewN ?_ _ | refine blk_drew ?_ | refine blk_alloc ?_ _)); exact BK415.out) hb); have n4_ := Aside0.mk (blk_below (g := gb419) (o := .cells #[.string t416, .string t417] 29 (0, 0)) (by (with_reducible repeat (first | refine blk_drewN ?_ _ | refine blk_drew ?_ | refine blk_alloc ?_ _)); refine blk_put (cs := #[.string t416, .string (⟨#[]⟩ : ByteArray)]) ?_ 1 _ rfl; (with_reducible repeat (first | refine blk_drewN ?_ _ | refine blk_drew ?_ | refine blk_alloc ?_ _)); refine blk_put (cs := #[.string (⟨#[]⟩ : ByteArray), .string (⟨#[]⟩ : ByteArray)]) ?_ 0 _ rfl; (with_reducible repeat (first | refine blk_drewN ?_ _ | refine blk_drew ?_ | refine blk_alloc ?_ _)); exact BK419.out) hb); have n5_ := Aside0.mk (below_step (by repeat (first | (with_reducible first | exact HB.out | apply below_alloc | apply pw_below_drewN | apply below_drew1 | refine below_set ?_ GE415.out | refine below_set ?_ GE419.out) | exact HB.out)) hb); clear HO407; clear HO411; clear BK415; clear BK419; clear HB; have HO407 := n0_; have HO411 := n1_; have HO423 := n2_; have BK415 := n3_; have BK419 := n4_; have HB := n5_; clear n0_ n1_ n2_ n3_ n4_ n5_; (try clear hb); (try clear hb2); (try clear hk); (try clear hi); (try clear ho0))); go_upto_region 7 with (first | ((with_reducible refine gate_dst (N := 37) rfl ?_); (try (refine gate_guard (by rfl) ?_; dsimp only)); refine Kd.R_lit Kd.string _ 9 ?hg (N := 37) ?hd (xs := ([a1, a2] : List ByteArray)) (inner := [.string a1, .string a2]) (ok := fun _ => True) (okp := fun _ => True) ?hr ?hp (fun _ hk => hk) trivial (Below.refl _ _) (Nat.le_refl _) (by simp) ?_; (case hd => rfl); (case hg => rfl); (case hr => first | (go_simp; done) | (go_simp; rfl)); (case hp => exact (Reps.one (show Kd.M Kd.string _ _ _ a1 [.string a1] from rfl) (Reps.one (show Kd.M Kd.string _ _ _ a2 [.string a2] from rfl) (Reps.none _ _)))); intro v406 w21 ho22 hb hg_ hnew_; clear hg_ hnew_; (first | rw [← Ny405.out] at ho22 | (simp only [Int.reduceToNat] at ho22; rw [← Ny405.out] at ho22)); have n0_ := Aside0.mk (Kd.R_lower ho22 (below_size (by repeat (first | (with_reducible first | exact HB.out | apply below_alloc | apply pw_below_drewN | apply below_drew1) | exact HB.out)))); have n1_ := Aside0.mk (below_step (by repeat (first | (with_reducible first | exact HB.out | apply below_alloc | apply pw_below_drewN | apply below_drew1) | exact HB.out)) hb); clear HB; have HO407 := n0_; have HB := n1_; clear n0_ n1_; clear hb ho22; obtain ⟨Ao23, co23, eo23⟩ := Kd.R_slice HO407.out; subst eo23) | (go_at_call 18; (with_reducible refine (scope_Names.calls kj3 _ _ l0 _ _ y405 t408 t409 _ ?side1 ?side2 ?side3 ?side4 A16.out).mono ?_); (case side1 => repeat (first | exact (Kd.C_below HR0.out HB.out) | (with_reducible refine Kd.C_alloc ?_ _) | (with_reducible refine Kd.C_drewN ?_ _) | (with_reducible refine Kd.C_drew ?_))); (case side2 => exact HC0.out); (case side3 => repeat (first | exact (Kd.R_reads' HO407.out).2.2 | (with_reducible refine Kd.C_alloc ?_ _) | (with_reducible refine Kd.C_drewN ?_ _) | (with_reducible refine Kd.C_drew ?_))); (case side4 => exact (Kd.R_reads' HO407.out).2.1); rintro e w24 ⟨v410, rfl, ho0, hb⟩; have n0_ := Aside0.mk (Kd.R_below (by (with_reducible repeat (first | apply Kd.R_alloc | apply Kd.R_drewN | apply Kd.R_drew)); exact HO407.out) hb); have n1_ := Aside0.mk (Kd.R_lower ho0 (below_size (by repeat (first | (with_reducible first | exact HB.out | apply below_alloc | apply pw_below_drewN | apply below_drew1) | exact HB.out)))); have n2_ := Aside0.mk (below_step (by repeat (first | (with_reducible first | exact HB.out | apply below_alloc | apply pw_below_drewN | apply below_drew1) | exact HB.out)) hb); clear HO407; clear HB; have HO407 := n0_; have HO411 := n1_; have HB := n2_; clear n0_ n1_ n2_; (try clear hb); (try clear hb2); (try clear hk); (try clear hi); (try clear ho0)) | (go_at_call 19; (with_reducible refine (orielref07_Resolve.calls kj3 _ _ l0 a1 true t412 t413 t414 _ ?side1 ?side2 A17.out).mono ?_); (case side1 => repeat (first | exact (Kd.C_below HR0.out HB.out) | (with_reducible refine Kd.C_alloc ?_ _) | (with_reducible refine Kd.C_drewN ?_ _) | (with_reducible refine Kd.C_drew ?_))); (case side2 => exact HC0.out); rintro e w25 ⟨rfl, hb⟩; have n0_ := Aside0.mk (Kd.R_below (by (with_reducible repeat (first | apply Kd.R_alloc | apply Kd.R_drewN | apply Kd.R_drew)); exact HO407.out) hb); have n1_ := Aside0.mk (Kd.R_below (by (with_reducible repeat (first | apply Kd.R_alloc | apply Kd.R_drewN | apply Kd.R_drew)); exact HO411.out) hb); have n2_ := Aside0.mk (below_step (by repeat (first | (with_reducible first | exact HB.out | apply below_alloc | apply pw_below_drewN | apply below_drew1) | exact HB.out)) hb); clear HO407; clear HO411; clear HB; have HO407 := n0_; have HO411 := n1_; have HB := n2_; clear n0_ n1_ n2_; (try clear hb); (try clear hb2); (try clear hk); (try clear hi)) | ((with_reducible refine gate_dst (N := 9) rfl ?_); (try (refine gate_guard (by rfl) ?_; dsimp only)); refine box_event ?hg (N := 9) ?hd (cs := #[.string (⟨#[]⟩ : ByteArray), .string (⟨#[]⟩ : ByteArray)]) (t := 29) ?hr ?_; (case hd => rfl); (case hg => rfl); (case hr => first | (go_simp; done) | (go_simp; rfl)); intro gb415 hg w26 hbox hb; have n0_ := Aside0.mk (Kd.R_below (by (with_reducible repeat (first | apply Kd.R_alloc | apply Kd.R_drewN | apply Kd.R_drew)); exact HO407.out) hb); have n1_ := Aside0.mk (Kd.R_below (Kd.R_elderB (by (with_reducible repeat (first | apply Kd.R_alloc | apply Kd.R_drewN | apply Kd.R_drew)); exact HO411.out) gb415 (Nat.le_of_eq hg.symm)) hb); have n2_ := Aside0.mk (below_step (by repeat (first | (with_reducible first | exact HB.out | apply below_alloc | apply pw_below_drewN | apply below_drew1) | exact HB.out)) hb); have n3_ := Aside0.mk (hbox); have n4_ := Aside0.mk ((by rw [hg]; exact (below_size (by repeat (first | (with_reducible first | exact HB.out | apply below_alloc | apply pw_below_drewN | apply below_drew1) | exact HB.out))) : w.heap.size ≤ gb415)); have n5_ := Aside0.mk ((by rw [hg]; exact (below_size (by repeat (first | (with_reducible first | exact HB.out | apply below_alloc | apply pw_below_drewN | apply below_drew1) | exact HB.out))) : w.heap.size ≤ gb415)); clear HO407; clear HO411; clear HB; have HO407 := n0_; have HO411 := n1_; have HB := n2_; have BK415 := n3_; have GW415 := n4_; have GE415 := n5_; clear n0_ n1_ n2_ n3_ n4_ n5_; clear hb hbox hg; have hcz27_0 : w26.cell? ⟨gb415, 0, none⟩ = some (.string (⟨#[]⟩ : ByteArray)) := (blk_cell BK415.out 0).trans rfl; have hcz27_1 : w26.cell? ⟨gb415, 1, none⟩ = some (.string (⟨#[]⟩ : ByteArray)) := (blk_cell BK415.out 1).trans rfl; have hfz27_0 := blk_frozen BK415.out 0; have hfz27_1 := blk_frozen BK415.out 1) | (go_at_call 19; (with_reducible refine (orielref07_Resolve.calls kj3 _ _ l0 a2 true t416 t417 t418 _ ?side1 ?side2 A18.out).mono ?_); (case side1 => exact Kd.C_below HR0.out (by repeat (first | (with_reducible first | exact HB.out | apply below_alloc | apply pw_below_drewN | apply below_drew1 | refine below_set ?_ GE415.out) | exact HB.out))); (case side2 => exact HC0.out); rintro e w28 ⟨rfl, hb⟩; have n0_ := Aside0.mk (Kd.R_below (by (with_reducible repeat (first | apply Kd.R_alloc | apply Kd.R_drewN | apply Kd.R_drew)); exact (Kd.R_mono (Kd.R_far (p := ⟨gb415, 1, none⟩) (Kd.R_far (p := ⟨gb415, 0, none⟩) (Kd.R_types HO407.out BK415.out (by decide)) (fun _ hk => hk.2) (.string t412)) (fun _ hk => hk.2) (.string t413)) (fun _ h_ => h_.1))) hb); have n1_ := Aside0.mk (Kd.R_below (by (with_reducible repeat (first | apply Kd.R_alloc | apply Kd.R_drewN | apply Kd.R_drew)); exact (Kd.R_mono (Kd.R_far (p := ⟨gb415, 1, none⟩) (Kd.R_far (p := ⟨gb415, 0, none⟩) (Kd.R_mono HO411.out (fun k_ hk => (⟨hk, hk.2⟩ : _ ∧ k_ ≠ gb415))) (fun _ hk => hk.2) (.string t412)) (fun _ hk => hk.2) (.string t413)) (fun _ h_ => h_.1))) hb); have n2_ := Aside0.mk (blk_below (g := gb415) (o := .cells #[.string t412, .string t413] 29 (0, 0)) (by (with_reducible repeat (first | refine blk_drewN ?_ _ | refine blk_drew ?_ | refine blk_alloc ?_ _)); refine blk_put (cs := #[.string t412, .string (⟨#[]⟩ : ByteArray)]) ?_ 1 _ rfl; (with_reducible repeat (first | refine blk_drewN ?_ _ | refine blk_drew ?_ | refine blk_alloc ?_ _)); refine blk_put (cs := #[.string (⟨#[]⟩ : ByteArray), .string (⟨#[]⟩ : ByteArray)]) ?_ 0 _ rfl; (with_reducible repeat (first | refine blk_drewN ?_ _ | refine blk_drew ?_ | refine blk_alloc ?_ _)); exact BK415.out) hb); have n3_ := Aside0.mk (below_step (by repeat (first | (with_reducible first | exact HB.out | apply below_alloc | apply pw_below_drewN | apply below_drew1 | refine below_set ?_ GE415.out) | exact HB.out)) hb); clear HO407; clear HO411; clear BK415; clear HB; have HO407 := n0_; have HO411 := n1_; have BK415 := n2_; have HB := n3_; clear n0_ n1_ n2_ n3_; (try clear hb); (try clear hb2); (try clear hk); (try clear hi)) | ((with_reducible refine gate_dst (N := 11) rfl ?_); (try (refine gate_guard (by rfl) ?_; dsimp only)); refine box_event ?hg (N := 11) ?hd (cs := #[.string (⟨#[]⟩ : ByteArray), .string (⟨#[]⟩ : ByteArray)]) (t := 29) ?hr ?_; (case hd => rfl); (case hg => rfl); (case hr => first | (go_simp; done) | (go_simp; rfl)); intro gb419 hg w29 hbox hb; have n0_ := Aside0.mk (Kd.R_below (by (with_reducible repeat (first | apply Kd.R_alloc | apply Kd.R_drewN | apply Kd.R_drew)); exact HO407.out) hb); have n1_ := Aside0.mk (Kd.R_below (Kd.R_elderB (by (with_reducible repeat (first | apply Kd.R_alloc | apply Kd.R_drewN | apply Kd.R_drew)); exact HO411.out) gb419 (Nat.le_of_eq hg.symm)) hb); have n2_ := Aside0.mk (blk_below (g := gb415) (o := .cells #[.string t412, .string t413] 29 (0, 0)) (by (with_reducible repeat (first | refine blk_drewN ?_ _ | refine blk_drew ?_ | refine blk_alloc ?_ _)); exact BK415.out) hb); have n3_ := Aside0.mk (below_step (by repeat (first | (with_reducible first | exact HB.out | apply below_alloc | apply pw_below_drewN | apply below_drew1 | refine below_set ?_ GE415.out) | exact HB.out)) hb); have n4_ := Aside0.mk (hbox); have n5_ := Aside0.mk ((by rw [hg]; exact (below_size (by repeat (first | (with_reducible first | exact HB.out | apply below_alloc | apply pw_below_drewN | apply below_drew1 | refine below_set ?_ GE415.out) | exact HB.out))) : w.heap.size ≤ gb419)); have n6_ := Aside0.mk ((by rw [hg]; exact (below_size (by repeat (first | (with_reducible first | exact HB.out | apply below_alloc | apply pw_below_drewN | apply below_drew1 | refine below_set ?_ GE415.out) | exact HB.out))) : w.heap.size ≤ gb419)); have n7_ := Aside0.mk ((by rw [hg]; exact Nat.ne_of_lt (blk_lt (g := gb415) (o := .cells #[.string t412, .string t413] 29 (0, 0)) (by (with_reducible repeat (first | refine blk_drewN ?_ _ | refine blk_drew ?_ | refine blk_alloc ?_ _)); exact BK415.out)) : gb415 ≠ gb419)); have n8_ := Aside0.mk ((by rw [hg]; exact Nat.ne_of_gt (blk_lt (g := gb415) (o := .cells #[.string t412, .string t413] 29 (0, 0)) (by (with_reducible repeat (first | refine blk_drewN ?_ _ | refine blk_drew ?_ | refine blk_alloc ?_ _)); exact BK415.out)) : gb419 ≠ gb415)); clear HO407; clear HO411; clear BK415; clear HB; have HO407 := n0_; have HO411 := n1_; have BK415 := n2_; have HB := n3_; have BK419 := n4_; have GW419 := n5_; have GE419 := n6_; have NB415_419 := n7_; have NB419_415 := n8_; clear n0_ n1_ n2_ n3_ n4_ n5_ n6_ n7_ n8_; clear hb hbox hg; have hnb30 := NB419_415.out; have hnc30 := NB415_419.out; have hcz31_0 : w29.cell? ⟨gb419, 0, none⟩ = some (.string (⟨#[]⟩ : ByteArray)) := (blk_cell BK419.out 0).trans rfl; have hcz31_1 : w29.cell? ⟨gb419, 1, none⟩ = some (.string (⟨#[]⟩ : ByteArray)) := (blk_cell BK419.out 1).trans rfl; have hfz31_0 := blk_frozen BK419.out 0; have hfz31_1 := blk_frozen BK419.out 1) | (go_at_call 18; (refine (scope_Names.calls kj3 _ _ l0 _ _ ([] : List ByteArray) t420 t421 _ ?side1 ?side2 ?side3 ?side4 A19.out).mono ?_); (case side1 => exact Kd.C_below HR0.out (by repeat (first | (with_reducible first | exact HB.out | apply below_alloc | apply pw_below_drewN | apply below_drew1 | refine below_set ?_ GE415.out | refine below_set ?_ GE419.out) | exact HB.out))); (case side2 => exact HC0.out); (case side3 => exact Kd.C_nil _ _); (case side4 => exact Nat.le_refl _); rintro e w32 ⟨v422, rfl, ho0, hb⟩; have n0_ := Aside0.mk (Kd.R_below (by (with_reducible repeat (first | apply Kd.R_alloc | apply Kd.R_drewN | apply Kd.R_drew)); exact (Kd.R_mono (Kd.R_far (p := ⟨gb419, 1, none⟩) (Kd.R_far (p := ⟨gb419, 0, none⟩) (Kd.R_types HO407.out BK419.out (by decide)) (fun _ hk => hk.2) (.string t416)) (fun _ hk => hk.2) (.string t417)) (fun _ h_ => h_.1))) hb); have n1_ := Aside0.mk (Kd.R_elder' (by (with_reducible repeat (first | apply Kd.R_alloc | apply Kd.R_drewN | apply Kd.R_drew)); exact (Kd.R_mono (Kd.R_far (p := ⟨gb419, 1, none⟩) (Kd.R_far (p := ⟨gb419, 0, none⟩) (Kd.R_mono HO411.out (fun k_ hk => (⟨hk, hk.2⟩ : _ ∧ k_ ≠ gb419))) (fun _ hk => hk.2) (.string t416)) (fun _ hk => hk.2) (.string t417)) (fun _ h_ => h_.1))) (Kd.R_base ho0) hb); have n2_ := Aside0.mk (Kd.R_lower (Kd.R_newB (Kd.R_newB (Kd.R_new' ho0 (Kd.R_lt (by (with_reducible repeat (first | apply Kd.R_alloc | apply Kd.R_drewN | apply Kd.R_drew)); exact (Kd.R_mono (Kd.R_far (p := ⟨gb419, 1, none⟩) (Kd.R_far (p := ⟨gb419, 0, none⟩) (Kd.R_mono HO411.out (fun k_ hk => (⟨hk, hk.2⟩ : _ ∧ k_ ≠ gb419))) (fun _ hk => hk.2) (.string t416)) (fun _ hk => hk.2) (.string t417)) (fun _ h_ => h_.1))))) (g := gb415) (o := .cells #[.string t412, .string t413] 29 (0, 0)) (by (with_reducible repeat (first | refine blk_drewN ?_ _ | refine blk_drew ?_ | refine blk_alloc ?_ _)); refine blk_far ?_ NB415_419.out _; (with_reducible repeat (first | refine blk_drewN ?_ _ | refine blk_drew ?_ | refine blk_alloc ?_ _)); refine blk_far ?_ NB415_419.out _; (with_reducible repeat (first | refine blk_drewN ?_ _ | refine blk_drew ?_ | refine blk_alloc ?_ _)); exact BK415.out)) (g := gb419) (o := .cells #[.string t416, .string t417] 29 (0, 0)) (by (with_reducible repeat (first | refine blk_drewN ?_ _ | refine blk_drew ?_ | refine blk_alloc ?_ _)); refine blk_put (cs := #[.string t416, .string (⟨#[]⟩ : ByteArray)]) ?_ 1 _ rfl; (with_reducible repeat (first | refine blk_drewN ?_ _ | refine blk_drew ?_ | refine blk_alloc ?_ _)); refine blk_put (cs := #[.string (⟨#[]⟩ : ByteArray), .string (⟨#[]⟩ : ByteArray)]) ?_ 0 _ rfl; (with_reducible repeat (first | refine blk_drewN ?_ _ | refine blk_drew ?_ | refine blk_alloc ?_ _)); exact BK419.out)) (below_size (by repeat (first | (with_reducible first | exact HB.out | apply below_alloc | apply pw_below_drewN | apply below_drew1 | refine below_set ?_ GE415.out | refine below_set ?_ GE419.out) | exact HB.out)))); have n3_ := Aside0.mk (blk_below (g := gb415) (o := .cells #[.string t412, .string t413] 29 (0, 0)) (by (with_reducible repeat (first | refine blk_drewN ?_ _ | refine blk_drew ?_ | refine blk_alloc ?_ _)); refine blk_far ?_ NB415_419.out _; (with_reducible repeat (first | refine blk_drewN ?_ _ | refine blk_drew ?_ | refine blk_alloc ?_ _)); refine blk_far ?_ NB415_419.out _; (with_reducible repeat (first | refine blk_drewN ?_ _ | refine blk_drew ?_ | refine blk_alloc ?_ _)); exact BK415.out) hb); have n4_ := Aside0.mk (blk_below (g := gb419) (o := .cells #[.string t416, .string t417] 29 (0, 0)) (by (with_reducible repeat (first | refine blk_drewN ?_ _ | refine blk_drew ?_ | refine blk_alloc ?_ _)); refine blk_put (cs := #[.string t416, .string (⟨#[]⟩ : ByteArray)]) ?_ 1 _ rfl; (with_reducible repeat (first | refine blk_drewN ?_ _ | refine blk_drew ?_ | refine blk_alloc ?_ _)); refine blk_put (cs := #[.string (⟨#[]⟩ : ByteArray), .string (⟨#[]⟩ : ByteArray)]) ?_ 0 _ rfl; (with_reducible repeat (first | refine blk_drewN ?_ _ | refine blk_drew ?_ | refine blk_alloc ?_ _)); exact BK419.out) hb); have n5_ := Aside0.mk (below_step (by repeat (first | (with_reducible first | exact HB.out | apply below_alloc | apply pw_below_drewN | apply below_drew1 | refine below_set ?_ GE415.out | refine below_set ?_ GE419.out) | exact HB.out)) hb); clear HO407; clear HO411; clear BK415; clear BK419; clear HB; have HO407 := n0_; have HO411 := n1_; have HO423 := n2_; have BK415 := n3_; have BK419 := n4_; have HB := n5_; clear n0_ n1_ n2_ n3_ n4_ n5_; (try clear hb); (try clear hb2); (try clear hk); (try clear hi); (try clear ho0))))
    (try simp only [Act.put, List.setIfInBounds_toArray, List.set_cons_zero, List.set_cons_succ])
    go_cut [64] (fun v64 wc => ∃ (kq : Nat) (x64_19 : Bool), v64 = .bool x64_19 ∧ Aside0 (oriellaw07_ScopeNames.j1 kq t408 t409 t414 t418 x64_19 t412 t413 t416 t417 = some r) ∧ Aside0 (kq ≤ kj3) ∧ Aside0 (Kd.R k29 29 wc w.heap.size (fun k_ => k_ ≠ gb415 ∧ k_ ≠ gb419) v410 t408) ∧ Aside0 (wc.heap[gb415]? = some (.cells #[.string t412, .string t413] 29 (0, 0))) ∧ Aside0 (wc.heap[gb419]? = some (.cells #[.string t416, .string t417] 29 (0, 0))) ∧ Aside0 (Below w.heap.size w wc))
    case first =>
     have H := HC20.out
     clear HC20
     by_cases c33 : t421 = 0
     ·
      rw [if_pos c33] at H
      have c33b0 : (t421 == 0) = true := beq_iff_eq.mpr c33
      have c33b1 : (t421 != 0) = false := bne_eq_false_iff_eq.mpr c33
      clear c33
      (first | rw [c33b0] | (simp only [i64_w, i32_w]; rw [c33b0]) | skip)
      have H' := Aside0.mk H
      clear H
      obtain ⟨Ao34, co34, eo34⟩ := Kd.R_slice HO423.out
      subst eo34
      go_wp2
      repeat (go_quiet (fail); try go_wp2)
      go_meet
      case rel => exact ⟨_, (((t420.length : Int) != 0)), (by first | rfl | (simp; done) | (simp [*]; done)), H', ⟨by have := HJ3.out; first | omega | exact Nat.le_refl _⟩, ⟨by (with_reducible repeat (first | apply Kd.R_alloc | apply Kd.R_drewN | apply Kd.R_drew)); exact Kd.R_mono HO411.out (fun _ hk => ⟨hk.1.1.2, hk.1.2⟩)⟩, ⟨by (with_reducible repeat (first | refine blk_drewN ?_ _ | refine blk_drew ?_ | refine blk_alloc ?_ _)); exact BK415.out⟩, ⟨by (with_reducible repeat (first | refine blk_drewN ?_ _ | refine blk_drew ?_ | refine blk_alloc ?_ _)); exact BK419.out⟩, ⟨by repeat (first | (with_reducible first | exact HB.out | apply below_alloc | apply pw_below_drewN | apply below_drew1 | refine below_set ?_ GE415.out | refine below_set ?_ GE419.out) | exact HB.out)⟩⟩
     ·
      rw [if_neg c33] at H
      have c33b0 : (t421 == 0) = false := beq_eq_false_iff_ne.mpr c33
      have c33b1 : (t421 != 0) = true := bne_iff_ne.mpr c33
      (first | rw [c33b0] | (simp only [i64_w, i32_w]; rw [c33b0]) | skip)
      have H' := Aside0.mk H
      clear H
      go_wp2
      repeat (go_quiet (fail); try go_wp2)
      go_meet
      case rel => exact ⟨_, (true), (by first | rfl | (simp; done) | (simp [*]; done)), H', ⟨by have := HJ3.out; first | omega | exact Nat.le_refl _⟩, ⟨by (with_reducible repeat (first | apply Kd.R_alloc | apply Kd.R_drewN | apply Kd.R_drew)); exact Kd.R_mono HO411.out (fun _ hk => ⟨hk.1.1.2, hk.1.2⟩)⟩, ⟨by (with_reducible repeat (first | refine blk_drewN ?_ _ | refine blk_drew ?_ | refine blk_alloc ?_ _)); exact BK415.out⟩, ⟨by (with_reducible repeat (first | refine blk_drewN ?_ _ | refine blk_drew ?_ | refine blk_alloc ?_ _)); exact BK419.out⟩, ⟨by repeat (first | (with_reducible first | exact HB.out | apply below_alloc | apply pw_below_drewN | apply below_drew1 | refine below_set ?_ GE415.out | refine below_set ?_ GE419.out) | exact HB.out)⟩⟩
    case rest =>
     clear HC20
     try clear c1
     try clear p2
     try clear c3
     try clear c6
     try clear c7
     try clear c7b0
     try clear c7b1
     try clear c9
     try clear c9b0
     try clear c9b1
     try clear c13
     try clear c30
     try clear c33
     try clear c33b0
     try clear c33b1
     try clear hcz27_0
     try clear hcz27_1
     try clear hcz31_0
     try clear hcz31_1
     try clear hfz27_0
     try clear hfz27_1
     try clear hfz31_0
     try clear hfz31_1
     try clear p2
     obtain ⟨kq, x64_19, rfl, HA, HJ19, HO_7, BK415, BK419, HB⟩ := hcut
     cases kq with
     | zero => exact absurd HA.out (by simp [oriellaw07_ScopeNames.j1])
     | succ kj19 =>
      have H := HA.out
      clear HA
      simp only [oriellaw07_ScopeNames.j1] at H
      by_cases c35 : x64_19 = true
      ·
       subst c35
       have H1 : (some false) = some r := by rw [if_pos rfl] at H; exact H
       clear H
       have H := H1
       clear H1
       obtain rfl := Option.some.inj H
       go_wp2
       repeat (go_quiet (fail); try go_wp2)
       go_ret
       exact ⟨by first | rfl | exact congrArg (fun b => Ending.returned (Value.bool b)) (isE_ne _).symm | exact congrArg (fun b => Ending.returned (Value.bool b)) (isE_eq _).symm | (simp only [isE_ne, isE_eq, Bool.not_not]; done) | (simp [errW_none, errW_some] <;> rfl) | (simp [*, errW_none, errW_some] <;> rfl), by repeat (first | (with_reducible first | exact HB.out | apply below_alloc | apply pw_below_drewN | apply below_drew1 | refine below_set ?_ GE415.out | refine below_set ?_ GE419.out) | exact HB.out)⟩
      ·
       replace c35 := Bool.eq_false_iff.mpr c35
       subst c35
       have H1 : (if t414 = true then (if t418 = true then (if t409 = 0 then (if (t408.length : Int) = 2 then (if 0 < (t408.length : Int) then (if ((((rd_T29 t408 0).f0).toList) == t412.toList && ((((rd_T29 t408 0).f1).toList) == t413.toList)) = true then (if 1 < (t408.length : Int) then (some ((((rd_T29 t408 1).f0).toList) == t416.toList && ((((rd_T29 t408 1).f1).toList) == t417.toList))) else (none)) else (some false)) else (none)) else (some false)) else (some false)) else (if t409 = 9 then (some ((t408.length : Int) == 0)) else (some false))) else (if t409 = 9 then (some ((t408.length : Int) == 0)) else (some false))) = some r := by rw [if_neg (show ¬ (false = true) by decide)] at H; exact H
       clear H
       have H := H1
       clear H1
       by_cases c36 : t414 = true
       ·
        subst c36
        have H1 : (if t418 = true then (if t409 = 0 then (if (t408.length : Int) = 2 then (if 0 < (t408.length : Int) then (if ((((rd_T29 t408 0).f0).toList) == t412.toList && ((((rd_T29 t408 0).f1).toList) == t413.toList)) = true then (if 1 < (t408.length : Int) then (some ((((rd_T29 t408 1).f0).toList) == t416.toList && ((((rd_T29 t408 1).f1).toList) == t417.toList))) else (none)) else (some false)) else (none)) else (some false)) else (some false)) else (if t409 = 9 then (some ((t408.length : Int) == 0)) else (some false))) = some r := by rw [if_pos rfl] at H; exact H
        clear H
        have H := H1
        clear H1
        by_cases c37 : t418 = true
        ·
         subst c37
         have H1 : (if t409 = 0 then (if (t408.length : Int) = 2 then (if 0 < (t408.length : Int) then (if ((((rd_T29 t408 0).f0).toList) == t412.toList && ((((rd_T29 t408 0).f1).toList) == t413.toList)) = true then (if 1 < (t408.length : Int) then (some ((((rd_T29 t408 1).f0).toList) == t416.toList && ((((rd_T29 t408 1).f1).toList) == t417.toList))) else (none)) else (some false)) else (none)) else (some false)) else (some false)) = some r := by rw [if_pos rfl] at H; exact H
         clear H
         have H := H1
         clear H1
         by_cases c38 : t409 = 0
         ·
          rw [if_pos c38] at H
          have c38b0 : (t409 == 0) = true := beq_iff_eq.mpr c38
          have c38b1 : (t409 != 0) = false := bne_eq_false_iff_eq.mpr c38
          clear c38
          by_cases c39 : (t408.length : Int) = 2
          ·
           rw [if_pos c39] at H
           have c39b0 : ((t408.length : Int) == 2) = true := beq_iff_eq.mpr c39
           have c39b1 : ((t408.length : Int) != 2) = false := bne_eq_false_iff_eq.mpr c39
           clear c39
           by_cases c40 : 0 < (t408.length : Int)
           ·
            rw [if_pos c40] at H
            have c40b0 : decide (0 < (t408.length : Int)) = true := decide_eq_true c40
            have c40b1 : decide (0 < t408.length) = true := decide_eq_true (by omega)
            clear c40
            by_cases c41 : ((((rd_T29 t408 0).f0).toList) == t412.toList && ((((rd_T29 t408 0).f1).toList) == t413.toList)) = true
            ·
             rw [if_pos c41] at H
             have c41b0 : ((((rd_T29 t408 0).f0).toList) == t412.toList && ((((rd_T29 t408 0).f1).toList) == t413.toList)) = true := c41
             (try (have c41b1 : decide ((((rd_T29 t408 0).f0).toList) = t412.toList && ((((rd_T29 t408 0).f1).toList) == t413.toList)) = true := by simpa using c41))
             (try (have c41b2 : ((((rd_T29 t408 0).f0).toList) == t412.toList && ((((rd_T29 t408 0).f1).toList) == t413.toList)) = true := by simpa using c41))
             clear c41
             by_cases c42 : 1 < (t408.length : Int)
             ·
              rw [if_pos c42] at H
              have c42b0 : decide (1 < (t408.length : Int)) = true := decide_eq_true c42
              have c42b1 : decide (1 < t408.length) = true := decide_eq_true (by omega)
              clear c42
              obtain rfl := Option.some.inj H
              obtain ⟨Ao43, co43, eo43⟩ := Kd.R_slice HO_7.out
              subst eo43
              have p424 : 0 ≤ (0 : Int) := (by omega)
              have q424 : 0 < (t408.length : Int) := of_decide_eq_true (by first | (with_reducible assumption) | assumption)
              obtain ⟨ad424, e424, hx424_0, hx424_1⟩ := at_T29 (Kd.R_reads' HO_7.out).2.2 0 p424 q424
              cases e424
              have qi424 : (0 < t408.length) = True := eq_true (by omega)
              (try rw [show ((0 : Int)).toNat = 0 from rfl] at hx424_0)
              (try rw [show 0 * 2 = 0 from rfl] at hx424_0)
              (try rw [Addr.add_zero'] at hx424_0)
              (try rw [show ((0 : Int)).toNat = 0 from rfl] at hx424_1)
              (try rw [show 0 * 2 = 0 from rfl] at hx424_1)
              (try rw [Addr.add_zero'] at hx424_1)
              replace p424 := eq_true p424
              replace q424 := eq_true q424
              have hnb44 := NB415_419.out
              have hnc44 := NB419_415.out
              have hcz45_0 : wc.cell? ⟨gb415, 0, none⟩ = some (.string t412) := (blk_cell BK415.out 0).trans rfl
              have hcz45_1 : wc.cell? ⟨gb415, 1, none⟩ = some (.string t413) := (blk_cell BK415.out 1).trans rfl
              have hfz45_0 := blk_frozen BK415.out 0
              have hfz45_1 := blk_frozen BK415.out 1
              have p425 : 0 ≤ (1 : Int) := (by omega)
              have q425 : 1 < (t408.length : Int) := of_decide_eq_true (by first | (with_reducible assumption) | assumption)
              obtain ⟨ad425, e425, hx425_0, hx425_1⟩ := at_T29 (Kd.R_reads' HO_7.out).2.2 1 p425 q425
              obtain rfl : ad424 = ad425 := (by injection e425)
              (try simp only [show (1 : Int).toNat = 1 from rfl, Nat.reduceMul, Nat.reduceEqDiff, Go.Addr.add, ↓reduceIte] at hx425_0)
              (try simp only [show (1 : Int).toNat = 1 from rfl, Nat.reduceMul, Nat.reduceEqDiff, Go.Addr.add, ↓reduceIte] at hx425_1)
              have qi425 : (1 < t408.length) = True := eq_true (by omega)
              (try rw [show ((1 : Int)).toNat = 1 from rfl] at hx425_0)
              (try rw [show 1 * 2 = 2 from rfl] at hx425_0)
              (try rw [show ((1 : Int)).toNat = 1 from rfl] at hx425_1)
              (try rw [show 1 * 2 = 2 from rfl] at hx425_1)
              replace p425 := eq_true p425
              replace q425 := eq_true q425
              have hcz46_0 : wc.cell? ⟨gb419, 0, none⟩ = some (.string t416) := (blk_cell BK419.out 0).trans rfl
              have hcz46_1 : wc.cell? ⟨gb419, 1, none⟩ = some (.string t417) := (blk_cell BK419.out 1).trans rfl
              have hfz46_0 := blk_frozen BK419.out 0
              have hfz46_1 := blk_frozen BK419.out 1
              go_wp2
              repeat (go_quiet (fail); try go_wp2)
              go_ret
              exact ⟨by first | rfl | exact congrArg (fun b => Ending.returned (Value.bool b)) (isE_ne _).symm | exact congrArg (fun b => Ending.returned (Value.bool b)) (isE_eq _).symm | (simp only [isE_ne, isE_eq, Bool.not_not]; done) | (simp [errW_none, errW_some] <;> rfl) | (simp [*, errW_none, errW_some] <;> rfl), by repeat (first | (with_reducible first | exact HB.out | apply below_alloc | apply pw_below_drewN | apply below_drew1 | refine below_set ?_ GE415.out | refine below_set ?_ GE419.out) | exact HB.out)⟩
             ·
              rw [if_neg c42] at H
              exact absurd H (by simp)
            ·
             rw [if_neg c41] at H
             have c41b0 : ((((rd_T29 t408 0).f0).toList) == t412.toList && ((((rd_T29 t408 0).f1).toList) == t413.toList)) = false := by simpa using c41
             (try (have c41b1 : decide ((((rd_T29 t408 0).f0).toList) = t412.toList && ((((rd_T29 t408 0).f1).toList) == t413.toList)) = false := by simpa using c41))
             (try (have c41b2 : ((((rd_T29 t408 0).f0).toList) == t412.toList && ((((rd_T29 t408 0).f1).toList) == t413.toList)) = false := by simpa using c41))
             (try (have c41b3 : ¬ ((((rd_T29 t408 0).f0).toList) = t412.toList && ((((rd_T29 t408 0).f1).toList) == t413.toList)) := by simpa using c41))
             clear c41
             obtain rfl := Option.some.inj H
             obtain ⟨Ao47, co47, eo47⟩ := Kd.R_slice HO_7.out
             subst eo47
             have p424 : 0 ≤ (0 : Int) := (by omega)
             have q424 : 0 < (t408.length : Int) := of_decide_eq_true (by first | (with_reducible assumption) | assumption)
             obtain ⟨ad424, e424, hx424_0, hx424_1⟩ := at_T29 (Kd.R_reads' HO_7.out).2.2 0 p424 q424
             cases e424
             have qi424 : (0 < t408.length) = True := eq_true (by omega)
             (try rw [show ((0 : Int)).toNat = 0 from rfl] at hx424_0)
             (try rw [show 0 * 2 = 0 from rfl] at hx424_0)
             (try rw [Addr.add_zero'] at hx424_0)
             (try rw [show ((0 : Int)).toNat = 0 from rfl] at hx424_1)
             (try rw [show 0 * 2 = 0 from rfl] at hx424_1)
             (try rw [Addr.add_zero'] at hx424_1)
             replace p424 := eq_true p424
             replace q424 := eq_true q424
             have hnb48 := NB415_419.out
             have hnc48 := NB419_415.out
             have hcz49_0 : wc.cell? ⟨gb415, 0, none⟩ = some (.string t412) := (blk_cell BK415.out 0).trans rfl
             have hcz49_1 : wc.cell? ⟨gb415, 1, none⟩ = some (.string t413) := (blk_cell BK415.out 1).trans rfl
             have hfz49_0 := blk_frozen BK415.out 0
             have hfz49_1 := blk_frozen BK415.out 1
             go_wp2
             repeat (go_quiet (fail); try go_wp2)
             go_ret
             exact ⟨by first | rfl | exact congrArg (fun b => Ending.returned (Value.bool b)) (isE_ne _).symm | exact congrArg (fun b => Ending.returned (Value.bool b)) (isE_eq _).symm | (simp only [isE_ne, isE_eq, Bool.not_not]; done) | (simp [errW_none, errW_some] <;> rfl) | (simp [*, errW_none, errW_some] <;> rfl), by repeat (first | (with_reducible first | exact HB.out | apply below_alloc | apply pw_below_drewN | apply below_drew1 | refine below_set ?_ GE415.out | refine below_set ?_ GE419.out) | exact HB.out)⟩
           ·
            rw [if_neg c40] at H
            exact absurd H (by simp)
          ·
           rw [if_neg c39] at H
           have c39b0 : ((t408.length : Int) == 2) = false := beq_eq_false_iff_ne.mpr c39
           have c39b1 : ((t408.length : Int) != 2) = true := bne_iff_ne.mpr c39
           obtain rfl := Option.some.inj H
           obtain ⟨Ao50, co50, eo50⟩ := Kd.R_slice HO_7.out
           subst eo50
           go_wp2
           repeat (go_quiet (fail); try go_wp2)
           go_ret
           exact ⟨by first | rfl | exact congrArg (fun b => Ending.returned (Value.bool b)) (isE_ne _).symm | exact congrArg (fun b => Ending.returned (Value.bool b)) (isE_eq _).symm | (simp only [isE_ne, isE_eq, Bool.not_not]; done) | (simp [errW_none, errW_some] <;> rfl) | (simp [*, errW_none, errW_some] <;> rfl), by repeat (first | (with_reducible first | exact HB.out | apply below_alloc | apply pw_below_drewN | apply below_drew1 | refine below_set ?_ GE415.out | refine below_set ?_ GE419.out) | exact HB.out)⟩
         ·
          rw [if_neg c38] at H
          have c38b0 : (t409 == 0) = false := beq_eq_false_iff_ne.mpr c38
          have c38b1 : (t409 != 0) = true := bne_iff_ne.mpr c38
          obtain rfl := Option.some.inj H
          go_wp2
          repeat (go_quiet (fail); try go_wp2)
          go_ret
          exact ⟨by first | rfl | exact congrArg (fun b => Ending.returned (Value.bool b)) (isE_ne _).symm | exact congrArg (fun b => Ending.returned (Value.bool b)) (isE_eq _).symm | (simp only [isE_ne, isE_eq, Bool.not_not]; done) | (simp [errW_none, errW_some] <;> rfl) | (simp [*, errW_none, errW_some] <;> rfl), by repeat (first | (with_reducible first | exact HB.out | apply below_alloc | apply pw_below_drewN | apply below_drew1 | refine below_set ?_ GE415.out | refine below_set ?_ GE419.out) | exact HB.out)⟩
        ·
         replace c37 := Bool.eq_false_iff.mpr c37
         subst c37
         have H1 : (if t409 = 9 then (some ((t408.length : Int) == 0)) else (some false)) = some r := by rw [if_neg (show ¬ (false = true) by decide)] at H; exact H
         clear H
         have H := H1
         clear H1
         by_cases c51 : t409 = 9
         ·
          rw [if_pos c51] at H
          have c51b0 : (t409 == 9) = true := beq_iff_eq.mpr c51
          have c51b1 : (t409 != 9) = false := bne_eq_false_iff_eq.mpr c51
          clear c51
          obtain rfl := Option.some.inj H
          obtain ⟨Ao52, co52, eo52⟩ := Kd.R_slice HO_7.out
          subst eo52
          go_wp2
          repeat (go_quiet (fail); try go_wp2)
          go_ret
          exact ⟨by first | rfl | exact congrArg (fun b => Ending.returned (Value.bool b)) (isE_ne _).symm | exact congrArg (fun b => Ending.returned (Value.bool b)) (isE_eq _).symm | (simp only [isE_ne, isE_eq, Bool.not_not]; done) | (simp [errW_none, errW_some] <;> rfl) | (simp [*, errW_none, errW_some] <;> rfl), by repeat (first | (with_reducible first | exact HB.out | apply below_alloc | apply pw_below_drewN | apply below_drew1 | refine below_set ?_ GE415.out | refine below_set ?_ GE419.out) | exact HB.out)⟩
         ·
          rw [if_neg c51] at H
          have c51b0 : (t409 == 9) = false := beq_eq_false_iff_ne.mpr c51
          have c51b1 : (t409 != 9) = true := bne_iff_ne.mpr c51
          obtain rfl := Option.some.inj H
          go_wp2
          repeat (go_quiet (fail); try go_wp2)
          go_ret
          exact ⟨by first | rfl | exact congrArg (fun b => Ending.returned (Value.bool b)) (isE_ne _).symm | exact congrArg (fun b => Ending.returned (Value.bool b)) (isE_eq _).symm | (simp only [isE_ne, isE_eq, Bool.not_not]; done) | (simp [errW_none, errW_some] <;> rfl) | (simp [*, errW_none, errW_some] <;> rfl), by repeat (first | (with_reducible first | exact HB.out | apply below_alloc | apply pw_below_drewN | apply below_drew1 | refine below_set ?_ GE415.out | refine below_set ?_ GE419.out) | exact HB.out)⟩
       ·
        replace c36 := Bool.eq_false_iff.mpr c36
        subst c36
        have H1 : (if t409 = 9 then (some ((t408.length : Int) == 0)) else (some false)) = some r := by rw [if_neg (show ¬ (false = true) by decide)] at H; exact H
        clear H
        have H := H1
        clear H1
        by_cases c53 : t409 = 9
        ·
         rw [if_pos c53] at H
         have c53b0 : (t409 == 9) = true := beq_iff_eq.mpr c53
         have c53b1 : (t409 != 9) = false := bne_eq_false_iff_eq.mpr c53
         clear c53
         obtain rfl := Option.some.inj H
         obtain ⟨Ao54, co54, eo54⟩ := Kd.R_slice HO_7.out
         subst eo54
         go_wp2
         repeat (go_quiet (fail); try go_wp2)
         go_ret
         exact ⟨by first | rfl | exact congrArg (fun b => Ending.returned (Value.bool b)) (isE_ne _).symm | exact congrArg (fun b => Ending.returned (Value.bool b)) (isE_eq _).symm | (simp only [isE_ne, isE_eq, Bool.not_not]; done) | (simp [errW_none, errW_some] <;> rfl) | (simp [*, errW_none, errW_some] <;> rfl), by repeat (first | (with_reducible first | exact HB.out | apply below_alloc | apply pw_below_drewN | apply below_drew1 | refine below_set ?_ GE415.out | refine below_set ?_ GE419.out) | exact HB.out)⟩
        ·
         rw [if_neg c53] at H
         have c53b0 : (t409 == 9) = false := beq_eq_false_iff_ne.mpr c53
         have c53b1 : (t409 != 9) = true := bne_iff_ne.mpr c53
         obtain rfl := Option.some.inj H
         go_wp2
         repeat (go_quiet (fail); try go_wp2)
         go_ret
         exact ⟨by first | rfl | exact congrArg (fun b => Ending.returned (Value.bool b)) (isE_ne _).symm | exact congrArg (fun b => Ending.returned (Value.bool b)) (isE_eq _).symm | (simp only [isE_ne, isE_eq, Bool.not_not]; done) | (simp [errW_none, errW_some] <;> rfl) | (simp [*, errW_none, errW_some] <;> rfl), by repeat (first | (with_reducible first | exact HB.out | apply below_alloc | apply pw_below_drewN | apply below_drew1 | refine below_set ?_ GE415.out | refine below_set ?_ GE419.out) | exact HB.out)⟩

/-- THE ONE PURE STATEMENT of oriellaw07_ScopeNames: yours. -/
def oriellaw07_ScopeNames.Pure : Prop := ∀ (x0 : List (S44)) (x1 : ByteArray) (x2 : ByteArray), (x0.length * 32 ≤ 140737488351232) → (∀ y_, y_ ∈ x0 → Fit44 y_) → (x1.size ≤ 140737488351232) → (x2.size ≤ 140737488351232) → ∃ k, oriellaw07_ScopeNames.f k x0 x1 x2 = some true
theorem oriellaw07_ScopeNames.walk (P : oriellaw07_ScopeNames.Pure) (x0 : List (S44)) (x1 : ByteArray) (x2 : ByteArray) (A0 : Option Addr) (c0 : Nat) (w : World) (w0 : x0.length * 32 ≤ 140737488351232) (w1 : ∀ y_, y_ ∈ x0 → Fit44 y_) (w2 : x1.size ≤ 140737488351232) (w3 : x2.size ≤ 140737488351232) (hr0 : Kd.C k44 w A0 x0.length x0) (hc0 : x0.length ≤ c0) :
  Calls Try.prog 7 #[.slice A0 x0.length c0, .string x1, .string x2] w fun e w' => e = .returned (.bool true) ∧ Below w.heap.size w w' := by
 obtain ⟨k, h⟩ := P x0 x1 x2 w0 w1 w2 w3
 refine (oriellaw07_ScopeNames.calls k _ _ x0 x1 x2 true w hr0 hc0 h).mono ?_
 rintro e w' ⟨rfl, hd⟩
 exact ⟨rfl, hd⟩

end Go.Proofs.Ytjhchjjpopbieaa.X
