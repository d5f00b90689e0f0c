/- Printed by a program of this session (xprint) out of the kit's print, with functions proved by hand. -/
import Derived.Test.YtmbbjdkcanoklaaX0
import Derived.Test.YtmbbjdkcanoklaaX8
import Derived.Test.YtmbbjdkcanoklaaX9
import Derived.Test.YtmbbjdkcanoklaaX10
namespace Go.Proofs.Ytmbbjdkcanoklaa.X
open Go.RowKit Go.Proofs.YtmbbjdkcanoklaaW.PrintWords Go.Proofs.YtmbbjdkcanoklaaW.PrintLast Go.Proofs.YtmbbjdkcanoklaaW.PrintMore Go.Proofs.YtmbbjdkcanoklaaW.XConv
attribute [local go_sem] max2_int min2_int max_two min_two max_three min_three max_four min_four   -- for this text's walks alone
set_option linter.unusedVariables false
set_option linter.unusedSimpArgs false

/-! ### orielref01_Rune: function 58 -/
mutual
def orielref01_Rune.j0 : Nat → ByteArray → Int → Bool → Option (Int × Int × Int)
 | 0, _, _, _ => none
 | k + 1, x0, x1, x17 => if x17 = true then (some (0, 0, 7)) else (orielref01_Rune.l0 k x0 x1 1)
def orielref01_Rune.l0 : Nat → ByteArray → Int → Int → Option (Int × Int × Int)
 | 0, _, _, _ => none
 | k + 1, x0, x1, x7 => if x7 ≤ 4 then (orielref01_Rune.j2 k x0 x1 x7 (decide ((wrap64 (x1 + x7)) ≤ (x0.size : Int)))) else (orielref01_Rune.j2 k x0 x1 x7 false)
def orielref01_Rune.j2 : Nat → ByteArray → Int → Int → Bool → Option (Int × Int × Int)
 | 0, _, _, _, _ => none
 | k + 1, x0, x1, x7, x27 => if x27 = true then (if 0 ≤ x1 then (if x1 < (x0.size : Int) then (if x7 > 1 then ((orielref01_value.f k x0 x1 x7).bind fun t212 => (orielref01_Rune.j3 k x0 x1 x7 t212)) else (orielref01_Rune.j3 k x0 x1 x7 (wrap64 (bt x0 x1)))) else (none)) else (none)) else ((orielref01_cut.f k x0 x1).bind fun t211 => (if t211 = true then (some (0, 0, 7)) else (some (0, 0, 2))))
def orielref01_Rune.j3 : Nat → ByteArray → Int → Int → Int → Option (Int × Int × Int)
 | 0, _, _, _, _ => none
 | k + 1, x0, x1, x7, x8 => (orielref01_Put.f k x8).bind fun t213 => (if (t213.length : Int) = x7 then ((orielref01_begins.f k x0 x1 t213).bind fun t216 => (if t216 = true then (some (x8, x7, 0)) else (orielref01_Rune.l0 k x0 x1 (wrap64 (x7 + 1))))) else (orielref01_Rune.l0 k x0 x1 (wrap64 (x7 + 1))))
end
def orielref01_Rune.f (k : Nat) (a0 : ByteArray) (a1 : Int) : Option (Int × Int × Int) := if a1 < 0 then (orielref01_Rune.j0 k a0 a1 true) else (orielref01_Rune.j0 k a0 a1 (decide (a1 ≥ (a0.size : Int))))
theorem orielref01_Rune.mono_l : ∀ k, (∀ y0 y1 y2, LeO (orielref01_Rune.j0 k y0 y1 y2) (orielref01_Rune.j0 (k + 1) y0 y1 y2)) ∧ (∀ y0 y1 y2, LeO (orielref01_Rune.l0 k y0 y1 y2) (orielref01_Rune.l0 (k + 1) y0 y1 y2)) ∧ (∀ y0 y1 y2 y3, LeO (orielref01_Rune.j2 k y0 y1 y2 y3) (orielref01_Rune.j2 (k + 1) y0 y1 y2 y3)) ∧ (∀ y0 y1 y2 y3, LeO (orielref01_Rune.j3 k y0 y1 y2 y3) (orielref01_Rune.j3 (k + 1) y0 y1 y2 y3))
 | 0 => ⟨fun _ _ _ r h => by simp [orielref01_Rune.j0] at h, fun _ _ _ r h => by simp [orielref01_Rune.l0] at h, fun _ _ _ _ r h => by simp [orielref01_Rune.j2] at h, fun _ _ _ _ r h => by simp [orielref01_Rune.j3] at h⟩
 | k + 1 => by
  obtain ⟨ih0, ih1, ih2, ih3⟩ := orielref01_Rune.mono_l k
  refine ⟨?_, ?_, ?_, ?_⟩
  ·
   intro y0 y1 y2
   unfold orielref01_Rune.j0
   repeat' first
   | (with_reducible exact ih0 _ _ _)
   | (with_reducible exact ih1 _ _ _)
   | (with_reducible exact ih2 _ _ _ _)
   | (with_reducible exact ih3 _ _ _ _)
   | (with_reducible exact orielref01_Put.mono _ _)
   | (with_reducible exact orielref01_begins.mono _ _ _ _)
   | (with_reducible exact orielref01_cut.mono _ _ _)
   | (with_reducible exact orielref01_value.mono _ _ _ _)
   | (with_reducible exact LeO.refl _)
   | (with_reducible exact LeO.none _)
   | (with_reducible refine LeO.ite ?_ ?_)
   | (with_reducible refine LeO.bind ?_ (fun _ => ?_))
   | exact ih0 _ _ _
   | exact ih1 _ _ _
   | exact ih2 _ _ _ _
   | exact ih3 _ _ _ _
   | exact orielref01_Put.mono _ _
   | exact orielref01_begins.mono _ _ _ _
   | exact orielref01_cut.mono _ _ _
   | exact orielref01_value.mono _ _ _ _
   | exact LeO.none _
   | refine LeO.ite ?_ ?_
   | refine LeO.bind ?_ (fun _ => ?_)
  ·
   intro y0 y1 y2
   unfold orielref01_Rune.l0
   repeat' first
   | (with_reducible exact ih0 _ _ _)
   | (with_reducible exact ih1 _ _ _)
   | (with_reducible exact ih2 _ _ _ _)
   | (with_reducible exact ih3 _ _ _ _)
   | (with_reducible exact orielref01_Put.mono _ _)
   | (with_reducible exact orielref01_begins.mono _ _ _ _)
   | (with_reducible exact orielref01_cut.mono _ _ _)
   | (with_reducible exact orielref01_value.mono _ _ _ _)
   | (with_reducible exact LeO.refl _)
   | (with_reducible exact LeO.none _)
   | (with_reducible refine LeO.ite ?_ ?_)
   | (with_reducible refine LeO.bind ?_ (fun _ => ?_))
   | exact ih0 _ _ _
   | exact ih1 _ _ _
   | exact ih2 _ _ _ _
   | exact ih3 _ _ _ _
   | exact orielref01_Put.mono _ _
   | exact orielref01_begins.mono _ _ _ _
   | exact orielref01_cut.mono _ _ _
   | exact orielref01_value.mono _ _ _ _
   | exact LeO.none _
   | refine LeO.ite ?_ ?_
   | refine LeO.bind ?_ (fun _ => ?_)
  ·
   intro y0 y1 y2 y3
   unfold orielref01_Rune.j2
   repeat' first
   | (with_reducible exact ih0 _ _ _)
   | (with_reducible exact ih1 _ _ _)
   | (with_reducible exact ih2 _ _ _ _)
   | (with_reducible exact ih3 _ _ _ _)
   | (with_reducible exact orielref01_Put.mono _ _)
   | (with_reducible exact orielref01_begins.mono _ _ _ _)
   | (with_reducible exact orielref01_cut.mono _ _ _)
   | (with_reducible exact orielref01_value.mono _ _ _ _)
   | (with_reducible exact LeO.refl _)
   | (with_reducible exact LeO.none _)
   | (with_reducible refine LeO.ite ?_ ?_)
   | (with_reducible refine LeO.bind ?_ (fun _ => ?_))
   | exact ih0 _ _ _
   | exact ih1 _ _ _
   | exact ih2 _ _ _ _
   | exact ih3 _ _ _ _
   | exact orielref01_Put.mono _ _
   | exact orielref01_begins.mono _ _ _ _
   | exact orielref01_cut.mono _ _ _
   | exact orielref01_value.mono _ _ _ _
   | exact LeO.none _
   | refine LeO.ite ?_ ?_
   | refine LeO.bind ?_ (fun _ => ?_)
  ·
   intro y0 y1 y2 y3
   unfold orielref01_Rune.j3
   repeat' first
   | (with_reducible exact ih0 _ _ _)
   | (with_reducible exact ih1 _ _ _)
   | (with_reducible exact ih2 _ _ _ _)
   | (with_reducible exact ih3 _ _ _ _)
   | (with_reducible exact orielref01_Put.mono _ _)
   | (with_reducible exact orielref01_begins.mono _ _ _ _)
   | (with_reducible exact orielref01_cut.mono _ _ _)
   | (with_reducible exact orielref01_value.mono _ _ _ _)
   | (with_reducible exact LeO.refl _)
   | (with_reducible exact LeO.none _)
   | (with_reducible refine LeO.ite ?_ ?_)
   | (with_reducible refine LeO.bind ?_ (fun _ => ?_))
   | exact ih0 _ _ _
   | exact ih1 _ _ _
   | exact ih2 _ _ _ _
   | exact ih3 _ _ _ _
   | exact orielref01_Put.mono _ _
   | exact orielref01_begins.mono _ _ _ _
   | exact orielref01_cut.mono _ _ _
   | exact orielref01_value.mono _ _ _ _
   | exact LeO.none _
   | refine LeO.ite ?_ ?_
   | refine LeO.bind ?_ (fun _ => ?_)
theorem orielref01_Rune.mono : ∀ a0 a1 k, LeO (orielref01_Rune.f k a0 a1) (orielref01_Rune.f (k + 1) a0 a1) := by
 intro a0 a1 k; obtain ⟨ih0, ih1, ih2, ih3⟩ := orielref01_Rune.mono_l k
 unfold orielref01_Rune.f
 repeat' first
  | (with_reducible exact ih0 _ _ _)
  | (with_reducible exact ih1 _ _ _)
  | (with_reducible exact ih2 _ _ _ _)
  | (with_reducible exact ih3 _ _ _ _)
  | (with_reducible exact orielref01_Put.mono _ _)
  | (with_reducible exact orielref01_begins.mono _ _ _ _)
  | (with_reducible exact orielref01_cut.mono _ _ _)
  | (with_reducible exact orielref01_value.mono _ _ _ _)
  | (with_reducible exact LeO.refl _)
  | (with_reducible exact LeO.none _)
  | (with_reducible refine LeO.ite ?_ ?_)
  | (with_reducible refine LeO.bind ?_ (fun _ => ?_))
  | exact ih0 _ _ _
  | exact ih1 _ _ _
  | exact ih2 _ _ _ _
  | exact ih3 _ _ _ _
  | exact orielref01_Put.mono _ _
  | exact orielref01_begins.mono _ _ _ _
  | exact orielref01_cut.mono _ _ _
  | exact orielref01_value.mono _ _ _ _
  | exact LeO.none _
  | refine LeO.ite ?_ ?_
  | refine LeO.bind ?_ (fun _ => ?_)
set_option maxHeartbeats 8000000 in
set_option maxRecDepth 100000 in
theorem orielref01_Rune.calls (k : Nat) (a0 : ByteArray) (a1 : Int) (r1 : Int) (r2 : Int) (r3 : Int) (w : World) (h : orielref01_Rune.f k a0 a1 = some (r1, r2, r3)) :
  Calls Try.prog 58 #[.string a0, .int .i64 a1] w fun e w' => e = .returned (.tuple #[.int .i64 r1, .int .i64 r2, .int .i64 r3]) ∧ Below w.heap.size w w' := by
 have HB := Aside0.mk (Below.refl w.heap.size w); have H : (if a1 < 0 then (orielref01_Rune.j0 k a0 a1 true) else (orielref01_Rune.j0 k a0 a1 (decide (a1 ≥ (a0.size : Int))))) = some (r1, r2, r3) := h; clear h; have HC3 := Aside0.mk H; clear H
 go_enter Try.func58, Try.ntmps58
 go_upto_region 1 with (fail)
 go_cut [17] (fun v17 wc => ∃ (kq : Nat) (x17_2 : Bool), v17 = .bool x17_2 ∧ Aside0 (orielref01_Rune.j0 kq a0 a1 x17_2 = some (r1, r2, r3)) ∧ Aside0 (kq ≤ k) ∧ Aside0 (Below w.heap.size w wc))
 case first =>
  have H := HC3.out; clear HC3
  by_cases c4 : a1 < 0
  ·
   rw [if_pos c4] at H; have c4b0 : decide (a1 < 0) = true := decide_eq_true c4; clear c4; (first | rw [c4b0] | (simp only [i64_w, i32_w]; rw [c4b0]) | skip); have H' := Aside0.mk H; clear H
   go_wp2
   go_meet
   case rel => exact ⟨_, (true), (by first | rfl | (simp; done) | (simp [*]; done)), H', ⟨by first | omega | exact Nat.le_refl _⟩, ⟨be0_ HB⟩⟩
  rw [if_neg c4] at H; have c4b0 : decide (a1 < 0) = false := decide_eq_false c4; clear c4; (first | rw [c4b0] | (simp only [i64_w, i32_w]; rw [c4b0]) | skip); have H' := Aside0.mk H; clear H
  go_wp2
  go_meet
  case rel => exact ⟨_, (decide (a1 ≥ (a0.size : Int))), (by first | rfl | (simp; done) | (simp [*]; done)), H', ⟨by first | omega | exact Nat.le_refl _⟩, ⟨be0_ HB⟩⟩
 case rest =>
  clear HC3; (try clear p2); (try clear c4); (try clear c4b0); obtain ⟨kq, x17_2, rfl, HA, HJ2, HB⟩ := hcut
  cases kq with
  | zero => exact absurd HA.out (by simp [orielref01_Rune.j0])
  | succ kj2 =>
   have H := HA.out; clear HA; simp only [orielref01_Rune.j0] at H
   by_cases c5 : x17_2 = true
   ·
    subst c5; have H1 : (some (0, 0, 7)) = some (r1, r2, r3) := by rw [if_pos rfl] at H; exact H
    clear H; have H := H1; clear H1; simp only [Option.some.injEq, Prod.mk.injEq] at H; obtain ⟨rfl, rfl, rfl⟩ := H
    go_wp2
    go_ret3
    exact ⟨by first | rfl | exact congrArg (fun b => Ending.returned (Value.bool b)) (isE_ne _).symm | exact congrArg (fun b => Ending.returned (Value.bool b)) (isE_eq _).symm | (simp only [isE_ne, isE_eq, Bool.not_not]; done) | (simp [errW_none, errW_some] <;> rfl) | (simp [*, errW_none, errW_some] <;> rfl), be0_ HB⟩
   replace c5 := Bool.eq_false_iff.mpr c5; subst c5; have H1 : (orielref01_Rune.l0 kj2 a0 a1 1) = some (r1, r2, r3) := by rw [if_neg (show ¬ (false = true) by decide)] at H; exact H
   clear H; have H := H1; clear H1; have H' := Aside0.mk H; clear H
   go_wp2
   go_loopg [7] kj2 (fun kq v7 w' => ∃ (x7_2 : Int), v7 = .int .i64 x7_2 ∧ Aside0 (orielref01_Rune.l0 kq a0 a1 x7_2 = some (r1, r2, r3)) ∧ Aside0 (kq ≤ kj2) ∧ Aside0 (Below w.heap.size w w'))
   case atStart => exact ⟨(1), (by first | rfl | (simp; done) | (simp [*]; done)), H', ⟨Nat.le_refl _⟩, ⟨be0_ HB⟩⟩
   case round =>
    clear H'; (try clear p2); (try clear c4); (try clear c4b0); (try clear c5); (try clear p2); obtain ⟨x7_2, rfl, HA, HK2, HB⟩ := hrel
    cases gk with
    | zero => exact absurd HA.out (by simp [orielref01_Rune.l0])
    | succ k2 =>
     have H := HA.out; clear HA; simp only [orielref01_Rune.l0] at H; have HC6 := Aside0.mk H; clear H
     go_upto_region 4 with (fail)
     go_cut [27] (fun v27 wc => ∃ (kq : Nat) (x27_5 : Bool), v27 = .bool x27_5 ∧ Aside0 (orielref01_Rune.j2 kq a0 a1 x7_2 x27_5 = some (r1, r2, r3)) ∧ Aside0 (kq ≤ k2) ∧ Aside0 (Below w.heap.size w wc))
     case first =>
      have H := HC6.out; clear HC6
      by_cases c7 : x7_2 ≤ 4
      ·
       rw [if_pos c7] at H; have c7b0 : decide (x7_2 ≤ 4) = true := decide_eq_true c7; clear c7; (first | rw [c7b0] | (simp only [i64_w, i32_w]; rw [c7b0]) | skip); have H' := Aside0.mk H; clear H
       go_wp2
       go_meet
       case rel => exact ⟨_, (decide ((wrap64 (a1 + x7_2)) ≤ (a0.size : Int))), (by first | rfl | (simp; done) | (simp [*]; done)), H', ⟨by have := HJ2.out; have := HK2.out; first | omega | exact Nat.le_refl _⟩, ⟨be0_ HB⟩⟩
      rw [if_neg c7] at H; have c7b0 : decide (x7_2 ≤ 4) = false := decide_eq_false c7; clear c7; (first | rw [c7b0] | (simp only [i64_w, i32_w]; rw [c7b0]) | skip); have H' := Aside0.mk H; clear H
      go_wp2
      go_meet
      case rel => exact ⟨_, (false), (by first | rfl | (simp; done) | (simp [*]; done)), H', ⟨by have := HJ2.out; have := HK2.out; first | omega | exact Nat.le_refl _⟩, ⟨be0_ HB⟩⟩
     case rest =>
      clear HC6; (try clear p2); (try clear c4); (try clear c4b0); (try clear c5); (try clear p6); (try clear c7); (try clear c7b0); (try clear p2); obtain ⟨kq, x27_5, rfl, HA, HJ5, HB⟩ := hcut
      cases kq with
      | zero => exact absurd HA.out (by simp [orielref01_Rune.j2])
      | succ kj5 =>
       have H := HA.out; clear HA; simp only [orielref01_Rune.j2] at H
       by_cases c8 : x27_5 = true
       rotate_left
       ·
        replace c8 := Bool.eq_false_iff.mpr c8; subst c8; have H1 : ((orielref01_cut.f kj5 a0 a1).bind fun t211 => (if t211 = true then (some (0, 0, 7)) else (some (0, 0, 2)))) = some (r1, r2, r3) := by rw [if_neg (show ¬ (false = true) by decide)] at H; exact H
        clear H; have H := H1; clear H1; replace H := Option.bind_eq_some_iff.mp H; obtain ⟨t211, A250, H⟩ := H; replace H : (if t211 = true then (some (0, 0, 7)) else (some (0, 0, 2))) = some (r1, r2, r3) := H; have A25 := Aside0.mk A250; clear A250
        by_cases c26 : t211 = true
        ·
         subst c26; have H1 : (some (0, 0, 7)) = some (r1, r2, r3) := by rw [if_pos rfl] at H; exact H
         clear H; have H := H1; clear H1; simp only [Option.some.injEq, Prod.mk.injEq] at H; obtain ⟨rfl, rfl, rfl⟩ := H
         go_wp2_with (first | ((with_reducible refine gate_callee (f := 63) rfl ?_); refine goesL_ (some 56) rfl rfl Try.func63 (by kernel_rfl) rfl #[.string a0, .int .i64 a1] rfl (by (try simp only [List.map_toArray, List.map_cons, List.map_nil]); first | done | rfl | (simp only [List.length_drop, List.length_take]; rfl)) ?_; (with_reducible refine (orielref01_cut.calls kj5 a0 a1 true _ A25.out).mono ?_); rintro e w27 ⟨rfl, hb⟩; refine ⟨_, rfl, ?_⟩; have n0_ := Aside0.mk (below_step (be0_ HB) hb); clear HB; have HB := n0_; clear n0_; (try clear hb); (try clear hb2); (try clear hk); (try clear hi)))
         go_ret3
         exact ⟨by first | rfl | exact congrArg (fun b => Ending.returned (Value.bool b)) (isE_ne _).symm | exact congrArg (fun b => Ending.returned (Value.bool b)) (isE_eq _).symm | (simp only [isE_ne, isE_eq, Bool.not_not]; done) | (simp [errW_none, errW_some] <;> rfl) | (simp [*, errW_none, errW_some] <;> rfl), be0_ HB⟩
        replace c26 := Bool.eq_false_iff.mpr c26; subst c26; have H1 : (some (0, 0, 2)) = some (r1, r2, r3) := by rw [if_neg (show ¬ (false = true) by decide)] at H; exact H
        clear H; have H := H1; clear H1; simp only [Option.some.injEq, Prod.mk.injEq] at H; obtain ⟨rfl, rfl, rfl⟩ := H
        go_wp2_with (first | ((with_reducible refine gate_callee (f := 63) rfl ?_); refine goesL_ (some 56) rfl rfl Try.func63 (by kernel_rfl) rfl #[.string a0, .int .i64 a1] rfl (by (try simp only [List.map_toArray, List.map_cons, List.map_nil]); first | done | rfl | (simp only [List.length_drop, List.length_take]; rfl)) ?_; (with_reducible refine (orielref01_cut.calls kj5 a0 a1 false _ A25.out).mono ?_); rintro e w28 ⟨rfl, hb⟩; refine ⟨_, rfl, ?_⟩; have n0_ := Aside0.mk (below_step (be0_ HB) hb); clear HB; have HB := n0_; clear n0_; (try clear hb); (try clear hb2); (try clear hk); (try clear hi)))
        go_ret3
        exact ⟨by first | rfl | exact congrArg (fun b => Ending.returned (Value.bool b)) (isE_ne _).symm | exact congrArg (fun b => Ending.returned (Value.bool b)) (isE_eq _).symm | (simp only [isE_ne, isE_eq, Bool.not_not]; done) | (simp [errW_none, errW_some] <;> rfl) | (simp [*, errW_none, errW_some] <;> rfl), be0_ HB⟩
       subst c8; have H1 : (if 0 ≤ a1 then (if a1 < (a0.size : Int) then (if x7_2 > 1 then ((orielref01_value.f kj5 a0 a1 x7_2).bind fun t212 => (orielref01_Rune.j3 kj5 a0 a1 x7_2 t212)) else (orielref01_Rune.j3 kj5 a0 a1 x7_2 (wrap64 (bt a0 a1)))) else (none)) else (none)) = some (r1, r2, r3) := by rw [if_pos rfl] at H; exact H
       clear H; have H := H1; clear H1
       by_cases c9 : 0 ≤ a1
       rotate_left
       ·
        rw [if_neg c9] at H; exact absurd H (by simp)
       rw [if_pos c9] at H; have c9b0 : decide (0 ≤ a1) = true := decide_eq_true c9; clear c9
       by_cases c10 : a1 < (a0.size : Int)
       rotate_left
       ·
        rw [if_neg c10] at H; exact absurd H (by simp)
       rw [if_pos c10] at H; have c10b0 : decide (a1 < (a0.size : Int)) = true := decide_eq_true c10; clear c10; have HC12 := Aside0.mk H; clear H; have p11 : 0 ≤ (a1 : Int) := of_decide_eq_true (by first | (with_reducible assumption) | assumption); have q11 : a1 < (a0.size : Int) := of_decide_eq_true (by first | (with_reducible assumption) | assumption); have hx11 := bt_at a0 a1; replace p11 := eq_true p11; replace q11 := eq_true q11
       go_upto_if 35 with (fail)
       go_cut [8] (fun v8 wc => ∃ (kq : Nat) (x8_11 : Int), v8 = .int .i64 x8_11 ∧ Aside0 (orielref01_Rune.j3 kq a0 a1 x7_2 x8_11 = some (r1, r2, r3)) ∧ Aside0 (kq ≤ kj5) ∧ Aside0 (Below w.heap.size w wc))
       case first =>
        have H := HC12.out; clear HC12
        by_cases c13 : x7_2 > 1
        rotate_left
        ·
         rw [if_neg c13] at H; have c13b0 : decide (1 < x7_2) = false := decide_eq_false c13; clear c13; (first | rw [c13b0] | (simp only [i64_w, i32_w]; rw [c13b0]) | skip); have H' := Aside0.mk H; clear H
         go_wp2
         go_meet
         case rel => exact ⟨_, (wrap64 (bt a0 a1)), (by first | rfl | (simp; done) | (simp [*]; done)), H', ⟨by have := HJ2.out; have := HK2.out; have := HJ5.out; first | omega | exact Nat.le_refl _⟩, ⟨be0_ HB⟩⟩
        rw [if_pos c13] at H; have c13b0 : decide (1 < x7_2) = true := decide_eq_true c13; clear c13; (first | rw [c13b0] | (simp only [i64_w, i32_w]; rw [c13b0]) | skip); replace H := Option.bind_eq_some_iff.mp H; obtain ⟨t212, A140, H⟩ := H; replace H : (orielref01_Rune.j3 kj5 a0 a1 x7_2 t212) = some (r1, r2, r3) := H; have A14 := Aside0.mk A140; clear A140; have H' := Aside0.mk H; clear H
        go_wp2_with (first | ((with_reducible refine gate_callee (f := 60) rfl ?_); refine goesL_ (some 39) rfl rfl Try.func60 (by kernel_rfl) rfl #[.string a0, .int .i64 a1, .int .i64 x7_2] rfl (by (try simp only [List.map_toArray, List.map_cons, List.map_nil]); first | done | rfl | (simp only [List.length_drop, List.length_take]; rfl)) ?_; (with_reducible refine (orielref01_value.calls kj5 a0 a1 x7_2 t212 _ A14.out).mono ?_); rintro e w' ⟨rfl, ⟨nd, rfl⟩⟩; refine ⟨_, rfl, ?_⟩))
        go_meet
        case rel => exact ⟨_, (t212), (by first | rfl | (simp; done) | (simp [*]; done)), H', ⟨by have := HJ2.out; have := HK2.out; have := HJ5.out; first | omega | exact Nat.le_refl _⟩, ⟨be0_ HB⟩⟩
       case rest =>
        clear HC12; (try clear c1); (try clear p1); (try clear q1); (try clear hx1); (try clear p2); (try clear c4); (try clear c4b0); (try clear c5); (try clear c6); (try clear p6); (try clear c7); (try clear c7b0); (try clear c8); (try clear c9); (try clear c9b0); (try clear c10); (try clear c10b0); (try clear p11); (try clear q11); (try clear hx11); (try clear c13); (try clear c13b0); (try clear p11); (try clear p2); (try clear p6); (try clear q11); obtain ⟨kq, x8_11, rfl, HA, HJ11, HB⟩ := hcut
        cases kq with
        | zero => exact absurd HA.out (by simp [orielref01_Rune.j3])
        | succ kj11 =>
         have H := HA.out; clear HA; simp only [orielref01_Rune.j3] at H; replace H := Option.bind_eq_some_iff.mp H; obtain ⟨t213, A150, H⟩ := H; replace H : (if (t213.length : Int) = x7_2 then ((orielref01_begins.f kj11 a0 a1 t213).bind fun t216 => (if t216 = true then (some (x8_11, x7_2, 0)) else (orielref01_Rune.l0 kj11 a0 a1 (wrap64 (x7_2 + 1))))) else (orielref01_Rune.l0 kj11 a0 a1 (wrap64 (x7_2 + 1)))) = some (r1, r2, r3) := H; have A15 := Aside0.mk A150; clear A150
         by_cases c16 : (t213.length : Int) = x7_2
         rotate_left
         ·
          rw [if_neg c16] at H; have c16b0 : ((t213.length : Int) == x7_2) = false := beq_eq_false_iff_ne.mpr c16; have c16b1 : ((t213.length : Int) != x7_2) = true := bne_iff_ne.mpr c16; have H' := Aside0.mk H; clear H
          go_wp2_with (first | ((with_reducible refine gate_callee (f := 61) rfl ?_); refine goesL_ (some 41) rfl rfl Try.func61 (by kernel_rfl) rfl #[.int .i64 x8_11] rfl (by (try simp only [List.map_toArray, List.map_cons, List.map_nil]); first | done | rfl | (simp only [List.length_drop, List.length_take]; rfl)) ?_; (with_reducible refine (orielref01_Put.calls kj11 x8_11 t213 _ A15.out).mono ?_); rintro e w23 ⟨v214, rfl, ho0, hb⟩; refine ⟨_, rfl, ?_⟩; have n0_ := Aside0.mk (Kd.R_lower ho0 (below_size (be0_ HB))); have n1_ := Aside0.mk (below_step (be0_ HB) hb); clear HB; have HO215 := n0_; have HB := n1_; clear n0_ n1_; (try clear hb); (try clear hb2); (try clear hk); (try clear hi); (try clear ho0); obtain ⟨Ao24, co24, eo24⟩ := Kd.R_slice HO215.out; subst eo24))
          go_roundg kj11
          case measure => have := HJ2.out; have := HK2.out; have := HJ5.out; have := HJ11.out; omega
          case rel => exact ⟨(wrap64 (x7_2 + 1)), (by first | rfl | (simp; done) | (simp [*]; done)), H', ⟨by have := HJ2.out; have := HK2.out; have := HJ5.out; have := HJ11.out; omega⟩, ⟨be0_ HB⟩⟩
         rw [if_pos c16] at H; have c16b0 : ((t213.length : Int) == x7_2) = true := beq_iff_eq.mpr c16; have c16b1 : ((t213.length : Int) != x7_2) = false := bne_eq_false_iff_eq.mpr c16; clear c16; replace H := Option.bind_eq_some_iff.mp H; obtain ⟨t216, A170, H⟩ := H; replace H : (if t216 = true then (some (x8_11, x7_2, 0)) else (orielref01_Rune.l0 kj11 a0 a1 (wrap64 (x7_2 + 1)))) = some (r1, r2, r3) := H; have A17 := Aside0.mk A170; clear A170
         by_cases c18 : t216 = true
         ·
          subst c18; have H1 : (some (x8_11, x7_2, 0)) = some (r1, r2, r3) := by rw [if_pos rfl] at H; exact H
          clear H; have H := H1; clear H1; simp only [Option.some.injEq, Prod.mk.injEq] at H; obtain ⟨rfl, rfl, rfl⟩ := H
          go_wp2_with (first | ((with_reducible refine gate_callee (f := 61) rfl ?_); refine goesL_ (some 41) rfl rfl Try.func61 (by kernel_rfl) rfl #[.int .i64 x8_11] rfl (by (try simp only [List.map_toArray, List.map_cons, List.map_nil]); first | done | rfl | (simp only [List.length_drop, List.length_take]; rfl)) ?_; (with_reducible refine (orielref01_Put.calls kj11 x8_11 t213 _ A15.out).mono ?_); rintro e w19 ⟨v214, rfl, ho0, hb⟩; refine ⟨_, rfl, ?_⟩; have n0_ := Aside0.mk (Kd.R_lower ho0 (below_size (be0_ HB))); have n1_ := Aside0.mk (below_step (be0_ HB) hb); clear HB; have HO215 := n0_; have HB := n1_; clear n0_ n1_; (try clear hb); (try clear hb2); (try clear hk); (try clear hi); (try clear ho0); obtain ⟨Ao20, co20, eo20⟩ := Kd.R_slice HO215.out; subst eo20) | (go_at_call 62; (with_reducible refine (orielref01_begins.calls kj11 a0 a1 _ _ t213 true _ ?side1 ?side2 A17.out).mono ?_); (case side1 => repeat (first | exact (Kd.R_reads' HO215.out).2.2 | (with_reducible refine Kd.C_alloc ?_ _) | (with_reducible refine Kd.C_drewN ?_ _) | (with_reducible refine Kd.C_drew ?_))); (case side2 => exact (Kd.R_reads' HO215.out).2.1); rintro e w' ⟨rfl, ⟨nd, rfl⟩⟩))
          go_ret3
          exact ⟨by first | rfl | exact congrArg (fun b => Ending.returned (Value.bool b)) (isE_ne _).symm | exact congrArg (fun b => Ending.returned (Value.bool b)) (isE_eq _).symm | (simp only [isE_ne, isE_eq, Bool.not_not]; done) | (simp [errW_none, errW_some] <;> rfl) | (simp [*, errW_none, errW_some] <;> rfl), be0_ HB⟩
         replace c18 := Bool.eq_false_iff.mpr c18; subst c18; have H1 : (orielref01_Rune.l0 kj11 a0 a1 (wrap64 (x7_2 + 1))) = some (r1, r2, r3) := by rw [if_neg (show ¬ (false = true) by decide)] at H; exact H
         clear H; have H := H1; clear H1; have H' := Aside0.mk H; clear H
         go_wp2_with (first | ((with_reducible refine gate_callee (f := 61) rfl ?_); refine goesL_ (some 41) rfl rfl Try.func61 (by kernel_rfl) rfl #[.int .i64 x8_11] rfl (by (try simp only [List.map_toArray, List.map_cons, List.map_nil]); first | done | rfl | (simp only [List.length_drop, List.length_take]; rfl)) ?_; (with_reducible refine (orielref01_Put.calls kj11 x8_11 t213 _ A15.out).mono ?_); rintro e w21 ⟨v214, rfl, ho0, hb⟩; refine ⟨_, rfl, ?_⟩; have n0_ := Aside0.mk (Kd.R_lower ho0 (below_size (be0_ HB))); have n1_ := Aside0.mk (below_step (be0_ HB) hb); clear HB; have HO215 := n0_; have HB := n1_; clear n0_ n1_; (try clear hb); (try clear hb2); (try clear hk); (try clear hi); (try clear ho0); obtain ⟨Ao22, co22, eo22⟩ := Kd.R_slice HO215.out; subst eo22) | (go_at_call 62; (with_reducible refine (orielref01_begins.calls kj11 a0 a1 _ _ t213 false _ ?side1 ?side2 A17.out).mono ?_); (case side1 => repeat (first | exact (Kd.R_reads' HO215.out).2.2 | (with_reducible refine Kd.C_alloc ?_ _) | (with_reducible refine Kd.C_drewN ?_ _) | (with_reducible refine Kd.C_drew ?_))); (case side2 => exact (Kd.R_reads' HO215.out).2.1); rintro e w' ⟨rfl, ⟨nd, rfl⟩⟩))
         go_roundg kj11
         case measure => have := HJ2.out; have := HK2.out; have := HJ5.out; have := HJ11.out; omega
         case rel => exact ⟨(wrap64 (x7_2 + 1)), (by first | rfl | (simp; done) | (simp [*]; done)), H', ⟨by have := HJ2.out; have := HK2.out; have := HJ5.out; have := HJ11.out; omega⟩, ⟨be0_ HB⟩⟩
/-! ### orielref01_All: function 54 -/
def orielref01_All.l0 : Nat → ByteArray → List Int → Int → Option (List Int × Int × Int)
 | 0, _, _, _ => none
 | k + 1, x0, x5, x6 => if x6 < (x0.size : Int) then ((orielref01_Rune.f k x0 x6).bind fun bt217 => (if bt217.2.2 = 0 then (if x5.length < 35184372088832 then (orielref01_All.l0 k x0 (x5 ++ [wrap32 (bt217.1)]) (wrap64 (x6 + bt217.2.1))) else (none)) else (some (x5, x6, bt217.2.2)))) else (some (x5, x6, 0))
def orielref01_All.f (k : Nat) (a0 : ByteArray) : Option (List Int × Int × Int) := orielref01_All.l0 k a0 ([] : List Int) 0
theorem orielref01_All.mono_l : ∀ k, (∀ y0 y1 y2, LeO (orielref01_All.l0 k y0 y1 y2) (orielref01_All.l0 (k + 1) y0 y1 y2))
 | 0 => fun _ _ _ r h => by simp [orielref01_All.l0] at h
 | k + 1 => by
  have ih0 := orielref01_All.mono_l k
  ·
   intro y0 y1 y2
   unfold orielref01_All.l0
   repeat' first
   | (with_reducible exact ih0 _ _ _)
   | (with_reducible exact orielref01_Rune.mono _ _ _)
   | (with_reducible exact LeO.refl _)
   | (with_reducible exact LeO.none _)
   | (with_reducible refine LeO.ite ?_ ?_)
   | (with_reducible refine LeO.bind ?_ (fun _ => ?_))
   | exact ih0 _ _ _
   | exact orielref01_Rune.mono _ _ _
   | exact LeO.none _
   | refine LeO.ite ?_ ?_
   | refine LeO.bind ?_ (fun _ => ?_)
theorem orielref01_All.mono : ∀ a0 k, LeO (orielref01_All.f k a0) (orielref01_All.f (k + 1) a0) := by
 intro a0 k; have ih0 := orielref01_All.mono_l k
 unfold orielref01_All.f
 repeat' first
  | (with_reducible exact ih0 _ _ _)
  | (with_reducible exact orielref01_Rune.mono _ _ _)
  | (with_reducible exact LeO.refl _)
  | (with_reducible exact LeO.none _)
  | (with_reducible refine LeO.ite ?_ ?_)
  | (with_reducible refine LeO.bind ?_ (fun _ => ?_))
  | exact ih0 _ _ _
  | exact orielref01_Rune.mono _ _ _
  | exact LeO.none _
  | refine LeO.ite ?_ ?_
  | refine LeO.bind ?_ (fun _ => ?_)
set_option maxHeartbeats 8000000 in
set_option maxRecDepth 100000 in
theorem orielref01_All.calls (k : Nat) (a0 : ByteArray) (r1 : List Int) (r2 : Int) (r3 : Int) (w : World) (h : orielref01_All.f k a0 = some (r1, r2, r3)) :
  Calls Try.prog 54 #[.string a0] w fun e w' => ∃ v0_ : Value, e = .returned (.tuple #[v0_, .int .i64 r2, .int .i64 r3]) ∧ Kd.R (Kd.int .i32) 21 w' w.heap.size (fun _ => True) v0_ r1 ∧ Below w.heap.size w w' := by
 have HB := Aside0.mk (Below.refl w.heap.size w); have H : (orielref01_All.l0 k a0 ([] : List Int) 0) = some (r1, r2, r3) := h; clear h; have H' := Aside0.mk H; clear H
 go_enter Try.func54, Try.ntmps54
 go_wp2
 go_loopg [5, 6] k (fun kq v5 v6 w' => ∃ (x5_1 : List Int) (x6_1 : Int), v6 = .int .i64 x6_1 ∧ Aside0 (orielref01_All.l0 kq a0 x5_1 x6_1 = some (r1, r2, r3)) ∧ Aside0 (kq ≤ k) ∧ Aside0 (Kd.R (Kd.int .i32) 21 w' w.heap.size (fun _ => True) v5 x5_1) ∧ Aside0 (Below w.heap.size w w'))
 case atStart => exact ⟨(([] : List Int)), (0), (by first | rfl | (simp; done) | (simp [*]; done)), H', ⟨Nat.le_refl _⟩, ⟨by first | exact Kd.R_nil _ _ _ _ _ | exact Kd.N_nil _ _ _ _ _ | exact Kd.V_nil _ _ _ _ _ | exact Kd.Q_nil _ _ _ _ _ | exact Kd.S_nil _ _ _ _ _⟩, ⟨be0_ HB⟩⟩
 case round =>
  clear H'; obtain ⟨x5_1, x6_1, rfl, HA, HK1, HO_5, HB⟩ := hrel
  cases gk with
  | zero => exact absurd HA.out (by simp [orielref01_All.l0])
  | succ k1 =>
   have H := HA.out; clear HA; simp only [orielref01_All.l0] at H
   by_cases c2 : x6_1 < (a0.size : Int)
   rotate_left
   ·
    rw [if_neg c2] at H; have c2b0 : decide (x6_1 < (a0.size : Int)) = false := decide_eq_false c2; clear c2; simp only [Option.some.injEq, Prod.mk.injEq] at H; obtain ⟨rfl, rfl, rfl⟩ := H
    go_wp2
    go_ret3
    exact ⟨_, by first | rfl | exact congrArg (fun b => Ending.returned (Value.bool b)) (isE_ne _).symm | exact congrArg (fun b => Ending.returned (Value.bool b)) (isE_eq _).symm | (simp only [isE_ne, isE_eq, Bool.not_not]; done) | (simp [errW_none, errW_some] <;> rfl) | (simp [*, errW_none, errW_some] <;> rfl), by (with_reducible repeat (first | apply Kd.R_alloc | apply Kd.R_drewN | apply Kd.R_drew)); exact HO_5.out, be0_ HB⟩
   rw [if_pos c2] at H; have c2b0 : decide (x6_1 < (a0.size : Int)) = true := decide_eq_true c2; clear c2; replace H := Option.bind_eq_some_iff.mp H; obtain ⟨⟨t217, t218, t219⟩, A30, H⟩ := H; replace H : (if t219 = 0 then (if x5_1.length < 35184372088832 then (orielref01_All.l0 k1 a0 (x5_1 ++ [wrap32 (t217)]) (wrap64 (x6_1 + t218))) else (none)) else (some (x5_1, x6_1, t219))) = some (r1, r2, r3) := H; have A3 := Aside0.mk A30; clear A30
   by_cases c4 : t219 = 0
   rotate_left
   ·
    rw [if_neg c4] at H; have c4b0 : (t219 == 0) = false := beq_eq_false_iff_ne.mpr c4; have c4b1 : (t219 != 0) = true := bne_iff_ne.mpr c4; simp only [Option.some.injEq, Prod.mk.injEq] at H; obtain ⟨rfl, rfl, rfl⟩ := H
    go_wp2_with (first | ((with_reducible refine gate_callee (f := 58) rfl ?_); refine goesL_ (some 17) rfl rfl Try.func58 (by kernel_rfl) rfl #[.string a0, .int .i64 x6_1] rfl (by (try simp only [List.map_toArray, List.map_cons, List.map_nil]); first | done | rfl | (simp only [List.length_drop, List.length_take]; rfl)) ?_; (with_reducible refine (orielref01_Rune.calls k1 a0 x6_1 t217 t218 t219 _ A3.out).mono ?_); rintro e w8 ⟨rfl, hb⟩; refine ⟨_, rfl, ?_⟩; have n0_ := Aside0.mk (Kd.R_below (rr_ HO_5) hb); have n1_ := Aside0.mk (below_step (be0_ HB) hb); clear HO_5; clear HB; have HO_5 := n0_; have HB := n1_; clear n0_ n1_; (try clear hb); (try clear hb2); (try clear hk); (try clear hi)))
    go_ret3
    exact ⟨_, by first | rfl | exact congrArg (fun b => Ending.returned (Value.bool b)) (isE_ne _).symm | exact congrArg (fun b => Ending.returned (Value.bool b)) (isE_eq _).symm | (simp only [isE_ne, isE_eq, Bool.not_not]; done) | (simp [errW_none, errW_some] <;> rfl) | (simp [*, errW_none, errW_some] <;> rfl), by (with_reducible repeat (first | apply Kd.R_alloc | apply Kd.R_drewN | apply Kd.R_drew)); exact HO_5.out, be0_ HB⟩
   rw [if_pos c4] at H; have c4b0 : (t219 == 0) = true := beq_iff_eq.mpr c4; have c4b1 : (t219 != 0) = false := bne_eq_false_iff_eq.mpr c4; clear c4
   by_cases c5 : x5_1.length < 35184372088832
   rotate_left
   ·
    rw [if_neg c5] at H; exact absurd H (by simp)
   rw [if_pos c5] at H; have LMc5 := Aside0.mk c5; clear c5; obtain ⟨y220, hy220⟩ : ∃ y_ : List Int, y_ = (x5_1 ++ [wrap32 (t217)]) := ⟨_, rfl⟩; replace H : (orielref01_All.l0 k1 a0 y220 (wrap64 (x6_1 + t218))) = some (r1, r2, r3) := by first | (rw [hy220]; with_reducible exact H) | (have H2_ := (Option.bind_some _ _).symm.trans H; rw [hy220]; with_reducible exact H2_) | (have H2_ := (Option.bind_some _ _).symm.trans H; with_reducible exact H2_) | with_reducible exact H | (rw [hy220]; exact H) | exact H
   have Ny220 := Aside0.mk hy220; clear hy220; have H' := Aside0.mk H; clear H
   go_wp2_with (first | ((with_reducible refine gate_callee (f := 58) rfl ?_); refine goesL_ (some 17) rfl rfl Try.func58 (by kernel_rfl) rfl #[.string a0, .int .i64 x6_1] rfl (by (try simp only [List.map_toArray, List.map_cons, List.map_nil]); first | done | rfl | (simp only [List.length_drop, List.length_take]; rfl)) ?_; (with_reducible refine (orielref01_Rune.calls k1 a0 x6_1 t217 t218 t219 _ A3.out).mono ?_); rintro e w6 ⟨rfl, hb⟩; refine ⟨_, rfl, ?_⟩; have n0_ := Aside0.mk (Kd.R_below (rr_ HO_5) hb); have n1_ := Aside0.mk (below_step (be0_ HB) hb); clear HO_5; clear HB; have HO_5 := n0_; have HB := n1_; clear n0_ n1_; (try clear hb); (try clear hb2); (try clear hk); (try clear hi)) | ((with_reducible refine gate_builtin (b := .append) (xs := #[.tmp 26, .tmp 29]) rfl ?_); at_builtin; refine Kd.R_append (Kd.int .i32) (w0 := w) w.heap.size rfl (.tmp 26) (.tmp 29) 94 21 (.int .i32 0) 4 rfl Try.underlying94 info21 rfl (by decide) (by omega) u5 x5_1 (wrap32 (t217)) [.int .i32 (wrap32 (t217))] (fun _ => True) (fun _ => False) rfl rfl ?aP (fun _ hk => hk.elim) ?aF ?aO ?aB ?aS ?aL ?_; (case aP => exact rfl); (case aB => exact (be0_ HB)); (case aF => exact (fun _ _ => trivial)); (case aO => exact (rr_ HO_5)); (case aS => exact (below_size (be0_ HB))); (case aL => have := LMc5.out; omega); intro v221 w7 ho hb hg hat; rw [← Ny220.out] at ho; have n0_ := Aside0.mk (hb); have n1_ := Aside0.mk (ho); clear HB; clear HO_5; have HB := n0_; have HO222 := n1_; clear n0_ n1_; clear ho hb hg hat))
   go_roundg k1
   case measure => have := HK1.out; omega
   case rel => exact ⟨(y220), (wrap64 (x6_1 + t218)), (by first | rfl | (simp; done) | (simp [*]; done)), H', ⟨by have := HK1.out; omega⟩, ⟨rr_ HO222⟩, ⟨be0_ HB⟩⟩
/-! ### orielref02_Blank: function 59 -/
def orielref02_Blank.f (a0 : Int) : Option (Bool) := if a0 = 9 then (some true) else (if a0 = 10 then (some true) else (if a0 = 13 then (some true) else (some (a0 == 32))))
set_option maxHeartbeats 8000000 in
set_option maxRecDepth 100000 in
theorem orielref02_Blank.calls (a0 : Int) (r : Bool) (w : World) (h : orielref02_Blank.f a0 = some r) :
  Calls Try.prog 59 #[.int .i64 a0] w fun e w' => e = .returned (.bool r) ∧ Drawn0 w w' := by
 have H : (if a0 = 9 then (some true) else (if a0 = 10 then (some true) else (if a0 = 13 then (some true) else (some (a0 == 32))))) = some r := h; clear h
 by_cases c2 : a0 = 9
 ·
  rw [if_pos c2] at H; have c2b0 : (a0 == 9) = true := beq_iff_eq.mpr c2; have c2b1 : (a0 != 9) = false := bne_eq_false_iff_eq.mpr c2; clear c2; obtain rfl := Option.some.inj H
  go_enter Try.func59, Try.ntmps59
  go_wp2
  go_ret
  exact ⟨by first | rfl | (simp; done) | (simp [*]; done), by repeat (first | exact Drawn0.refl _ | apply Drawn0.step)⟩
 rw [if_neg c2] at H; have c2b0 : (a0 == 9) = false := beq_eq_false_iff_ne.mpr c2; have c2b1 : (a0 != 9) = true := bne_iff_ne.mpr c2
 by_cases c3 : a0 = 10
 ·
  rw [if_pos c3] at H; have c3b0 : (a0 == 10) = true := beq_iff_eq.mpr c3; have c3b1 : (a0 != 10) = false := bne_eq_false_iff_eq.mpr c3; clear c3; obtain rfl := Option.some.inj H
  go_enter Try.func59, Try.ntmps59
  go_wp2
  go_ret
  exact ⟨by first | rfl | (simp; done) | (simp [*]; done), by repeat (first | exact Drawn0.refl _ | apply Drawn0.step)⟩
 rw [if_neg c3] at H; have c3b0 : (a0 == 10) = false := beq_eq_false_iff_ne.mpr c3; have c3b1 : (a0 != 10) = true := bne_iff_ne.mpr c3
 by_cases c4 : a0 = 13
 rotate_left
 ·
  rw [if_neg c4] at H; have c4b0 : (a0 == 13) = false := beq_eq_false_iff_ne.mpr c4; have c4b1 : (a0 != 13) = true := bne_iff_ne.mpr c4; obtain rfl := Option.some.inj H
  go_enter Try.func59, Try.ntmps59
  go_wp2
  go_ret
  exact ⟨by first | rfl | (simp; done) | (simp [*]; done), by repeat (first | exact Drawn0.refl _ | apply Drawn0.step)⟩
 rw [if_pos c4] at H; have c4b0 : (a0 == 13) = true := beq_iff_eq.mpr c4; have c4b1 : (a0 != 13) = false := bne_eq_false_iff_eq.mpr c4; clear c4; obtain rfl := Option.some.inj H
 go_enter Try.func59, Try.ntmps59
 go_wp2
 go_ret
 exact ⟨by first | rfl | (simp; done) | (simp [*]; done), by repeat (first | exact Drawn0.refl _ | apply Drawn0.step)⟩
/-! ### orielref02_Char: function 55 -/
def orielref02_Char.f (a0 : Int) : Option (Bool) := if a0 < 32 then ((orielref02_Blank.f a0).bind fun t223 => (some t223)) else (if a0 ≥ 55296 then (if a0 < 57344 then (some false) else (if a0 = 65534 then (some false) else (if a0 = 65535 then (some false) else (some (decide (a0 ≤ 1114111)))))) else (if a0 = 65534 then (some false) else (if a0 = 65535 then (some false) else (some (decide (a0 ≤ 1114111))))))
set_option maxHeartbeats 8000000 in
set_option maxRecDepth 100000 in
theorem orielref02_Char.calls (a0 : Int) (r : Bool) (w : World) (h : orielref02_Char.f a0 = some r) :
  Calls Try.prog 55 #[.int .i64 a0] w fun e w' => e = .returned (.bool r) ∧ Drawn0 w w' := by
 have H : (if a0 < 32 then ((orielref02_Blank.f a0).bind fun t223 => (some t223)) else (if a0 ≥ 55296 then (if a0 < 57344 then (some false) else (if a0 = 65534 then (some false) else (if a0 = 65535 then (some false) else (some (decide (a0 ≤ 1114111)))))) else (if a0 = 65534 then (some false) else (if a0 = 65535 then (some false) else (some (decide (a0 ≤ 1114111))))))) = some r := h; clear h
 by_cases c2 : a0 < 32
 ·
  rw [if_pos c2] at H; have c2b0 : decide (a0 < 32) = true := decide_eq_true c2; clear c2; replace H := Option.bind_eq_some_iff.mp H; obtain ⟨t223, A30, H⟩ := H; replace H : (some t223) = some r := H; have A3 := Aside0.mk A30; clear A30; obtain rfl := Option.some.inj H
  go_enter Try.func55, Try.ntmps55
  go_wp2_with (first | ((with_reducible refine gate_callee (f := 59) rfl ?_); refine goesL_ (some 6) rfl rfl Try.func59 (by kernel_rfl) rfl #[.int .i64 a0] rfl (by (try simp only [List.map_toArray, List.map_cons, List.map_nil]); first | done | rfl | (simp only [List.length_drop, List.length_take]; rfl)) ?_; (with_reducible refine (orielref02_Blank.calls a0 t223 _ A3.out).mono ?_); rintro e w' ⟨rfl, ⟨nd, rfl⟩⟩; refine ⟨_, rfl, ?_⟩))
  go_ret
  exact ⟨by first | rfl | (simp; done) | (simp [*]; done), by repeat (first | exact Drawn0.refl _ | apply Drawn0.step)⟩
 rw [if_neg c2] at H; have c2b0 : decide (a0 < 32) = false := decide_eq_false c2; clear c2
 by_cases c4 : a0 ≥ 55296
 rotate_left
 ·
  rw [if_neg c4] at H; have c4b0 : decide (55296 ≤ a0) = false := decide_eq_false c4; clear c4
  by_cases c8 : a0 = 65534
  ·
   rw [if_pos c8] at H; have c8b0 : (a0 == 65534) = true := beq_iff_eq.mpr c8; have c8b1 : (a0 != 65534) = false := bne_eq_false_iff_eq.mpr c8; clear c8; obtain rfl := Option.some.inj H
   go_enter Try.func55, Try.ntmps55
   go_wp2
   go_ret
   exact ⟨by first | rfl | (simp; done) | (simp [*]; done), by repeat (first | exact Drawn0.refl _ | apply Drawn0.step)⟩
  rw [if_neg c8] at H; have c8b0 : (a0 == 65534) = false := beq_eq_false_iff_ne.mpr c8; have c8b1 : (a0 != 65534) = true := bne_iff_ne.mpr c8
  by_cases c9 : a0 = 65535
  rotate_left
  ·
   rw [if_neg c9] at H; have c9b0 : (a0 == 65535) = false := beq_eq_false_iff_ne.mpr c9; have c9b1 : (a0 != 65535) = true := bne_iff_ne.mpr c9; obtain rfl := Option.some.inj H
   go_enter Try.func55, Try.ntmps55
   go_wp2
   go_ret
   exact ⟨by first | rfl | (simp; done) | (simp [*]; done), by repeat (first | exact Drawn0.refl _ | apply Drawn0.step)⟩
  rw [if_pos c9] at H; have c9b0 : (a0 == 65535) = true := beq_iff_eq.mpr c9; have c9b1 : (a0 != 65535) = false := bne_eq_false_iff_eq.mpr c9; clear c9; obtain rfl := Option.some.inj H
  go_enter Try.func55, Try.ntmps55
  go_wp2
  go_ret
  exact ⟨by first | rfl | (simp; done) | (simp [*]; done), by repeat (first | exact Drawn0.refl _ | apply Drawn0.step)⟩
 rw [if_pos c4] at H; have c4b0 : decide (55296 ≤ a0) = true := decide_eq_true c4; clear c4
 by_cases c5 : a0 < 57344
 ·
  rw [if_pos c5] at H; have c5b0 : decide (a0 < 57344) = true := decide_eq_true c5; clear c5; obtain rfl := Option.some.inj H
  go_enter Try.func55, Try.ntmps55
  go_wp2
  go_ret
  exact ⟨by first | rfl | (simp; done) | (simp [*]; done), by repeat (first | exact Drawn0.refl _ | apply Drawn0.step)⟩
 rw [if_neg c5] at H; have c5b0 : decide (a0 < 57344) = false := decide_eq_false c5; clear c5
 by_cases c6 : a0 = 65534
 ·
  rw [if_pos c6] at H; have c6b0 : (a0 == 65534) = true := beq_iff_eq.mpr c6; have c6b1 : (a0 != 65534) = false := bne_eq_false_iff_eq.mpr c6; clear c6; obtain rfl := Option.some.inj H
  go_enter Try.func55, Try.ntmps55
  go_wp2
  go_ret
  exact ⟨by first | rfl | (simp; done) | (simp [*]; done), by repeat (first | exact Drawn0.refl _ | apply Drawn0.step)⟩
 rw [if_neg c6] at H; have c6b0 : (a0 == 65534) = false := beq_eq_false_iff_ne.mpr c6; have c6b1 : (a0 != 65534) = true := bne_iff_ne.mpr c6
 by_cases c7 : a0 = 65535
 rotate_left
 ·
  rw [if_neg c7] at H; have c7b0 : (a0 == 65535) = false := beq_eq_false_iff_ne.mpr c7; have c7b1 : (a0 != 65535) = true := bne_iff_ne.mpr c7; obtain rfl := Option.some.inj H
  go_enter Try.func55, Try.ntmps55
  go_wp2
  go_ret
  exact ⟨by first | rfl | (simp; done) | (simp [*]; done), by repeat (first | exact Drawn0.refl _ | apply Drawn0.step)⟩
 rw [if_pos c7] at H; have c7b0 : (a0 == 65535) = true := beq_iff_eq.mpr c7; have c7b1 : (a0 != 65535) = false := bne_eq_false_iff_eq.mpr c7; clear c7; obtain rfl := Option.some.inj H
 go_enter Try.func55, Try.ntmps55
 go_wp2
 go_ret
 exact ⟨by first | rfl | (simp; done) | (simp [*]; done), by repeat (first | exact Drawn0.refl _ | apply Drawn0.step)⟩
/-! ### orielref04_Right: function 47 -/
def orielref04_Right.l0 : Nat → List Int → Int → Int → Option (Bool)
 | 0, _, _, _ => none
 | k + 1, x3, x5, x6 => if x6 < (x3.length : Int) then (if 0 ≤ x6 then ((orielref02_Char.f (wrap64 (rd x3 x6))).bind fun t230 => (if t230 = true then (orielref04_Right.l0 k x3 x5 (wrap64 (x6 + 1))) else (some false))) else (none)) else (some (x5 == 0))
def orielref04_Right.f (k : Nat) (a0 : ByteArray) : Option (Bool) := (orielref01_All.f k a0).bind fun bt224 => (orielref04_Right.l0 k bt224.1 bt224.2.2 0)
theorem orielref04_Right.mono_l : ∀ k, (∀ y0 y1 y2, LeO (orielref04_Right.l0 k y0 y1 y2) (orielref04_Right.l0 (k + 1) y0 y1 y2))
 | 0 => fun _ _ _ r h => by simp [orielref04_Right.l0] at h
 | k + 1 => by
  have ih0 := orielref04_Right.mono_l k
  ·
   intro y0 y1 y2
   unfold orielref04_Right.l0
   repeat' first
   | (with_reducible exact ih0 _ _ _)
   | (with_reducible exact orielref01_All.mono _ _)
   | (with_reducible exact LeO.refl _)
   | (with_reducible exact LeO.none _)
   | (with_reducible refine LeO.ite ?_ ?_)
   | (with_reducible refine LeO.bind ?_ (fun _ => ?_))
   | exact ih0 _ _ _
   | exact orielref01_All.mono _ _
   | exact LeO.none _
   | refine LeO.ite ?_ ?_
   | refine LeO.bind ?_ (fun _ => ?_)
theorem orielref04_Right.mono : ∀ a0 k, LeO (orielref04_Right.f k a0) (orielref04_Right.f (k + 1) a0) := by
 intro a0 k; have ih0 := orielref04_Right.mono_l k
 unfold orielref04_Right.f
 repeat' first
  | (with_reducible exact ih0 _ _ _)
  | (with_reducible exact orielref01_All.mono _ _)
  | (with_reducible exact LeO.refl _)
  | (with_reducible exact LeO.none _)
  | (with_reducible refine LeO.ite ?_ ?_)
  | (with_reducible refine LeO.bind ?_ (fun _ => ?_))
  | exact ih0 _ _ _
  | exact orielref01_All.mono _ _
  | exact LeO.none _
  | refine LeO.ite ?_ ?_
  | refine LeO.bind ?_ (fun _ => ?_)
set_option maxHeartbeats 8000000 in
set_option maxRecDepth 100000 in
theorem orielref04_Right.calls (k : Nat) (a0 : ByteArray) (r : Bool) (w : World) (h : orielref04_Right.f k a0 = some r) :
  Calls Try.prog 47 #[.string a0] w fun e w' => e = .returned (.bool r) ∧ Below w.heap.size w w' := by
 have HB := Aside0.mk (Below.refl w.heap.size w); have H : ((orielref01_All.f k a0).bind fun bt224 => (orielref04_Right.l0 k bt224.1 bt224.2.2 0)) = some r := h; clear h; replace H := Option.bind_eq_some_iff.mp H; obtain ⟨⟨t224, t225, t226⟩, A20, H⟩ := H; replace H : (orielref04_Right.l0 k t224 t226 0) = some r := H; have A2 := Aside0.mk A20; clear A20; have H' := Aside0.mk H; clear H
 go_enter Try.func47, Try.ntmps47
 go_wp2_with (first | ((with_reducible refine gate_callee (f := 54) rfl ?_); refine goesL_ (some 9) rfl rfl Try.func54 (by kernel_rfl) rfl #[.string a0] rfl (by (try simp only [List.map_toArray, List.map_cons, List.map_nil]); first | done | rfl | (simp only [List.length_drop, List.length_take]; rfl)) ?_; (with_reducible refine (orielref01_All.calls k a0 t224 t225 t226 _ A2.out).mono ?_); rintro e w3 ⟨v227, rfl, ho0, hb⟩; refine ⟨_, rfl, ?_⟩; have n0_ := Aside0.mk (Kd.R_lower ho0 (below_size (be0_ HB))); have n1_ := Aside0.mk (below_step (be0_ HB) hb); clear HB; have HO228 := n0_; have HB := n1_; clear n0_ n1_; (try clear hb); (try clear hb2); (try clear hk); (try clear hi); (try clear ho0)))
 go_loopg [6] k (fun kq v6 w' => ∃ (x6_1 : Int), v6 = .int .i64 x6_1 ∧ Aside0 (orielref04_Right.l0 kq t224 t226 x6_1 = some r) ∧ Aside0 (kq ≤ k) ∧ Aside0 (Kd.R (Kd.int .i32) 21 w' w.heap.size (fun _ => True) v227 t224) ∧ Aside0 (Below w.heap.size w w'))
 case atStart => exact ⟨(0), (by first | rfl | (simp; done) | (simp [*]; done)), H', ⟨Nat.le_refl _⟩, ⟨rr_ HO228⟩, ⟨be0_ HB⟩⟩
 case round =>
  clear H'; (try clear p2); obtain ⟨x6_1, rfl, HA, HK1, HO_3, HB⟩ := hrel
  cases gk with
  | zero => exact absurd HA.out (by simp [orielref04_Right.l0])
  | succ k1 =>
   have H := HA.out; clear HA; simp only [orielref04_Right.l0] at H
   by_cases c4 : x6_1 < (t224.length : Int)
   rotate_left
   ·
    rw [if_neg c4] at H; have c4b0 : decide (x6_1 < (t224.length : Int)) = false := decide_eq_false c4; clear c4; obtain rfl := Option.some.inj H; obtain ⟨Ao10, co10, eo10⟩ := Kd.R_slice HO_3.out; subst eo10
    go_wp2
    go_ret
    exact ⟨by first | rfl | exact congrArg (fun b => Ending.returned (Value.bool b)) (isE_ne _).symm | exact congrArg (fun b => Ending.returned (Value.bool b)) (isE_eq _).symm | (simp only [isE_ne, isE_eq, Bool.not_not]; done) | (simp [errW_none, errW_some] <;> rfl) | (simp [*, errW_none, errW_some] <;> rfl), be0_ HB⟩
   rw [if_pos c4] at H; have c4b0 : decide (x6_1 < (t224.length : Int)) = true := decide_eq_true c4; clear c4
   by_cases c5 : 0 ≤ x6_1
   rotate_left
   ·
    rw [if_neg c5] at H; exact absurd H (by simp)
   rw [if_pos c5] at H; have c5b0 : decide (0 ≤ x6_1) = true := decide_eq_true c5; clear c5; replace H := Option.bind_eq_some_iff.mp H; obtain ⟨t230, A60, H⟩ := H; replace H : (if t230 = true then (orielref04_Right.l0 k1 t224 t226 (wrap64 (x6_1 + 1))) else (some false)) = some r := H; have A6 := Aside0.mk A60; clear A60
   by_cases c7 : t230 = true
   rotate_left
   ·
    replace c7 := Bool.eq_false_iff.mpr c7; subst c7; have H1 : (some false) = some r := by rw [if_neg (show ¬ (false = true) by decide)] at H; exact H
    clear H; have H := H1; clear H1; obtain rfl := Option.some.inj H; obtain ⟨Ao9, co9, eo9⟩ := Kd.R_slice HO_3.out; subst eo9; have p229 : 0 ≤ (x6_1 : Int) := of_decide_eq_true (by first | (with_reducible assumption) | assumption); have q229 : x6_1 < (t224.length : Int) := of_decide_eq_true (by first | (with_reducible assumption) | assumption); obtain ⟨ad229, e229, hx229_0⟩ := Kd.at_int (Kd.R_reads' HO_3.out).2.2 x6_1 p229 q229
    cases e229
    replace p229 := eq_true p229; replace q229 := eq_true q229
    go_wp2_with (first | ((with_reducible refine gate_callee (f := 55) rfl ?_); refine goesL_ (some 24) rfl rfl Try.func55 (by kernel_rfl) rfl #[.int .i64 (wrap64 (rd t224 x6_1))] rfl (by (try simp only [List.map_toArray, List.map_cons, List.map_nil]); first | done | rfl | (simp only [List.length_drop, List.length_take]; rfl)) ?_; (with_reducible refine (orielref02_Char.calls (wrap64 (rd t224 x6_1)) false _ A6.out).mono ?_); rintro e w' ⟨rfl, ⟨nd, rfl⟩⟩; refine ⟨_, rfl, ?_⟩))
    go_ret
    exact ⟨by first | rfl | exact congrArg (fun b => Ending.returned (Value.bool b)) (isE_ne _).symm | exact congrArg (fun b => Ending.returned (Value.bool b)) (isE_eq _).symm | (simp only [isE_ne, isE_eq, Bool.not_not]; done) | (simp [errW_none, errW_some] <;> rfl) | (simp [*, errW_none, errW_some] <;> rfl), be0_ HB⟩
   subst c7; have H1 : (orielref04_Right.l0 k1 t224 t226 (wrap64 (x6_1 + 1))) = some r := by rw [if_pos rfl] at H; exact H
   clear H; have H := H1; clear H1; have H' := Aside0.mk H; clear H; obtain ⟨Ao8, co8, eo8⟩ := Kd.R_slice HO_3.out; subst eo8; have p229 : 0 ≤ (x6_1 : Int) := of_decide_eq_true (by first | (with_reducible assumption) | assumption); have q229 : x6_1 < (t224.length : Int) := of_decide_eq_true (by first | (with_reducible assumption) | assumption); obtain ⟨ad229, e229, hx229_0⟩ := Kd.at_int (Kd.R_reads' HO_3.out).2.2 x6_1 p229 q229
   cases e229
   replace p229 := eq_true p229; replace q229 := eq_true q229
   go_wp2_with (first | ((with_reducible refine gate_callee (f := 55) rfl ?_); refine goesL_ (some 24) rfl rfl Try.func55 (by kernel_rfl) rfl #[.int .i64 (wrap64 (rd t224 x6_1))] rfl (by (try simp only [List.map_toArray, List.map_cons, List.map_nil]); first | done | rfl | (simp only [List.length_drop, List.length_take]; rfl)) ?_; (with_reducible refine (orielref02_Char.calls (wrap64 (rd t224 x6_1)) true _ A6.out).mono ?_); rintro e w' ⟨rfl, ⟨nd, rfl⟩⟩; refine ⟨_, rfl, ?_⟩))
   go_roundg k1
   case measure => have := HK1.out; omega
   case rel => exact ⟨(wrap64 (x6_1 + 1)), (by first | rfl | (simp; done) | (simp [*]; done)), H', ⟨by have := HK1.out; omega⟩, ⟨rr_ HO_3⟩, ⟨be0_ HB⟩⟩
end Go.Proofs.Ytmbbjdkcanoklaa.X
