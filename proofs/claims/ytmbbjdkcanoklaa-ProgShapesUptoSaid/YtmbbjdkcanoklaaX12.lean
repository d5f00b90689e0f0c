/- Printed by a program of this session (xprint) out of the kit's print, with functions proved by hand. -/
import Derived.Test.YtmbbjdkcanoklaaX0
namespace Go.Proofs.Ytmbbjdkcanoklaa.X
open Go.RowKit Go.Proofs.YtmbbjdkcanoklaaW.PrintWords Go.Proofs.YtmbbjdkcanoklaaW.PrintLast Go.Proofs.YtmbbjdkcanoklaaW.PrintMore Go.Proofs.YtmbbjdkcanoklaaW.XConv
attribute [local go_sem] max2_int min2_int max_two min_two max_three min_three max_four min_four   -- for this text's walks alone
set_option linter.unusedVariables false
set_option linter.unusedSimpArgs false

/-! ### orielref02_Start: function 56 -/
mutual
def orielref02_Start.j0 : Nat → Int → Bool → Option (Bool)
 | 0, _, _ => none
 | k + 1, x0, x8 => if x8 = true then (some false) else (if x0 < 128 then (if x0 ≤ 90 then (some true) else (if x0 = 95 then (some true) else (if x0 ≥ 97 then (some (decide (x0 ≤ 122))) else (some false)))) else (if x0 < 192 then (orielref02_Start.j1 k x0 true) else (if x0 = 215 then (orielref02_Start.j1 k x0 true) else (orielref02_Start.j1 k x0 (x0 == 247)))))
def orielref02_Start.j1 : Nat → Int → Bool → Option (Bool)
 | 0, _, _ => none
 | k + 1, x0, x34 => if x34 = true then (some false) else (if x0 < 768 then (some true) else (if x0 < 880 then (orielref02_Start.j2 k x0 true) else (orielref02_Start.j2 k x0 (x0 == 894))))
def orielref02_Start.j2 : Nat → Int → Bool → Option (Bool)
 | 0, _, _ => none
 | k + 1, x0, x42 => if x42 = true then (some false) else (if x0 < 8192 then (some true) else (if x0 < 8304 then (if x0 = 8204 then (some true) else (some (x0 == 8205))) else (if x0 < 8592 then (some true) else (if x0 < 11264 then (some false) else (if x0 < 12272 then (some true) else (if x0 < 12289 then (some false) else (if x0 < 55296 then (some true) else (if x0 < 63744 then (some false) else (if x0 < 64976 then (some true) else (if x0 < 65008 then (some false) else (if x0 ≤ 65533 then (some true) else (some (decide (x0 ≥ 65536))))))))))))))
end
def orielref02_Start.f (k : Nat) (a0 : Int) : Option (Bool) := if a0 < 65 then (orielref02_Start.j0 k a0 true) else (orielref02_Start.j0 k a0 (decide (a0 > 983039)))
theorem orielref02_Start.mono_l : ∀ k, (∀ y0 y1, LeO (orielref02_Start.j0 k y0 y1) (orielref02_Start.j0 (k + 1) y0 y1)) ∧ (∀ y0 y1, LeO (orielref02_Start.j1 k y0 y1) (orielref02_Start.j1 (k + 1) y0 y1)) ∧ (∀ y0 y1, LeO (orielref02_Start.j2 k y0 y1) (orielref02_Start.j2 (k + 1) y0 y1))
 | 0 => ⟨fun _ _ r h => by simp [orielref02_Start.j0] at h, fun _ _ r h => by simp [orielref02_Start.j1] at h, fun _ _ r h => by simp [orielref02_Start.j2] at h⟩
 | k + 1 => by
  obtain ⟨ih0, ih1, ih2⟩ := orielref02_Start.mono_l k
  refine ⟨?_, ?_, ?_⟩
  ·
   intro y0 y1
   unfold orielref02_Start.j0
   repeat' first
   | (with_reducible exact ih0 _ _)
   | (with_reducible exact ih1 _ _)
   | (with_reducible exact ih2 _ _)
   | (with_reducible exact LeO.refl _)
   | (with_reducible exact LeO.none _)
   | (with_reducible refine LeO.ite ?_ ?_)
   | (with_reducible refine LeO.bind ?_ (fun _ => ?_))
   | exact ih0 _ _
   | exact ih1 _ _
   | exact ih2 _ _
   | exact LeO.none _
   | refine LeO.ite ?_ ?_
   | refine LeO.bind ?_ (fun _ => ?_)
  ·
   intro y0 y1
   unfold orielref02_Start.j1
   repeat' first
   | (with_reducible exact ih0 _ _)
   | (with_reducible exact ih1 _ _)
   | (with_reducible exact ih2 _ _)
   | (with_reducible exact LeO.refl _)
   | (with_reducible exact LeO.none _)
   | (with_reducible refine LeO.ite ?_ ?_)
   | (with_reducible refine LeO.bind ?_ (fun _ => ?_))
   | exact ih0 _ _
   | exact ih1 _ _
   | exact ih2 _ _
   | exact LeO.none _
   | refine LeO.ite ?_ ?_
   | refine LeO.bind ?_ (fun _ => ?_)
  ·
   intro y0 y1
   unfold orielref02_Start.j2
   repeat' first
   | (with_reducible exact ih0 _ _)
   | (with_reducible exact ih1 _ _)
   | (with_reducible exact ih2 _ _)
   | (with_reducible exact LeO.refl _)
   | (with_reducible exact LeO.none _)
   | (with_reducible refine LeO.ite ?_ ?_)
   | (with_reducible refine LeO.bind ?_ (fun _ => ?_))
   | exact ih0 _ _
   | exact ih1 _ _
   | exact ih2 _ _
   | exact LeO.none _
   | refine LeO.ite ?_ ?_
   | refine LeO.bind ?_ (fun _ => ?_)
theorem orielref02_Start.mono : ∀ a0 k, LeO (orielref02_Start.f k a0) (orielref02_Start.f (k + 1) a0) := by
 intro a0 k; obtain ⟨ih0, ih1, ih2⟩ := orielref02_Start.mono_l k
 unfold orielref02_Start.f
 repeat' first
  | (with_reducible exact ih0 _ _)
  | (with_reducible exact ih1 _ _)
  | (with_reducible exact ih2 _ _)
  | (with_reducible exact LeO.refl _)
  | (with_reducible exact LeO.none _)
  | (with_reducible refine LeO.ite ?_ ?_)
  | (with_reducible refine LeO.bind ?_ (fun _ => ?_))
  | exact ih0 _ _
  | exact ih1 _ _
  | exact ih2 _ _
  | exact LeO.none _
  | refine LeO.ite ?_ ?_
  | refine LeO.bind ?_ (fun _ => ?_)
set_option maxHeartbeats 8000000 in
set_option maxRecDepth 100000 in
theorem orielref02_Start.calls (k : Nat) (a0 : Int) (r : Bool) (w : World) (h : orielref02_Start.f k a0 = some r) :
  Calls Try.prog 56 #[.int .i64 a0] w fun e w' => e = .returned (.bool r) ∧ Drawn0 w w' := by
 have H : (if a0 < 65 then (orielref02_Start.j0 k a0 true) else (orielref02_Start.j0 k a0 (decide (a0 > 983039)))) = some r := h; clear h; have HC2 := Aside0.mk H; clear H
 go_enter Try.func56, Try.ntmps56
 go_upto_region 1 with (fail)
 go_cut [8] (fun v8 wc => ∃ (kq : Nat) (x8_1 : Bool), v8 = .bool x8_1 ∧ Aside0 (orielref02_Start.j0 kq a0 x8_1 = some r) ∧ Aside0 (kq ≤ k) ∧ Drawn0 w wc)
 case first =>
  have H := HC2.out; clear HC2
  by_cases c3 : a0 < 65
  ·
   rw [if_pos c3] at H; have c3b0 : decide (a0 < 65) = true := decide_eq_true c3; clear c3; (first | rw [c3b0] | (simp only [i64_w, i32_w]; rw [c3b0]) | skip); have H' := Aside0.mk H; clear H
   go_wp2
   go_meet
   case rel => exact ⟨_, (true), (by first | rfl | (simp; done) | (simp [*]; done)), H', ⟨by first | omega | exact Nat.le_refl _⟩, by repeat (first | exact Drawn0.refl _ | apply Drawn0.step)⟩
  rw [if_neg c3] at H; have c3b0 : decide (a0 < 65) = false := decide_eq_false c3; clear c3; (first | rw [c3b0] | (simp only [i64_w, i32_w]; rw [c3b0]) | skip); have H' := Aside0.mk H; clear H
  go_wp2
  go_meet
  case rel => exact ⟨_, (decide (a0 > 983039)), (by first | rfl | (simp; done) | (simp [*]; done)), H', ⟨by first | omega | exact Nat.le_refl _⟩, by repeat (first | exact Drawn0.refl _ | apply Drawn0.step)⟩
 case rest =>
  clear HC2; (try clear p2); (try clear c3); (try clear c3b0); obtain ⟨kq, x8_1, rfl, HA, HJ1, ⟨mc1, rfl⟩⟩ := hcut
  cases kq with
  | zero => exact absurd HA.out (by simp [orielref02_Start.j0])
  | succ kj1 =>
   have H := HA.out; clear HA; simp only [orielref02_Start.j0] at H
   by_cases c4 : x8_1 = true
   ·
    subst c4; have H1 : (some false) = some r := by rw [if_pos rfl] at H; exact H
    clear H; have H := H1; clear H1; obtain rfl := Option.some.inj H
    go_wp2
    go_ret
    exact ⟨by first | rfl | (simp; done) | (simp [*]; done), by repeat (first | exact Drawn0.refl _ | apply Drawn0.step)⟩
   replace c4 := Bool.eq_false_iff.mpr c4; subst c4; have H1 : (if a0 < 128 then (if a0 ≤ 90 then (some true) else (if a0 = 95 then (some true) else (if a0 ≥ 97 then (some (decide (a0 ≤ 122))) else (some false)))) else (if a0 < 192 then (orielref02_Start.j1 kj1 a0 true) else (if a0 = 215 then (orielref02_Start.j1 kj1 a0 true) else (orielref02_Start.j1 kj1 a0 (a0 == 247))))) = some r := by rw [if_neg (show ¬ (false = true) by decide)] at H; exact H
   clear H; have H := H1; clear H1
   by_cases c5 : a0 < 128
   ·
    rw [if_pos c5] at H; have c5b0 : decide (a0 < 128) = true := decide_eq_true c5; clear c5
    by_cases c6 : a0 ≤ 90
    ·
     rw [if_pos c6] at H; have c6b0 : decide (a0 ≤ 90) = true := decide_eq_true c6; clear c6; obtain rfl := Option.some.inj H
     go_wp2
     go_ret
     exact ⟨by first | rfl | (simp; done) | (simp [*]; done), by repeat (first | exact Drawn0.refl _ | apply Drawn0.step)⟩
    rw [if_neg c6] at H; have c6b0 : decide (a0 ≤ 90) = false := decide_eq_false c6; clear c6
    by_cases c7 : a0 = 95
    ·
     rw [if_pos c7] at H; have c7b0 : (a0 == 95) = true := beq_iff_eq.mpr c7; have c7b1 : (a0 != 95) = false := bne_eq_false_iff_eq.mpr c7; clear c7; obtain rfl := Option.some.inj H
     go_wp2
     go_ret
     exact ⟨by first | rfl | (simp; done) | (simp [*]; done), by repeat (first | exact Drawn0.refl _ | apply Drawn0.step)⟩
    rw [if_neg c7] at H; have c7b0 : (a0 == 95) = false := beq_eq_false_iff_ne.mpr c7; have c7b1 : (a0 != 95) = true := bne_iff_ne.mpr c7
    by_cases c8 : a0 ≥ 97
    ·
     rw [if_pos c8] at H; have c8b0 : decide (97 ≤ a0) = true := decide_eq_true c8; clear c8; obtain rfl := Option.some.inj H
     go_wp2
     go_ret
     exact ⟨by first | rfl | (simp; done) | (simp [*]; done), by repeat (first | exact Drawn0.refl _ | apply Drawn0.step)⟩
    rw [if_neg c8] at H; have c8b0 : decide (97 ≤ a0) = false := decide_eq_false c8; clear c8; obtain rfl := Option.some.inj H
    go_wp2
    go_ret
    exact ⟨by first | rfl | (simp; done) | (simp [*]; done), by repeat (first | exact Drawn0.refl _ | apply Drawn0.step)⟩
   rw [if_neg c5] at H; have c5b0 : decide (a0 < 128) = false := decide_eq_false c5; clear c5; have HC9 := Aside0.mk H; clear H
   go_upto_region 5 with (fail)
   go_cut [34] (fun v34 wc => ∃ (kq : Nat) (x34_8 : Bool), v34 = .bool x34_8 ∧ Aside0 (orielref02_Start.j1 kq a0 x34_8 = some r) ∧ Aside0 (kq ≤ kj1) ∧ Drawn0 w wc)
   case first =>
    have H := HC9.out; clear HC9
    by_cases c10 : a0 < 192
    ·
     rw [if_pos c10] at H; have c10b0 : decide (a0 < 192) = true := decide_eq_true c10; clear c10; (first | rw [c10b0] | (simp only [i64_w, i32_w]; rw [c10b0]) | skip); have H' := Aside0.mk H; clear H
     go_wp2
     go_meet
     case rel => exact ⟨_, (true), (by first | rfl | (simp; done) | (simp [*]; done)), H', ⟨by have := HJ1.out; first | omega | exact Nat.le_refl _⟩, by repeat (first | exact Drawn0.refl _ | apply Drawn0.step)⟩
    rw [if_neg c10] at H; have c10b0 : decide (a0 < 192) = false := decide_eq_false c10; clear c10; (first | rw [c10b0] | (simp only [i64_w, i32_w]; rw [c10b0]) | skip)
    by_cases c11 : a0 = 215
    rotate_left
    ·
     rw [if_neg c11] at H; have c11b0 : (a0 == 215) = false := beq_eq_false_iff_ne.mpr c11; have c11b1 : (a0 != 215) = true := bne_iff_ne.mpr c11; have H' := Aside0.mk H; clear H
     go_wp2
     go_meet
     case rel => exact ⟨_, ((a0 == 247)), (by first | rfl | (simp; done) | (simp [*]; done)), H', ⟨by have := HJ1.out; first | omega | exact Nat.le_refl _⟩, by repeat (first | exact Drawn0.refl _ | apply Drawn0.step)⟩
    rw [if_pos c11] at H; have c11b0 : (a0 == 215) = true := beq_iff_eq.mpr c11; have c11b1 : (a0 != 215) = false := bne_eq_false_iff_eq.mpr c11; clear c11; have H' := Aside0.mk H; clear H
    go_wp2
    go_meet
    case rel => exact ⟨_, (true), (by first | rfl | (simp; done) | (simp [*]; done)), H', ⟨by have := HJ1.out; first | omega | exact Nat.le_refl _⟩, by repeat (first | exact Drawn0.refl _ | apply Drawn0.step)⟩
   case rest =>
    clear HC9; (try clear c1); (try clear p2); (try clear c3); (try clear c3b0); (try clear c4); (try clear c5); (try clear c5b0); (try clear c6); (try clear c6b0); (try clear c7); (try clear c7b0); (try clear c7b1); (try clear c8); (try clear c8b0); (try clear c10); (try clear c10b0); (try clear c11); (try clear c11b0); (try clear c11b1); (try clear p2); obtain ⟨kq, x34_8, rfl, HA, HJ8, ⟨mc8, rfl⟩⟩ := hcut
    cases kq with
    | zero => exact absurd HA.out (by simp [orielref02_Start.j1])
    | succ kj8 =>
     have H := HA.out; clear HA; simp only [orielref02_Start.j1] at H
     by_cases c12 : x34_8 = true
     ·
      subst c12; have H1 : (some false) = some r := by rw [if_pos rfl] at H; exact H
      clear H; have H := H1; clear H1; obtain rfl := Option.some.inj H
      go_wp2
      go_ret
      exact ⟨by first | rfl | (simp; done) | (simp [*]; done), by repeat (first | exact Drawn0.refl _ | apply Drawn0.step)⟩
     replace c12 := Bool.eq_false_iff.mpr c12; subst c12; have H1 : (if a0 < 768 then (some true) else (if a0 < 880 then (orielref02_Start.j2 kj8 a0 true) else (orielref02_Start.j2 kj8 a0 (a0 == 894)))) = some r := by rw [if_neg (show ¬ (false = true) by decide)] at H; exact H
     clear H; have H := H1; clear H1
     by_cases c13 : a0 < 768
     ·
      rw [if_pos c13] at H; have c13b0 : decide (a0 < 768) = true := decide_eq_true c13; clear c13; obtain rfl := Option.some.inj H
      go_wp2
      go_ret
      exact ⟨by first | rfl | (simp; done) | (simp [*]; done), by repeat (first | exact Drawn0.refl _ | apply Drawn0.step)⟩
     rw [if_neg c13] at H; have c13b0 : decide (a0 < 768) = false := decide_eq_false c13; clear c13; have HC14 := Aside0.mk H; clear H
     go_upto_region 9 with (fail)
     go_cut [42] (fun v42 wc => ∃ (kq : Nat) (x42_13 : Bool), v42 = .bool x42_13 ∧ Aside0 (orielref02_Start.j2 kq a0 x42_13 = some r) ∧ Aside0 (kq ≤ kj8) ∧ Drawn0 w wc)
     case first =>
      have H := HC14.out; clear HC14
      by_cases c15 : a0 < 880
      ·
       rw [if_pos c15] at H; have c15b0 : decide (a0 < 880) = true := decide_eq_true c15; clear c15; (first | rw [c15b0] | (simp only [i64_w, i32_w]; rw [c15b0]) | skip); have H' := Aside0.mk H; clear H
       go_wp2
       go_meet
       case rel => exact ⟨_, (true), (by first | rfl | (simp; done) | (simp [*]; done)), H', ⟨by have := HJ1.out; have := HJ8.out; first | omega | exact Nat.le_refl _⟩, by repeat (first | exact Drawn0.refl _ | apply Drawn0.step)⟩
      rw [if_neg c15] at H; have c15b0 : decide (a0 < 880) = false := decide_eq_false c15; clear c15; (first | rw [c15b0] | (simp only [i64_w, i32_w]; rw [c15b0]) | skip); have H' := Aside0.mk H; clear H
      go_wp2
      go_meet
      case rel => exact ⟨_, ((a0 == 894)), (by first | rfl | (simp; done) | (simp [*]; done)), H', ⟨by have := HJ1.out; have := HJ8.out; first | omega | exact Nat.le_refl _⟩, by repeat (first | exact Drawn0.refl _ | apply Drawn0.step)⟩
     case rest =>
      clear HC14; (try clear c1); (try clear p2); (try clear c3); (try clear c3b0); (try clear c4); (try clear c5); (try clear c5b0); (try clear c6); (try clear c6b0); (try clear c7); (try clear c7b0); (try clear c7b1); (try clear c8); (try clear c8b0); (try clear c10); (try clear c10b0); (try clear c11); (try clear c11b0); (try clear c11b1); (try clear c12); (try clear c13); (try clear c13b0); (try clear c15); (try clear c15b0); (try clear p2); obtain ⟨kq, x42_13, rfl, HA, HJ13, ⟨mc13, rfl⟩⟩ := hcut
      cases kq with
      | zero => exact absurd HA.out (by simp [orielref02_Start.j2])
      | succ kj13 =>
       have H := HA.out; clear HA; simp only [orielref02_Start.j2] at H
       by_cases c16 : x42_13 = true
       ·
        subst c16; have H1 : (some false) = some r := by rw [if_pos rfl] at H; exact H
        clear H; have H := H1; clear H1; obtain rfl := Option.some.inj H
        go_wp2
        go_ret
        exact ⟨by first | rfl | (simp; done) | (simp [*]; done), by repeat (first | exact Drawn0.refl _ | apply Drawn0.step)⟩
       replace c16 := Bool.eq_false_iff.mpr c16; subst c16; have H1 : (if a0 < 8192 then (some true) else (if a0 < 8304 then (if a0 = 8204 then (some true) else (some (a0 == 8205))) else (if a0 < 8592 then (some true) else (if a0 < 11264 then (some false) else (if a0 < 12272 then (some true) else (if a0 < 12289 then (some false) else (if a0 < 55296 then (some true) else (if a0 < 63744 then (some false) else (if a0 < 64976 then (some true) else (if a0 < 65008 then (some false) else (if a0 ≤ 65533 then (some true) else (some (decide (a0 ≥ 65536)))))))))))))) = some r := by rw [if_neg (show ¬ (false = true) by decide)] at H; exact H
       clear H; have H := H1; clear H1
       by_cases c17 : a0 < 8192
       ·
        rw [if_pos c17] at H; have c17b0 : decide (a0 < 8192) = true := decide_eq_true c17; clear c17; obtain rfl := Option.some.inj H
        go_wp2
        go_ret
        exact ⟨by first | rfl | (simp; done) | (simp [*]; done), by repeat (first | exact Drawn0.refl _ | apply Drawn0.step)⟩
       rw [if_neg c17] at H; have c17b0 : decide (a0 < 8192) = false := decide_eq_false c17; clear c17
       by_cases c18 : a0 < 8304
       ·
        rw [if_pos c18] at H; have c18b0 : decide (a0 < 8304) = true := decide_eq_true c18; clear c18
        by_cases c19 : a0 = 8204
        rotate_left
        ·
         rw [if_neg c19] at H; have c19b0 : (a0 == 8204) = false := beq_eq_false_iff_ne.mpr c19; have c19b1 : (a0 != 8204) = true := bne_iff_ne.mpr c19; obtain rfl := Option.some.inj H
         go_wp2
         go_ret
         exact ⟨by first | rfl | (simp; done) | (simp [*]; done), by repeat (first | exact Drawn0.refl _ | apply Drawn0.step)⟩
        rw [if_pos c19] at H; have c19b0 : (a0 == 8204) = true := beq_iff_eq.mpr c19; have c19b1 : (a0 != 8204) = false := bne_eq_false_iff_eq.mpr c19; clear c19; obtain rfl := Option.some.inj H
        go_wp2
        go_ret
        exact ⟨by first | rfl | (simp; done) | (simp [*]; done), by repeat (first | exact Drawn0.refl _ | apply Drawn0.step)⟩
       rw [if_neg c18] at H; have c18b0 : decide (a0 < 8304) = false := decide_eq_false c18; clear c18
       by_cases c20 : a0 < 8592
       ·
        rw [if_pos c20] at H; have c20b0 : decide (a0 < 8592) = true := decide_eq_true c20; clear c20; obtain rfl := Option.some.inj H
        go_wp2
        go_ret
        exact ⟨by first | rfl | (simp; done) | (simp [*]; done), by repeat (first | exact Drawn0.refl _ | apply Drawn0.step)⟩
       rw [if_neg c20] at H; have c20b0 : decide (a0 < 8592) = false := decide_eq_false c20; clear c20
       by_cases c21 : a0 < 11264
       ·
        rw [if_pos c21] at H; have c21b0 : decide (a0 < 11264) = true := decide_eq_true c21; clear c21; obtain rfl := Option.some.inj H
        go_wp2
        go_ret
        exact ⟨by first | rfl | (simp; done) | (simp [*]; done), by repeat (first | exact Drawn0.refl _ | apply Drawn0.step)⟩
       rw [if_neg c21] at H; have c21b0 : decide (a0 < 11264) = false := decide_eq_false c21; clear c21
       by_cases c22 : a0 < 12272
       ·
        rw [if_pos c22] at H; have c22b0 : decide (a0 < 12272) = true := decide_eq_true c22; clear c22; obtain rfl := Option.some.inj H
        go_wp2
        go_ret
        exact ⟨by first | rfl | (simp; done) | (simp [*]; done), by repeat (first | exact Drawn0.refl _ | apply Drawn0.step)⟩
       rw [if_neg c22] at H; have c22b0 : decide (a0 < 12272) = false := decide_eq_false c22; clear c22
       by_cases c23 : a0 < 12289
       ·
        rw [if_pos c23] at H; have c23b0 : decide (a0 < 12289) = true := decide_eq_true c23; clear c23; obtain rfl := Option.some.inj H
        go_wp2
        go_ret
        exact ⟨by first | rfl | (simp; done) | (simp [*]; done), by repeat (first | exact Drawn0.refl _ | apply Drawn0.step)⟩
       rw [if_neg c23] at H; have c23b0 : decide (a0 < 12289) = false := decide_eq_false c23; clear c23
       by_cases c24 : a0 < 55296
       ·
        rw [if_pos c24] at H; have c24b0 : decide (a0 < 55296) = true := decide_eq_true c24; clear c24; obtain rfl := Option.some.inj H
        go_wp2
        go_ret
        exact ⟨by first | rfl | (simp; done) | (simp [*]; done), by repeat (first | exact Drawn0.refl _ | apply Drawn0.step)⟩
       rw [if_neg c24] at H; have c24b0 : decide (a0 < 55296) = false := decide_eq_false c24; clear c24
       by_cases c25 : a0 < 63744
       ·
        rw [if_pos c25] at H; have c25b0 : decide (a0 < 63744) = true := decide_eq_true c25; clear c25; obtain rfl := Option.some.inj H
        go_wp2
        go_ret
        exact ⟨by first | rfl | (simp; done) | (simp [*]; done), by repeat (first | exact Drawn0.refl _ | apply Drawn0.step)⟩
       rw [if_neg c25] at H; have c25b0 : decide (a0 < 63744) = false := decide_eq_false c25; clear c25
       by_cases c26 : a0 < 64976
       ·
        rw [if_pos c26] at H; have c26b0 : decide (a0 < 64976) = true := decide_eq_true c26; clear c26; obtain rfl := Option.some.inj H
        go_wp2
        go_ret
        exact ⟨by first | rfl | (simp; done) | (simp [*]; done), by repeat (first | exact Drawn0.refl _ | apply Drawn0.step)⟩
       rw [if_neg c26] at H; have c26b0 : decide (a0 < 64976) = false := decide_eq_false c26; clear c26
       by_cases c27 : a0 < 65008
       ·
        rw [if_pos c27] at H; have c27b0 : decide (a0 < 65008) = true := decide_eq_true c27; clear c27; obtain rfl := Option.some.inj H
        go_wp2
        go_ret
        exact ⟨by first | rfl | (simp; done) | (simp [*]; done), by repeat (first | exact Drawn0.refl _ | apply Drawn0.step)⟩
       rw [if_neg c27] at H; have c27b0 : decide (a0 < 65008) = false := decide_eq_false c27; clear c27
       by_cases c28 : a0 ≤ 65533
       ·
        rw [if_pos c28] at H; have c28b0 : decide (a0 ≤ 65533) = true := decide_eq_true c28; clear c28; obtain rfl := Option.some.inj H
        go_wp2
        go_ret
        exact ⟨by first | rfl | (simp; done) | (simp [*]; done), by repeat (first | exact Drawn0.refl _ | apply Drawn0.step)⟩
       rw [if_neg c28] at H; have c28b0 : decide (a0 ≤ 65533) = false := decide_eq_false c28; clear c28; obtain rfl := Option.some.inj H
       go_wp2
       go_ret
       exact ⟨by first | rfl | (simp; done) | (simp [*]; done), by repeat (first | exact Drawn0.refl _ | apply Drawn0.step)⟩
/-! ### orielref02_Part: function 57 -/
def orielref02_Part.f (k : Nat) (a0 : Int) : Option (Bool) := (orielref02_Start.f k a0).bind fun t231 => (if t231 = true then (some true) else (if a0 = 45 then (some true) else (if a0 = 46 then (some true) else (if a0 ≥ 48 then (if a0 ≤ 57 then (some true) else (if a0 = 183 then (some true) else (if a0 ≥ 768 then (if a0 ≤ 879 then (some true) else (if a0 = 8255 then (some true) else (some (a0 == 8256)))) else (if a0 = 8255 then (some true) else (some (a0 == 8256)))))) else (if a0 = 183 then (some true) else (if a0 ≥ 768 then (if a0 ≤ 879 then (some true) else (if a0 = 8255 then (some true) else (some (a0 == 8256)))) else (if a0 = 8255 then (some true) else (some (a0 == 8256)))))))))
theorem orielref02_Part.mono : ∀ a0 k, LeO (orielref02_Part.f k a0) (orielref02_Part.f (k + 1) a0) := by
 intro a0 k
 unfold orielref02_Part.f
 repeat' first
  | (with_reducible exact orielref02_Start.mono _ _)
  | (with_reducible exact LeO.refl _)
  | (with_reducible exact LeO.none _)
  | (with_reducible refine LeO.ite ?_ ?_)
  | (with_reducible refine LeO.bind ?_ (fun _ => ?_))
  | exact orielref02_Start.mono _ _
  | exact LeO.none _
  | refine LeO.ite ?_ ?_
  | refine LeO.bind ?_ (fun _ => ?_)
set_option maxHeartbeats 8000000 in
set_option maxRecDepth 100000 in
theorem orielref02_Part.calls (k : Nat) (a0 : Int) (r : Bool) (w : World) (h : orielref02_Part.f k a0 = some r) :
  Calls Try.prog 57 #[.int .i64 a0] w fun e w' => e = .returned (.bool r) ∧ Drawn0 w w' := by
 have H : ((orielref02_Start.f k a0).bind fun t231 => (if t231 = true then (some true) else (if a0 = 45 then (some true) else (if a0 = 46 then (some true) else (if a0 ≥ 48 then (if a0 ≤ 57 then (some true) else (if a0 = 183 then (some true) else (if a0 ≥ 768 then (if a0 ≤ 879 then (some true) else (if a0 = 8255 then (some true) else (some (a0 == 8256)))) else (if a0 = 8255 then (some true) else (some (a0 == 8256)))))) else (if a0 = 183 then (some true) else (if a0 ≥ 768 then (if a0 ≤ 879 then (some true) else (if a0 = 8255 then (some true) else (some (a0 == 8256)))) else (if a0 = 8255 then (some true) else (some (a0 == 8256)))))))))) = some r := h; clear h; replace H := Option.bind_eq_some_iff.mp H; obtain ⟨t231, A20, H⟩ := H; replace H : (if t231 = true then (some true) else (if a0 = 45 then (some true) else (if a0 = 46 then (some true) else (if a0 ≥ 48 then (if a0 ≤ 57 then (some true) else (if a0 = 183 then (some true) else (if a0 ≥ 768 then (if a0 ≤ 879 then (some true) else (if a0 = 8255 then (some true) else (some (a0 == 8256)))) else (if a0 = 8255 then (some true) else (some (a0 == 8256)))))) else (if a0 = 183 then (some true) else (if a0 ≥ 768 then (if a0 ≤ 879 then (some true) else (if a0 = 8255 then (some true) else (some (a0 == 8256)))) else (if a0 = 8255 then (some true) else (some (a0 == 8256))))))))) = some r := H; have A2 := Aside0.mk A20; clear A20
 by_cases c3 : t231 = true
 ·
  subst c3; have H1 : (some true) = some r := by rw [if_pos rfl] at H; exact H
  clear H; have H := H1; clear H1; obtain rfl := Option.some.inj H
  go_enter Try.func57, Try.ntmps57
  go_wp2_with (first | ((with_reducible refine gate_callee (f := 56) rfl ?_); refine goesL_ (some 4) rfl rfl Try.func56 (by kernel_rfl) rfl #[.int .i64 a0] rfl (by (try simp only [List.map_toArray, List.map_cons, List.map_nil]); first | done | rfl | (simp only [List.length_drop, List.length_take]; rfl)) ?_; (with_reducible refine (orielref02_Start.calls k a0 true _ A2.out).mono ?_); rintro e w' ⟨rfl, ⟨nd, rfl⟩⟩; refine ⟨_, rfl, ?_⟩))
  go_ret
  exact ⟨by first | rfl | (simp; done) | (simp [*]; done), by repeat (first | exact Drawn0.refl _ | apply Drawn0.step)⟩
 replace c3 := Bool.eq_false_iff.mpr c3; subst c3; have H1 : (if a0 = 45 then (some true) else (if a0 = 46 then (some true) else (if a0 ≥ 48 then (if a0 ≤ 57 then (some true) else (if a0 = 183 then (some true) else (if a0 ≥ 768 then (if a0 ≤ 879 then (some true) else (if a0 = 8255 then (some true) else (some (a0 == 8256)))) else (if a0 = 8255 then (some true) else (some (a0 == 8256)))))) else (if a0 = 183 then (some true) else (if a0 ≥ 768 then (if a0 ≤ 879 then (some true) else (if a0 = 8255 then (some true) else (some (a0 == 8256)))) else (if a0 = 8255 then (some true) else (some (a0 == 8256)))))))) = some r := by rw [if_neg (show ¬ (false = true) by decide)] at H; exact H
 clear H; have H := H1; clear H1
 by_cases c4 : a0 = 45
 ·
  rw [if_pos c4] at H; have c4b0 : (a0 == 45) = true := beq_iff_eq.mpr c4; have c4b1 : (a0 != 45) = false := bne_eq_false_iff_eq.mpr c4; clear c4; obtain rfl := Option.some.inj H
  go_enter Try.func57, Try.ntmps57
  go_wp2_with (first | ((with_reducible refine gate_callee (f := 56) rfl ?_); refine goesL_ (some 4) rfl rfl Try.func56 (by kernel_rfl) rfl #[.int .i64 a0] rfl (by (try simp only [List.map_toArray, List.map_cons, List.map_nil]); first | done | rfl | (simp only [List.length_drop, List.length_take]; rfl)) ?_; (with_reducible refine (orielref02_Start.calls k a0 false _ A2.out).mono ?_); rintro e w' ⟨rfl, ⟨nd, rfl⟩⟩; refine ⟨_, rfl, ?_⟩))
  go_ret
  exact ⟨by first | rfl | (simp; done) | (simp [*]; done), by repeat (first | exact Drawn0.refl _ | apply Drawn0.step)⟩
 rw [if_neg c4] at H; have c4b0 : (a0 == 45) = false := beq_eq_false_iff_ne.mpr c4; have c4b1 : (a0 != 45) = true := bne_iff_ne.mpr c4
 by_cases c5 : a0 = 46
 ·
  rw [if_pos c5] at H; have c5b0 : (a0 == 46) = true := beq_iff_eq.mpr c5; have c5b1 : (a0 != 46) = false := bne_eq_false_iff_eq.mpr c5; clear c5; obtain rfl := Option.some.inj H
  go_enter Try.func57, Try.ntmps57
  go_wp2_with (first | ((with_reducible refine gate_callee (f := 56) rfl ?_); refine goesL_ (some 4) rfl rfl Try.func56 (by kernel_rfl) rfl #[.int .i64 a0] rfl (by (try simp only [List.map_toArray, List.map_cons, List.map_nil]); first | done | rfl | (simp only [List.length_drop, List.length_take]; rfl)) ?_; (with_reducible refine (orielref02_Start.calls k a0 false _ A2.out).mono ?_); rintro e w' ⟨rfl, ⟨nd, rfl⟩⟩; refine ⟨_, rfl, ?_⟩))
  go_ret
  exact ⟨by first | rfl | (simp; done) | (simp [*]; done), by repeat (first | exact Drawn0.refl _ | apply Drawn0.step)⟩
 rw [if_neg c5] at H; have c5b0 : (a0 == 46) = false := beq_eq_false_iff_ne.mpr c5; have c5b1 : (a0 != 46) = true := bne_iff_ne.mpr c5
 by_cases c6 : a0 ≥ 48
 rotate_left
 ·
  rw [if_neg c6] at H; have c6b0 : decide (48 ≤ a0) = false := decide_eq_false c6; clear c6
  by_cases c13 : a0 = 183
  ·
   rw [if_pos c13] at H; have c13b0 : (a0 == 183) = true := beq_iff_eq.mpr c13; have c13b1 : (a0 != 183) = false := bne_eq_false_iff_eq.mpr c13; clear c13; obtain rfl := Option.some.inj H
   go_enter Try.func57, Try.ntmps57
   go_wp2_with (first | ((with_reducible refine gate_callee (f := 56) rfl ?_); refine goesL_ (some 4) rfl rfl Try.func56 (by kernel_rfl) rfl #[.int .i64 a0] rfl (by (try simp only [List.map_toArray, List.map_cons, List.map_nil]); first | done | rfl | (simp only [List.length_drop, List.length_take]; rfl)) ?_; (with_reducible refine (orielref02_Start.calls k a0 false _ A2.out).mono ?_); rintro e w' ⟨rfl, ⟨nd, rfl⟩⟩; refine ⟨_, rfl, ?_⟩))
   go_ret
   exact ⟨by first | rfl | (simp; done) | (simp [*]; done), by repeat (first | exact Drawn0.refl _ | apply Drawn0.step)⟩
  rw [if_neg c13] at H; have c13b0 : (a0 == 183) = false := beq_eq_false_iff_ne.mpr c13; have c13b1 : (a0 != 183) = true := bne_iff_ne.mpr c13
  by_cases c14 : a0 ≥ 768
  rotate_left
  ·
   rw [if_neg c14] at H; have c14b0 : decide (768 ≤ a0) = false := decide_eq_false c14; clear c14
   by_cases c17 : a0 = 8255
   rotate_left
   ·
    rw [if_neg c17] at H; have c17b0 : (a0 == 8255) = false := beq_eq_false_iff_ne.mpr c17; have c17b1 : (a0 != 8255) = true := bne_iff_ne.mpr c17; obtain rfl := Option.some.inj H
    go_enter Try.func57, Try.ntmps57
    go_wp2_with (first | ((with_reducible refine gate_callee (f := 56) rfl ?_); refine goesL_ (some 4) rfl rfl Try.func56 (by kernel_rfl) rfl #[.int .i64 a0] rfl (by (try simp only [List.map_toArray, List.map_cons, List.map_nil]); first | done | rfl | (simp only [List.length_drop, List.length_take]; rfl)) ?_; (with_reducible refine (orielref02_Start.calls k a0 false _ A2.out).mono ?_); rintro e w' ⟨rfl, ⟨nd, rfl⟩⟩; refine ⟨_, rfl, ?_⟩))
    go_ret
    exact ⟨by first | rfl | (simp; done) | (simp [*]; done), by repeat (first | exact Drawn0.refl _ | apply Drawn0.step)⟩
   rw [if_pos c17] at H; have c17b0 : (a0 == 8255) = true := beq_iff_eq.mpr c17; have c17b1 : (a0 != 8255) = false := bne_eq_false_iff_eq.mpr c17; clear c17; obtain rfl := Option.some.inj H
   go_enter Try.func57, Try.ntmps57
   go_wp2_with (first | ((with_reducible refine gate_callee (f := 56) rfl ?_); refine goesL_ (some 4) rfl rfl Try.func56 (by kernel_rfl) rfl #[.int .i64 a0] rfl (by (try simp only [List.map_toArray, List.map_cons, List.map_nil]); first | done | rfl | (simp only [List.length_drop, List.length_take]; rfl)) ?_; (with_reducible refine (orielref02_Start.calls k a0 false _ A2.out).mono ?_); rintro e w' ⟨rfl, ⟨nd, rfl⟩⟩; refine ⟨_, rfl, ?_⟩))
   go_ret
   exact ⟨by first | rfl | (simp; done) | (simp [*]; done), by repeat (first | exact Drawn0.refl _ | apply Drawn0.step)⟩
  rw [if_pos c14] at H; have c14b0 : decide (768 ≤ a0) = true := decide_eq_true c14; clear c14
  by_cases c15 : a0 ≤ 879
  ·
   rw [if_pos c15] at H; have c15b0 : decide (a0 ≤ 879) = true := decide_eq_true c15; clear c15; obtain rfl := Option.some.inj H
   go_enter Try.func57, Try.ntmps57
   go_wp2_with (first | ((with_reducible refine gate_callee (f := 56) rfl ?_); refine goesL_ (some 4) rfl rfl Try.func56 (by kernel_rfl) rfl #[.int .i64 a0] rfl (by (try simp only [List.map_toArray, List.map_cons, List.map_nil]); first | done | rfl | (simp only [List.length_drop, List.length_take]; rfl)) ?_; (with_reducible refine (orielref02_Start.calls k a0 false _ A2.out).mono ?_); rintro e w' ⟨rfl, ⟨nd, rfl⟩⟩; refine ⟨_, rfl, ?_⟩))
   go_ret
   exact ⟨by first | rfl | (simp; done) | (simp [*]; done), by repeat (first | exact Drawn0.refl _ | apply Drawn0.step)⟩
  rw [if_neg c15] at H; have c15b0 : decide (a0 ≤ 879) = false := decide_eq_false c15; clear c15
  by_cases c16 : a0 = 8255
  rotate_left
  ·
   rw [if_neg c16] at H; have c16b0 : (a0 == 8255) = false := beq_eq_false_iff_ne.mpr c16; have c16b1 : (a0 != 8255) = true := bne_iff_ne.mpr c16; obtain rfl := Option.some.inj H
   go_enter Try.func57, Try.ntmps57
   go_wp2_with (first | ((with_reducible refine gate_callee (f := 56) rfl ?_); refine goesL_ (some 4) rfl rfl Try.func56 (by kernel_rfl) rfl #[.int .i64 a0] rfl (by (try simp only [List.map_toArray, List.map_cons, List.map_nil]); first | done | rfl | (simp only [List.length_drop, List.length_take]; rfl)) ?_; (with_reducible refine (orielref02_Start.calls k a0 false _ A2.out).mono ?_); rintro e w' ⟨rfl, ⟨nd, rfl⟩⟩; refine ⟨_, rfl, ?_⟩))
   go_ret
   exact ⟨by first | rfl | (simp; done) | (simp [*]; done), by repeat (first | exact Drawn0.refl _ | apply Drawn0.step)⟩
  rw [if_pos c16] at H; have c16b0 : (a0 == 8255) = true := beq_iff_eq.mpr c16; have c16b1 : (a0 != 8255) = false := bne_eq_false_iff_eq.mpr c16; clear c16; obtain rfl := Option.some.inj H
  go_enter Try.func57, Try.ntmps57
  go_wp2_with (first | ((with_reducible refine gate_callee (f := 56) rfl ?_); refine goesL_ (some 4) rfl rfl Try.func56 (by kernel_rfl) rfl #[.int .i64 a0] rfl (by (try simp only [List.map_toArray, List.map_cons, List.map_nil]); first | done | rfl | (simp only [List.length_drop, List.length_take]; rfl)) ?_; (with_reducible refine (orielref02_Start.calls k a0 false _ A2.out).mono ?_); rintro e w' ⟨rfl, ⟨nd, rfl⟩⟩; refine ⟨_, rfl, ?_⟩))
  go_ret
  exact ⟨by first | rfl | (simp; done) | (simp [*]; done), by repeat (first | exact Drawn0.refl _ | apply Drawn0.step)⟩
 rw [if_pos c6] at H; have c6b0 : decide (48 ≤ a0) = true := decide_eq_true c6; clear c6
 by_cases c7 : a0 ≤ 57
 ·
  rw [if_pos c7] at H; have c7b0 : decide (a0 ≤ 57) = true := decide_eq_true c7; clear c7; obtain rfl := Option.some.inj H
  go_enter Try.func57, Try.ntmps57
  go_wp2_with (first | ((with_reducible refine gate_callee (f := 56) rfl ?_); refine goesL_ (some 4) rfl rfl Try.func56 (by kernel_rfl) rfl #[.int .i64 a0] rfl (by (try simp only [List.map_toArray, List.map_cons, List.map_nil]); first | done | rfl | (simp only [List.length_drop, List.length_take]; rfl)) ?_; (with_reducible refine (orielref02_Start.calls k a0 false _ A2.out).mono ?_); rintro e w' ⟨rfl, ⟨nd, rfl⟩⟩; refine ⟨_, rfl, ?_⟩))
  go_ret
  exact ⟨by first | rfl | (simp; done) | (simp [*]; done), by repeat (first | exact Drawn0.refl _ | apply Drawn0.step)⟩
 rw [if_neg c7] at H; have c7b0 : decide (a0 ≤ 57) = false := decide_eq_false c7; clear c7
 by_cases c8 : a0 = 183
 ·
  rw [if_pos c8] at H; have c8b0 : (a0 == 183) = true := beq_iff_eq.mpr c8; have c8b1 : (a0 != 183) = false := bne_eq_false_iff_eq.mpr c8; clear c8; obtain rfl := Option.some.inj H
  go_enter Try.func57, Try.ntmps57
  go_wp2_with (first | ((with_reducible refine gate_callee (f := 56) rfl ?_); refine goesL_ (some 4) rfl rfl Try.func56 (by kernel_rfl) rfl #[.int .i64 a0] rfl (by (try simp only [List.map_toArray, List.map_cons, List.map_nil]); first | done | rfl | (simp only [List.length_drop, List.length_take]; rfl)) ?_; (with_reducible refine (orielref02_Start.calls k a0 false _ A2.out).mono ?_); rintro e w' ⟨rfl, ⟨nd, rfl⟩⟩; refine ⟨_, rfl, ?_⟩))
  go_ret
  exact ⟨by first | rfl | (simp; done) | (simp [*]; done), by repeat (first | exact Drawn0.refl _ | apply Drawn0.step)⟩
 rw [if_neg c8] at H; have c8b0 : (a0 == 183) = false := beq_eq_false_iff_ne.mpr c8; have c8b1 : (a0 != 183) = true := bne_iff_ne.mpr c8
 by_cases c9 : a0 ≥ 768
 rotate_left
 ·
  rw [if_neg c9] at H; have c9b0 : decide (768 ≤ a0) = false := decide_eq_false c9; clear c9
  by_cases c12 : a0 = 8255
  rotate_left
  ·
   rw [if_neg c12] at H; have c12b0 : (a0 == 8255) = false := beq_eq_false_iff_ne.mpr c12; have c12b1 : (a0 != 8255) = true := bne_iff_ne.mpr c12; obtain rfl := Option.some.inj H
   go_enter Try.func57, Try.ntmps57
   go_wp2_with (first | ((with_reducible refine gate_callee (f := 56) rfl ?_); refine goesL_ (some 4) rfl rfl Try.func56 (by kernel_rfl) rfl #[.int .i64 a0] rfl (by (try simp only [List.map_toArray, List.map_cons, List.map_nil]); first | done | rfl | (simp only [List.length_drop, List.length_take]; rfl)) ?_; (with_reducible refine (orielref02_Start.calls k a0 false _ A2.out).mono ?_); rintro e w' ⟨rfl, ⟨nd, rfl⟩⟩; refine ⟨_, rfl, ?_⟩))
   go_ret
   exact ⟨by first | rfl | (simp; done) | (simp [*]; done), by repeat (first | exact Drawn0.refl _ | apply Drawn0.step)⟩
  rw [if_pos c12] at H; have c12b0 : (a0 == 8255) = true := beq_iff_eq.mpr c12; have c12b1 : (a0 != 8255) = false := bne_eq_false_iff_eq.mpr c12; clear c12; obtain rfl := Option.some.inj H
  go_enter Try.func57, Try.ntmps57
  go_wp2_with (first | ((with_reducible refine gate_callee (f := 56) rfl ?_); refine goesL_ (some 4) rfl rfl Try.func56 (by kernel_rfl) rfl #[.int .i64 a0] rfl (by (try simp only [List.map_toArray, List.map_cons, List.map_nil]); first | done | rfl | (simp only [List.length_drop, List.length_take]; rfl)) ?_; (with_reducible refine (orielref02_Start.calls k a0 false _ A2.out).mono ?_); rintro e w' ⟨rfl, ⟨nd, rfl⟩⟩; refine ⟨_, rfl, ?_⟩))
  go_ret
  exact ⟨by first | rfl | (simp; done) | (simp [*]; done), by repeat (first | exact Drawn0.refl _ | apply Drawn0.step)⟩
 rw [if_pos c9] at H; have c9b0 : decide (768 ≤ a0) = true := decide_eq_true c9; clear c9
 by_cases c10 : a0 ≤ 879
 ·
  rw [if_pos c10] at H; have c10b0 : decide (a0 ≤ 879) = true := decide_eq_true c10; clear c10; obtain rfl := Option.some.inj H
  go_enter Try.func57, Try.ntmps57
  go_wp2_with (first | ((with_reducible refine gate_callee (f := 56) rfl ?_); refine goesL_ (some 4) rfl rfl Try.func56 (by kernel_rfl) rfl #[.int .i64 a0] rfl (by (try simp only [List.map_toArray, List.map_cons, List.map_nil]); first | done | rfl | (simp only [List.length_drop, List.length_take]; rfl)) ?_; (with_reducible refine (orielref02_Start.calls k a0 false _ A2.out).mono ?_); rintro e w' ⟨rfl, ⟨nd, rfl⟩⟩; refine ⟨_, rfl, ?_⟩))
  go_ret
  exact ⟨by first | rfl | (simp; done) | (simp [*]; done), by repeat (first | exact Drawn0.refl _ | apply Drawn0.step)⟩
 rw [if_neg c10] at H; have c10b0 : decide (a0 ≤ 879) = false := decide_eq_false c10; clear c10
 by_cases c11 : a0 = 8255
 rotate_left
 ·
  rw [if_neg c11] at H; have c11b0 : (a0 == 8255) = false := beq_eq_false_iff_ne.mpr c11; have c11b1 : (a0 != 8255) = true := bne_iff_ne.mpr c11; obtain rfl := Option.some.inj H
  go_enter Try.func57, Try.ntmps57
  go_wp2_with (first | ((with_reducible refine gate_callee (f := 56) rfl ?_); refine goesL_ (some 4) rfl rfl Try.func56 (by kernel_rfl) rfl #[.int .i64 a0] rfl (by (try simp only [List.map_toArray, List.map_cons, List.map_nil]); first | done | rfl | (simp only [List.length_drop, List.length_take]; rfl)) ?_; (with_reducible refine (orielref02_Start.calls k a0 false _ A2.out).mono ?_); rintro e w' ⟨rfl, ⟨nd, rfl⟩⟩; refine ⟨_, rfl, ?_⟩))
  go_ret
  exact ⟨by first | rfl | (simp; done) | (simp [*]; done), by repeat (first | exact Drawn0.refl _ | apply Drawn0.step)⟩
 rw [if_pos c11] at H; have c11b0 : (a0 == 8255) = true := beq_iff_eq.mpr c11; have c11b1 : (a0 != 8255) = false := bne_eq_false_iff_eq.mpr c11; clear c11; obtain rfl := Option.some.inj H
 go_enter Try.func57, Try.ntmps57
 go_wp2_with (first | ((with_reducible refine gate_callee (f := 56) rfl ?_); refine goesL_ (some 4) rfl rfl Try.func56 (by kernel_rfl) rfl #[.int .i64 a0] rfl (by (try simp only [List.map_toArray, List.map_cons, List.map_nil]); first | done | rfl | (simp only [List.length_drop, List.length_take]; rfl)) ?_; (with_reducible refine (orielref02_Start.calls k a0 false _ A2.out).mono ?_); rintro e w' ⟨rfl, ⟨nd, rfl⟩⟩; refine ⟨_, rfl, ?_⟩))
 go_ret
 exact ⟨by first | rfl | (simp; done) | (simp [*]; done), by repeat (first | exact Drawn0.refl _ | apply Drawn0.step)⟩
end Go.Proofs.Ytmbbjdkcanoklaa.X
