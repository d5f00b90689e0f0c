/- Printed by a program of this session (xprint) out of the kit's print, with functions proved by hand. -/
import Derived.Test.YtccjkjmhmbcleaaX0
import Derived.Test.YtccjkjmhmbcleaaX1
import Derived.Test.YtccjkjmhmbcleaaX2
import Derived.Test.YtccjkjmhmbcleaaX3
namespace Go.Proofs.Ytccjkjmhmbcleaa.X
open Go.RowKit Go.Proofs.YtccjkjmhmbcleaaW.PrintWords Go.Proofs.YtccjkjmhmbcleaaW.PrintLast Go.Proofs.YtccjkjmhmbcleaaW.PrintMore Go.Proofs.YtccjkjmhmbcleaaW.XConv
attribute [local go_sem] max2_int min2_int max_two min_two max_three min_three max_four min_four   -- for this text's walks alone
set_option linter.unusedVariables false
set_option linter.unusedSimpArgs false

/-! ### oriellaw03_NameSplits: function 3 -/
def oriellaw03_NameSplits.j0 : Nat → ByteArray → Bool → Option (Bool)
  | 0, _, _ => none
  | k + 1, x0, x15 => if x15 = true then ((oriellaw03_awake.f k).bind fun t140 => (some t140)) else ((name_Split.f k x0).bind fun bt141 => ((orielref03_Split.f k x0).bind fun bt144 => ((name_Plain.f k x0).bind fun t147 => ((orielref03_Plain.f k x0).bind fun t148 => (if (t147 == t148) = true then (if bt141.1.toList = bt144.1.toList then (if bt141.2.1.toList = bt144.2.1.toList then (some (bt141.2.2 == bt144.2.2)) else (some false)) else (some false)) else (some false))))))
def oriellaw03_NameSplits.f (k : Nat) (a0 : ByteArray) : Option (Bool) := (oriellaw03_awake.f k).bind fun t139 => (if t139 = true then (oriellaw03_NameSplits.j0 k a0 (decide ((a0.size : Int) > 200))) else (oriellaw03_NameSplits.j0 k a0 true))
theorem oriellaw03_NameSplits.mono_l : ∀ k, (∀ y0 y1, LeO (oriellaw03_NameSplits.j0 k y0 y1) (oriellaw03_NameSplits.j0 (k + 1) y0 y1))
  | 0 => fun _ _ r h => by simp [oriellaw03_NameSplits.j0] at h
  | k + 1 => by
    have ih0 := oriellaw03_NameSplits.mono_l k
    · intro y0 y1
      unfold oriellaw03_NameSplits.j0
      repeat' first
      | (with_reducible exact ih0 _ _)
      | (with_reducible exact name_Plain.mono _ _)
      | (with_reducible exact name_Split.mono _ _)
      | (with_reducible exact oriellaw03_awake.mono _)
      | (with_reducible exact orielref03_Plain.mono _ _)
      | (with_reducible exact orielref03_Split.mono _ _)
      | (with_reducible exact LeO.refl _)
      | (with_reducible exact LeO.none _)
      | (with_reducible refine LeO.ite ?_ ?_)
      | (with_reducible refine LeO.bind ?_ (fun _ => ?_))
      | exact ih0 _ _
      | exact name_Plain.mono _ _
      | exact name_Split.mono _ _
      | exact oriellaw03_awake.mono _
      | exact orielref03_Plain.mono _ _
      | exact orielref03_Split.mono _ _
      | exact LeO.none _
      | refine LeO.ite ?_ ?_
      | refine LeO.bind ?_ (fun _ => ?_)
theorem oriellaw03_NameSplits.mono : ∀ a0 k, LeO (oriellaw03_NameSplits.f k a0) (oriellaw03_NameSplits.f (k + 1) a0) := by
  intro a0 k
  have ih0 := oriellaw03_NameSplits.mono_l k
  unfold oriellaw03_NameSplits.f
  repeat' first
      | (with_reducible exact ih0 _ _)
      | (with_reducible exact name_Plain.mono _ _)
      | (with_reducible exact name_Split.mono _ _)
      | (with_reducible exact oriellaw03_awake.mono _)
      | (with_reducible exact orielref03_Plain.mono _ _)
      | (with_reducible exact orielref03_Split.mono _ _)
      | (with_reducible exact LeO.refl _)
      | (with_reducible exact LeO.none _)
      | (with_reducible refine LeO.ite ?_ ?_)
      | (with_reducible refine LeO.bind ?_ (fun _ => ?_))
      | exact ih0 _ _
      | exact name_Plain.mono _ _
      | exact name_Split.mono _ _
      | exact oriellaw03_awake.mono _
      | exact orielref03_Plain.mono _ _
      | exact orielref03_Split.mono _ _
      | exact LeO.none _
      | refine LeO.ite ?_ ?_
      | refine LeO.bind ?_ (fun _ => ?_)
set_option maxHeartbeats 8000000 in
set_option maxRecDepth 100000 in
theorem oriellaw03_NameSplits.calls (k : Nat) (a0 : ByteArray) (r : Bool) (w : World) (h : oriellaw03_NameSplits.f k a0 = some r) :
    Calls Try.prog 3 #[.string a0] w fun e w' => e = .returned (.bool r) ∧ Below w.heap.size w w' := by
  have HB := Aside0.mk (Below.refl w.heap.size w)
  have H : ((oriellaw03_awake.f k).bind fun t139 => (if t139 = true then (oriellaw03_NameSplits.j0 k a0 (decide ((a0.size : Int) > 200))) else (oriellaw03_NameSplits.j0 k a0 true))) = some r := h
  clear h
  have HC2 := Aside0.mk H
  clear H
  go_enter Try.func3, Try.ntmps3
  go_upto_region 1 with (fail)
  go_cut [15] (fun v15 wc => ∃ (kq : Nat) (x15_1 : Bool), v15 = .bool x15_1 ∧ Aside0 (oriellaw03_NameSplits.j0 kq a0 x15_1 = some r) ∧ Aside0 (kq ≤ k) ∧ Aside0 (Below w.heap.size w wc))
  case first =>
    have H := HC2.out
    clear HC2
    replace H := Option.bind_eq_some_iff.mp H
    obtain ⟨t139, A30, H⟩ := H
    replace H : (if t139 = true then (oriellaw03_NameSplits.j0 k a0 (decide ((a0.size : Int) > 200))) else (oriellaw03_NameSplits.j0 k a0 true)) = some r := H
    have A3 := Aside0.mk A30
    clear A30
    by_cases c4 : t139 = true
    · subst c4
      have H1 : (oriellaw03_NameSplits.j0 k a0 (decide ((a0.size : Int) > 200))) = some r := by rw [if_pos rfl] at H; exact H
      clear H
      have H := H1
      clear H1
      have H' := Aside0.mk H
      clear H
      go_wp2_with (first | ((with_reducible refine gate_callee (f := 7) rfl ?_); refine goesL_ (some 9) rfl rfl Try.func7 (by kernel_rfl) rfl #[] rfl (by (try simp only [List.map_toArray, List.map_cons, List.map_nil]); first | done | rfl | (simp only [List.length_drop, List.length_take]; rfl)) ?_; (with_reducible refine (oriellaw03_awake.calls k  true _ A3.out).mono ?_); rintro e w5 ⟨rfl, hb⟩; refine ⟨_, rfl, ?_⟩; have n0_ := Aside0.mk (below_step (by repeat (first | (with_reducible first | exact HB.out | apply below_alloc | apply pw_below_drewN | apply below_drew1) | exact HB.out)) hb); clear HB; have HB := n0_; clear n0_; (try clear hb); (try clear hb2); (try clear hk); (try clear hi)))
      go_meet
      case rel => exact ⟨_, (decide ((a0.size : Int) > 200)), (by first | rfl | (simp; done) | (simp [*]; done)), H', ⟨by first | omega | exact Nat.le_refl _⟩, ⟨by repeat (first | (with_reducible first | exact HB.out | apply below_alloc | apply pw_below_drewN | apply below_drew1) | exact HB.out)⟩⟩
    · replace c4 := Bool.eq_false_iff.mpr c4
      subst c4
      have H1 : (oriellaw03_NameSplits.j0 k a0 true) = some r := by rw [if_neg (show ¬ (false = true) by decide)] at H; exact H
      clear H
      have H := H1
      clear H1
      have H' := Aside0.mk H
      clear H
      go_wp2_with (first | ((with_reducible refine gate_callee (f := 7) rfl ?_); refine goesL_ (some 9) rfl rfl Try.func7 (by kernel_rfl) rfl #[] rfl (by (try simp only [List.map_toArray, List.map_cons, List.map_nil]); first | done | rfl | (simp only [List.length_drop, List.length_take]; rfl)) ?_; (with_reducible refine (oriellaw03_awake.calls k  false _ A3.out).mono ?_); rintro e w6 ⟨rfl, hb⟩; refine ⟨_, rfl, ?_⟩; have n0_ := Aside0.mk (below_step (by repeat (first | (with_reducible first | exact HB.out | apply below_alloc | apply pw_below_drewN | apply below_drew1) | exact HB.out)) hb); clear HB; have HB := n0_; clear n0_; (try clear hb); (try clear hb2); (try clear hk); (try clear hi)))
      go_meet
      case rel => exact ⟨_, (true), (by first | rfl | (simp; done) | (simp [*]; done)), H', ⟨by first | omega | exact Nat.le_refl _⟩, ⟨by repeat (first | (with_reducible first | exact HB.out | apply below_alloc | apply pw_below_drewN | apply below_drew1) | exact HB.out)⟩⟩
  case rest =>
    clear HC2
    try clear p2
    try clear c3
    try clear c4
    obtain ⟨kq, x15_1, rfl, HA, HJ1, HB⟩ := hcut
    cases kq with
    | zero => exact absurd HA.out (by simp [oriellaw03_NameSplits.j0])
    | succ kj1 =>
      have H := HA.out
      clear HA
      simp only [oriellaw03_NameSplits.j0] at H
      by_cases c7 : x15_1 = true
      · subst c7
        have H1 : ((oriellaw03_awake.f kj1).bind fun t140 => (some t140)) = some r := by rw [if_pos rfl] at H; exact H
        clear H
        have H := H1
        clear H1
        replace H := Option.bind_eq_some_iff.mp H
        obtain ⟨t140, A80, H⟩ := H
        replace H : (some t140) = some r := H
        have A8 := Aside0.mk A80
        clear A80
        obtain rfl := Option.some.inj H
        go_wp2_with (first | ((with_reducible refine gate_callee (f := 7) rfl ?_); refine goesL_ (some 16) rfl rfl Try.func7 (by kernel_rfl) rfl #[] rfl (by (try simp only [List.map_toArray, List.map_cons, List.map_nil]); first | done | rfl | (simp only [List.length_drop, List.length_take]; rfl)) ?_; (with_reducible refine (oriellaw03_awake.calls kj1  t140 _ A8.out).mono ?_); rintro e w9 ⟨rfl, hb⟩; refine ⟨_, rfl, ?_⟩; have n0_ := Aside0.mk (below_step (by repeat (first | (with_reducible first | exact HB.out | apply below_alloc | apply pw_below_drewN | apply below_drew1) | exact HB.out)) hb); clear HB; have HB := n0_; clear n0_; (try clear hb); (try clear hb2); (try clear hk); (try clear hi)))
        go_ret
        exact ⟨by first | rfl | (simp [errW_none, errW_some] <;> rfl) | (simp [*, errW_none, errW_some] <;> rfl), by repeat (first | (with_reducible first | exact HB.out | apply below_alloc | apply pw_below_drewN | apply below_drew1) | exact HB.out)⟩
      · replace c7 := Bool.eq_false_iff.mpr c7
        subst c7
        have H1 : ((name_Split.f kj1 a0).bind fun bt141 => ((orielref03_Split.f kj1 a0).bind fun bt144 => ((name_Plain.f kj1 a0).bind fun t147 => ((orielref03_Plain.f kj1 a0).bind fun t148 => (if (t147 == t148) = true then (if bt141.1.toList = bt144.1.toList then (if bt141.2.1.toList = bt144.2.1.toList then (some (bt141.2.2 == bt144.2.2)) else (some false)) else (some false)) else (some false)))))) = some r := by rw [if_neg (show ¬ (false = true) by decide)] at H; exact H
        clear H
        have H := H1
        clear H1
        replace H := Option.bind_eq_some_iff.mp H
        obtain ⟨⟨t141, t142, t143⟩, A100, H⟩ := H
        replace H : ((orielref03_Split.f kj1 a0).bind fun bt144 => ((name_Plain.f kj1 a0).bind fun t147 => ((orielref03_Plain.f kj1 a0).bind fun t148 => (if (t147 == t148) = true then (if t141.toList = bt144.1.toList then (if t142.toList = bt144.2.1.toList then (some (t143 == bt144.2.2)) else (some false)) else (some false)) else (some false))))) = some r := H
        have A10 := Aside0.mk A100
        clear A100
        replace H := Option.bind_eq_some_iff.mp H
        obtain ⟨⟨t144, t145, t146⟩, A110, H⟩ := H
        replace H : ((name_Plain.f kj1 a0).bind fun t147 => ((orielref03_Plain.f kj1 a0).bind fun t148 => (if (t147 == t148) = true then (if t141.toList = t144.toList then (if t142.toList = t145.toList then (some (t143 == t146)) else (some false)) else (some false)) else (some false)))) = some r := H
        have A11 := Aside0.mk A110
        clear A110
        replace H := Option.bind_eq_some_iff.mp H
        obtain ⟨t147, A120, H⟩ := H
        replace H : ((orielref03_Plain.f kj1 a0).bind fun t148 => (if (t147 == t148) = true then (if t141.toList = t144.toList then (if t142.toList = t145.toList then (some (t143 == t146)) else (some false)) else (some false)) else (some false))) = some r := H
        have A12 := Aside0.mk A120
        clear A120
        replace H := Option.bind_eq_some_iff.mp H
        obtain ⟨t148, A130, H⟩ := H
        replace H : (if (t147 == t148) = true then (if t141.toList = t144.toList then (if t142.toList = t145.toList then (some (t143 == t146)) else (some false)) else (some false)) else (some false)) = some r := H
        have A13 := Aside0.mk A130
        clear A130
        by_cases c14 : (t147 == t148) = true
        · rw [if_pos c14] at H
          have c14b0 : (t147 == t148) = true := c14
          (try (have c14b1 : decide (t147 = t148) = true := by simpa using c14))
          (try (have c14b2 : (t147 == t148) = true := by simpa using c14))
          clear c14
          by_cases c15 : t141.toList = t144.toList
          · rw [if_pos c15] at H
            have c15b0 : (t141.toList == t144.toList) = true := beq_iff_eq.mpr c15
            have c15b1 : (t141.toList != t144.toList) = false := bne_eq_false_iff_eq.mpr c15
            clear c15
            by_cases c16 : t142.toList = t145.toList
            · rw [if_pos c16] at H
              have c16b0 : (t142.toList == t145.toList) = true := beq_iff_eq.mpr c16
              have c16b1 : (t142.toList != t145.toList) = false := bne_eq_false_iff_eq.mpr c16
              clear c16
              obtain rfl := Option.some.inj H
              go_wp2_with (first | ((with_reducible refine gate_callee (f := 8) rfl ?_); refine goesL_ (some 19) rfl rfl Try.func8 (by kernel_rfl) rfl #[.string a0] rfl (by (try simp only [List.map_toArray, List.map_cons, List.map_nil]); first | done | rfl | (simp only [List.length_drop, List.length_take]; rfl)) ?_; (with_reducible refine (name_Split.calls kj1 a0 t141 t142 t143 _ A10.out).mono ?_); rintro e w17 ⟨rfl, hb⟩; refine ⟨_, rfl, ?_⟩; have n0_ := Aside0.mk (below_step (by repeat (first | (with_reducible first | exact HB.out | apply below_alloc | apply pw_below_drewN | apply below_drew1) | exact HB.out)) hb); clear HB; have HB := n0_; clear n0_; (try clear hb); (try clear hb2); (try clear hk); (try clear hi)) | ((with_reducible refine gate_callee (f := 9) rfl ?_); refine goesL_ (some 25) rfl rfl Try.func9 (by kernel_rfl) rfl #[.string a0] rfl (by (try simp only [List.map_toArray, List.map_cons, List.map_nil]); first | done | rfl | (simp only [List.length_drop, List.length_take]; rfl)) ?_; (with_reducible refine (orielref03_Split.calls kj1 a0 t144 t145 t146 _ A11.out).mono ?_); rintro e w18 ⟨rfl, hb⟩; refine ⟨_, rfl, ?_⟩; have n0_ := Aside0.mk (below_step (by repeat (first | (with_reducible first | exact HB.out | apply below_alloc | apply pw_below_drewN | apply below_drew1) | exact HB.out)) hb); clear HB; have HB := n0_; clear n0_; (try clear hb); (try clear hb2); (try clear hk); (try clear hi)) | ((with_reducible refine gate_callee (f := 10) rfl ?_); refine goesL_ (some 30) rfl rfl Try.func10 (by kernel_rfl) rfl #[.string a0] rfl (by (try simp only [List.map_toArray, List.map_cons, List.map_nil]); first | done | rfl | (simp only [List.length_drop, List.length_take]; rfl)) ?_; (with_reducible refine (name_Plain.calls kj1 a0 t147 _ A12.out).mono ?_); rintro e w19 ⟨rfl, hb⟩; refine ⟨_, rfl, ?_⟩; have n0_ := Aside0.mk (below_step (by repeat (first | (with_reducible first | exact HB.out | apply below_alloc | apply pw_below_drewN | apply below_drew1) | exact HB.out)) hb); clear HB; have HB := n0_; clear n0_; (try clear hb); (try clear hb2); (try clear hk); (try clear hi)) | ((with_reducible refine gate_callee (f := 11) rfl ?_); refine goesL_ (some 32) rfl rfl Try.func11 (by kernel_rfl) rfl #[.string a0] rfl (by (try simp only [List.map_toArray, List.map_cons, List.map_nil]); first | done | rfl | (simp only [List.length_drop, List.length_take]; rfl)) ?_; (with_reducible refine (orielref03_Plain.calls kj1 a0 t148 _ A13.out).mono ?_); rintro e w20 ⟨rfl, hb⟩; refine ⟨_, rfl, ?_⟩; have n0_ := Aside0.mk (below_step (by repeat (first | (with_reducible first | exact HB.out | apply below_alloc | apply pw_below_drewN | apply below_drew1) | exact HB.out)) hb); clear HB; have HB := n0_; clear n0_; (try clear hb); (try clear hb2); (try clear hk); (try clear hi)))
              go_ret
              exact ⟨by first | rfl | (simp [errW_none, errW_some] <;> rfl) | (simp [*, errW_none, errW_some] <;> rfl), by repeat (first | (with_reducible first | exact HB.out | apply below_alloc | apply pw_below_drewN | apply below_drew1) | exact HB.out)⟩
            · rw [if_neg c16] at H
              have c16b0 : (t142.toList == t145.toList) = false := beq_eq_false_iff_ne.mpr c16
              have c16b1 : (t142.toList != t145.toList) = true := bne_iff_ne.mpr c16
              obtain rfl := Option.some.inj H
              go_wp2_with (first | ((with_reducible refine gate_callee (f := 8) rfl ?_); refine goesL_ (some 19) rfl rfl Try.func8 (by kernel_rfl) rfl #[.string a0] rfl (by (try simp only [List.map_toArray, List.map_cons, List.map_nil]); first | done | rfl | (simp only [List.length_drop, List.length_take]; rfl)) ?_; (with_reducible refine (name_Split.calls kj1 a0 t141 t142 t143 _ A10.out).mono ?_); rintro e w21 ⟨rfl, hb⟩; refine ⟨_, rfl, ?_⟩; have n0_ := Aside0.mk (below_step (by repeat (first | (with_reducible first | exact HB.out | apply below_alloc | apply pw_below_drewN | apply below_drew1) | exact HB.out)) hb); clear HB; have HB := n0_; clear n0_; (try clear hb); (try clear hb2); (try clear hk); (try clear hi)) | ((with_reducible refine gate_callee (f := 9) rfl ?_); refine goesL_ (some 25) rfl rfl Try.func9 (by kernel_rfl) rfl #[.string a0] rfl (by (try simp only [List.map_toArray, List.map_cons, List.map_nil]); first | done | rfl | (simp only [List.length_drop, List.length_take]; rfl)) ?_; (with_reducible refine (orielref03_Split.calls kj1 a0 t144 t145 t146 _ A11.out).mono ?_); rintro e w22 ⟨rfl, hb⟩; refine ⟨_, rfl, ?_⟩; have n0_ := Aside0.mk (below_step (by repeat (first | (with_reducible first | exact HB.out | apply below_alloc | apply pw_below_drewN | apply below_drew1) | exact HB.out)) hb); clear HB; have HB := n0_; clear n0_; (try clear hb); (try clear hb2); (try clear hk); (try clear hi)) | ((with_reducible refine gate_callee (f := 10) rfl ?_); refine goesL_ (some 30) rfl rfl Try.func10 (by kernel_rfl) rfl #[.string a0] rfl (by (try simp only [List.map_toArray, List.map_cons, List.map_nil]); first | done | rfl | (simp only [List.length_drop, List.length_take]; rfl)) ?_; (with_reducible refine (name_Plain.calls kj1 a0 t147 _ A12.out).mono ?_); rintro e w23 ⟨rfl, hb⟩; refine ⟨_, rfl, ?_⟩; have n0_ := Aside0.mk (below_step (by repeat (first | (with_reducible first | exact HB.out | apply below_alloc | apply pw_below_drewN | apply below_drew1) | exact HB.out)) hb); clear HB; have HB := n0_; clear n0_; (try clear hb); (try clear hb2); (try clear hk); (try clear hi)) | ((with_reducible refine gate_callee (f := 11) rfl ?_); refine goesL_ (some 32) rfl rfl Try.func11 (by kernel_rfl) rfl #[.string a0] rfl (by (try simp only [List.map_toArray, List.map_cons, List.map_nil]); first | done | rfl | (simp only [List.length_drop, List.length_take]; rfl)) ?_; (with_reducible refine (orielref03_Plain.calls kj1 a0 t148 _ A13.out).mono ?_); rintro e w24 ⟨rfl, hb⟩; refine ⟨_, rfl, ?_⟩; have n0_ := Aside0.mk (below_step (by repeat (first | (with_reducible first | exact HB.out | apply below_alloc | apply pw_below_drewN | apply below_drew1) | exact HB.out)) hb); clear HB; have HB := n0_; clear n0_; (try clear hb); (try clear hb2); (try clear hk); (try clear hi)))
              go_ret
              exact ⟨by first | rfl | (simp [errW_none, errW_some] <;> rfl) | (simp [*, errW_none, errW_some] <;> rfl), by repeat (first | (with_reducible first | exact HB.out | apply below_alloc | apply pw_below_drewN | apply below_drew1) | exact HB.out)⟩
          · rw [if_neg c15] at H
            have c15b0 : (t141.toList == t144.toList) = false := beq_eq_false_iff_ne.mpr c15
            have c15b1 : (t141.toList != t144.toList) = true := bne_iff_ne.mpr c15
            obtain rfl := Option.some.inj H
            go_wp2_with (first | ((with_reducible refine gate_callee (f := 8) rfl ?_); refine goesL_ (some 19) rfl rfl Try.func8 (by kernel_rfl) rfl #[.string a0] rfl (by (try simp only [List.map_toArray, List.map_cons, List.map_nil]); first | done | rfl | (simp only [List.length_drop, List.length_take]; rfl)) ?_; (with_reducible refine (name_Split.calls kj1 a0 t141 t142 t143 _ A10.out).mono ?_); rintro e w25 ⟨rfl, hb⟩; refine ⟨_, rfl, ?_⟩; have n0_ := Aside0.mk (below_step (by repeat (first | (with_reducible first | exact HB.out | apply below_alloc | apply pw_below_drewN | apply below_drew1) | exact HB.out)) hb); clear HB; have HB := n0_; clear n0_; (try clear hb); (try clear hb2); (try clear hk); (try clear hi)) | ((with_reducible refine gate_callee (f := 9) rfl ?_); refine goesL_ (some 25) rfl rfl Try.func9 (by kernel_rfl) rfl #[.string a0] rfl (by (try simp only [List.map_toArray, List.map_cons, List.map_nil]); first | done | rfl | (simp only [List.length_drop, List.length_take]; rfl)) ?_; (with_reducible refine (orielref03_Split.calls kj1 a0 t144 t145 t146 _ A11.out).mono ?_); rintro e w26 ⟨rfl, hb⟩; refine ⟨_, rfl, ?_⟩; have n0_ := Aside0.mk (below_step (by repeat (first | (with_reducible first | exact HB.out | apply below_alloc | apply pw_below_drewN | apply below_drew1) | exact HB.out)) hb); clear HB; have HB := n0_; clear n0_; (try clear hb); (try clear hb2); (try clear hk); (try clear hi)) | ((with_reducible refine gate_callee (f := 10) rfl ?_); refine goesL_ (some 30) rfl rfl Try.func10 (by kernel_rfl) rfl #[.string a0] rfl (by (try simp only [List.map_toArray, List.map_cons, List.map_nil]); first | done | rfl | (simp only [List.length_drop, List.length_take]; rfl)) ?_; (with_reducible refine (name_Plain.calls kj1 a0 t147 _ A12.out).mono ?_); rintro e w27 ⟨rfl, hb⟩; refine ⟨_, rfl, ?_⟩; have n0_ := Aside0.mk (below_step (by repeat (first | (with_reducible first | exact HB.out | apply below_alloc | apply pw_below_drewN | apply below_drew1) | exact HB.out)) hb); clear HB; have HB := n0_; clear n0_; (try clear hb); (try clear hb2); (try clear hk); (try clear hi)) | ((with_reducible refine gate_callee (f := 11) rfl ?_); refine goesL_ (some 32) rfl rfl Try.func11 (by kernel_rfl) rfl #[.string a0] rfl (by (try simp only [List.map_toArray, List.map_cons, List.map_nil]); first | done | rfl | (simp only [List.length_drop, List.length_take]; rfl)) ?_; (with_reducible refine (orielref03_Plain.calls kj1 a0 t148 _ A13.out).mono ?_); rintro e w28 ⟨rfl, hb⟩; refine ⟨_, rfl, ?_⟩; have n0_ := Aside0.mk (below_step (by repeat (first | (with_reducible first | exact HB.out | apply below_alloc | apply pw_below_drewN | apply below_drew1) | exact HB.out)) hb); clear HB; have HB := n0_; clear n0_; (try clear hb); (try clear hb2); (try clear hk); (try clear hi)))
            go_ret
            exact ⟨by first | rfl | (simp [errW_none, errW_some] <;> rfl) | (simp [*, errW_none, errW_some] <;> rfl), by repeat (first | (with_reducible first | exact HB.out | apply below_alloc | apply pw_below_drewN | apply below_drew1) | exact HB.out)⟩
        · rw [if_neg c14] at H
          have c14b0 : (t147 == t148) = false := by simpa using c14
          (try (have c14b1 : decide (t147 = t148) = false := by simpa using c14))
          (try (have c14b2 : (t147 == t148) = false := by simpa using c14))
          (try (have c14b3 : ¬ (t147 = t148) := by simpa using c14))
          clear c14
          obtain rfl := Option.some.inj H
          go_wp2_with (first | ((with_reducible refine gate_callee (f := 8) rfl ?_); refine goesL_ (some 19) rfl rfl Try.func8 (by kernel_rfl) rfl #[.string a0] rfl (by (try simp only [List.map_toArray, List.map_cons, List.map_nil]); first | done | rfl | (simp only [List.length_drop, List.length_take]; rfl)) ?_; (with_reducible refine (name_Split.calls kj1 a0 t141 t142 t143 _ A10.out).mono ?_); rintro e w29 ⟨rfl, hb⟩; refine ⟨_, rfl, ?_⟩; have n0_ := Aside0.mk (below_step (by repeat (first | (with_reducible first | exact HB.out | apply below_alloc | apply pw_below_drewN | apply below_drew1) | exact HB.out)) hb); clear HB; have HB := n0_; clear n0_; (try clear hb); (try clear hb2); (try clear hk); (try clear hi)) | ((with_reducible refine gate_callee (f := 9) rfl ?_); refine goesL_ (some 25) rfl rfl Try.func9 (by kernel_rfl) rfl #[.string a0] rfl (by (try simp only [List.map_toArray, List.map_cons, List.map_nil]); first | done | rfl | (simp only [List.length_drop, List.length_take]; rfl)) ?_; (with_reducible refine (orielref03_Split.calls kj1 a0 t144 t145 t146 _ A11.out).mono ?_); rintro e w30 ⟨rfl, hb⟩; refine ⟨_, rfl, ?_⟩; have n0_ := Aside0.mk (below_step (by repeat (first | (with_reducible first | exact HB.out | apply below_alloc | apply pw_below_drewN | apply below_drew1) | exact HB.out)) hb); clear HB; have HB := n0_; clear n0_; (try clear hb); (try clear hb2); (try clear hk); (try clear hi)) | ((with_reducible refine gate_callee (f := 10) rfl ?_); refine goesL_ (some 30) rfl rfl Try.func10 (by kernel_rfl) rfl #[.string a0] rfl (by (try simp only [List.map_toArray, List.map_cons, List.map_nil]); first | done | rfl | (simp only [List.length_drop, List.length_take]; rfl)) ?_; (with_reducible refine (name_Plain.calls kj1 a0 t147 _ A12.out).mono ?_); rintro e w31 ⟨rfl, hb⟩; refine ⟨_, rfl, ?_⟩; have n0_ := Aside0.mk (below_step (by repeat (first | (with_reducible first | exact HB.out | apply below_alloc | apply pw_below_drewN | apply below_drew1) | exact HB.out)) hb); clear HB; have HB := n0_; clear n0_; (try clear hb); (try clear hb2); (try clear hk); (try clear hi)) | ((with_reducible refine gate_callee (f := 11) rfl ?_); refine goesL_ (some 32) rfl rfl Try.func11 (by kernel_rfl) rfl #[.string a0] rfl (by (try simp only [List.map_toArray, List.map_cons, List.map_nil]); first | done | rfl | (simp only [List.length_drop, List.length_take]; rfl)) ?_; (with_reducible refine (orielref03_Plain.calls kj1 a0 t148 _ A13.out).mono ?_); rintro e w32 ⟨rfl, hb⟩; refine ⟨_, rfl, ?_⟩; have n0_ := Aside0.mk (below_step (by repeat (first | (with_reducible first | exact HB.out | apply below_alloc | apply pw_below_drewN | apply below_drew1) | exact HB.out)) hb); clear HB; have HB := n0_; clear n0_; (try clear hb); (try clear hb2); (try clear hk); (try clear hi)))
          go_ret
          exact ⟨by first | rfl | (simp [errW_none, errW_some] <;> rfl) | (simp [*, errW_none, errW_some] <;> rfl), by repeat (first | (with_reducible first | exact HB.out | apply below_alloc | apply pw_below_drewN | apply below_drew1) | exact HB.out)⟩

/-- THE ONE PURE STATEMENT of oriellaw03_NameSplits: yours. -/
def oriellaw03_NameSplits.Pure : Prop := ∀ (a0 : ByteArray), a0.size ≤ 140737488351232 → ∃ k, oriellaw03_NameSplits.f k a0 = some true
theorem oriellaw03_NameSplits.walk (P : oriellaw03_NameSplits.Pure) (a0 : ByteArray) (w : World) (w0 : a0.size ≤ 140737488351232) :
    Calls Try.prog 3 #[.string a0] w fun e w' => e = .returned (.bool true) ∧ Below w.heap.size w w' := by
  obtain ⟨k, h⟩ := P a0 w0
  refine (oriellaw03_NameSplits.calls k a0 true w h).mono ?_
  rintro e w' ⟨rfl, hd⟩
  exact ⟨rfl, hd⟩

/-! ### orielref03_Cut: function 13 -/
mutual
def orielref03_Cut.j0 : Nat → ByteArray → Int → Bool → Option (ByteArray × Int)
  | 0, _, _, _ => none
  | k + 1, x0, x1, x17 => if x17 = true then (some ((⟨#[]⟩ : ByteArray), x1)) else (if 0 ≤ x1 then (if x1 ≤ (x0.size : Int) then ((convRunes.f (x0.extract (x1 : Int).toNat x0.size)).bind fun t149 => (orielref03_Cut.l0 k x0 x1 t149 0 0)) else (none)) else (none))
def orielref03_Cut.l0 : Nat → ByteArray → Int → List Int → Int → Int → Option (ByteArray × Int)
  | 0, _, _, _, _, _ => none
  | k + 1, x0, x1, x6, x7, x8 => if x8 < (x6.length : Int) then (if 0 ≤ x8 then (if (rd x6 x8) = 58 then (orielref03_Cut.j2 k x0 x1 x6 x7 x8 false) else ((orielref02_Part.f k (wrap64 (rd x6 x8))).bind fun t154 => (orielref03_Cut.j2 k x0 x1 x6 x7 x8 (!t154)))) else (none)) else (if 0 ≤ x1 then (if x1 ≤ (x0.size : Int) then (some (x0.extract (x1 : Int).toNat x0.size, (x0.size : Int))) else (none)) else (none))
def orielref03_Cut.j2 : Nat → ByteArray → Int → List Int → Int → Int → Bool → Option (ByteArray × Int)
  | 0, _, _, _, _, _, _ => none
  | k + 1, x0, x1, x6, x7, x8, x42 => if x42 = true then (if 0 ≤ x1 then (if x1 ≤ (wrap64 (x1 + x7)) then (if (wrap64 (x1 + x7)) ≤ (x0.size : Int) then (some (x0.extract (x1 : Int).toNat ((wrap64 (x1 + x7)) : Int).toNat, wrap64 (x1 + x7))) else (none)) else (none)) else (none)) else (if 0 ≤ x8 then (if x8 ≤ (wrap64 (x8 + 1)) then (if (wrap64 (x8 + 1)) ≤ (x6.length : Int) then ((some ((x6.take ((wrap64 (x8 + 1)) : Int).toNat).drop (x8 : Int).toNat : List Int)).bind fun y155 => (if x8 < (x6.length : Int) then (if (rd x6 x8) = 65533 then (if (wrap64 ((wrap64 (x1 + x7)) + 3)) > (x0.size : Int) then (orielref03_Cut.l0 k x0 x1 x6 (wrap64 (x7 + 1)) (wrap64 (x8 + 1))) else (if 0 ≤ (wrap64 (x1 + x7)) then (if (wrap64 (x1 + x7)) ≤ (wrap64 ((wrap64 (x1 + x7)) + 3)) then (if (wrap64 ((wrap64 (x1 + x7)) + 3)) ≤ (x0.size : Int) then (if (x0.extract ((wrap64 (x1 + x7)) : Int).toNat ((wrap64 ((wrap64 (x1 + x7)) + 3)) : Int).toNat).toList = ([239, 191, 189] : List UInt8) then (orielref03_Cut.l0 k x0 x1 x6 (wrap64 (x7 + ((strOfRunes y155).size : Int))) (wrap64 (x8 + 1))) else (orielref03_Cut.l0 k x0 x1 x6 (wrap64 (x7 + 1)) (wrap64 (x8 + 1)))) else (none)) else (none)) else (none))) else (orielref03_Cut.l0 k x0 x1 x6 (wrap64 (x7 + ((strOfRunes y155).size : Int))) (wrap64 (x8 + 1)))) else (none))) else (none)) else (none)) else (none))
end
def orielref03_Cut.f (k : Nat) (a0 : ByteArray) (a1 : Int) : Option (ByteArray × Int) := if a1 < 0 then (orielref03_Cut.j0 k a0 a1 true) else (orielref03_Cut.j0 k a0 a1 (decide (a1 > (a0.size : Int))))
theorem orielref03_Cut.mono_l : ∀ k, (∀ y0 y1 y2, LeO (orielref03_Cut.j0 k y0 y1 y2) (orielref03_Cut.j0 (k + 1) y0 y1 y2)) ∧ (∀ y0 y1 y2 y3 y4, LeO (orielref03_Cut.l0 k y0 y1 y2 y3 y4) (orielref03_Cut.l0 (k + 1) y0 y1 y2 y3 y4)) ∧ (∀ y0 y1 y2 y3 y4 y5, LeO (orielref03_Cut.j2 k y0 y1 y2 y3 y4 y5) (orielref03_Cut.j2 (k + 1) y0 y1 y2 y3 y4 y5))
  | 0 => ⟨fun _ _ _ r h => by simp [orielref03_Cut.j0] at h, fun _ _ _ _ _ r h => by simp [orielref03_Cut.l0] at h, fun _ _ _ _ _ _ r h => by simp [orielref03_Cut.j2] at h⟩
  | k + 1 => by
    obtain ⟨ih0, ih1, ih2⟩ := orielref03_Cut.mono_l k
    refine ⟨?_, ?_, ?_⟩
    · intro y0 y1 y2
      unfold orielref03_Cut.j0
      repeat' first
      | (with_reducible exact ih0 _ _ _)
      | (with_reducible exact ih1 _ _ _ _ _)
      | (with_reducible exact ih2 _ _ _ _ _ _)
      | (with_reducible exact orielref02_Part.mono _ _)
      | (with_reducible exact LeO.refl _)
      | (with_reducible exact LeO.none _)
      | (with_reducible refine LeO.ite ?_ ?_)
      | (with_reducible refine LeO.bind ?_ (fun _ => ?_))
      | exact ih0 _ _ _
      | exact ih1 _ _ _ _ _
      | exact ih2 _ _ _ _ _ _
      | exact orielref02_Part.mono _ _
      | exact LeO.none _
      | refine LeO.ite ?_ ?_
      | refine LeO.bind ?_ (fun _ => ?_)
    · intro y0 y1 y2 y3 y4
      unfold orielref03_Cut.l0
      repeat' first
      | (with_reducible exact ih0 _ _ _)
      | (with_reducible exact ih1 _ _ _ _ _)
      | (with_reducible exact ih2 _ _ _ _ _ _)
      | (with_reducible exact orielref02_Part.mono _ _)
      | (with_reducible exact LeO.refl _)
      | (with_reducible exact LeO.none _)
      | (with_reducible refine LeO.ite ?_ ?_)
      | (with_reducible refine LeO.bind ?_ (fun _ => ?_))
      | exact ih0 _ _ _
      | exact ih1 _ _ _ _ _
      | exact ih2 _ _ _ _ _ _
      | exact orielref02_Part.mono _ _
      | exact LeO.none _
      | refine LeO.ite ?_ ?_
      | refine LeO.bind ?_ (fun _ => ?_)
    · intro y0 y1 y2 y3 y4 y5
      unfold orielref03_Cut.j2
      repeat' first
      | (with_reducible exact ih0 _ _ _)
      | (with_reducible exact ih1 _ _ _ _ _)
      | (with_reducible exact ih2 _ _ _ _ _ _)
      | (with_reducible exact orielref02_Part.mono _ _)
      | (with_reducible exact LeO.refl _)
      | (with_reducible exact LeO.none _)
      | (with_reducible refine LeO.ite ?_ ?_)
      | (with_reducible refine LeO.bind ?_ (fun _ => ?_))
      | exact ih0 _ _ _
      | exact ih1 _ _ _ _ _
      | exact ih2 _ _ _ _ _ _
      | exact orielref02_Part.mono _ _
      | exact LeO.none _
      | refine LeO.ite ?_ ?_
      | refine LeO.bind ?_ (fun _ => ?_)
theorem orielref03_Cut.mono : ∀ a0 a1 k, LeO (orielref03_Cut.f k a0 a1) (orielref03_Cut.f (k + 1) a0 a1) := by
  intro a0 a1 k
  obtain ⟨ih0, ih1, ih2⟩ := orielref03_Cut.mono_l k
  unfold orielref03_Cut.f
  repeat' first
      | (with_reducible exact ih0 _ _ _)
      | (with_reducible exact ih1 _ _ _ _ _)
      | (with_reducible exact ih2 _ _ _ _ _ _)
      | (with_reducible exact orielref02_Part.mono _ _)
      | (with_reducible exact LeO.refl _)
      | (with_reducible exact LeO.none _)
      | (with_reducible refine LeO.ite ?_ ?_)
      | (with_reducible refine LeO.bind ?_ (fun _ => ?_))
      | exact ih0 _ _ _
      | exact ih1 _ _ _ _ _
      | exact ih2 _ _ _ _ _ _
      | exact orielref02_Part.mono _ _
      | exact LeO.none _
      | refine LeO.ite ?_ ?_
      | refine LeO.bind ?_ (fun _ => ?_)
set_option maxHeartbeats 8000000 in
set_option maxRecDepth 100000 in
theorem orielref03_Cut.calls (k : Nat) (a0 : ByteArray) (a1 : Int) (r1 : ByteArray) (r2 : Int) (w : World) (h : orielref03_Cut.f k a0 a1 = some (r1, r2)) :
    Calls Try.prog 13 #[.string a0, .int .i64 a1] w fun e w' => e = .returned (.tuple #[.string r1, .int .i64 r2]) ∧ Below w.heap.size w w' := by
  have HB := Aside0.mk (Below.refl w.heap.size w)
  have H : (if a1 < 0 then (orielref03_Cut.j0 k a0 a1 true) else (orielref03_Cut.j0 k a0 a1 (decide (a1 > (a0.size : Int))))) = some (r1, r2) := h
  clear h
  have HC3 := Aside0.mk H
  clear H
  go_enter Try.func13, Try.ntmps13
  go_upto_region 1 with (fail)
  go_cut [17] (fun v17 wc => ∃ (kq : Nat) (x17_2 : Bool), v17 = .bool x17_2 ∧ Aside0 (orielref03_Cut.j0 kq a0 a1 x17_2 = some (r1, r2)) ∧ Aside0 (kq ≤ k) ∧ Aside0 (Below w.heap.size w wc))
  case first =>
    have H := HC3.out
    clear HC3
    by_cases c4 : a1 < 0
    · rw [if_pos c4] at H
      have c4b0 : decide (a1 < 0) = true := decide_eq_true c4
      clear c4
      (first | rw [c4b0] | (simp only [i64_w, i32_w]; rw [c4b0]) | skip)
      have H' := Aside0.mk H
      clear H
      go_wp2
      go_meet
      case rel => exact ⟨_, (true), (by first | rfl | (simp; done) | (simp [*]; done)), H', ⟨by first | omega | exact Nat.le_refl _⟩, ⟨by repeat (first | (with_reducible first | exact HB.out | apply below_alloc | apply pw_below_drewN | apply below_drew1) | exact HB.out)⟩⟩
    · rw [if_neg c4] at H
      have c4b0 : decide (a1 < 0) = false := decide_eq_false c4
      clear c4
      (first | rw [c4b0] | (simp only [i64_w, i32_w]; rw [c4b0]) | skip)
      have H' := Aside0.mk H
      clear H
      go_wp2
      go_meet
      case rel => exact ⟨_, (decide (a1 > (a0.size : Int))), (by first | rfl | (simp; done) | (simp [*]; done)), H', ⟨by first | omega | exact Nat.le_refl _⟩, ⟨by repeat (first | (with_reducible first | exact HB.out | apply below_alloc | apply pw_below_drewN | apply below_drew1) | exact HB.out)⟩⟩
  case rest =>
    clear HC3
    try clear c1
    try clear p2
    try clear c4
    try clear c4b0
    obtain ⟨kq, x17_2, rfl, HA, HJ2, HB⟩ := hcut
    cases kq with
    | zero => exact absurd HA.out (by simp [orielref03_Cut.j0])
    | succ kj2 =>
      have H := HA.out
      clear HA
      simp only [orielref03_Cut.j0] at H
      by_cases c5 : x17_2 = true
      · subst c5
        have H1 : (some ((⟨#[]⟩ : ByteArray), a1)) = some (r1, r2) := by rw [if_pos rfl] at H; exact H
        clear H
        have H := H1
        clear H1
        simp only [Option.some.injEq, Prod.mk.injEq] at H
        obtain ⟨rfl, rfl⟩ := H
        go_wp2
        go_ret2
        exact ⟨by first | rfl | (simp [errW_none, errW_some] <;> rfl) | (simp [*, errW_none, errW_some] <;> rfl), by repeat (first | (with_reducible first | exact HB.out | apply below_alloc | apply pw_below_drewN | apply below_drew1) | exact HB.out)⟩
      · replace c5 := Bool.eq_false_iff.mpr c5
        subst c5
        have H1 : (if 0 ≤ a1 then (if a1 ≤ (a0.size : Int) then ((convRunes.f (a0.extract (a1 : Int).toNat a0.size)).bind fun t149 => (orielref03_Cut.l0 kj2 a0 a1 t149 0 0)) else (none)) else (none)) = some (r1, r2) := by rw [if_neg (show ¬ (false = true) by decide)] at H; exact H
        clear H
        have H := H1
        clear H1
        by_cases c6 : 0 ≤ a1
        · rw [if_pos c6] at H
          have c6b0 := eq_true c6
          have c6b1 : decide (0 ≤ a1) = true := decide_eq_true c6
          clear c6
          by_cases c7 : a1 ≤ (a0.size : Int)
          · rw [if_pos c7] at H
            have c7b0 := eq_true c7
            have c7b1 : decide (a1 ≤ (a0.size : Int)) = true := decide_eq_true c7
            clear c7
            replace H := Option.bind_eq_some_iff.mp H
            obtain ⟨t149, A80, H⟩ := H
            replace H : (orielref03_Cut.l0 kj2 a0 a1 t149 0 0) = some (r1, r2) := H
            have A8 := Aside0.mk A80
            clear A80
            have H' := Aside0.mk H
            clear H
            go_wp2_with (first | ((with_reducible refine gate_dst (N := 22) rfl ?_); (try (refine gate_guard (by rfl) ?_; dsimp only)); refine goes_conv (N := some 22) (v := .string (a0.extract (a1 : Int).toNat a0.size)) rfl rfl (src := 9) (dst := 34) rfl rfl ?_; (with_reducible refine (convRunes.calls (P := Try.prog) Try.underlying9 Try.underlying34 Try.underlying21 (a0.extract (a1 : Int).toNat a0.size) t149 _ A8.out).mono ?_); rintro e w9 ⟨v150, rfl, ho0, hb⟩; refine ⟨_, rfl, ?_⟩; have n0_ := Aside0.mk (Kd.R_lower ho0 (below_size (by repeat (first | (with_reducible first | exact HB.out | apply below_alloc | apply pw_below_drewN | apply below_drew1) | exact HB.out)))); have n1_ := Aside0.mk (below_step (by repeat (first | (with_reducible first | exact HB.out | apply below_alloc | apply pw_below_drewN | apply below_drew1) | exact HB.out)) hb); clear HB; have HO151 := n0_; have HB := n1_; clear n0_ n1_; (try clear hb); (try clear hb2); (try clear hk); (try clear hi); (try clear ho0)))
            go_loopg [7, 8] kj2 (fun kq v7 v8 w' => ∃ (x7_2 : Int) (x8_2 : Int), v7 = .int .i64 x7_2 ∧ v8 = .int .i64 x8_2 ∧ Aside0 (orielref03_Cut.l0 kq a0 a1 t149 x7_2 x8_2 = some (r1, r2)) ∧ Aside0 (kq ≤ kj2) ∧ Aside0 (Kd.R (Kd.int .i32) 21 w' w.heap.size (fun _ => True) v150 t149) ∧ Aside0 (Below w.heap.size w w'))
            case atStart => exact ⟨(0), (0), (by first | rfl | (simp; done) | (simp [*]; done)), (by first | rfl | (simp; done) | (simp [*]; done)), H', ⟨Nat.le_refl _⟩, ⟨by (with_reducible repeat (first | apply Kd.R_alloc | apply Kd.R_drewN | apply Kd.R_drew)); exact HO151.out⟩, ⟨by repeat (first | (with_reducible first | exact HB.out | apply below_alloc | apply pw_below_drewN | apply below_drew1) | exact HB.out)⟩⟩
            case round =>
              clear H'
              try clear c1
              try clear p2
              try clear c4
              try clear c4b0
              try clear c5
              try clear c6
              try clear c6b0
              try clear c6b1
              try clear c7
              try clear c7b0
              try clear c7b1
              try clear c9
              try clear p2
              obtain ⟨x7_2, x8_2, rfl, rfl, HA, HK2, HO_6, HB⟩ := hrel
              cases gk with
              | zero => exact absurd HA.out (by simp [orielref03_Cut.l0])
              | succ k2 =>
                have H := HA.out
                clear HA
                simp only [orielref03_Cut.l0] at H
                by_cases c10 : x8_2 < (t149.length : Int)
                · rw [if_pos c10] at H
                  have c10b0 : decide (x8_2 < (t149.length : Int)) = true := decide_eq_true c10
                  clear c10
                  have HC11 := Aside0.mk H
                  clear H
                  obtain ⟨Ao12, co12, eo12⟩ := Kd.R_slice HO_6.out
                  subst eo12
                  go_upto_region 8 with (fail)
                  go_cut [42] (fun v42 wc => ∃ (kq : Nat) (x42_10 : Bool), v42 = .bool x42_10 ∧ Aside0 (orielref03_Cut.j2 kq a0 a1 t149 x7_2 x8_2 x42_10 = some (r1, r2)) ∧ Aside0 (kq ≤ k2) ∧ Aside0 (Kd.R (Kd.int .i32) 21 wc w.heap.size (fun _ => True) (.slice Ao12 t149.length co12) t149) ∧ Aside0 (Below w.heap.size w wc))
                  case first =>
                    have H := HC11.out
                    clear HC11
                    by_cases c13 : 0 ≤ x8_2
                    · rw [if_pos c13] at H
                      have c13b0 : decide (0 ≤ x8_2) = true := decide_eq_true c13
                      clear c13
                      (first | rw [c13b0] | (simp only [i64_w, i32_w]; rw [c13b0]) | skip)
                      by_cases c14 : (rd t149 x8_2) = 58
                      · rw [if_pos c14] at H
                        have c14b0 : ((rd t149 x8_2) == 58) = true := beq_iff_eq.mpr c14
                        have c14b1 : ((rd t149 x8_2) != 58) = false := bne_eq_false_iff_eq.mpr c14
                        clear c14
                        have H' := Aside0.mk H
                        clear H
                        have p152 : 0 ≤ (x8_2 : Int) := of_decide_eq_true (by first | (with_reducible assumption) | assumption)
                        have q152 : x8_2 < (t149.length : Int) := of_decide_eq_true (by first | (with_reducible assumption) | assumption)
                        obtain ⟨ad152, e152, hx152_0⟩ := Kd.at_int (Kd.R_reads' HO_6.out).2.2 x8_2 p152 q152
                        cases e152
                        replace p152 := eq_true p152
                        replace q152 := eq_true q152
                        go_wp2
                        go_meet
                        case rel => exact ⟨_, (false), (by first | rfl | (simp; done) | (simp [*]; done)), H', ⟨by have := HJ2.out; have := HK2.out; first | omega | exact Nat.le_refl _⟩, ⟨by (with_reducible repeat (first | apply Kd.R_alloc | apply Kd.R_drewN | apply Kd.R_drew)); exact HO_6.out⟩, ⟨by repeat (first | (with_reducible first | exact HB.out | apply below_alloc | apply pw_below_drewN | apply below_drew1) | exact HB.out)⟩⟩
                      · rw [if_neg c14] at H
                        have c14b0 : ((rd t149 x8_2) == 58) = false := beq_eq_false_iff_ne.mpr c14
                        have c14b1 : ((rd t149 x8_2) != 58) = true := bne_iff_ne.mpr c14
                        replace H := Option.bind_eq_some_iff.mp H
                        obtain ⟨t154, A150, H⟩ := H
                        replace H : (orielref03_Cut.j2 k2 a0 a1 t149 x7_2 x8_2 (!t154)) = some (r1, r2) := H
                        have A15 := Aside0.mk A150
                        clear A150
                        have H' := Aside0.mk H
                        clear H
                        have p152 : 0 ≤ (x8_2 : Int) := of_decide_eq_true (by first | (with_reducible assumption) | assumption)
                        have q152 : x8_2 < (t149.length : Int) := of_decide_eq_true (by first | (with_reducible assumption) | assumption)
                        obtain ⟨ad152, e152, hx152_0⟩ := Kd.at_int (Kd.R_reads' HO_6.out).2.2 x8_2 p152 q152
                        cases e152
                        replace p152 := eq_true p152
                        replace q152 := eq_true q152
                        have p153 : 0 ≤ (x8_2 : Int) := of_decide_eq_true (by first | (with_reducible assumption) | assumption)
                        have q153 : x8_2 < (t149.length : Int) := of_decide_eq_true (by first | (with_reducible assumption) | assumption)
                        obtain ⟨ad153, e153, hx153_0⟩ := Kd.at_int (Kd.R_reads' HO_6.out).2.2 x8_2 p153 q153
                        obtain rfl : ad152 = ad153 := (by injection e153)
                        replace p153 := eq_true p153
                        replace q153 := eq_true q153
                        go_wp2_with (first | (go_at_call 19; (with_reducible refine (orielref02_Part.calls k2 (wrap64 (rd t149 x8_2)) t154 _ A15.out).mono ?_); rintro e w' ⟨rfl, ⟨nd, rfl⟩⟩))
                        go_meet
                        case rel => exact ⟨_, (!t154), (by first | rfl | (simp; done) | (simp [*]; done)), H', ⟨by have := HJ2.out; have := HK2.out; first | omega | exact Nat.le_refl _⟩, ⟨by (with_reducible repeat (first | apply Kd.R_alloc | apply Kd.R_drewN | apply Kd.R_drew)); exact HO_6.out⟩, ⟨by repeat (first | (with_reducible first | exact HB.out | apply below_alloc | apply pw_below_drewN | apply below_drew1) | exact HB.out)⟩⟩
                    · rw [if_neg c13] at H
                      exact absurd H (by simp)
                  case rest =>
                    clear HC11
                    try clear c1
                    try clear p1
                    try clear q1
                    try clear hx1
                    try clear p2
                    try clear c4
                    try clear c4b0
                    try clear c5
                    try clear c6
                    try clear c6b0
                    try clear c6b1
                    try clear p6
                    try clear c7
                    try clear c7b0
                    try clear c7b1
                    try clear c9
                    try clear c10
                    try clear c10b0
                    try clear c13
                    try clear c13b0
                    try clear c14
                    try clear c14b0
                    try clear c14b1
                    try clear p15
                    try clear q15
                    try clear hx15
                    try clear hx152_0
                    try clear hx153_0
                    try clear p152
                    try clear p153
                    try clear p2
                    try clear q152
                    try clear q153
                    obtain ⟨kq, x42_10, rfl, HA, HJ10, HO_6, HB⟩ := hcut
                    cases kq with
                    | zero => exact absurd HA.out (by simp [orielref03_Cut.j2])
                    | succ kj10 =>
                      have H := HA.out
                      clear HA
                      simp only [orielref03_Cut.j2] at H
                      by_cases c16 : x42_10 = true
                      · subst c16
                        have H1 : (if 0 ≤ a1 then (if a1 ≤ (wrap64 (a1 + x7_2)) then (if (wrap64 (a1 + x7_2)) ≤ (a0.size : Int) then (some (a0.extract (a1 : Int).toNat ((wrap64 (a1 + x7_2)) : Int).toNat, wrap64 (a1 + x7_2))) else (none)) else (none)) else (none)) = some (r1, r2) := by rw [if_pos rfl] at H; exact H
                        clear H
                        have H := H1
                        clear H1
                        by_cases c17 : 0 ≤ a1
                        · rw [if_pos c17] at H
                          have c17b0 := eq_true c17
                          have c17b1 : decide (0 ≤ a1) = true := decide_eq_true c17
                          clear c17
                          by_cases c18 : a1 ≤ (wrap64 (a1 + x7_2))
                          · rw [if_pos c18] at H
                            have c18b0 := eq_true c18
                            have c18b1 : decide (a1 ≤ (wrap64 (a1 + x7_2))) = true := decide_eq_true c18
                            by_cases c19 : (wrap64 (a1 + x7_2)) ≤ (a0.size : Int)
                            · rw [if_pos c19] at H
                              have c19b0 := eq_true c19
                              have c19b1 : decide ((wrap64 (a1 + x7_2)) ≤ (a0.size : Int)) = true := decide_eq_true c19
                              simp only [Option.some.injEq, Prod.mk.injEq] at H
                              obtain ⟨rfl, rfl⟩ := H
                              go_wp2
                              go_ret2
                              exact ⟨by first | rfl | (simp [errW_none, errW_some] <;> rfl) | (simp [*, errW_none, errW_some] <;> rfl), by repeat (first | (with_reducible first | exact HB.out | apply below_alloc | apply pw_below_drewN | apply below_drew1) | exact HB.out)⟩
                            · rw [if_neg c19] at H
                              exact absurd H (by simp)
                          · rw [if_neg c18] at H
                            exact absurd H (by simp)
                        · rw [if_neg c17] at H
                          exact absurd H (by simp)
                      · replace c16 := Bool.eq_false_iff.mpr c16
                        subst c16
                        have H1 : (if 0 ≤ x8_2 then (if x8_2 ≤ (wrap64 (x8_2 + 1)) then (if (wrap64 (x8_2 + 1)) ≤ (t149.length : Int) then ((some ((t149.take ((wrap64 (x8_2 + 1)) : Int).toNat).drop (x8_2 : Int).toNat : List Int)).bind fun y155 => (if x8_2 < (t149.length : Int) then (if (rd t149 x8_2) = 65533 then (if (wrap64 ((wrap64 (a1 + x7_2)) + 3)) > (a0.size : Int) then (orielref03_Cut.l0 kj10 a0 a1 t149 (wrap64 (x7_2 + 1)) (wrap64 (x8_2 + 1))) else (if 0 ≤ (wrap64 (a1 + x7_2)) then (if (wrap64 (a1 + x7_2)) ≤ (wrap64 ((wrap64 (a1 + x7_2)) + 3)) then (if (wrap64 ((wrap64 (a1 + x7_2)) + 3)) ≤ (a0.size : Int) then (if (a0.extract ((wrap64 (a1 + x7_2)) : Int).toNat ((wrap64 ((wrap64 (a1 + x7_2)) + 3)) : Int).toNat).toList = ([239, 191, 189] : List UInt8) then (orielref03_Cut.l0 kj10 a0 a1 t149 (wrap64 (x7_2 + ((strOfRunes y155).size : Int))) (wrap64 (x8_2 + 1))) else (orielref03_Cut.l0 kj10 a0 a1 t149 (wrap64 (x7_2 + 1)) (wrap64 (x8_2 + 1)))) else (none)) else (none)) else (none))) else (orielref03_Cut.l0 kj10 a0 a1 t149 (wrap64 (x7_2 + ((strOfRunes y155).size : Int))) (wrap64 (x8_2 + 1)))) else (none))) else (none)) else (none)) else (none)) = some (r1, r2) := by rw [if_neg (show ¬ (false = true) by decide)] at H; exact H
                        clear H
                        have H := H1
                        clear H1
                        by_cases c20 : 0 ≤ x8_2
                        · rw [if_pos c20] at H
                          have c20b0 := eq_true c20
                          have c20b1 : decide (0 ≤ x8_2) = true := decide_eq_true c20
                          clear c20
                          by_cases c21 : x8_2 ≤ (wrap64 (x8_2 + 1))
                          · rw [if_pos c21] at H
                            have c21b0 := eq_true c21
                            have c21b1 : decide (x8_2 ≤ (wrap64 (x8_2 + 1))) = true := decide_eq_true c21
                            by_cases c22 : (wrap64 (x8_2 + 1)) ≤ (t149.length : Int)
                            · rw [if_pos c22] at H
                              have c22b0 := eq_true c22
                              have c22b1 : decide ((wrap64 (x8_2 + 1)) ≤ (t149.length : Int)) = true := decide_eq_true c22
                              obtain ⟨y155, hy155⟩ : ∃ y_ : List Int, y_ = ((t149.take ((wrap64 (x8_2 + 1)) : Int).toNat).drop (x8_2 : Int).toNat) := ⟨_, rfl⟩
                              replace H : (if x8_2 < (t149.length : Int) then (if (rd t149 x8_2) = 65533 then (if (wrap64 ((wrap64 (a1 + x7_2)) + 3)) > (a0.size : Int) then (orielref03_Cut.l0 kj10 a0 a1 t149 (wrap64 (x7_2 + 1)) (wrap64 (x8_2 + 1))) else (if 0 ≤ (wrap64 (a1 + x7_2)) then (if (wrap64 (a1 + x7_2)) ≤ (wrap64 ((wrap64 (a1 + x7_2)) + 3)) then (if (wrap64 ((wrap64 (a1 + x7_2)) + 3)) ≤ (a0.size : Int) then (if (a0.extract ((wrap64 (a1 + x7_2)) : Int).toNat ((wrap64 ((wrap64 (a1 + x7_2)) + 3)) : Int).toNat).toList = ([239, 191, 189] : List UInt8) then (orielref03_Cut.l0 kj10 a0 a1 t149 (wrap64 (x7_2 + ((strOfRunes y155).size : Int))) (wrap64 (x8_2 + 1))) else (orielref03_Cut.l0 kj10 a0 a1 t149 (wrap64 (x7_2 + 1)) (wrap64 (x8_2 + 1)))) else (none)) else (none)) else (none))) else (orielref03_Cut.l0 kj10 a0 a1 t149 (wrap64 (x7_2 + ((strOfRunes y155).size : Int))) (wrap64 (x8_2 + 1)))) else (none)) = some (r1, r2) := by first | (rw [hy155]; with_reducible exact H) | (have H2_ := (Option.bind_some _ _).symm.trans H; rw [hy155]; with_reducible exact H2_) | (have H2_ := (Option.bind_some _ _).symm.trans H; with_reducible exact H2_) | with_reducible exact H | (rw [hy155]; exact H) | exact H
                              have Ny155 := Aside0.mk hy155
                              clear hy155
                              by_cases c23 : x8_2 < (t149.length : Int)
                              · rw [if_pos c23] at H
                                have c23b0 : decide (x8_2 < (t149.length : Int)) = true := decide_eq_true c23
                                clear c23
                                by_cases c24 : (rd t149 x8_2) = 65533
                                · rw [if_pos c24] at H
                                  have c24b0 : ((rd t149 x8_2) == 65533) = true := beq_iff_eq.mpr c24
                                  have c24b1 : ((rd t149 x8_2) != 65533) = false := bne_eq_false_iff_eq.mpr c24
                                  clear c24
                                  by_cases c25 : (wrap64 ((wrap64 (a1 + x7_2)) + 3)) > (a0.size : Int)
                                  · rw [if_pos c25] at H
                                    have c25b0 : decide ((a0.size : Int) < (wrap64 ((wrap64 (a1 + x7_2)) + 3))) = true := decide_eq_true c25
                                    clear c25
                                    have H' := Aside0.mk H
                                    clear H
                                    have q26 : ((wrap64 (x8_2 + 1)) : Int) ≤ ((t149.length : Int) : Int) := of_decide_eq_true (by first | (with_reducible assumption) | assumption)
                                    obtain ⟨i026, hi026, _, hsz26, _⟩ := info_parts info21
                                    have hroom26 : t149.length ≤ co12 := (Kd.R_reads' HO_6.out).2.1
                                    have hC26 : Kd.C (Kd.int .i32) _ Ao12 t149.length t149 := (Kd.R_reads' HO_6.out).2.2
                                    have ql26 : (x8_2 : Int) ≤ ((wrap64 (x8_2 + 1)) : Int) := of_decide_eq_true (by first | (with_reducible assumption) | assumption)
                                    have q026 : (0 : Int) ≤ (x8_2 : Int) := of_decide_eq_true (by first | (with_reducible assumption) | assumption)
                                    have hcut26 := cut_mid (P := Try.prog) 34 21 .i64 .i64 Try.underlying34 hi026 1 hsz26 Ao12 t149.length co12 x8_2 (wrap64 (x8_2 + 1)) q026 ql26 q26 hroom26
                                    have hr26 := Kd.C_mid (lo := (x8_2 : Int).toNat) (hi := ((wrap64 (x8_2 + 1)) : Int).toNat) (c := co12) hC26 (by omega) (by omega) hroom26
                                    obtain ⟨A26, hA26⟩ : ∃ A1, A1 = (if co12 = (x8_2 : Int).toNat then Ao12 else (Ao12 : Option Addr).map (·.add ((x8_2 : Int).toNat * 1))) := ⟨_, rfl⟩
                                    obtain ⟨c26, hc26⟩ : ∃ c1, c1 = co12 - (x8_2 : Int).toNat := ⟨_, rfl⟩
                                    have hy26 : y155.length = ((wrap64 (x8_2 + 1)) : Int).toNat - (x8_2 : Int).toNat := (by rw [Ny155.out, List.length_drop, List.length_take] <;> omega)
                                    rw [show ((t149).take ((wrap64 (x8_2 + 1)) : Int).toNat).drop (x8_2 : Int).toNat = y155 from Ny155.out.symm] at hr26
                                    replace hr26 : Kd.C (Kd.int .i32) _ A26 y155.length y155 := (by rw [hA26]; exact hr26)
                                    rw [← hy26, ← hA26, ← hc26] at hcut26
                                    have HR158 := Aside0.mk hr26
                                    have HC158 := Aside0.mk (show y155.length ≤ c26 from by rw [hy26, hc26]; exact Nat.sub_le_sub_right (Nat.le_trans (by omega) hroom26) _)
                                    clear hr26 hC26 hroom26 hi026 hsz26 hc26
                                    have KY26 := Aside0.mk hy26
                                    have KA26 := Aside0.mk hA26
                                    clear hy26 hA26
                                    have KL26 := Aside0.mk (show ((wrap64 (x8_2 + 1)) : Int).toNat ≤ t149.length from by omega)
                                    have KM26 := Aside0.mk (show (x8_2 : Int).toNat ≤ ((wrap64 (x8_2 + 1)) : Int).toNat from by omega)
                                    replace q26 := eq_true q26
                                    have hcv27 := runes_of_C (P := Try.prog) (A := A26) (c := c26) Try.underlying34 Try.underlying21 Try.underlying9 (by repeat (first | (with_reducible exact HR158.out) | (with_reducible refine Kd.C_alloc ?_ _) | (with_reducible refine Kd.C_drewN ?_ _) | (with_reducible refine Kd.C_drew ?_) | exact HR158.out))
                                    have p159 : 0 ≤ (x8_2 : Int) := of_decide_eq_true (by first | (with_reducible assumption) | assumption)
                                    have q159 : x8_2 < (t149.length : Int) := of_decide_eq_true (by first | (with_reducible assumption) | assumption)
                                    obtain ⟨ad159, e159, hx159_0⟩ := Kd.at_int (Kd.R_reads' HO_6.out).2.2 x8_2 p159 q159
                                    cases e159
                                    replace p159 := eq_true p159
                                    replace q159 := eq_true q159
                                    go_wp2
                                    go_roundg kj10
                                    case measure => have := HJ2.out; have := HK2.out; have := HJ10.out; omega
                                    case rel => exact ⟨(wrap64 (x7_2 + 1)), (wrap64 (x8_2 + 1)), (by first | rfl | (simp; done) | (simp [*]; done)), (by first | rfl | (simp; done) | (simp [*]; done)), H', ⟨by have := HJ2.out; have := HK2.out; have := HJ10.out; omega⟩, ⟨by (with_reducible repeat (first | apply Kd.R_alloc | apply Kd.R_drewN | apply Kd.R_drew)); exact HO_6.out⟩, ⟨by repeat (first | (with_reducible first | exact HB.out | apply below_alloc | apply pw_below_drewN | apply below_drew1) | exact HB.out)⟩⟩
                                  · rw [if_neg c25] at H
                                    have c25b0 : decide ((a0.size : Int) < (wrap64 ((wrap64 (a1 + x7_2)) + 3))) = false := decide_eq_false c25
                                    clear c25
                                    obtain ⟨ji28, hji28⟩ : ∃ j_ : Int, (wrap64 (a1 + x7_2)) = j_ := ⟨_, rfl⟩
                                    replace H : (if 0 ≤ (ji28) then (if (ji28) ≤ (wrap64 ((ji28) + 3)) then (if (wrap64 ((ji28) + 3)) ≤ (a0.size : Int) then (if (a0.extract ((ji28) : Int).toNat ((wrap64 ((ji28) + 3)) : Int).toNat).toList = ([239, 191, 189] : List UInt8) then (orielref03_Cut.l0 kj10 a0 a1 t149 (wrap64 (x7_2 + ((strOfRunes y155).size : Int))) (wrap64 (x8_2 + 1))) else (orielref03_Cut.l0 kj10 a0 a1 t149 (wrap64 (x7_2 + 1)) (wrap64 (x8_2 + 1)))) else (none)) else (none)) else (none)) = some (r1, r2) := by first | (rw [hji28] at H; exact H) | (simp only [hji28] at H ⊢; exact H)
                                    (try rw [hji28] at c25b0)
                                    have hji28w : (IntKind.i64.wrap (a1 + x7_2)) = ji28 := (i64_w _).trans hji28
                                    by_cases c29 : 0 ≤ (ji28)
                                    · rw [if_pos c29] at H
                                      have c29b0 := eq_true c29
                                      have c29b1 : decide (0 ≤ (ji28)) = true := decide_eq_true c29
                                      clear c29
                                      by_cases c30 : (ji28) ≤ (wrap64 ((ji28) + 3))
                                      · rw [if_pos c30] at H
                                        have c30b0 := eq_true c30
                                        have c30b1 : decide ((ji28) ≤ (wrap64 ((ji28) + 3))) = true := decide_eq_true c30
                                        by_cases c31 : (wrap64 ((ji28) + 3)) ≤ (a0.size : Int)
                                        · rw [if_pos c31] at H
                                          have c31b0 := eq_true c31
                                          have c31b1 : decide ((wrap64 ((ji28) + 3)) ≤ (a0.size : Int)) = true := decide_eq_true c31
                                          by_cases c32 : (a0.extract ((ji28) : Int).toNat ((wrap64 ((ji28) + 3)) : Int).toNat).toList = ([239, 191, 189] : List UInt8)
                                          · rw [if_pos c32] at H
                                            have c32b0 : ((a0.extract ((ji28) : Int).toNat ((wrap64 ((ji28) + 3)) : Int).toNat).toList == ([239, 191, 189] : List UInt8)) = true := beq_iff_eq.mpr c32
                                            have c32b1 : ((a0.extract ((ji28) : Int).toNat ((wrap64 ((ji28) + 3)) : Int).toNat).toList != ([239, 191, 189] : List UInt8)) = false := bne_eq_false_iff_eq.mpr c32
                                            clear c32
                                            have H' := Aside0.mk H
                                            clear H
                                            have q33 : ((wrap64 (x8_2 + 1)) : Int) ≤ ((t149.length : Int) : Int) := of_decide_eq_true (by first | (with_reducible assumption) | assumption)
                                            obtain ⟨i033, hi033, _, hsz33, _⟩ := info_parts info21
                                            have hroom33 : t149.length ≤ co12 := (Kd.R_reads' HO_6.out).2.1
                                            have hC33 : Kd.C (Kd.int .i32) _ Ao12 t149.length t149 := (Kd.R_reads' HO_6.out).2.2
                                            have ql33 : (x8_2 : Int) ≤ ((wrap64 (x8_2 + 1)) : Int) := of_decide_eq_true (by first | (with_reducible assumption) | assumption)
                                            have q033 : (0 : Int) ≤ (x8_2 : Int) := of_decide_eq_true (by first | (with_reducible assumption) | assumption)
                                            have hcut33 := cut_mid (P := Try.prog) 34 21 .i64 .i64 Try.underlying34 hi033 1 hsz33 Ao12 t149.length co12 x8_2 (wrap64 (x8_2 + 1)) q033 ql33 q33 hroom33
                                            have hr33 := Kd.C_mid (lo := (x8_2 : Int).toNat) (hi := ((wrap64 (x8_2 + 1)) : Int).toNat) (c := co12) hC33 (by omega) (by omega) hroom33
                                            obtain ⟨A33, hA33⟩ : ∃ A1, A1 = (if co12 = (x8_2 : Int).toNat then Ao12 else (Ao12 : Option Addr).map (·.add ((x8_2 : Int).toNat * 1))) := ⟨_, rfl⟩
                                            obtain ⟨c33, hc33⟩ : ∃ c1, c1 = co12 - (x8_2 : Int).toNat := ⟨_, rfl⟩
                                            have hy33 : y155.length = ((wrap64 (x8_2 + 1)) : Int).toNat - (x8_2 : Int).toNat := (by rw [Ny155.out, List.length_drop, List.length_take] <;> omega)
                                            rw [show ((t149).take ((wrap64 (x8_2 + 1)) : Int).toNat).drop (x8_2 : Int).toNat = y155 from Ny155.out.symm] at hr33
                                            replace hr33 : Kd.C (Kd.int .i32) _ A33 y155.length y155 := (by rw [hA33]; exact hr33)
                                            rw [← hy33, ← hA33, ← hc33] at hcut33
                                            have HR158 := Aside0.mk hr33
                                            have HC158 := Aside0.mk (show y155.length ≤ c33 from by rw [hy33, hc33]; exact Nat.sub_le_sub_right (Nat.le_trans (by omega) hroom33) _)
                                            clear hr33 hC33 hroom33 hi033 hsz33 hc33
                                            have KY33 := Aside0.mk hy33
                                            have KA33 := Aside0.mk hA33
                                            clear hy33 hA33
                                            have KL33 := Aside0.mk (show ((wrap64 (x8_2 + 1)) : Int).toNat ≤ t149.length from by omega)
                                            have KM33 := Aside0.mk (show (x8_2 : Int).toNat ≤ ((wrap64 (x8_2 + 1)) : Int).toNat from by omega)
                                            replace q33 := eq_true q33
                                            have hcv34 := runes_of_C (P := Try.prog) (A := A33) (c := c33) Try.underlying34 Try.underlying21 Try.underlying9 (by repeat (first | (with_reducible exact HR158.out) | (with_reducible refine Kd.C_alloc ?_ _) | (with_reducible refine Kd.C_drewN ?_ _) | (with_reducible refine Kd.C_drew ?_) | exact HR158.out))
                                            have p159 : 0 ≤ (x8_2 : Int) := of_decide_eq_true (by first | (with_reducible assumption) | assumption)
                                            have q159 : x8_2 < (t149.length : Int) := of_decide_eq_true (by first | (with_reducible assumption) | assumption)
                                            obtain ⟨ad159, e159, hx159_0⟩ := Kd.at_int (Kd.R_reads' HO_6.out).2.2 x8_2 p159 q159
                                            cases e159
                                            replace p159 := eq_true p159
                                            replace q159 := eq_true q159
                                            go_wp2
                                            go_roundg kj10
                                            case measure => have := HJ2.out; have := HK2.out; have := HJ10.out; omega
                                            case rel => exact ⟨(wrap64 (x7_2 + ((strOfRunes y155).size : Int))), (wrap64 (x8_2 + 1)), (by first | rfl | (simp; done) | (simp [*]; done)), (by first | rfl | (simp; done) | (simp [*]; done)), H', ⟨by have := HJ2.out; have := HK2.out; have := HJ10.out; omega⟩, ⟨by (with_reducible repeat (first | apply Kd.R_alloc | apply Kd.R_drewN | apply Kd.R_drew)); exact HO_6.out⟩, ⟨by repeat (first | (with_reducible first | exact HB.out | apply below_alloc | apply pw_below_drewN | apply below_drew1) | exact HB.out)⟩⟩
                                          · rw [if_neg c32] at H
                                            have c32b0 : ((a0.extract ((ji28) : Int).toNat ((wrap64 ((ji28) + 3)) : Int).toNat).toList == ([239, 191, 189] : List UInt8)) = false := beq_eq_false_iff_ne.mpr c32
                                            have c32b1 : ((a0.extract ((ji28) : Int).toNat ((wrap64 ((ji28) + 3)) : Int).toNat).toList != ([239, 191, 189] : List UInt8)) = true := bne_iff_ne.mpr c32
                                            have H' := Aside0.mk H
                                            clear H
                                            have q35 : ((wrap64 (x8_2 + 1)) : Int) ≤ ((t149.length : Int) : Int) := of_decide_eq_true (by first | (with_reducible assumption) | assumption)
                                            obtain ⟨i035, hi035, _, hsz35, _⟩ := info_parts info21
                                            have hroom35 : t149.length ≤ co12 := (Kd.R_reads' HO_6.out).2.1
                                            have hC35 : Kd.C (Kd.int .i32) _ Ao12 t149.length t149 := (Kd.R_reads' HO_6.out).2.2
                                            have ql35 : (x8_2 : Int) ≤ ((wrap64 (x8_2 + 1)) : Int) := of_decide_eq_true (by first | (with_reducible assumption) | assumption)
                                            have q035 : (0 : Int) ≤ (x8_2 : Int) := of_decide_eq_true (by first | (with_reducible assumption) | assumption)
                                            have hcut35 := cut_mid (P := Try.prog) 34 21 .i64 .i64 Try.underlying34 hi035 1 hsz35 Ao12 t149.length co12 x8_2 (wrap64 (x8_2 + 1)) q035 ql35 q35 hroom35
                                            have hr35 := Kd.C_mid (lo := (x8_2 : Int).toNat) (hi := ((wrap64 (x8_2 + 1)) : Int).toNat) (c := co12) hC35 (by omega) (by omega) hroom35
                                            obtain ⟨A35, hA35⟩ : ∃ A1, A1 = (if co12 = (x8_2 : Int).toNat then Ao12 else (Ao12 : Option Addr).map (·.add ((x8_2 : Int).toNat * 1))) := ⟨_, rfl⟩
                                            obtain ⟨c35, hc35⟩ : ∃ c1, c1 = co12 - (x8_2 : Int).toNat := ⟨_, rfl⟩
                                            have hy35 : y155.length = ((wrap64 (x8_2 + 1)) : Int).toNat - (x8_2 : Int).toNat := (by rw [Ny155.out, List.length_drop, List.length_take] <;> omega)
                                            rw [show ((t149).take ((wrap64 (x8_2 + 1)) : Int).toNat).drop (x8_2 : Int).toNat = y155 from Ny155.out.symm] at hr35
                                            replace hr35 : Kd.C (Kd.int .i32) _ A35 y155.length y155 := (by rw [hA35]; exact hr35)
                                            rw [← hy35, ← hA35, ← hc35] at hcut35
                                            have HR158 := Aside0.mk hr35
                                            have HC158 := Aside0.mk (show y155.length ≤ c35 from by rw [hy35, hc35]; exact Nat.sub_le_sub_right (Nat.le_trans (by omega) hroom35) _)
                                            clear hr35 hC35 hroom35 hi035 hsz35 hc35
                                            have KY35 := Aside0.mk hy35
                                            have KA35 := Aside0.mk hA35
                                            clear hy35 hA35
                                            have KL35 := Aside0.mk (show ((wrap64 (x8_2 + 1)) : Int).toNat ≤ t149.length from by omega)
                                            have KM35 := Aside0.mk (show (x8_2 : Int).toNat ≤ ((wrap64 (x8_2 + 1)) : Int).toNat from by omega)
                                            replace q35 := eq_true q35
                                            have hcv36 := runes_of_C (P := Try.prog) (A := A35) (c := c35) Try.underlying34 Try.underlying21 Try.underlying9 (by repeat (first | (with_reducible exact HR158.out) | (with_reducible refine Kd.C_alloc ?_ _) | (with_reducible refine Kd.C_drewN ?_ _) | (with_reducible refine Kd.C_drew ?_) | exact HR158.out))
                                            have p159 : 0 ≤ (x8_2 : Int) := of_decide_eq_true (by first | (with_reducible assumption) | assumption)
                                            have q159 : x8_2 < (t149.length : Int) := of_decide_eq_true (by first | (with_reducible assumption) | assumption)
                                            obtain ⟨ad159, e159, hx159_0⟩ := Kd.at_int (Kd.R_reads' HO_6.out).2.2 x8_2 p159 q159
                                            cases e159
                                            replace p159 := eq_true p159
                                            replace q159 := eq_true q159
                                            go_wp2
                                            go_roundg kj10
                                            case measure => have := HJ2.out; have := HK2.out; have := HJ10.out; omega
                                            case rel => exact ⟨(wrap64 (x7_2 + 1)), (wrap64 (x8_2 + 1)), (by first | rfl | (simp; done) | (simp [*]; done)), (by first | rfl | (simp; done) | (simp [*]; done)), H', ⟨by have := HJ2.out; have := HK2.out; have := HJ10.out; omega⟩, ⟨by (with_reducible repeat (first | apply Kd.R_alloc | apply Kd.R_drewN | apply Kd.R_drew)); exact HO_6.out⟩, ⟨by repeat (first | (with_reducible first | exact HB.out | apply below_alloc | apply pw_below_drewN | apply below_drew1) | exact HB.out)⟩⟩
                                        · rw [if_neg c31] at H
                                          exact absurd H (by simp)
                                      · rw [if_neg c30] at H
                                        exact absurd H (by simp)
                                    · rw [if_neg c29] at H
                                      exact absurd H (by simp)
                                · rw [if_neg c24] at H
                                  have c24b0 : ((rd t149 x8_2) == 65533) = false := beq_eq_false_iff_ne.mpr c24
                                  have c24b1 : ((rd t149 x8_2) != 65533) = true := bne_iff_ne.mpr c24
                                  have H' := Aside0.mk H
                                  clear H
                                  have q37 : ((wrap64 (x8_2 + 1)) : Int) ≤ ((t149.length : Int) : Int) := of_decide_eq_true (by first | (with_reducible assumption) | assumption)
                                  obtain ⟨i037, hi037, _, hsz37, _⟩ := info_parts info21
                                  have hroom37 : t149.length ≤ co12 := (Kd.R_reads' HO_6.out).2.1
                                  have hC37 : Kd.C (Kd.int .i32) _ Ao12 t149.length t149 := (Kd.R_reads' HO_6.out).2.2
                                  have ql37 : (x8_2 : Int) ≤ ((wrap64 (x8_2 + 1)) : Int) := of_decide_eq_true (by first | (with_reducible assumption) | assumption)
                                  have q037 : (0 : Int) ≤ (x8_2 : Int) := of_decide_eq_true (by first | (with_reducible assumption) | assumption)
                                  have hcut37 := cut_mid (P := Try.prog) 34 21 .i64 .i64 Try.underlying34 hi037 1 hsz37 Ao12 t149.length co12 x8_2 (wrap64 (x8_2 + 1)) q037 ql37 q37 hroom37
                                  have hr37 := Kd.C_mid (lo := (x8_2 : Int).toNat) (hi := ((wrap64 (x8_2 + 1)) : Int).toNat) (c := co12) hC37 (by omega) (by omega) hroom37
                                  obtain ⟨A37, hA37⟩ : ∃ A1, A1 = (if co12 = (x8_2 : Int).toNat then Ao12 else (Ao12 : Option Addr).map (·.add ((x8_2 : Int).toNat * 1))) := ⟨_, rfl⟩
                                  obtain ⟨c37, hc37⟩ : ∃ c1, c1 = co12 - (x8_2 : Int).toNat := ⟨_, rfl⟩
                                  have hy37 : y155.length = ((wrap64 (x8_2 + 1)) : Int).toNat - (x8_2 : Int).toNat := (by rw [Ny155.out, List.length_drop, List.length_take] <;> omega)
                                  rw [show ((t149).take ((wrap64 (x8_2 + 1)) : Int).toNat).drop (x8_2 : Int).toNat = y155 from Ny155.out.symm] at hr37
                                  replace hr37 : Kd.C (Kd.int .i32) _ A37 y155.length y155 := (by rw [hA37]; exact hr37)
                                  rw [← hy37, ← hA37, ← hc37] at hcut37
                                  have HR158 := Aside0.mk hr37
                                  have HC158 := Aside0.mk (show y155.length ≤ c37 from by rw [hy37, hc37]; exact Nat.sub_le_sub_right (Nat.le_trans (by omega) hroom37) _)
                                  clear hr37 hC37 hroom37 hi037 hsz37 hc37
                                  have KY37 := Aside0.mk hy37
                                  have KA37 := Aside0.mk hA37
                                  clear hy37 hA37
                                  have KL37 := Aside0.mk (show ((wrap64 (x8_2 + 1)) : Int).toNat ≤ t149.length from by omega)
                                  have KM37 := Aside0.mk (show (x8_2 : Int).toNat ≤ ((wrap64 (x8_2 + 1)) : Int).toNat from by omega)
                                  replace q37 := eq_true q37
                                  have hcv38 := runes_of_C (P := Try.prog) (A := A37) (c := c37) Try.underlying34 Try.underlying21 Try.underlying9 (by repeat (first | (with_reducible exact HR158.out) | (with_reducible refine Kd.C_alloc ?_ _) | (with_reducible refine Kd.C_drewN ?_ _) | (with_reducible refine Kd.C_drew ?_) | exact HR158.out))
                                  have p159 : 0 ≤ (x8_2 : Int) := of_decide_eq_true (by first | (with_reducible assumption) | assumption)
                                  have q159 : x8_2 < (t149.length : Int) := of_decide_eq_true (by first | (with_reducible assumption) | assumption)
                                  obtain ⟨ad159, e159, hx159_0⟩ := Kd.at_int (Kd.R_reads' HO_6.out).2.2 x8_2 p159 q159
                                  cases e159
                                  replace p159 := eq_true p159
                                  replace q159 := eq_true q159
                                  go_wp2
                                  go_roundg kj10
                                  case measure => have := HJ2.out; have := HK2.out; have := HJ10.out; omega
                                  case rel => exact ⟨(wrap64 (x7_2 + ((strOfRunes y155).size : Int))), (wrap64 (x8_2 + 1)), (by first | rfl | (simp; done) | (simp [*]; done)), (by first | rfl | (simp; done) | (simp [*]; done)), H', ⟨by have := HJ2.out; have := HK2.out; have := HJ10.out; omega⟩, ⟨by (with_reducible repeat (first | apply Kd.R_alloc | apply Kd.R_drewN | apply Kd.R_drew)); exact HO_6.out⟩, ⟨by repeat (first | (with_reducible first | exact HB.out | apply below_alloc | apply pw_below_drewN | apply below_drew1) | exact HB.out)⟩⟩
                              · rw [if_neg c23] at H
                                exact absurd H (by simp)
                            · rw [if_neg c22] at H
                              exact absurd H (by simp)
                          · rw [if_neg c21] at H
                            exact absurd H (by simp)
                        · rw [if_neg c20] at H
                          exact absurd H (by simp)
                · rw [if_neg c10] at H
                  have c10b0 : decide (x8_2 < (t149.length : Int)) = false := decide_eq_false c10
                  clear c10
                  by_cases c39 : 0 ≤ a1
                  · rw [if_pos c39] at H
                    have c39b0 := eq_true c39
                    have c39b1 : decide (0 ≤ a1) = true := decide_eq_true c39
                    clear c39
                    by_cases c40 : a1 ≤ (a0.size : Int)
                    · rw [if_pos c40] at H
                      have c40b0 := eq_true c40
                      have c40b1 : decide (a1 ≤ (a0.size : Int)) = true := decide_eq_true c40
                      clear c40
                      simp only [Option.some.injEq, Prod.mk.injEq] at H
                      obtain ⟨rfl, rfl⟩ := H
                      obtain ⟨Ao41, co41, eo41⟩ := Kd.R_slice HO_6.out
                      subst eo41
                      go_wp2
                      go_ret2
                      exact ⟨by first | rfl | (simp [errW_none, errW_some] <;> rfl) | (simp [*, errW_none, errW_some] <;> rfl), by repeat (first | (with_reducible first | exact HB.out | apply below_alloc | apply pw_below_drewN | apply below_drew1) | exact HB.out)⟩
                    · rw [if_neg c40] at H
                      exact absurd H (by simp)
                  · rw [if_neg c39] at H
                    exact absurd H (by simp)
          · rw [if_neg c7] at H
            exact absurd H (by simp)
        · rw [if_neg c6] at H
          exact absurd H (by simp)

end Go.Proofs.Ytccjkjmhmbcleaa.X
