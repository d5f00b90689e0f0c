/- Printed by a program of this session (xprint) out of the kit's print, with functions proved by hand. -/
import Derived.Test.YtmbbjdkcanoklaaX0
import Derived.Test.YtmbbjdkcanoklaaX11
import Derived.Test.YtmbbjdkcanoklaaX12
namespace Go.Proofs.Ytmbbjdkcanoklaa.X
open Go.RowKit Go.Proofs.YtmbbjdkcanoklaaW.PrintWords Go.Proofs.YtmbbjdkcanoklaaW.PrintLast Go.Proofs.YtmbbjdkcanoklaaW.PrintMore Go.Proofs.YtmbbjdkcanoklaaW.XConv
attribute [local go_sem] max2_int min2_int max_two min_two max_three min_three max_four min_four   -- for this text's walks alone
set_option linter.unusedVariables false
set_option linter.unusedSimpArgs false

/-! ### orielref03_Plain: function 52 -/
mutual
def orielref03_Plain.j0 : Nat → List Int → Bool → Option (Bool)
 | 0, _, _ => none
 | k + 1, x3, x17 => if x17 = true then (some false) else (orielref03_Plain.l0 k x3 0)
def orielref03_Plain.l0 : Nat → List Int → Int → Option (Bool)
 | 0, _, _ => none
 | k + 1, x3, x4 => if x4 < (x3.length : Int) then (if 0 ≤ x4 then ((orielref02_Part.f k (wrap64 (rd x3 x4))).bind fun t238 => (if t238 = true then (orielref03_Plain.l0 k x3 (wrap64 (x4 + 1))) else (some false))) else (none)) else (some true)
end
def orielref03_Plain.f (k : Nat) (a0 : ByteArray) : Option (Bool) := (convRunes.f a0).bind fun t232 => (if (t232.length : Int) = 0 then (orielref03_Plain.j0 k t232 true) else (if 0 < (t232.length : Int) then ((orielref02_Start.f k (wrap64 (rd t232 0))).bind fun t236 => (orielref03_Plain.j0 k t232 (!t236))) else (none)))
theorem orielref03_Plain.mono_l : ∀ k, (∀ y0 y1, LeO (orielref03_Plain.j0 k y0 y1) (orielref03_Plain.j0 (k + 1) y0 y1)) ∧ (∀ y0 y1, LeO (orielref03_Plain.l0 k y0 y1) (orielref03_Plain.l0 (k + 1) y0 y1))
 | 0 => ⟨fun _ _ r h => by simp [orielref03_Plain.j0] at h, fun _ _ r h => by simp [orielref03_Plain.l0] at h⟩
 | k + 1 => by
  obtain ⟨ih0, ih1⟩ := orielref03_Plain.mono_l k
  refine ⟨?_, ?_⟩
  ·
   intro y0 y1
   unfold orielref03_Plain.j0
   repeat' first
   | (with_reducible exact ih0 _ _)
   | (with_reducible exact ih1 _ _)
   | (with_reducible exact orielref02_Part.mono _ _)
   | (with_reducible exact orielref02_Start.mono _ _)
   | (with_reducible exact LeO.refl _)
   | (with_reducible exact LeO.none _)
   | (with_reducible refine LeO.ite ?_ ?_)
   | (with_reducible refine LeO.bind ?_ (fun _ => ?_))
   | exact ih0 _ _
   | exact ih1 _ _
   | exact orielref02_Part.mono _ _
   | exact orielref02_Start.mono _ _
   | exact LeO.none _
   | refine LeO.ite ?_ ?_
   | refine LeO.bind ?_ (fun _ => ?_)
  ·
   intro y0 y1
   unfold orielref03_Plain.l0
   repeat' first
   | (with_reducible exact ih0 _ _)
   | (with_reducible exact ih1 _ _)
   | (with_reducible exact orielref02_Part.mono _ _)
   | (with_reducible exact orielref02_Start.mono _ _)
   | (with_reducible exact LeO.refl _)
   | (with_reducible exact LeO.none _)
   | (with_reducible refine LeO.ite ?_ ?_)
   | (with_reducible refine LeO.bind ?_ (fun _ => ?_))
   | exact ih0 _ _
   | exact ih1 _ _
   | exact orielref02_Part.mono _ _
   | exact orielref02_Start.mono _ _
   | exact LeO.none _
   | refine LeO.ite ?_ ?_
   | refine LeO.bind ?_ (fun _ => ?_)
theorem orielref03_Plain.mono : ∀ a0 k, LeO (orielref03_Plain.f k a0) (orielref03_Plain.f (k + 1) a0) := by
 intro a0 k; obtain ⟨ih0, ih1⟩ := orielref03_Plain.mono_l k
 unfold orielref03_Plain.f
 repeat' first
  | (with_reducible exact ih0 _ _)
  | (with_reducible exact ih1 _ _)
  | (with_reducible exact orielref02_Part.mono _ _)
  | (with_reducible exact orielref02_Start.mono _ _)
  | (with_reducible exact LeO.refl _)
  | (with_reducible exact LeO.none _)
  | (with_reducible refine LeO.ite ?_ ?_)
  | (with_reducible refine LeO.bind ?_ (fun _ => ?_))
  | exact ih0 _ _
  | exact ih1 _ _
  | exact orielref02_Part.mono _ _
  | exact orielref02_Start.mono _ _
  | exact LeO.none _
  | refine LeO.ite ?_ ?_
  | refine LeO.bind ?_ (fun _ => ?_)
set_option maxHeartbeats 8000000 in
set_option maxRecDepth 100000 in
theorem orielref03_Plain.calls (k : Nat) (a0 : ByteArray) (r : Bool) (w : World) (h : orielref03_Plain.f k a0 = some r) :
  Calls Try.prog 52 #[.string a0] w fun e w' => e = .returned (.bool r) ∧ Below w.heap.size w w' := by
 have HB := Aside0.mk (Below.refl w.heap.size w); have H : ((convRunes.f a0).bind fun t232 => (if (t232.length : Int) = 0 then (orielref03_Plain.j0 k t232 true) else (if 0 < (t232.length : Int) then ((orielref02_Start.f k (wrap64 (rd t232 0))).bind fun t236 => (orielref03_Plain.j0 k t232 (!t236))) else (none)))) = some r := h; clear h; replace H := Option.bind_eq_some_iff.mp H; obtain ⟨t232, A20, H⟩ := H; replace H : (if (t232.length : Int) = 0 then (orielref03_Plain.j0 k t232 true) else (if 0 < (t232.length : Int) then ((orielref02_Start.f k (wrap64 (rd t232 0))).bind fun t236 => (orielref03_Plain.j0 k t232 (!t236))) else (none))) = some r := H; have A2 := Aside0.mk A20; clear A20; have HC3 := Aside0.mk H; clear H
 go_enter Try.func52, Try.ntmps52
 go_upto_region 2 with (first | ((with_reducible refine gate_dst (N := 6) rfl ?_); (try (refine gate_guard (by rfl) ?_; dsimp only)); refine goes_conv (N := some 6) (v := .string a0) rfl rfl (src := 9) (dst := 94) rfl rfl ?_; (with_reducible refine (convRunes.calls (P := Try.prog) Try.underlying9 Try.underlying94 Try.underlying21 a0 t232 _ A2.out).mono ?_); rintro e w4 ⟨v233, rfl, ho0, hb⟩; refine ⟨_, rfl, ?_⟩; have n0_ := Aside0.mk (Kd.R_lower ho0 (below_size (be0_ HB))); have n1_ := Aside0.mk (below_step (be0_ HB) hb); clear HB; have HO234 := n0_; have HB := n1_; clear n0_ n1_; (try clear hb); (try clear hb2); (try clear hk); (try clear hi); (try clear ho0)))
 (try simp only [Act.put, List.setIfInBounds_toArray, List.set_cons_zero, List.set_cons_succ])
 go_cut [17] (fun v17 wc => ∃ (kq : Nat) (x17_2 : Bool), v17 = .bool x17_2 ∧ Aside0 (orielref03_Plain.j0 kq t232 x17_2 = some r) ∧ Aside0 (kq ≤ k) ∧ Aside0 (Kd.R (Kd.int .i32) 21 wc w.heap.size (fun _ => True) v233 t232) ∧ Aside0 (Below w.heap.size w wc))
 case first =>
  have H := HC3.out; clear HC3
  by_cases c5 : (t232.length : Int) = 0
  ·
   rw [if_pos c5] at H; have c5b0 : ((t232.length : Int) == 0) = true := beq_iff_eq.mpr c5; have c5b1 : ((t232.length : Int) != 0) = false := bne_eq_false_iff_eq.mpr c5; clear c5; (first | rw [c5b0] | (simp only [i64_w, i32_w]; rw [c5b0]) | skip); have H' := Aside0.mk H; clear H; obtain ⟨Ao6, co6, eo6⟩ := Kd.R_slice HO234.out; subst eo6
   go_wp2
   go_meet
   case rel => exact ⟨_, (true), (by first | rfl | (simp; done) | (simp [*]; done)), H', ⟨by first | omega | exact Nat.le_refl _⟩, ⟨rr_ HO234⟩, ⟨be0_ HB⟩⟩
  rw [if_neg c5] at H; have c5b0 : ((t232.length : Int) == 0) = false := beq_eq_false_iff_ne.mpr c5; have c5b1 : ((t232.length : Int) != 0) = true := bne_iff_ne.mpr c5; have c5b2 : ¬ (t232 = []) := fun h_ => c5 (by rw [h_]; rfl); (first | rw [c5b0] | (simp only [i64_w, i32_w]; rw [c5b0]) | skip)
  by_cases c7 : 0 < (t232.length : Int)
  rotate_left
  ·
   rw [if_neg c7] at H; exact absurd H (by simp)
  rw [if_pos c7] at H; have c7b0 : decide (0 < (t232.length : Int)) = true := decide_eq_true c7; have c7b1 : decide (0 < t232.length) = true := decide_eq_true (by omega); clear c7; replace H := Option.bind_eq_some_iff.mp H; obtain ⟨t236, A80, H⟩ := H; replace H : (orielref03_Plain.j0 k t232 (!t236)) = some r := H; have A8 := Aside0.mk A80; clear A80; have H' := Aside0.mk H; clear H; obtain ⟨Ao9, co9, eo9⟩ := Kd.R_slice HO234.out; subst eo9; have p235 : 0 ≤ (0 : Int) := (by omega); have q235 : 0 < (t232.length : Int) := of_decide_eq_true (by first | (with_reducible assumption) | assumption); obtain ⟨ad235, e235, hx235_0⟩ := Kd.at_int (Kd.R_reads' HO234.out).2.2 0 p235 q235
  cases e235
  have qi235 : (0 < t232.length) = True := eq_true (by omega); (try rw [show ((0 : Int)).toNat = 0 from rfl] at hx235_0); (try rw [Addr.add_zero'] at hx235_0); replace p235 := eq_true p235; replace q235 := eq_true q235
  go_wp2_with (first | (go_at_call 56; (with_reducible refine (orielref02_Start.calls k (wrap64 (rd t232 0)) t236 _ A8.out).mono ?_); rintro e w' ⟨rfl, ⟨nd, rfl⟩⟩))
  go_meet
  case rel => exact ⟨_, (!t236), (by first | rfl | (simp; done) | (simp [*]; done)), H', ⟨by first | omega | exact Nat.le_refl _⟩, ⟨rr_ HO234⟩, ⟨be0_ HB⟩⟩
 case rest =>
  clear HC3; (try clear p2); (try clear q2); (try clear hx2); (try clear qi2); (try clear c5); (try clear c5b0); (try clear c5b1); (try clear c5b2); (try clear p6); (try clear c7); (try clear c7b0); (try clear c7b1); (try clear c9); (try clear hx235_0); (try clear p235); (try clear q235); obtain ⟨kq, x17_2, rfl, HA, HJ2, HO_3, HB⟩ := hcut
  cases kq with
  | zero => exact absurd HA.out (by simp [orielref03_Plain.j0])
  | succ kj2 =>
   have H := HA.out; clear HA; simp only [orielref03_Plain.j0] at H
   by_cases c10 : x17_2 = true
   ·
    subst c10; have H1 : (some false) = some r := by rw [if_pos rfl] at H; exact H
    clear H; have H := H1; clear H1; obtain rfl := Option.some.inj H
    go_wp2
    go_ret
    exact ⟨by first | rfl | exact congrArg (fun b => Ending.returned (Value.bool b)) (isE_ne _).symm | exact congrArg (fun b => Ending.returned (Value.bool b)) (isE_eq _).symm | (simp only [isE_ne, isE_eq, Bool.not_not]; done) | (simp [errW_none, errW_some] <;> rfl) | (simp [*, errW_none, errW_some] <;> rfl), be0_ HB⟩
   replace c10 := Bool.eq_false_iff.mpr c10; subst c10; have H1 : (orielref03_Plain.l0 kj2 t232 0) = some r := by rw [if_neg (show ¬ (false = true) by decide)] at H; exact H
   clear H; have H := H1; clear H1; have H' := Aside0.mk H; clear H
   go_wp2
   go_loopg [4] kj2 (fun kq v4 w' => ∃ (x4_2 : Int), v4 = .int .i64 x4_2 ∧ Aside0 (orielref03_Plain.l0 kq t232 x4_2 = some r) ∧ Aside0 (kq ≤ kj2) ∧ Aside0 (Kd.R (Kd.int .i32) 21 w' w.heap.size (fun _ => True) v233 t232) ∧ Aside0 (Below w.heap.size w w'))
   case atStart => exact ⟨(0), (by first | rfl | (simp; done) | (simp [*]; done)), H', ⟨Nat.le_refl _⟩, ⟨rr_ HO_3⟩, ⟨be0_ HB⟩⟩
   case round =>
    clear H'; (try clear c1); (try clear p2); (try clear q2); (try clear hx2); (try clear qi2); (try clear c5); (try clear c5b0); (try clear c5b1); (try clear c5b2); (try clear p6); (try clear c7); (try clear c7b0); (try clear c7b1); (try clear c9); (try clear c10); (try clear hx235_0); (try clear p2); (try clear p235); (try clear p6); (try clear q2); (try clear q235); obtain ⟨x4_2, rfl, HA, HK2, HO_3, HB⟩ := hrel
    cases gk with
    | zero => exact absurd HA.out (by simp [orielref03_Plain.l0])
    | succ k2 =>
     have H := HA.out; clear HA; simp only [orielref03_Plain.l0] at H
     by_cases c11 : x4_2 < (t232.length : Int)
     rotate_left
     ·
      rw [if_neg c11] at H; have c11b0 : decide (x4_2 < (t232.length : Int)) = false := decide_eq_false c11; clear c11; obtain rfl := Option.some.inj H; obtain ⟨Ao17, co17, eo17⟩ := Kd.R_slice HO_3.out; subst eo17
      go_wp2
      go_ret
      exact ⟨by first | rfl | exact congrArg (fun b => Ending.returned (Value.bool b)) (isE_ne _).symm | exact congrArg (fun b => Ending.returned (Value.bool b)) (isE_eq _).symm | (simp only [isE_ne, isE_eq, Bool.not_not]; done) | (simp [errW_none, errW_some] <;> rfl) | (simp [*, errW_none, errW_some] <;> rfl), be0_ HB⟩
     rw [if_pos c11] at H; have c11b0 : decide (x4_2 < (t232.length : Int)) = true := decide_eq_true c11; clear c11
     by_cases c12 : 0 ≤ x4_2
     rotate_left
     ·
      rw [if_neg c12] at H; exact absurd H (by simp)
     rw [if_pos c12] at H; have c12b0 : decide (0 ≤ x4_2) = true := decide_eq_true c12; clear c12; replace H := Option.bind_eq_some_iff.mp H; obtain ⟨t238, A130, H⟩ := H; replace H : (if t238 = true then (orielref03_Plain.l0 k2 t232 (wrap64 (x4_2 + 1))) else (some false)) = some r := H; have A13 := Aside0.mk A130; clear A130
     by_cases c14 : t238 = true
     rotate_left
     ·
      replace c14 := Bool.eq_false_iff.mpr c14; subst c14; have H1 : (some false) = some r := by rw [if_neg (show ¬ (false = true) by decide)] at H; exact H
      clear H; have H := H1; clear H1; obtain rfl := Option.some.inj H; obtain ⟨Ao16, co16, eo16⟩ := Kd.R_slice HO_3.out; subst eo16; have p237 : 0 ≤ (x4_2 : Int) := of_decide_eq_true (by first | (with_reducible assumption) | assumption); have q237 : x4_2 < (t232.length : Int) := of_decide_eq_true (by first | (with_reducible assumption) | assumption); obtain ⟨ad237, e237, hx237_0⟩ := Kd.at_int (Kd.R_reads' HO_3.out).2.2 x4_2 p237 q237
      cases e237
      replace p237 := eq_true p237; replace q237 := eq_true q237
      go_wp2_with (first | ((with_reducible refine gate_callee (f := 57) rfl ?_); refine goesL_ (some 29) rfl rfl Try.func57 (by kernel_rfl) rfl #[.int .i64 (wrap64 (rd t232 x4_2))] rfl (by (try simp only [List.map_toArray, List.map_cons, List.map_nil]); first | done | rfl | (simp only [List.length_drop, List.length_take]; rfl)) ?_; (with_reducible refine (orielref02_Part.calls k2 (wrap64 (rd t232 x4_2)) false _ A13.out).mono ?_); rintro e w' ⟨rfl, ⟨nd, rfl⟩⟩; refine ⟨_, rfl, ?_⟩))
      go_ret
      exact ⟨by first | rfl | exact congrArg (fun b => Ending.returned (Value.bool b)) (isE_ne _).symm | exact congrArg (fun b => Ending.returned (Value.bool b)) (isE_eq _).symm | (simp only [isE_ne, isE_eq, Bool.not_not]; done) | (simp [errW_none, errW_some] <;> rfl) | (simp [*, errW_none, errW_some] <;> rfl), be0_ HB⟩
     subst c14; have H1 : (orielref03_Plain.l0 k2 t232 (wrap64 (x4_2 + 1))) = some r := by rw [if_pos rfl] at H; exact H
     clear H; have H := H1; clear H1; have H' := Aside0.mk H; clear H; obtain ⟨Ao15, co15, eo15⟩ := Kd.R_slice HO_3.out; subst eo15; have p237 : 0 ≤ (x4_2 : Int) := of_decide_eq_true (by first | (with_reducible assumption) | assumption); have q237 : x4_2 < (t232.length : Int) := of_decide_eq_true (by first | (with_reducible assumption) | assumption); obtain ⟨ad237, e237, hx237_0⟩ := Kd.at_int (Kd.R_reads' HO_3.out).2.2 x4_2 p237 q237
     cases e237
     replace p237 := eq_true p237; replace q237 := eq_true q237
     go_wp2_with (first | ((with_reducible refine gate_callee (f := 57) rfl ?_); refine goesL_ (some 29) rfl rfl Try.func57 (by kernel_rfl) rfl #[.int .i64 (wrap64 (rd t232 x4_2))] rfl (by (try simp only [List.map_toArray, List.map_cons, List.map_nil]); first | done | rfl | (simp only [List.length_drop, List.length_take]; rfl)) ?_; (with_reducible refine (orielref02_Part.calls k2 (wrap64 (rd t232 x4_2)) true _ A13.out).mono ?_); rintro e w' ⟨rfl, ⟨nd, rfl⟩⟩; refine ⟨_, rfl, ?_⟩))
     go_roundg k2
     case measure => have := HJ2.out; have := HK2.out; omega
     case rel => exact ⟨(wrap64 (x4_2 + 1)), (by first | rfl | (simp; done) | (simp [*]; done)), H', ⟨by have := HJ2.out; have := HK2.out; omega⟩, ⟨rr_ HO_3⟩, ⟨be0_ HB⟩⟩
/-! ### orielref05_Find: function 53 -/
def orielref05_Find.l0 : Nat → ByteArray → ByteArray → Int → Option (Int)
 | 0, _, _, _ => none
 | k + 1, x0, x2, x7 => if (wrap64 (x7 + (x2.size : Int))) ≤ (x0.size : Int) then (if 0 ≤ x7 then (if x7 ≤ (wrap64 (x7 + (x2.size : Int))) then (if (x0.extract (x7 : Int).toNat ((wrap64 (x7 + (x2.size : Int))) : Int).toNat).toList = x2.toList then (some x7) else (orielref05_Find.l0 k x0 x2 (wrap64 (x7 + 1)))) else (none)) else (none)) else (some (-1))
def orielref05_Find.f (k : Nat) (a0 : ByteArray) (a1 : Int) (a2 : ByteArray) : Option (Int) := orielref05_Find.l0 k a0 a2 a1
theorem orielref05_Find.mono_l : ∀ k, (∀ y0 y1 y2, LeO (orielref05_Find.l0 k y0 y1 y2) (orielref05_Find.l0 (k + 1) y0 y1 y2))
 | 0 => fun _ _ _ r h => by simp [orielref05_Find.l0] at h
 | k + 1 => by
  have ih0 := orielref05_Find.mono_l k
  ·
   intro y0 y1 y2
   unfold orielref05_Find.l0
   repeat' first
   | (with_reducible exact ih0 _ _ _)
   | (with_reducible exact LeO.refl _)
   | (with_reducible exact LeO.none _)
   | (with_reducible refine LeO.ite ?_ ?_)
   | (with_reducible refine LeO.bind ?_ (fun _ => ?_))
   | exact ih0 _ _ _
   | exact LeO.none _
   | refine LeO.ite ?_ ?_
   | refine LeO.bind ?_ (fun _ => ?_)
theorem orielref05_Find.mono : ∀ a0 a1 a2 k, LeO (orielref05_Find.f k a0 a1 a2) (orielref05_Find.f (k + 1) a0 a1 a2) := by
 intro a0 a1 a2 k; have ih0 := orielref05_Find.mono_l k
 unfold orielref05_Find.f
 repeat' first
  | (with_reducible exact ih0 _ _ _)
  | (with_reducible exact LeO.refl _)
  | (with_reducible exact LeO.none _)
  | (with_reducible refine LeO.ite ?_ ?_)
  | (with_reducible refine LeO.bind ?_ (fun _ => ?_))
  | exact ih0 _ _ _
  | exact LeO.none _
  | refine LeO.ite ?_ ?_
  | refine LeO.bind ?_ (fun _ => ?_)
set_option maxHeartbeats 8000000 in
set_option maxRecDepth 100000 in
theorem orielref05_Find.calls (k : Nat) (a0 : ByteArray) (a1 : Int) (a2 : ByteArray) (r : Int) (w : World) (h : orielref05_Find.f k a0 a1 a2 = some r) :
  Calls Try.prog 53 #[.string a0, .int .i64 a1, .string a2] w fun e w' => e = .returned (.int .i64 r) ∧ Drawn0 w w' := by
 have H : (orielref05_Find.l0 k a0 a2 a1) = some r := h; clear h; have H' := Aside0.mk H; clear H
 go_enter Try.func53, Try.ntmps53
 go_wp2
 go_loopg [7] k (fun kq v7 w' => ∃ (x7_1 : Int), v7 = .int .i64 x7_1 ∧ Aside0 (orielref05_Find.l0 kq a0 a2 x7_1 = some r) ∧ Aside0 (kq ≤ k) ∧ Drawn0 w w')
 case atStart => exact ⟨(a1), (by first | rfl | (simp; done) | (simp [*]; done)), H', ⟨Nat.le_refl _⟩, by repeat (first | exact Drawn0.refl _ | apply Drawn0.step)⟩
 case round =>
  clear H'; (try clear p2); obtain ⟨x7_1, rfl, HA, HK1, ⟨m1, rfl⟩⟩ := hrel
  cases gk with
  | zero => exact absurd HA.out (by simp [orielref05_Find.l0])
  | succ k1 =>
   have H := HA.out; clear HA; simp only [orielref05_Find.l0] at H
   by_cases c4 : (wrap64 (x7_1 + (a2.size : Int))) ≤ (a0.size : Int)
   rotate_left
   ·
    rw [if_neg c4] at H; have c4b0 : decide ((wrap64 (x7_1 + (a2.size : Int))) ≤ (a0.size : Int)) = false := decide_eq_false c4; clear c4; obtain rfl := Option.some.inj H
    go_wp2
    go_ret
    exact ⟨by first | rfl | (simp; done) | (simp [*]; done), by repeat (first | exact Drawn0.refl _ | apply Drawn0.step)⟩
   rw [if_pos c4] at H; have c4b0 : decide ((wrap64 (x7_1 + (a2.size : Int))) ≤ (a0.size : Int)) = true := decide_eq_true c4; clear c4
   by_cases c5 : 0 ≤ x7_1
   rotate_left
   ·
    rw [if_neg c5] at H; exact absurd H (by simp)
   rw [if_pos c5] at H; have c5b0 := eq_true c5; have c5b1 : decide (0 ≤ x7_1) = true := decide_eq_true c5; clear c5
   by_cases c6 : x7_1 ≤ (wrap64 (x7_1 + (a2.size : Int)))
   rotate_left
   ·
    rw [if_neg c6] at H; exact absurd H (by simp)
   rw [if_pos c6] at H; have c6b0 := eq_true c6; have c6b1 : decide (x7_1 ≤ (wrap64 (x7_1 + (a2.size : Int)))) = true := decide_eq_true c6; have c7b0 := eq_true (of_decide_eq_true (by first | (with_reducible assumption) | assumption) : (wrap64 (x7_1 + (a2.size : Int))) ≤ (a0.size : Int))
   by_cases c8 : (a0.extract (x7_1 : Int).toNat ((wrap64 (x7_1 + (a2.size : Int))) : Int).toNat).toList = a2.toList
   ·
    rw [if_pos c8] at H; have c8b0 : ((a0.extract (x7_1 : Int).toNat ((wrap64 (x7_1 + (a2.size : Int))) : Int).toNat).toList == a2.toList) = true := beq_iff_eq.mpr c8; have c8b1 : ((a0.extract (x7_1 : Int).toNat ((wrap64 (x7_1 + (a2.size : Int))) : Int).toNat).toList != a2.toList) = false := bne_eq_false_iff_eq.mpr c8; clear c8; obtain rfl := Option.some.inj H
    go_wp2
    go_ret
    exact ⟨by first | rfl | (simp; done) | (simp [*]; done), by repeat (first | exact Drawn0.refl _ | apply Drawn0.step)⟩
   rw [if_neg c8] at H; have c8b0 : ((a0.extract (x7_1 : Int).toNat ((wrap64 (x7_1 + (a2.size : Int))) : Int).toNat).toList == a2.toList) = false := beq_eq_false_iff_ne.mpr c8; have c8b1 : ((a0.extract (x7_1 : Int).toNat ((wrap64 (x7_1 + (a2.size : Int))) : Int).toNat).toList != a2.toList) = true := bne_iff_ne.mpr c8; have H' := Aside0.mk H; clear H
   go_wp2
   go_roundg k1
   case measure => have := HK1.out; omega
   case rel => exact ⟨(wrap64 (x7_1 + 1)), (by first | rfl | (simp; done) | (simp [*]; done)), H', ⟨by have := HK1.out; omega⟩, by repeat (first | exact Drawn0.refl _ | apply Drawn0.step)⟩
/-! ### orielref12_named: function 46 -/
def orielref12_named.f (k : Nat) (a0_0 : ByteArray) (a0_1 : ByteArray) : Option (Bool) := if a0_0.toList = ([104, 116, 116, 112, 58, 47, 47, 119, 119, 119, 46, 119, 51, 46, 111, 114, 103, 47, 50, 48, 48, 48, 47, 120, 109, 108, 110, 115, 47] : List UInt8) then (some false) else ((orielref03_Plain.f k a0_1).bind fun t240 => (if t240 = true then ((orielref04_Right.f k a0_1).bind fun t241 => (if t241 = true then ((orielref04_Right.f k a0_0).bind fun t242 => (if t242 = true then ((orielref05_Find.f k a0_0 0 (⟨#[123]⟩ : ByteArray)).bind fun t243 => (if t243 < 0 then ((orielref05_Find.f k a0_0 0 (⟨#[125]⟩ : ByteArray)).bind fun t244 => (some (decide (t244 < 0)))) else (some false))) else (some false))) else (some false))) else (some false)))
theorem orielref12_named.mono : ∀ a0 a1 k, LeO (orielref12_named.f k a0 a1) (orielref12_named.f (k + 1) a0 a1) := by
 intro a0 a1 k
 unfold orielref12_named.f
 repeat' first
  | (with_reducible exact orielref03_Plain.mono _ _)
  | (with_reducible exact orielref04_Right.mono _ _)
  | (with_reducible exact orielref05_Find.mono _ _ _ _)
  | (with_reducible exact LeO.refl _)
  | (with_reducible exact LeO.none _)
  | (with_reducible refine LeO.ite ?_ ?_)
  | (with_reducible refine LeO.bind ?_ (fun _ => ?_))
  | exact orielref03_Plain.mono _ _
  | exact orielref04_Right.mono _ _
  | exact orielref05_Find.mono _ _ _ _
  | exact LeO.none _
  | refine LeO.ite ?_ ?_
  | refine LeO.bind ?_ (fun _ => ?_)
set_option maxHeartbeats 8000000 in
set_option maxRecDepth 100000 in
theorem orielref12_named.calls (k : Nat) (a0_0 : ByteArray) (a0_1 : ByteArray) (r : Bool) (w : World) (h : orielref12_named.f k a0_0 a0_1 = some r) :
  Calls Try.prog 46 #[.agg #[.string a0_0, .string a0_1]] w fun e w' => e = .returned (.bool r) ∧ Below w.heap.size w w' := by
 have hu49 := Try.underlying49; have HB := Aside0.mk (Below.refl w.heap.size w); have H : (if a0_0.toList = ([104, 116, 116, 112, 58, 47, 47, 119, 119, 119, 46, 119, 51, 46, 111, 114, 103, 47, 50, 48, 48, 48, 47, 120, 109, 108, 110, 115, 47] : List UInt8) then (some false) else ((orielref03_Plain.f k a0_1).bind fun t240 => (if t240 = true then ((orielref04_Right.f k a0_1).bind fun t241 => (if t241 = true then ((orielref04_Right.f k a0_0).bind fun t242 => (if t242 = true then ((orielref05_Find.f k a0_0 0 (⟨#[123]⟩ : ByteArray)).bind fun t243 => (if t243 < 0 then ((orielref05_Find.f k a0_0 0 (⟨#[125]⟩ : ByteArray)).bind fun t244 => (some (decide (t244 < 0)))) else (some false))) else (some false))) else (some false))) else (some false)))) = some r := h; clear h
 by_cases c2 : a0_0.toList = ([104, 116, 116, 112, 58, 47, 47, 119, 119, 119, 46, 119, 51, 46, 111, 114, 103, 47, 50, 48, 48, 48, 47, 120, 109, 108, 110, 115, 47] : List UInt8)
 ·
  rw [if_pos c2] at H; have c2b0 : (a0_0.toList == ([104, 116, 116, 112, 58, 47, 47, 119, 119, 119, 46, 119, 51, 46, 111, 114, 103, 47, 50, 48, 48, 48, 47, 120, 109, 108, 110, 115, 47] : List UInt8)) = true := beq_iff_eq.mpr c2; have c2b1 : (a0_0.toList != ([104, 116, 116, 112, 58, 47, 47, 119, 119, 119, 46, 119, 51, 46, 111, 114, 103, 47, 50, 48, 48, 48, 47, 120, 109, 108, 110, 115, 47] : List UInt8)) = false := bne_eq_false_iff_eq.mpr c2; clear c2; obtain rfl := Option.some.inj H
  go_enter Try.func46, Try.ntmps46
  go_wp2_with (first | ((with_reducible refine gate_dst (N := 1) rfl ?_); refine box_event ?hg (N := 1) ?hd (cs := #[.string a0_0, .string a0_1]) (t := 49) ?hr ?_; (case hd => rfl); (case hg => rfl); (case hr => first | (go_simp; done) | (go_simp; rfl)); intro gb239 hg w3 hbox hb; have n0_ := Aside0.mk (below_step (be0_ HB) hb); have n1_ := Aside0.mk (hbox); have n2_ := Aside0.mk ((by rw [hg]; exact (below_size (be0_ HB)) : w.heap.size ≤ gb239)); have n3_ := Aside0.mk ((by rw [hg]; exact (below_size (be0_ HB)) : w.heap.size ≤ gb239)); clear HB; have HB := n0_; have BK239 := n1_; have GW239 := n2_; have GE239 := n3_; clear n0_ n1_ n2_ n3_; clear hb hbox hg; have hcz4_0 : w3.cell? ⟨gb239, 0, none⟩ = some (.string a0_0) := (blk_cell BK239.out 0).trans rfl; have hcz4_1 : w3.cell? ⟨gb239, 1, none⟩ = some (.string a0_1) := (blk_cell BK239.out 1).trans rfl; have hfz4_0 := blk_frozen BK239.out 0; have hfz4_1 := blk_frozen BK239.out 1))
  go_ret
  exact ⟨by first | rfl | exact congrArg (fun b => Ending.returned (Value.bool b)) (isE_ne _).symm | exact congrArg (fun b => Ending.returned (Value.bool b)) (isE_eq _).symm | (simp only [isE_ne, isE_eq, Bool.not_not]; done) | (simp [errW_none, errW_some] <;> rfl) | (simp [*, errW_none, errW_some] <;> rfl), be1_ HB GE239⟩
 rw [if_neg c2] at H; have c2b0 : (a0_0.toList == ([104, 116, 116, 112, 58, 47, 47, 119, 119, 119, 46, 119, 51, 46, 111, 114, 103, 47, 50, 48, 48, 48, 47, 120, 109, 108, 110, 115, 47] : List UInt8)) = false := beq_eq_false_iff_ne.mpr c2; have c2b1 : (a0_0.toList != ([104, 116, 116, 112, 58, 47, 47, 119, 119, 119, 46, 119, 51, 46, 111, 114, 103, 47, 50, 48, 48, 48, 47, 120, 109, 108, 110, 115, 47] : List UInt8)) = true := bne_iff_ne.mpr c2; replace H := Option.bind_eq_some_iff.mp H; obtain ⟨t240, A50, H⟩ := H; replace H : (if t240 = true then ((orielref04_Right.f k a0_1).bind fun t241 => (if t241 = true then ((orielref04_Right.f k a0_0).bind fun t242 => (if t242 = true then ((orielref05_Find.f k a0_0 0 (⟨#[123]⟩ : ByteArray)).bind fun t243 => (if t243 < 0 then ((orielref05_Find.f k a0_0 0 (⟨#[125]⟩ : ByteArray)).bind fun t244 => (some (decide (t244 < 0)))) else (some false))) else (some false))) else (some false))) else (some false)) = some r := H; have A5 := Aside0.mk A50; clear A50
 by_cases c6 : t240 = true
 rotate_left
 ·
  replace c6 := Bool.eq_false_iff.mpr c6; subst c6; have H1 : (some false) = some r := by rw [if_neg (show ¬ (false = true) by decide)] at H; exact H
  clear H; have H := H1; clear H1; obtain rfl := Option.some.inj H
  go_enter Try.func46, Try.ntmps46
  go_wp2_with (first | ((with_reducible refine gate_dst (N := 1) rfl ?_); refine box_event ?hg (N := 1) ?hd (cs := #[.string a0_0, .string a0_1]) (t := 49) ?hr ?_; (case hd => rfl); (case hg => rfl); (case hr => first | (go_simp; done) | (go_simp; rfl)); intro gb239 hg w42 hbox hb; have n0_ := Aside0.mk (below_step (be0_ HB) hb); have n1_ := Aside0.mk (hbox); have n2_ := Aside0.mk ((by rw [hg]; exact (below_size (be0_ HB)) : w.heap.size ≤ gb239)); have n3_ := Aside0.mk ((by rw [hg]; exact (below_size (be0_ HB)) : w.heap.size ≤ gb239)); clear HB; have HB := n0_; have BK239 := n1_; have GW239 := n2_; have GE239 := n3_; clear n0_ n1_ n2_ n3_; clear hb hbox hg; have hcz43_0 : w42.cell? ⟨gb239, 0, none⟩ = some (.string a0_0) := (blk_cell BK239.out 0).trans rfl; have hcz43_1 : w42.cell? ⟨gb239, 1, none⟩ = some (.string a0_1) := (blk_cell BK239.out 1).trans rfl; have hfz43_0 := blk_frozen BK239.out 0; have hfz43_1 := blk_frozen BK239.out 1) | (go_at_call 52; (with_reducible refine (orielref03_Plain.calls k a0_1 false _ A5.out).mono ?_); rintro e w44 ⟨rfl, hb⟩; have n0_ := Aside0.mk (blk_below (g := gb239) (o := .cells #[.string a0_0, .string a0_1] 49 (0, 0)) (bk_ BK239) hb); have n1_ := Aside0.mk (below_step (be1_ HB GE239) hb); clear BK239; clear HB; have BK239 := n0_; have HB := n1_; clear n0_ n1_; (try clear hb); (try clear hb2); (try clear hk); (try clear hi)))
  go_ret
  exact ⟨by first | rfl | exact congrArg (fun b => Ending.returned (Value.bool b)) (isE_ne _).symm | exact congrArg (fun b => Ending.returned (Value.bool b)) (isE_eq _).symm | (simp only [isE_ne, isE_eq, Bool.not_not]; done) | (simp [errW_none, errW_some] <;> rfl) | (simp [*, errW_none, errW_some] <;> rfl), be1_ HB GE239⟩
 subst c6; have H1 : ((orielref04_Right.f k a0_1).bind fun t241 => (if t241 = true then ((orielref04_Right.f k a0_0).bind fun t242 => (if t242 = true then ((orielref05_Find.f k a0_0 0 (⟨#[123]⟩ : ByteArray)).bind fun t243 => (if t243 < 0 then ((orielref05_Find.f k a0_0 0 (⟨#[125]⟩ : ByteArray)).bind fun t244 => (some (decide (t244 < 0)))) else (some false))) else (some false))) else (some false))) = some r := by rw [if_pos rfl] at H; exact H
 clear H; have H := H1; clear H1; replace H := Option.bind_eq_some_iff.mp H; obtain ⟨t241, A70, H⟩ := H; replace H : (if t241 = true then ((orielref04_Right.f k a0_0).bind fun t242 => (if t242 = true then ((orielref05_Find.f k a0_0 0 (⟨#[123]⟩ : ByteArray)).bind fun t243 => (if t243 < 0 then ((orielref05_Find.f k a0_0 0 (⟨#[125]⟩ : ByteArray)).bind fun t244 => (some (decide (t244 < 0)))) else (some false))) else (some false))) else (some false)) = some r := H; have A7 := Aside0.mk A70; clear A70
 by_cases c8 : t241 = true
 rotate_left
 ·
  replace c8 := Bool.eq_false_iff.mpr c8; subst c8; have H1 : (some false) = some r := by rw [if_neg (show ¬ (false = true) by decide)] at H; exact H
  clear H; have H := H1; clear H1; obtain rfl := Option.some.inj H
  go_enter Try.func46, Try.ntmps46
  go_wp2_with (first | ((with_reducible refine gate_dst (N := 1) rfl ?_); refine box_event ?hg (N := 1) ?hd (cs := #[.string a0_0, .string a0_1]) (t := 49) ?hr ?_; (case hd => rfl); (case hg => rfl); (case hr => first | (go_simp; done) | (go_simp; rfl)); intro gb239 hg w37 hbox hb; have n0_ := Aside0.mk (below_step (be0_ HB) hb); have n1_ := Aside0.mk (hbox); have n2_ := Aside0.mk ((by rw [hg]; exact (below_size (be0_ HB)) : w.heap.size ≤ gb239)); have n3_ := Aside0.mk ((by rw [hg]; exact (below_size (be0_ HB)) : w.heap.size ≤ gb239)); clear HB; have HB := n0_; have BK239 := n1_; have GW239 := n2_; have GE239 := n3_; clear n0_ n1_ n2_ n3_; clear hb hbox hg; have hcz38_0 : w37.cell? ⟨gb239, 0, none⟩ = some (.string a0_0) := (blk_cell BK239.out 0).trans rfl; have hcz38_1 : w37.cell? ⟨gb239, 1, none⟩ = some (.string a0_1) := (blk_cell BK239.out 1).trans rfl; have hfz38_0 := blk_frozen BK239.out 0; have hfz38_1 := blk_frozen BK239.out 1) | (go_at_call 52; (with_reducible refine (orielref03_Plain.calls k a0_1 true _ A5.out).mono ?_); rintro e w39 ⟨rfl, hb⟩; have n0_ := Aside0.mk (blk_below (g := gb239) (o := .cells #[.string a0_0, .string a0_1] 49 (0, 0)) (bk_ BK239) hb); have n1_ := Aside0.mk (below_step (be1_ HB GE239) hb); clear BK239; clear HB; have BK239 := n0_; have HB := n1_; clear n0_ n1_; (try clear hb); (try clear hb2); (try clear hk); (try clear hi); have hcz40_0 : w39.cell? ⟨gb239, 0, none⟩ = some (.string a0_0) := (blk_cell BK239.out 0).trans rfl; have hcz40_1 : w39.cell? ⟨gb239, 1, none⟩ = some (.string a0_1) := (blk_cell BK239.out 1).trans rfl; have hfz40_0 := blk_frozen BK239.out 0; have hfz40_1 := blk_frozen BK239.out 1) | (go_at_call 47; (with_reducible refine (orielref04_Right.calls k a0_1 false _ A7.out).mono ?_); rintro e w41 ⟨rfl, hb⟩; have n0_ := Aside0.mk (blk_below (g := gb239) (o := .cells #[.string a0_0, .string a0_1] 49 (0, 0)) (bk_ BK239) hb); have n1_ := Aside0.mk (below_step (be1_ HB GE239) hb); clear BK239; clear HB; have BK239 := n0_; have HB := n1_; clear n0_ n1_; (try clear hb); (try clear hb2); (try clear hk); (try clear hi)))
  go_ret
  exact ⟨by first | rfl | exact congrArg (fun b => Ending.returned (Value.bool b)) (isE_ne _).symm | exact congrArg (fun b => Ending.returned (Value.bool b)) (isE_eq _).symm | (simp only [isE_ne, isE_eq, Bool.not_not]; done) | (simp [errW_none, errW_some] <;> rfl) | (simp [*, errW_none, errW_some] <;> rfl), be1_ HB GE239⟩
 subst c8; have H1 : ((orielref04_Right.f k a0_0).bind fun t242 => (if t242 = true then ((orielref05_Find.f k a0_0 0 (⟨#[123]⟩ : ByteArray)).bind fun t243 => (if t243 < 0 then ((orielref05_Find.f k a0_0 0 (⟨#[125]⟩ : ByteArray)).bind fun t244 => (some (decide (t244 < 0)))) else (some false))) else (some false))) = some r := by rw [if_pos rfl] at H; exact H
 clear H; have H := H1; clear H1; replace H := Option.bind_eq_some_iff.mp H; obtain ⟨t242, A90, H⟩ := H; replace H : (if t242 = true then ((orielref05_Find.f k a0_0 0 (⟨#[123]⟩ : ByteArray)).bind fun t243 => (if t243 < 0 then ((orielref05_Find.f k a0_0 0 (⟨#[125]⟩ : ByteArray)).bind fun t244 => (some (decide (t244 < 0)))) else (some false))) else (some false)) = some r := H; have A9 := Aside0.mk A90; clear A90
 by_cases c10 : t242 = true
 rotate_left
 ·
  replace c10 := Bool.eq_false_iff.mpr c10; subst c10; have H1 : (some false) = some r := by rw [if_neg (show ¬ (false = true) by decide)] at H; exact H
  clear H; have H := H1; clear H1; obtain rfl := Option.some.inj H
  go_enter Try.func46, Try.ntmps46
  go_wp2_with (first | ((with_reducible refine gate_dst (N := 1) rfl ?_); refine box_event ?hg (N := 1) ?hd (cs := #[.string a0_0, .string a0_1]) (t := 49) ?hr ?_; (case hd => rfl); (case hg => rfl); (case hr => first | (go_simp; done) | (go_simp; rfl)); intro gb239 hg w30 hbox hb; have n0_ := Aside0.mk (below_step (be0_ HB) hb); have n1_ := Aside0.mk (hbox); have n2_ := Aside0.mk ((by rw [hg]; exact (below_size (be0_ HB)) : w.heap.size ≤ gb239)); have n3_ := Aside0.mk ((by rw [hg]; exact (below_size (be0_ HB)) : w.heap.size ≤ gb239)); clear HB; have HB := n0_; have BK239 := n1_; have GW239 := n2_; have GE239 := n3_; clear n0_ n1_ n2_ n3_; clear hb hbox hg; have hcz31_0 : w30.cell? ⟨gb239, 0, none⟩ = some (.string a0_0) := (blk_cell BK239.out 0).trans rfl; have hcz31_1 : w30.cell? ⟨gb239, 1, none⟩ = some (.string a0_1) := (blk_cell BK239.out 1).trans rfl; have hfz31_0 := blk_frozen BK239.out 0; have hfz31_1 := blk_frozen BK239.out 1) | (go_at_call 52; (with_reducible refine (orielref03_Plain.calls k a0_1 true _ A5.out).mono ?_); rintro e w32 ⟨rfl, hb⟩; have n0_ := Aside0.mk (blk_below (g := gb239) (o := .cells #[.string a0_0, .string a0_1] 49 (0, 0)) (bk_ BK239) hb); have n1_ := Aside0.mk (below_step (be1_ HB GE239) hb); clear BK239; clear HB; have BK239 := n0_; have HB := n1_; clear n0_ n1_; (try clear hb); (try clear hb2); (try clear hk); (try clear hi); have hcz33_0 : w32.cell? ⟨gb239, 0, none⟩ = some (.string a0_0) := (blk_cell BK239.out 0).trans rfl; have hcz33_1 : w32.cell? ⟨gb239, 1, none⟩ = some (.string a0_1) := (blk_cell BK239.out 1).trans rfl; have hfz33_0 := blk_frozen BK239.out 0; have hfz33_1 := blk_frozen BK239.out 1) | (go_at_call 47; (with_reducible refine (orielref04_Right.calls k a0_1 true _ A7.out).mono ?_); rintro e w34 ⟨rfl, hb⟩; have n0_ := Aside0.mk (blk_below (g := gb239) (o := .cells #[.string a0_0, .string a0_1] 49 (0, 0)) (bk_ BK239) hb); have n1_ := Aside0.mk (below_step (be1_ HB GE239) hb); clear BK239; clear HB; have BK239 := n0_; have HB := n1_; clear n0_ n1_; (try clear hb); (try clear hb2); (try clear hk); (try clear hi); have hcz35_0 : w34.cell? ⟨gb239, 0, none⟩ = some (.string a0_0) := (blk_cell BK239.out 0).trans rfl; have hcz35_1 : w34.cell? ⟨gb239, 1, none⟩ = some (.string a0_1) := (blk_cell BK239.out 1).trans rfl; have hfz35_0 := blk_frozen BK239.out 0; have hfz35_1 := blk_frozen BK239.out 1) | (go_at_call 47; (with_reducible refine (orielref04_Right.calls k a0_0 false _ A9.out).mono ?_); rintro e w36 ⟨rfl, hb⟩; have n0_ := Aside0.mk (blk_below (g := gb239) (o := .cells #[.string a0_0, .string a0_1] 49 (0, 0)) (bk_ BK239) hb); have n1_ := Aside0.mk (below_step (be1_ HB GE239) hb); clear BK239; clear HB; have BK239 := n0_; have HB := n1_; clear n0_ n1_; (try clear hb); (try clear hb2); (try clear hk); (try clear hi)))
  go_ret
  exact ⟨by first | rfl | exact congrArg (fun b => Ending.returned (Value.bool b)) (isE_ne _).symm | exact congrArg (fun b => Ending.returned (Value.bool b)) (isE_eq _).symm | (simp only [isE_ne, isE_eq, Bool.not_not]; done) | (simp [errW_none, errW_some] <;> rfl) | (simp [*, errW_none, errW_some] <;> rfl), be1_ HB GE239⟩
 subst c10; have H1 : ((orielref05_Find.f k a0_0 0 (⟨#[123]⟩ : ByteArray)).bind fun t243 => (if t243 < 0 then ((orielref05_Find.f k a0_0 0 (⟨#[125]⟩ : ByteArray)).bind fun t244 => (some (decide (t244 < 0)))) else (some false))) = some r := by rw [if_pos rfl] at H; exact H
 clear H; have H := H1; clear H1; replace H := Option.bind_eq_some_iff.mp H; obtain ⟨t243, A110, H⟩ := H; replace H : (if t243 < 0 then ((orielref05_Find.f k a0_0 0 (⟨#[125]⟩ : ByteArray)).bind fun t244 => (some (decide (t244 < 0)))) else (some false)) = some r := H; have A11 := Aside0.mk A110; clear A110
 by_cases c12 : t243 < 0
 rotate_left
 ·
  rw [if_neg c12] at H; have c12b0 : decide (t243 < 0) = false := decide_eq_false c12; clear c12; obtain rfl := Option.some.inj H
  go_enter Try.func46, Try.ntmps46
  go_wp2_with (first | ((with_reducible refine gate_dst (N := 1) rfl ?_); refine box_event ?hg (N := 1) ?hd (cs := #[.string a0_0, .string a0_1]) (t := 49) ?hr ?_; (case hd => rfl); (case hg => rfl); (case hr => first | (go_simp; done) | (go_simp; rfl)); intro gb239 hg w22 hbox hb; have n0_ := Aside0.mk (below_step (be0_ HB) hb); have n1_ := Aside0.mk (hbox); have n2_ := Aside0.mk ((by rw [hg]; exact (below_size (be0_ HB)) : w.heap.size ≤ gb239)); have n3_ := Aside0.mk ((by rw [hg]; exact (below_size (be0_ HB)) : w.heap.size ≤ gb239)); clear HB; have HB := n0_; have BK239 := n1_; have GW239 := n2_; have GE239 := n3_; clear n0_ n1_ n2_ n3_; clear hb hbox hg; have hcz23_0 : w22.cell? ⟨gb239, 0, none⟩ = some (.string a0_0) := (blk_cell BK239.out 0).trans rfl; have hcz23_1 : w22.cell? ⟨gb239, 1, none⟩ = some (.string a0_1) := (blk_cell BK239.out 1).trans rfl; have hfz23_0 := blk_frozen BK239.out 0; have hfz23_1 := blk_frozen BK239.out 1) | (go_at_call 52; (with_reducible refine (orielref03_Plain.calls k a0_1 true _ A5.out).mono ?_); rintro e w24 ⟨rfl, hb⟩; have n0_ := Aside0.mk (blk_below (g := gb239) (o := .cells #[.string a0_0, .string a0_1] 49 (0, 0)) (bk_ BK239) hb); have n1_ := Aside0.mk (below_step (be1_ HB GE239) hb); clear BK239; clear HB; have BK239 := n0_; have HB := n1_; clear n0_ n1_; (try clear hb); (try clear hb2); (try clear hk); (try clear hi); have hcz25_0 : w24.cell? ⟨gb239, 0, none⟩ = some (.string a0_0) := (blk_cell BK239.out 0).trans rfl; have hcz25_1 : w24.cell? ⟨gb239, 1, none⟩ = some (.string a0_1) := (blk_cell BK239.out 1).trans rfl; have hfz25_0 := blk_frozen BK239.out 0; have hfz25_1 := blk_frozen BK239.out 1) | (go_at_call 47; (with_reducible refine (orielref04_Right.calls k a0_1 true _ A7.out).mono ?_); rintro e w26 ⟨rfl, hb⟩; have n0_ := Aside0.mk (blk_below (g := gb239) (o := .cells #[.string a0_0, .string a0_1] 49 (0, 0)) (bk_ BK239) hb); have n1_ := Aside0.mk (below_step (be1_ HB GE239) hb); clear BK239; clear HB; have BK239 := n0_; have HB := n1_; clear n0_ n1_; (try clear hb); (try clear hb2); (try clear hk); (try clear hi); have hcz27_0 : w26.cell? ⟨gb239, 0, none⟩ = some (.string a0_0) := (blk_cell BK239.out 0).trans rfl; have hcz27_1 : w26.cell? ⟨gb239, 1, none⟩ = some (.string a0_1) := (blk_cell BK239.out 1).trans rfl; have hfz27_0 := blk_frozen BK239.out 0; have hfz27_1 := blk_frozen BK239.out 1) | (go_at_call 47; (with_reducible refine (orielref04_Right.calls k a0_0 true _ A9.out).mono ?_); rintro e w28 ⟨rfl, hb⟩; have n0_ := Aside0.mk (blk_below (g := gb239) (o := .cells #[.string a0_0, .string a0_1] 49 (0, 0)) (bk_ BK239) hb); have n1_ := Aside0.mk (below_step (be1_ HB GE239) hb); clear BK239; clear HB; have BK239 := n0_; have HB := n1_; clear n0_ n1_; (try clear hb); (try clear hb2); (try clear hk); (try clear hi); have hcz29_0 : w28.cell? ⟨gb239, 0, none⟩ = some (.string a0_0) := (blk_cell BK239.out 0).trans rfl; have hcz29_1 : w28.cell? ⟨gb239, 1, none⟩ = some (.string a0_1) := (blk_cell BK239.out 1).trans rfl; have hfz29_0 := blk_frozen BK239.out 0; have hfz29_1 := blk_frozen BK239.out 1) | (go_at_call 53; (with_reducible refine (orielref05_Find.calls k a0_0 0 (⟨#[123]⟩ : ByteArray) t243 _ A11.out).mono ?_); rintro e w' ⟨rfl, ⟨nd, rfl⟩⟩))
  go_ret
  exact ⟨by first | rfl | exact congrArg (fun b => Ending.returned (Value.bool b)) (isE_ne _).symm | exact congrArg (fun b => Ending.returned (Value.bool b)) (isE_eq _).symm | (simp only [isE_ne, isE_eq, Bool.not_not]; done) | (simp [errW_none, errW_some] <;> rfl) | (simp [*, errW_none, errW_some] <;> rfl), be1_ HB GE239⟩
 rw [if_pos c12] at H; have c12b0 : decide (t243 < 0) = true := decide_eq_true c12; clear c12; replace H := Option.bind_eq_some_iff.mp H; obtain ⟨t244, A130, H⟩ := H; replace H : (some (decide (t244 < 0))) = some r := H; have A13 := Aside0.mk A130; clear A130; obtain rfl := Option.some.inj H
 go_enter Try.func46, Try.ntmps46
 go_wp2_with (first | ((with_reducible refine gate_dst (N := 1) rfl ?_); refine box_event ?hg (N := 1) ?hd (cs := #[.string a0_0, .string a0_1]) (t := 49) ?hr ?_; (case hd => rfl); (case hg => rfl); (case hr => first | (go_simp; done) | (go_simp; rfl)); intro gb239 hg w14 hbox hb; have n0_ := Aside0.mk (below_step (be0_ HB) hb); have n1_ := Aside0.mk (hbox); have n2_ := Aside0.mk ((by rw [hg]; exact (below_size (be0_ HB)) : w.heap.size ≤ gb239)); have n3_ := Aside0.mk ((by rw [hg]; exact (below_size (be0_ HB)) : w.heap.size ≤ gb239)); clear HB; have HB := n0_; have BK239 := n1_; have GW239 := n2_; have GE239 := n3_; clear n0_ n1_ n2_ n3_; clear hb hbox hg; have hcz15_0 : w14.cell? ⟨gb239, 0, none⟩ = some (.string a0_0) := (blk_cell BK239.out 0).trans rfl; have hcz15_1 : w14.cell? ⟨gb239, 1, none⟩ = some (.string a0_1) := (blk_cell BK239.out 1).trans rfl; have hfz15_0 := blk_frozen BK239.out 0; have hfz15_1 := blk_frozen BK239.out 1) | (go_at_call 52; (with_reducible refine (orielref03_Plain.calls k a0_1 true _ A5.out).mono ?_); rintro e w16 ⟨rfl, hb⟩; have n0_ := Aside0.mk (blk_below (g := gb239) (o := .cells #[.string a0_0, .string a0_1] 49 (0, 0)) (bk_ BK239) hb); have n1_ := Aside0.mk (below_step (be1_ HB GE239) hb); clear BK239; clear HB; have BK239 := n0_; have HB := n1_; clear n0_ n1_; (try clear hb); (try clear hb2); (try clear hk); (try clear hi); have hcz17_0 : w16.cell? ⟨gb239, 0, none⟩ = some (.string a0_0) := (blk_cell BK239.out 0).trans rfl; have hcz17_1 : w16.cell? ⟨gb239, 1, none⟩ = some (.string a0_1) := (blk_cell BK239.out 1).trans rfl; have hfz17_0 := blk_frozen BK239.out 0; have hfz17_1 := blk_frozen BK239.out 1) | (go_at_call 47; (with_reducible refine (orielref04_Right.calls k a0_1 true _ A7.out).mono ?_); rintro e w18 ⟨rfl, hb⟩; have n0_ := Aside0.mk (blk_below (g := gb239) (o := .cells #[.string a0_0, .string a0_1] 49 (0, 0)) (bk_ BK239) hb); have n1_ := Aside0.mk (below_step (be1_ HB GE239) hb); clear BK239; clear HB; have BK239 := n0_; have HB := n1_; clear n0_ n1_; (try clear hb); (try clear hb2); (try clear hk); (try clear hi); have hcz19_0 : w18.cell? ⟨gb239, 0, none⟩ = some (.string a0_0) := (blk_cell BK239.out 0).trans rfl; have hcz19_1 : w18.cell? ⟨gb239, 1, none⟩ = some (.string a0_1) := (blk_cell BK239.out 1).trans rfl; have hfz19_0 := blk_frozen BK239.out 0; have hfz19_1 := blk_frozen BK239.out 1) | (go_at_call 47; (with_reducible refine (orielref04_Right.calls k a0_0 true _ A9.out).mono ?_); rintro e w20 ⟨rfl, hb⟩; have n0_ := Aside0.mk (blk_below (g := gb239) (o := .cells #[.string a0_0, .string a0_1] 49 (0, 0)) (bk_ BK239) hb); have n1_ := Aside0.mk (below_step (be1_ HB GE239) hb); clear BK239; clear HB; have BK239 := n0_; have HB := n1_; clear n0_ n1_; (try clear hb); (try clear hb2); (try clear hk); (try clear hi); have hcz21_0 : w20.cell? ⟨gb239, 0, none⟩ = some (.string a0_0) := (blk_cell BK239.out 0).trans rfl; have hcz21_1 : w20.cell? ⟨gb239, 1, none⟩ = some (.string a0_1) := (blk_cell BK239.out 1).trans rfl; have hfz21_0 := blk_frozen BK239.out 0; have hfz21_1 := blk_frozen BK239.out 1) | (go_at_call 53; (with_reducible refine (orielref05_Find.calls k a0_0 0 (⟨#[123]⟩ : ByteArray) t243 _ A11.out).mono ?_); rintro e w' ⟨rfl, ⟨nd, rfl⟩⟩) | (go_at_call 53; (with_reducible refine (orielref05_Find.calls k a0_0 0 (⟨#[125]⟩ : ByteArray) t244 _ A13.out).mono ?_); rintro e w' ⟨rfl, ⟨nd, rfl⟩⟩))
 go_ret
 exact ⟨by first | rfl | exact congrArg (fun b => Ending.returned (Value.bool b)) (isE_ne _).symm | exact congrArg (fun b => Ending.returned (Value.bool b)) (isE_eq _).symm | (simp only [isE_ne, isE_eq, Bool.not_not]; done) | (simp [errW_none, errW_some] <;> rfl) | (simp [*, errW_none, errW_some] <;> rfl), be1_ HB GE239⟩
end Go.Proofs.Ytmbbjdkcanoklaa.X
