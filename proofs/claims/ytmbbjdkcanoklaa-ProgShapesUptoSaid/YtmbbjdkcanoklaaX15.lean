/- Printed by a program of this session (xprint) out of the kit's print, with functions proved by hand. -/
import Derived.Test.YtmbbjdkcanoklaaX0
import Derived.Test.YtmbbjdkcanoklaaX14
namespace Go.Proofs.Ytmbbjdkcanoklaa.X
open Go.RowKit Go.Proofs.YtmbbjdkcanoklaaW.PrintWords Go.Proofs.YtmbbjdkcanoklaaW.PrintLast Go.Proofs.YtmbbjdkcanoklaaW.PrintMore Go.Proofs.YtmbbjdkcanoklaaW.XConv
attribute [local go_sem] max2_int min2_int max_two min_two max_three min_three max_four min_four   -- for this text's walks alone
set_option linter.unusedVariables false
set_option linter.unusedSimpArgs false

/-! ### orielref12_path: function 26 -/
set_option maxHeartbeats 8000000 in
set_option maxRecDepth 100000 in
theorem orielref12_path.step_ (k : Nat) (ih_orielref12_path : ∀ m_, m_ < k → orielref12_path.Spec_ m_) (ih_orielref12_filter : ∀ m_, m_ < k → orielref12_filter.Spec_ m_) : orielref12_path.Spec_ k := by
 intro a0_0 A0_1 c0_1 l0_1 A0_2 c0_2 l0_2 a1 r w hr0_1 hc0_1 hr0_2 hc0_2 h
 cases k with
 | zero => exact absurd h (by simp [orielref12_path.f])
 | succ k =>
 simp only [orielref12_path.f] at h; have hu25 := Try.underlying25; have hu51 := Try.underlying51; have HR0_1 := Aside0.mk hr0_1; have HC0_1 := Aside0.mk hc0_1; clear hr0_1 hc0_1; have HR0_2 := Aside0.mk hr0_2; have HC0_2 := Aside0.mk hc0_2; clear hr0_2 hc0_2; have HB := Aside0.mk (Below.refl w.heap.size w); have H : (if a1 = 0 then (orielref12_path.j0 k a1 true a0_0 l0_1 l0_2) else (if a0_0 < 1 then (orielref12_path.j0 k a1 true a0_0 l0_1 l0_2) else (orielref12_path.j0 k a1 (decide (a0_0 > 7)) a0_0 l0_1 l0_2))) = some r := h; clear h; have HC3 := Aside0.mk H; clear H
 go_enter Try.func26, Try.ntmps26
 go_upto_region 1 with (first | ((with_reducible refine gate_dst (N := 2) rfl ?_); (try (refine gate_guard (by rfl) ?_; dsimp only)); refine box_event ?hg (N := 2) ?hd (cs := #[.int .i64 a0_0, .slice A0_1 l0_1.length c0_1, .slice A0_2 l0_2.length c0_2]) (t := 25) ?hr ?_; (case hd => rfl); (case hg => rfl); (case hr => first | (go_simp; done) | (go_simp; rfl)); intro gb259 hg w4 hbox hb; have n0_ := Aside0.mk (below_step (be0_ HB) hb); have n1_ := Aside0.mk (hbox); have n2_ := Aside0.mk ((by rw [hg]; exact (below_size (be0_ HB)) : w.heap.size ≤ gb259)); have n3_ := Aside0.mk ((by rw [hg]; exact (below_size (be0_ HB)) : w.heap.size ≤ gb259)); clear HB; have HB := n0_; have BK259 := n1_; have GW259 := n2_; have GE259 := n3_; clear n0_ n1_ n2_ n3_; clear hb hbox hg))
 (try simp only [Act.put, List.setIfInBounds_toArray, List.set_cons_zero, List.set_cons_succ])
 go_cut [19] (fun v19 wc => ∃ (kq : Nat) (x19_2 : Bool), v19 = .bool x19_2 ∧ Aside0 (orielref12_path.j0 kq a1 x19_2 a0_0 l0_1 l0_2 = some r) ∧ Aside0 (kq ≤ k) ∧ Aside0 (wc.heap[gb259]? = some (.cells #[.int .i64 a0_0, (.slice A0_1 l0_1.length c0_1), (.slice A0_2 l0_2.length c0_2)] 25 (0, 0))) ∧ Aside0 (Below w.heap.size w wc))
 case first =>
  have H := HC3.out; clear HC3
  by_cases c5 : a1 = 0
  ·
   rw [if_pos c5] at H; have c5b0 : (a1 == 0) = true := beq_iff_eq.mpr c5; have c5b1 : (a1 != 0) = false := bne_eq_false_iff_eq.mpr c5; clear c5; (first | rw [c5b0] | (simp only [i64_w, i32_w]; rw [c5b0]) | skip); have H' := Aside0.mk H; clear H
   go_wp2
   go_meet
   case rel => exact ⟨_, (true), (by first | rfl | (simp; done) | (simp [*]; done)), H', ⟨by first | omega | exact Nat.le_refl _⟩, ⟨bk_ BK259⟩, ⟨be1_ HB GE259⟩⟩
  rw [if_neg c5] at H; have c5b0 : (a1 == 0) = false := beq_eq_false_iff_ne.mpr c5; have c5b1 : (a1 != 0) = true := bne_iff_ne.mpr c5; (first | rw [c5b0] | (simp only [i64_w, i32_w]; rw [c5b0]) | skip)
  by_cases c6 : a0_0 < 1
  ·
   rw [if_pos c6] at H; have c6b0 : decide (a0_0 < 1) = true := decide_eq_true c6; clear c6; have H' := Aside0.mk H; clear H; have hcz7_0 : w4.cell? ⟨gb259, 0, none⟩ = some (.int .i64 a0_0) := (blk_cell BK259.out 0).trans rfl; have hcz7_1 : w4.cell? ⟨gb259, 1, none⟩ = some (.slice A0_1 l0_1.length c0_1) := (blk_cell BK259.out 1).trans rfl; have hcz7_2 : w4.cell? ⟨gb259, 2, none⟩ = some (.slice A0_2 l0_2.length c0_2) := (blk_cell BK259.out 2).trans rfl; have hfz7_0 := blk_frozen BK259.out 0; have hfz7_1 := blk_frozen BK259.out 1; have hfz7_2 := blk_frozen BK259.out 2
   go_wp2
   go_meet
   case rel => exact ⟨_, (true), (by first | rfl | (simp; done) | (simp [*]; done)), H', ⟨by first | omega | exact Nat.le_refl _⟩, ⟨bk_ BK259⟩, ⟨be1_ HB GE259⟩⟩
  rw [if_neg c6] at H; have c6b0 : decide (a0_0 < 1) = false := decide_eq_false c6; clear c6; have H' := Aside0.mk H; clear H; have hcz8_0 : w4.cell? ⟨gb259, 0, none⟩ = some (.int .i64 a0_0) := (blk_cell BK259.out 0).trans rfl; have hcz8_1 : w4.cell? ⟨gb259, 1, none⟩ = some (.slice A0_1 l0_1.length c0_1) := (blk_cell BK259.out 1).trans rfl; have hcz8_2 : w4.cell? ⟨gb259, 2, none⟩ = some (.slice A0_2 l0_2.length c0_2) := (blk_cell BK259.out 2).trans rfl; have hfz8_0 := blk_frozen BK259.out 0; have hfz8_1 := blk_frozen BK259.out 1; have hfz8_2 := blk_frozen BK259.out 2
  go_wp2
  go_meet
  case rel => exact ⟨_, (decide (a0_0 > 7)), (by first | rfl | (simp; done) | (simp [*]; done)), H', ⟨by first | omega | exact Nat.le_refl _⟩, ⟨bk_ BK259⟩, ⟨be1_ HB GE259⟩⟩
 case rest =>
  clear HC3; (try clear c2); (try clear p2); (try clear c5); (try clear c5b0); (try clear c5b1); (try clear c6); (try clear c6b0); (try clear hcz7_0); (try clear hcz7_1); (try clear hcz7_2); (try clear hcz8_0); (try clear hcz8_1); (try clear hcz8_2); (try clear hfz7_0); (try clear hfz7_1); (try clear hfz7_2); (try clear hfz8_0); (try clear hfz8_1); (try clear hfz8_2); obtain ⟨kq, x19_2, rfl, HA, HJ2, BK259, HB⟩ := hcut
  cases kq with
  | zero => exact absurd HA.out (by simp [orielref12_path.j0])
  | succ kj2 =>
   have H := HA.out; clear HA; simp only [orielref12_path.j0] at H
   by_cases c9 : x19_2 = true
   ·
    subst c9; have H1 : (some false) = some r := by rw [if_pos rfl] at H; exact H
    clear H; have H := H1; clear H1; obtain rfl := Option.some.inj H
    go_wp2
    go_ret
    exact ⟨by first | rfl | exact congrArg (fun b => Ending.returned (Value.bool b)) (isE_ne _).symm | exact congrArg (fun b => Ending.returned (Value.bool b)) (isE_eq _).symm | (simp only [isE_ne, isE_eq, Bool.not_not]; done) | (simp [errW_none, errW_some] <;> rfl) | (simp [*, errW_none, errW_some] <;> rfl), be1_ HB GE259⟩
   replace c9 := Bool.eq_false_iff.mpr c9; subst c9; have H1 : (if a0_0 = 4 then (orielref12_path.j1 kj2 a1 0 0 true a0_0 l0_1 l0_2) else (orielref12_path.j1 kj2 a1 0 0 (a0_0 == 5) a0_0 l0_1 l0_2)) = some r := by rw [if_neg (show ¬ (false = true) by decide)] at H; exact H
   clear H; have H := H1; clear H1; have HC10 := Aside0.mk H; clear H
   go_upto_region 5 with (fail)
   go_cut [27] (fun v27 wc => ∃ (kq : Nat) (x27_9 : Bool), v27 = .bool x27_9 ∧ Aside0 (orielref12_path.j1 kq a1 0 0 x27_9 a0_0 l0_1 l0_2 = some r) ∧ Aside0 (kq ≤ kj2) ∧ Aside0 (wc.heap[gb259]? = some (.cells #[.int .i64 a0_0, (.slice A0_1 l0_1.length c0_1), (.slice A0_2 l0_2.length c0_2)] 25 (0, 0))) ∧ Aside0 (Below w.heap.size w wc))
   case first =>
    have H := HC10.out; clear HC10
    by_cases c11 : a0_0 = 4
    rotate_left
    ·
     rw [if_neg c11] at H; have c11b0 : (a0_0 == 4) = false := beq_eq_false_iff_ne.mpr c11; have c11b1 : (a0_0 != 4) = true := bne_iff_ne.mpr c11; (first | rw [c11b0] | (simp only [i64_w, i32_w]; rw [c11b0]) | skip); have H' := Aside0.mk H; clear H; have hcz13_0 : wc.cell? ⟨gb259, 0, none⟩ = some (.int .i64 a0_0) := (blk_cell BK259.out 0).trans rfl; have hcz13_1 : wc.cell? ⟨gb259, 1, none⟩ = some (.slice A0_1 l0_1.length c0_1) := (blk_cell BK259.out 1).trans rfl; have hcz13_2 : wc.cell? ⟨gb259, 2, none⟩ = some (.slice A0_2 l0_2.length c0_2) := (blk_cell BK259.out 2).trans rfl; have hfz13_0 := blk_frozen BK259.out 0; have hfz13_1 := blk_frozen BK259.out 1; have hfz13_2 := blk_frozen BK259.out 2
     go_wp2
     go_meet
     case rel => exact ⟨_, ((a0_0 == 5)), (by first | rfl | (simp; done) | (simp [*]; done)), H', ⟨by have := HJ2.out; first | omega | exact Nat.le_refl _⟩, ⟨bk_ BK259⟩, ⟨be1_ HB GE259⟩⟩
    rw [if_pos c11] at H; have c11b0 : (a0_0 == 4) = true := beq_iff_eq.mpr c11; have c11b1 : (a0_0 != 4) = false := bne_eq_false_iff_eq.mpr c11; clear c11; (first | rw [c11b0] | (simp only [i64_w, i32_w]; rw [c11b0]) | skip); have H' := Aside0.mk H; clear H; have hcz12_0 : wc.cell? ⟨gb259, 0, none⟩ = some (.int .i64 a0_0) := (blk_cell BK259.out 0).trans rfl; have hcz12_1 : wc.cell? ⟨gb259, 1, none⟩ = some (.slice A0_1 l0_1.length c0_1) := (blk_cell BK259.out 1).trans rfl; have hcz12_2 : wc.cell? ⟨gb259, 2, none⟩ = some (.slice A0_2 l0_2.length c0_2) := (blk_cell BK259.out 2).trans rfl; have hfz12_0 := blk_frozen BK259.out 0; have hfz12_1 := blk_frozen BK259.out 1; have hfz12_2 := blk_frozen BK259.out 2
    go_wp2
    go_meet
    case rel => exact ⟨_, (true), (by first | rfl | (simp; done) | (simp [*]; done)), H', ⟨by have := HJ2.out; first | omega | exact Nat.le_refl _⟩, ⟨bk_ BK259⟩, ⟨be1_ HB GE259⟩⟩
   case rest =>
    clear HC10; (try clear c1); (try clear c2); (try clear p2); (try clear c5); (try clear c5b0); (try clear c5b1); (try clear c6); (try clear c6b0); (try clear c9); (try clear c11); (try clear c11b0); (try clear c11b1); (try clear hcz12_0); (try clear hcz12_1); (try clear hcz12_2); (try clear hcz13_0); (try clear hcz13_1); (try clear hcz13_2); (try clear hcz7_0); (try clear hcz7_1); (try clear hcz7_2); (try clear hcz8_0); (try clear hcz8_1); (try clear hcz8_2); (try clear hfz12_0); (try clear hfz12_1); (try clear hfz12_2); (try clear hfz13_0); (try clear hfz13_1); (try clear hfz13_2); (try clear hfz7_0); (try clear hfz7_1); (try clear hfz7_2); (try clear hfz8_0); (try clear hfz8_1); (try clear hfz8_2); (try clear p2); obtain ⟨kq, x27_9, rfl, HA, HJ9, BK259, HB⟩ := hcut
    cases kq with
    | zero => exact absurd HA.out (by simp [orielref12_path.j1])
    | succ kj9 =>
     have H := HA.out; clear HA; simp only [orielref12_path.j1] at H; have HC14 := Aside0.mk H; clear H
     go_upto_if 27 with (fail)
     go_cut [5, 6] (fun v5 v6 wc => ∃ (kq : Nat) (x5_13 : Int) (x6_13 : Int), v5 = .int .i64 x5_13 ∧ v6 = .int .i64 x6_13 ∧ Aside0 (orielref12_path.j2 kq a1 x5_13 x6_13 a0_0 l0_1 l0_2 = some r) ∧ Aside0 (kq ≤ kj9) ∧ Aside0 (wc.heap[gb259]? = some (.cells #[.int .i64 a0_0, (.slice A0_1 l0_1.length c0_1), (.slice A0_2 l0_2.length c0_2)] 25 (0, 0))) ∧ Aside0 (Below w.heap.size w wc))
     case first =>
      have H := HC14.out; clear HC14
      by_cases c15 : x27_9 = true
      ·
       subst c15; have H1 : (orielref12_path.j2 kj9 a1 2 64 a0_0 l0_1 l0_2) = some r := by rw [if_pos rfl] at H; exact H
       clear H; have H := H1; clear H1; have H' := Aside0.mk H; clear H
       go_wp2
       go_meet
       case rel => exact ⟨_, (2), (64), (by first | rfl | (simp; done) | (simp [*]; done)), (by first | rfl | (simp; done) | (simp [*]; done)), H', ⟨by have := HJ2.out; have := HJ9.out; first | omega | exact Nat.le_refl _⟩, ⟨bk_ BK259⟩, ⟨be1_ HB GE259⟩⟩
      replace c15 := Bool.eq_false_iff.mpr c15; subst c15; have H1 : (orielref12_path.j2 kj9 a1 0 0 a0_0 l0_1 l0_2) = some r := by rw [if_neg (show ¬ (false = true) by decide)] at H; exact H
      clear H; have H := H1; clear H1; have H' := Aside0.mk H; clear H
      go_wp2
      go_meet
      case rel => exact ⟨_, (0), (0), (by first | rfl | (simp; done) | (simp [*]; done)), (by first | rfl | (simp; done) | (simp [*]; done)), H', ⟨by have := HJ2.out; have := HJ9.out; first | omega | exact Nat.le_refl _⟩, ⟨bk_ BK259⟩, ⟨be1_ HB GE259⟩⟩
     case rest =>
      clear HC14; (try clear c1); (try clear c2); (try clear p2); (try clear c5); (try clear c5b0); (try clear c5b1); (try clear c6); (try clear c6b0); (try clear c9); (try clear c11); (try clear c11b0); (try clear c11b1); (try clear c15); (try clear hcz12_0); (try clear hcz12_1); (try clear hcz12_2); (try clear hcz13_0); (try clear hcz13_1); (try clear hcz13_2); (try clear hcz7_0); (try clear hcz7_1); (try clear hcz7_2); (try clear hcz8_0); (try clear hcz8_1); (try clear hcz8_2); (try clear hfz12_0); (try clear hfz12_1); (try clear hfz12_2); (try clear hfz13_0); (try clear hfz13_1); (try clear hfz13_2); (try clear hfz7_0); (try clear hfz7_1); (try clear hfz7_2); (try clear hfz8_0); (try clear hfz8_1); (try clear hfz8_2); (try clear p2); obtain ⟨kq, x5_13, x6_13, rfl, rfl, HA, HJ13, BK259, HB⟩ := hcut
      cases kq with
      | zero => exact absurd HA.out (by simp [orielref12_path.j2])
      | succ kj13 =>
       have H := HA.out; clear HA; simp only [orielref12_path.j2] at H; have HC16 := Aside0.mk H; clear H; have hcz17_0 : wc.cell? ⟨gb259, 0, none⟩ = some (.int .i64 a0_0) := (blk_cell BK259.out 0).trans rfl; have hcz17_1 : wc.cell? ⟨gb259, 1, none⟩ = some (.slice A0_1 l0_1.length c0_1) := (blk_cell BK259.out 1).trans rfl; have hcz17_2 : wc.cell? ⟨gb259, 2, none⟩ = some (.slice A0_2 l0_2.length c0_2) := (blk_cell BK259.out 2).trans rfl; have hfz17_0 := blk_frozen BK259.out 0; have hfz17_1 := blk_frozen BK259.out 1; have hfz17_2 := blk_frozen BK259.out 2
       go_upto_if 30 with (fail)
       go_cut [5, 6] (fun v5 v6 wc => ∃ (kq : Nat) (x5_15 : Int) (x6_15 : Int), v5 = .int .i64 x5_15 ∧ v6 = .int .i64 x6_15 ∧ Aside0 (orielref12_path.j3 kq a1 x5_15 x6_15 a0_0 l0_1 l0_2 = some r) ∧ Aside0 (kq ≤ kj13) ∧ Aside0 (wc.heap[gb259]? = some (.cells #[.int .i64 a0_0, (.slice A0_1 l0_1.length c0_1), (.slice A0_2 l0_2.length c0_2)] 25 (0, 0))) ∧ Aside0 (Below w.heap.size w wc))
       case first =>
        have H := HC16.out; clear HC16
        by_cases c18 : a0_0 = 6
        rotate_left
        ·
         rw [if_neg c18] at H; have c18b0 : (a0_0 == 6) = false := beq_eq_false_iff_ne.mpr c18; have c18b1 : (a0_0 != 6) = true := bne_iff_ne.mpr c18; (first | rw [c18b0] | (simp only [i64_w, i32_w]; rw [c18b0]) | skip); have H' := Aside0.mk H; clear H
         go_wp2
         go_meet
         case rel => exact ⟨_, (x5_13), (x6_13), (by first | rfl | (simp; done) | (simp [*]; done)), (by first | rfl | (simp; done) | (simp [*]; done)), H', ⟨by have := HJ2.out; have := HJ9.out; have := HJ13.out; first | omega | exact Nat.le_refl _⟩, ⟨bk_ BK259⟩, ⟨be1_ HB GE259⟩⟩
        rw [if_pos c18] at H; have c18b0 : (a0_0 == 6) = true := beq_iff_eq.mpr c18; have c18b1 : (a0_0 != 6) = false := bne_eq_false_iff_eq.mpr c18; clear c18; (first | rw [c18b0] | (simp only [i64_w, i32_w]; rw [c18b0]) | skip); have H' := Aside0.mk H; clear H
        go_wp2
        go_meet
        case rel => exact ⟨_, (1), (1), (by first | rfl | (simp; done) | (simp [*]; done)), (by first | rfl | (simp; done) | (simp [*]; done)), H', ⟨by have := HJ2.out; have := HJ9.out; have := HJ13.out; first | omega | exact Nat.le_refl _⟩, ⟨bk_ BK259⟩, ⟨be1_ HB GE259⟩⟩
       case rest =>
        clear HC16; (try clear c1); (try clear c2); (try clear p2); (try clear c5); (try clear c5b0); (try clear c5b1); (try clear c6); (try clear c6b0); (try clear c9); (try clear c11); (try clear c11b0); (try clear c11b1); (try clear c15); (try clear c18); (try clear c18b0); (try clear c18b1); (try clear hcz12_0); (try clear hcz12_1); (try clear hcz12_2); (try clear hcz13_0); (try clear hcz13_1); (try clear hcz13_2); (try clear hcz17_0); (try clear hcz17_1); (try clear hcz17_2); (try clear hcz7_0); (try clear hcz7_1); (try clear hcz7_2); (try clear hcz8_0); (try clear hcz8_1); (try clear hcz8_2); (try clear hfz12_0); (try clear hfz12_1); (try clear hfz12_2); (try clear hfz13_0); (try clear hfz13_1); (try clear hfz13_2); (try clear hfz17_0); (try clear hfz17_1); (try clear hfz17_2); (try clear hfz7_0); (try clear hfz7_1); (try clear hfz7_2); (try clear hfz8_0); (try clear hfz8_1); (try clear hfz8_2); (try clear p2); obtain ⟨kq, x5_15, x6_15, rfl, rfl, HA, HJ15, BK259, HB⟩ := hcut
        cases kq with
        | zero => exact absurd HA.out (by simp [orielref12_path.j3])
        | succ kj15 =>
         have H := HA.out; clear HA; simp only [orielref12_path.j3] at H; have HC19 := Aside0.mk H; clear H
         go_upto_region 11 with (fail)
         go_cut [58] (fun v58 wc => ∃ (kq : Nat) (x58_18 : Bool), v58 = .bool x58_18 ∧ Aside0 (orielref12_path.j4 kq a1 x58_18 a0_0 l0_1 l0_2 = some r) ∧ Aside0 (kq ≤ kj15) ∧ Aside0 (wc.heap[gb259]? = some (.cells #[.int .i64 a0_0, (.slice A0_1 l0_1.length c0_1), (.slice A0_2 l0_2.length c0_2)] 25 (0, 0))) ∧ Aside0 (Below w.heap.size w wc))
         case first =>
          have H := HC19.out; clear HC19
          by_cases c20 : (l0_1.length : Int) < x5_15
          ·
           rw [if_pos c20] at H; have c20b0 : decide ((l0_1.length : Int) < x5_15) = true := decide_eq_true c20; clear c20; (first | rw [c20b0] | (simp only [i64_w, i32_w]; rw [c20b0]) | skip); have H' := Aside0.mk H; clear H; have hcz21_0 : wc.cell? ⟨gb259, 0, none⟩ = some (.int .i64 a0_0) := (blk_cell BK259.out 0).trans rfl; have hcz21_1 : wc.cell? ⟨gb259, 1, none⟩ = some (.slice A0_1 l0_1.length c0_1) := (blk_cell BK259.out 1).trans rfl; have hcz21_2 : wc.cell? ⟨gb259, 2, none⟩ = some (.slice A0_2 l0_2.length c0_2) := (blk_cell BK259.out 2).trans rfl; have hfz21_0 := blk_frozen BK259.out 0; have hfz21_1 := blk_frozen BK259.out 1; have hfz21_2 := blk_frozen BK259.out 2
           go_wp2
           go_meet
           case rel => exact ⟨_, (true), (by first | rfl | (simp; done) | (simp [*]; done)), H', ⟨by have := HJ2.out; have := HJ9.out; have := HJ13.out; have := HJ15.out; first | omega | exact Nat.le_refl _⟩, ⟨bk_ BK259⟩, ⟨be1_ HB GE259⟩⟩
          rw [if_neg c20] at H; have c20b0 : decide ((l0_1.length : Int) < x5_15) = false := decide_eq_false c20; clear c20; (first | rw [c20b0] | (simp only [i64_w, i32_w]; rw [c20b0]) | skip)
          by_cases c22 : (l0_1.length : Int) > x6_15
          ·
           rw [if_pos c22] at H; have c22b0 : decide (x6_15 < (l0_1.length : Int)) = true := decide_eq_true c22; clear c22; have H' := Aside0.mk H; clear H; have hcz23_0 : wc.cell? ⟨gb259, 0, none⟩ = some (.int .i64 a0_0) := (blk_cell BK259.out 0).trans rfl; have hcz23_1 : wc.cell? ⟨gb259, 1, none⟩ = some (.slice A0_1 l0_1.length c0_1) := (blk_cell BK259.out 1).trans rfl; have hcz23_2 : wc.cell? ⟨gb259, 2, none⟩ = some (.slice A0_2 l0_2.length c0_2) := (blk_cell BK259.out 2).trans rfl; have hfz23_0 := blk_frozen BK259.out 0; have hfz23_1 := blk_frozen BK259.out 1; have hfz23_2 := blk_frozen BK259.out 2
           go_wp2
           go_meet
           case rel => exact ⟨_, (true), (by first | rfl | (simp; done) | (simp [*]; done)), H', ⟨by have := HJ2.out; have := HJ9.out; have := HJ13.out; have := HJ15.out; first | omega | exact Nat.le_refl _⟩, ⟨bk_ BK259⟩, ⟨be1_ HB GE259⟩⟩
          rw [if_neg c22] at H; have c22b0 : decide (x6_15 < (l0_1.length : Int)) = false := decide_eq_false c22; clear c22
          by_cases c24 : ((a0_0 == 7) != ((l0_2.length : Int) == 1)) = true
          rotate_left
          ·
           rw [if_neg c24] at H; have c24b0 : ((a0_0 == 7) != ((l0_2.length : Int) == 1)) = false := by simpa using c24
           (try (have c24b1 : decide ((a0_0 == 7) = ((l0_2.length : Int) == 1)) = true := by simpa using c24)); (try (have c24b2 : ((a0_0 == 7) == ((l0_2.length : Int) == 1)) = true := by simpa using c24)); clear c24; have H' := Aside0.mk H; clear H; have hcz26_0 : wc.cell? ⟨gb259, 0, none⟩ = some (.int .i64 a0_0) := (blk_cell BK259.out 0).trans rfl; have hcz26_1 : wc.cell? ⟨gb259, 1, none⟩ = some (.slice A0_1 l0_1.length c0_1) := (blk_cell BK259.out 1).trans rfl; have hcz26_2 : wc.cell? ⟨gb259, 2, none⟩ = some (.slice A0_2 l0_2.length c0_2) := (blk_cell BK259.out 2).trans rfl; have hfz26_0 := blk_frozen BK259.out 0; have hfz26_1 := blk_frozen BK259.out 1; have hfz26_2 := blk_frozen BK259.out 2
           go_wp2
           go_meet
           case rel => exact ⟨_, (decide ((l0_2.length : Int) > 1)), (by first | rfl | (simp; done) | (simp [*]; done)), H', ⟨by have := HJ2.out; have := HJ9.out; have := HJ13.out; have := HJ15.out; first | omega | exact Nat.le_refl _⟩, ⟨bk_ BK259⟩, ⟨be1_ HB GE259⟩⟩
          rw [if_pos c24] at H; have c24b0 : ((a0_0 == 7) != ((l0_2.length : Int) == 1)) = true := c24; (try (have c24b1 : decide ((a0_0 == 7) = ((l0_2.length : Int) == 1)) = false := by simpa using c24)); (try (have c24b2 : ((a0_0 == 7) == ((l0_2.length : Int) == 1)) = false := by simpa using c24)); (try (have c24b3 : ¬ ((a0_0 == 7) = ((l0_2.length : Int) == 1)) := by simpa using c24)); clear c24; have H' := Aside0.mk H; clear H; have hcz25_0 : wc.cell? ⟨gb259, 0, none⟩ = some (.int .i64 a0_0) := (blk_cell BK259.out 0).trans rfl; have hcz25_1 : wc.cell? ⟨gb259, 1, none⟩ = some (.slice A0_1 l0_1.length c0_1) := (blk_cell BK259.out 1).trans rfl; have hcz25_2 : wc.cell? ⟨gb259, 2, none⟩ = some (.slice A0_2 l0_2.length c0_2) := (blk_cell BK259.out 2).trans rfl; have hfz25_0 := blk_frozen BK259.out 0; have hfz25_1 := blk_frozen BK259.out 1; have hfz25_2 := blk_frozen BK259.out 2
          go_wp2
          go_meet
          case rel => exact ⟨_, (true), (by first | rfl | (simp; done) | (simp [*]; done)), H', ⟨by have := HJ2.out; have := HJ9.out; have := HJ13.out; have := HJ15.out; first | omega | exact Nat.le_refl _⟩, ⟨bk_ BK259⟩, ⟨be1_ HB GE259⟩⟩
         case rest =>
          clear HC19; (try clear c1); (try clear c2); (try clear p2); (try clear c5); (try clear c5b0); (try clear c5b1); (try clear c6); (try clear c6b0); (try clear c9); (try clear c11); (try clear c11b0); (try clear c11b1); (try clear c15); (try clear c18); (try clear c18b0); (try clear c18b1); (try clear c20); (try clear c20b0); (try clear c22); (try clear c22b0); (try clear c24); (try clear c24b0); (try clear c24b1); (try clear c24b2); (try clear c26); (try clear hcz12_0); (try clear hcz12_1); (try clear hcz12_2); (try clear hcz13_0); (try clear hcz13_1); (try clear hcz13_2); (try clear hcz17_0); (try clear hcz17_1); (try clear hcz17_2); (try clear hcz21_0); (try clear hcz21_1); (try clear hcz21_2); (try clear hcz23_0); (try clear hcz23_1); (try clear hcz23_2); (try clear hcz25_0); (try clear hcz25_1); (try clear hcz25_2); (try clear hcz26_0); (try clear hcz26_1); (try clear hcz26_2); (try clear hcz7_0); (try clear hcz7_1); (try clear hcz7_2); (try clear hcz8_0); (try clear hcz8_1); (try clear hcz8_2); (try clear hfz12_0); (try clear hfz12_1); (try clear hfz12_2); (try clear hfz13_0); (try clear hfz13_1); (try clear hfz13_2); (try clear hfz17_0); (try clear hfz17_1); (try clear hfz17_2); (try clear hfz21_0); (try clear hfz21_1); (try clear hfz21_2); (try clear hfz23_0); (try clear hfz23_1); (try clear hfz23_2); (try clear hfz25_0); (try clear hfz25_1); (try clear hfz25_2); (try clear hfz26_0); (try clear hfz26_1); (try clear hfz26_2); (try clear hfz7_0); (try clear hfz7_1); (try clear hfz7_2); (try clear hfz8_0); (try clear hfz8_1); (try clear hfz8_2); (try clear p2); obtain ⟨kq, x58_18, rfl, HA, HJ18, BK259, HB⟩ := hcut
          cases kq with
          | zero => exact absurd HA.out (by simp [orielref12_path.j4])
          | succ kj18 =>
           have H := HA.out; clear HA; simp only [orielref12_path.j4] at H
           by_cases c27 : x58_18 = true
           ·
            subst c27; have H1 : (some false) = some r := by rw [if_pos rfl] at H; exact H
            clear H; have H := H1; clear H1; obtain rfl := Option.some.inj H
            go_wp2
            go_ret
            exact ⟨by first | rfl | exact congrArg (fun b => Ending.returned (Value.bool b)) (isE_ne _).symm | exact congrArg (fun b => Ending.returned (Value.bool b)) (isE_eq _).symm | (simp only [isE_ne, isE_eq, Bool.not_not]; done) | (simp [errW_none, errW_some] <;> rfl) | (simp [*, errW_none, errW_some] <;> rfl), be1_ HB GE259⟩
           replace c27 := Bool.eq_false_iff.mpr c27; subst c27; have H1 : (orielref12_path.l0 kj18 a1 0 a0_0 l0_1 l0_2) = some r := by rw [if_neg (show ¬ (false = true) by decide)] at H; exact H
           clear H; have H := H1; clear H1; have H' := Aside0.mk H; clear H
           go_wp2
           go_loopg [7] kj18 (fun kq v7 w' => ∃ (x7_6 : Int), v7 = .int .i64 x7_6 ∧ Aside0 (orielref12_path.l0 kq a1 x7_6 a0_0 l0_1 l0_2 = some r) ∧ Aside0 (kq ≤ kj18) ∧ Aside0 (w'.heap[gb259]? = some (.cells #[.int .i64 a0_0, (.slice A0_1 l0_1.length c0_1), (.slice A0_2 l0_2.length c0_2)] 25 (0, 0))) ∧ Aside0 (Below w.heap.size w w'))
           case atStart => exact ⟨(0), (by first | rfl | (simp; done) | (simp [*]; done)), H', ⟨Nat.le_refl _⟩, ⟨bk_ BK259⟩, ⟨be1_ HB GE259⟩⟩
           case round =>
            clear H'; (try clear c1); (try clear c2); (try clear p2); (try clear c5); (try clear c5b0); (try clear c5b1); (try clear c6); (try clear c6b0); (try clear c9); (try clear c11); (try clear c11b0); (try clear c11b1); (try clear c15); (try clear c18); (try clear c18b0); (try clear c18b1); (try clear c20); (try clear c20b0); (try clear c22); (try clear c22b0); (try clear c24); (try clear c24b0); (try clear c24b1); (try clear c24b2); (try clear c26); (try clear c27); (try clear hcz12_0); (try clear hcz12_1); (try clear hcz12_2); (try clear hcz13_0); (try clear hcz13_1); (try clear hcz13_2); (try clear hcz17_0); (try clear hcz17_1); (try clear hcz17_2); (try clear hcz21_0); (try clear hcz21_1); (try clear hcz21_2); (try clear hcz23_0); (try clear hcz23_1); (try clear hcz23_2); (try clear hcz25_0); (try clear hcz25_1); (try clear hcz25_2); (try clear hcz26_0); (try clear hcz26_1); (try clear hcz26_2); (try clear hcz7_0); (try clear hcz7_1); (try clear hcz7_2); (try clear hcz8_0); (try clear hcz8_1); (try clear hcz8_2); (try clear hfz12_0); (try clear hfz12_1); (try clear hfz12_2); (try clear hfz13_0); (try clear hfz13_1); (try clear hfz13_2); (try clear hfz17_0); (try clear hfz17_1); (try clear hfz17_2); (try clear hfz21_0); (try clear hfz21_1); (try clear hfz21_2); (try clear hfz23_0); (try clear hfz23_1); (try clear hfz23_2); (try clear hfz25_0); (try clear hfz25_1); (try clear hfz25_2); (try clear hfz26_0); (try clear hfz26_1); (try clear hfz26_2); (try clear hfz7_0); (try clear hfz7_1); (try clear hfz7_2); (try clear hfz8_0); (try clear hfz8_1); (try clear hfz8_2); (try clear p2); obtain ⟨x7_6, rfl, HA, HK6, BK259, HB⟩ := hrel
            cases gk with
            | zero => exact absurd HA.out (by simp [orielref12_path.l0])
            | succ k6 =>
             have H := HA.out; clear HA; simp only [orielref12_path.l0] at H
             by_cases c28 : x7_6 < (l0_1.length : Int)
             ·
              rw [if_pos c28] at H; have c28b0 : decide (x7_6 < (l0_1.length : Int)) = true := decide_eq_true c28; clear c28
              by_cases c29 : 0 ≤ x7_6
              rotate_left
              ·
               rw [if_neg c29] at H; exact absurd H (by simp)
              rw [if_pos c29] at H; have c29b0 : decide (0 ≤ x7_6) = true := decide_eq_true c29; clear c29; replace H := Option.bind_eq_some_iff.mp H; obtain ⟨t261, A300, H⟩ := H; replace H : (if t261 = true then (orielref12_path.l0 k6 a1 (wrap64 (x7_6 + 1)) a0_0 l0_1 l0_2) else (some false)) = some r := H; have A30 := Aside0.mk A300; clear A300
              by_cases c31 : t261 = true
              rotate_left
              ·
               replace c31 := Bool.eq_false_iff.mpr c31; subst c31; have H1 : (some false) = some r := by rw [if_neg (show ¬ (false = true) by decide)] at H; exact H
               clear H; have H := H1; clear H1; obtain rfl := Option.some.inj H; have hcz34_0 : wr.cell? ⟨gb259, 0, none⟩ = some (.int .i64 a0_0) := (blk_cell BK259.out 0).trans rfl; have hcz34_1 : wr.cell? ⟨gb259, 1, none⟩ = some (.slice A0_1 l0_1.length c0_1) := (blk_cell BK259.out 1).trans rfl; have hcz34_2 : wr.cell? ⟨gb259, 2, none⟩ = some (.slice A0_2 l0_2.length c0_2) := (blk_cell BK259.out 2).trans rfl; have hfz34_0 := blk_frozen BK259.out 0; have hfz34_1 := blk_frozen BK259.out 1; have hfz34_2 := blk_frozen BK259.out 2; have p260 : 0 ≤ (x7_6 : Int) := of_decide_eq_true (by first | (with_reducible assumption) | assumption); have q260 : x7_6 < (l0_1.length : Int) := of_decide_eq_true (by first | (with_reducible assumption) | assumption); obtain ⟨ad260, A260_1, c260_1, A260_2, c260_2, e260, hx260_0, hx260_1, hx260_2, hl260_1, hi260_1, hl260_2, hi260_2⟩ := at_T25 HR0_1.out x7_6 p260 q260
               cases e260
               replace hx260_0 := (HB.out.cell (World.block_lt_of_cell? w _ hx260_0)).trans hx260_0; replace hx260_1 := (HB.out.cell (World.block_lt_of_cell? w _ hx260_1)).trans hx260_1; replace hx260_2 := (HB.out.cell (World.block_lt_of_cell? w _ hx260_2)).trans hx260_2; have HR260_1 := Aside0.mk hi260_1; have HC260_1 := Aside0.mk hl260_1; clear hi260_1 hl260_1; have HR260_2 := Aside0.mk hi260_2; have HC260_2 := Aside0.mk hl260_2; clear hi260_2 hl260_2; replace p260 := eq_true p260; replace q260 := eq_true q260
               go_wp2_with (first | ((with_reducible refine gate_callee (f := 26) rfl ?_); refine goesL_ (some 73) rfl rfl Try.func26 (by kernel_rfl) rfl #[.agg #[.int .i64 ((rd_T25 l0_1 x7_6).f0), .slice A260_1 ((rd_T25 l0_1 x7_6).f1).length c260_1, .slice A260_2 ((rd_T25 l0_1 x7_6).f2).length c260_2], .int .i64 (wrap64 (a1 - 1))] rfl (by (try simp only [List.map_toArray, List.map_cons, List.map_nil]); first | done | rfl | (simp only [List.length_drop, List.length_take]; rfl)) ?_; (with_reducible refine (ih_orielref12_path k6 (by have := HJ2.out; have := HJ9.out; have := HJ13.out; have := HJ15.out; have := HJ18.out; have := HK6.out; omega) ((rd_T25 l0_1 x7_6).f0) _ _ ((rd_T25 l0_1 x7_6).f1) _ _ ((rd_T25 l0_1 x7_6).f2) (wrap64 (a1 - 1)) false _ ?side1 ?side2 ?side3 ?side4 A30.out).mono ?_); (case side1 => repeat (first | exact (Kd.C_below HR260_1.out HB.out) | (with_reducible refine Kd.C_alloc ?_ _) | (with_reducible refine Kd.C_drewN ?_ _) | (with_reducible refine Kd.C_drew ?_))); (case side2 => exact HC260_1.out); (case side3 => repeat (first | exact (Kd.C_below HR260_2.out HB.out) | (with_reducible refine Kd.C_alloc ?_ _) | (with_reducible refine Kd.C_drewN ?_ _) | (with_reducible refine Kd.C_drew ?_))); (case side4 => exact HC260_2.out); rintro e w35 ⟨rfl, hb⟩; refine ⟨_, rfl, ?_⟩; have n0_ := Aside0.mk (blk_below (g := gb259) (o := .cells #[.int .i64 a0_0, .slice (some ad260) l0_1.length c0_1, .slice A0_2 l0_2.length c0_2] 25 (0, 0)) (bk_ BK259) hb); have n1_ := Aside0.mk (below_step (be1_ HB GE259) hb); clear BK259; clear HB; have BK259 := n0_; have HB := n1_; clear n0_ n1_; (try clear hb); (try clear hb2); (try clear hk); (try clear hi)))
               go_ret
               exact ⟨by first | rfl | exact congrArg (fun b => Ending.returned (Value.bool b)) (isE_ne _).symm | exact congrArg (fun b => Ending.returned (Value.bool b)) (isE_eq _).symm | (simp only [isE_ne, isE_eq, Bool.not_not]; done) | (simp [errW_none, errW_some] <;> rfl) | (simp [*, errW_none, errW_some] <;> rfl), be1_ HB GE259⟩
              subst c31; have H1 : (orielref12_path.l0 k6 a1 (wrap64 (x7_6 + 1)) a0_0 l0_1 l0_2) = some r := by rw [if_pos rfl] at H; exact H
              clear H; have H := H1; clear H1; have H' := Aside0.mk H; clear H; have hcz32_0 : wr.cell? ⟨gb259, 0, none⟩ = some (.int .i64 a0_0) := (blk_cell BK259.out 0).trans rfl; have hcz32_1 : wr.cell? ⟨gb259, 1, none⟩ = some (.slice A0_1 l0_1.length c0_1) := (blk_cell BK259.out 1).trans rfl; have hcz32_2 : wr.cell? ⟨gb259, 2, none⟩ = some (.slice A0_2 l0_2.length c0_2) := (blk_cell BK259.out 2).trans rfl; have hfz32_0 := blk_frozen BK259.out 0; have hfz32_1 := blk_frozen BK259.out 1; have hfz32_2 := blk_frozen BK259.out 2; have p260 : 0 ≤ (x7_6 : Int) := of_decide_eq_true (by first | (with_reducible assumption) | assumption); have q260 : x7_6 < (l0_1.length : Int) := of_decide_eq_true (by first | (with_reducible assumption) | assumption); obtain ⟨ad260, A260_1, c260_1, A260_2, c260_2, e260, hx260_0, hx260_1, hx260_2, hl260_1, hi260_1, hl260_2, hi260_2⟩ := at_T25 HR0_1.out x7_6 p260 q260
              cases e260
              replace hx260_0 := (HB.out.cell (World.block_lt_of_cell? w _ hx260_0)).trans hx260_0; replace hx260_1 := (HB.out.cell (World.block_lt_of_cell? w _ hx260_1)).trans hx260_1; replace hx260_2 := (HB.out.cell (World.block_lt_of_cell? w _ hx260_2)).trans hx260_2; have HR260_1 := Aside0.mk hi260_1; have HC260_1 := Aside0.mk hl260_1; clear hi260_1 hl260_1; have HR260_2 := Aside0.mk hi260_2; have HC260_2 := Aside0.mk hl260_2; clear hi260_2 hl260_2; replace p260 := eq_true p260; replace q260 := eq_true q260
              go_wp2_with (first | ((with_reducible refine gate_callee (f := 26) rfl ?_); refine goesL_ (some 73) rfl rfl Try.func26 (by kernel_rfl) rfl #[.agg #[.int .i64 ((rd_T25 l0_1 x7_6).f0), .slice A260_1 ((rd_T25 l0_1 x7_6).f1).length c260_1, .slice A260_2 ((rd_T25 l0_1 x7_6).f2).length c260_2], .int .i64 (wrap64 (a1 - 1))] rfl (by (try simp only [List.map_toArray, List.map_cons, List.map_nil]); first | done | rfl | (simp only [List.length_drop, List.length_take]; rfl)) ?_; (with_reducible refine (ih_orielref12_path k6 (by have := HJ2.out; have := HJ9.out; have := HJ13.out; have := HJ15.out; have := HJ18.out; have := HK6.out; omega) ((rd_T25 l0_1 x7_6).f0) _ _ ((rd_T25 l0_1 x7_6).f1) _ _ ((rd_T25 l0_1 x7_6).f2) (wrap64 (a1 - 1)) true _ ?side1 ?side2 ?side3 ?side4 A30.out).mono ?_); (case side1 => repeat (first | exact (Kd.C_below HR260_1.out HB.out) | (with_reducible refine Kd.C_alloc ?_ _) | (with_reducible refine Kd.C_drewN ?_ _) | (with_reducible refine Kd.C_drew ?_))); (case side2 => exact HC260_1.out); (case side3 => repeat (first | exact (Kd.C_below HR260_2.out HB.out) | (with_reducible refine Kd.C_alloc ?_ _) | (with_reducible refine Kd.C_drewN ?_ _) | (with_reducible refine Kd.C_drew ?_))); (case side4 => exact HC260_2.out); rintro e w33 ⟨rfl, hb⟩; refine ⟨_, rfl, ?_⟩; have n0_ := Aside0.mk (blk_below (g := gb259) (o := .cells #[.int .i64 a0_0, .slice (some ad260) l0_1.length c0_1, .slice A0_2 l0_2.length c0_2] 25 (0, 0)) (bk_ BK259) hb); have n1_ := Aside0.mk (below_step (be1_ HB GE259) hb); clear BK259; clear HB; have BK259 := n0_; have HB := n1_; clear n0_ n1_; (try clear hb); (try clear hb2); (try clear hk); (try clear hi)))
              go_roundg k6
              case measure => have := HJ2.out; have := HJ9.out; have := HJ13.out; have := HJ15.out; have := HJ18.out; have := HK6.out; omega
              case rel => exact ⟨(wrap64 (x7_6 + 1)), (by first | rfl | (simp; done) | (simp [*]; done)), H', ⟨by have := HJ2.out; have := HJ9.out; have := HJ13.out; have := HJ15.out; have := HJ18.out; have := HK6.out; omega⟩, ⟨bk_ BK259⟩, ⟨be1_ HB GE259⟩⟩
             rw [if_neg c28] at H; have c28b0 : decide (x7_6 < (l0_1.length : Int)) = false := decide_eq_false c28; clear c28
             by_cases c36 : (l0_2.length : Int) = 0
             ·
              rw [if_pos c36] at H; have c36b0 : ((l0_2.length : Int) == 0) = true := beq_iff_eq.mpr c36; have c36b1 : ((l0_2.length : Int) != 0) = false := bne_eq_false_iff_eq.mpr c36; clear c36; obtain rfl := Option.some.inj H; have hcz37_0 : wr.cell? ⟨gb259, 0, none⟩ = some (.int .i64 a0_0) := (blk_cell BK259.out 0).trans rfl; have hcz37_1 : wr.cell? ⟨gb259, 1, none⟩ = some (.slice A0_1 l0_1.length c0_1) := (blk_cell BK259.out 1).trans rfl; have hcz37_2 : wr.cell? ⟨gb259, 2, none⟩ = some (.slice A0_2 l0_2.length c0_2) := (blk_cell BK259.out 2).trans rfl; have hfz37_0 := blk_frozen BK259.out 0; have hfz37_1 := blk_frozen BK259.out 1; have hfz37_2 := blk_frozen BK259.out 2
              go_wp2
              go_ret
              exact ⟨by first | rfl | exact congrArg (fun b => Ending.returned (Value.bool b)) (isE_ne _).symm | exact congrArg (fun b => Ending.returned (Value.bool b)) (isE_eq _).symm | (simp only [isE_ne, isE_eq, Bool.not_not]; done) | (simp [errW_none, errW_some] <;> rfl) | (simp [*, errW_none, errW_some] <;> rfl), be1_ HB GE259⟩
             rw [if_neg c36] at H; have c36b0 : ((l0_2.length : Int) == 0) = false := beq_eq_false_iff_ne.mpr c36; have c36b1 : ((l0_2.length : Int) != 0) = true := bne_iff_ne.mpr c36; have c36b2 : ¬ (l0_2 = []) := fun h_ => c36 (by rw [h_]; rfl)
             by_cases c38 : 0 < (l0_2.length : Int)
             rotate_left
             ·
              rw [if_neg c38] at H; exact absurd H (by simp)
             rw [if_pos c38] at H; have c38b0 : decide (0 < (l0_2.length : Int)) = true := decide_eq_true c38; have c38b1 : decide (0 < l0_2.length) = true := decide_eq_true (by omega); clear c38; replace H := Option.bind_eq_some_iff.mp H; obtain ⟨t263, A390, H⟩ := H; replace H : (some t263) = some r := H; have A39 := Aside0.mk A390; clear A390; obtain rfl := Option.some.inj H; have hcz40_0 : wr.cell? ⟨gb259, 0, none⟩ = some (.int .i64 a0_0) := (blk_cell BK259.out 0).trans rfl; have hcz40_1 : wr.cell? ⟨gb259, 1, none⟩ = some (.slice A0_1 l0_1.length c0_1) := (blk_cell BK259.out 1).trans rfl; have hcz40_2 : wr.cell? ⟨gb259, 2, none⟩ = some (.slice A0_2 l0_2.length c0_2) := (blk_cell BK259.out 2).trans rfl; have hfz40_0 := blk_frozen BK259.out 0; have hfz40_1 := blk_frozen BK259.out 1; have hfz40_2 := blk_frozen BK259.out 2; have p262 : 0 ≤ (0 : Int) := (by omega); have q262 : 0 < (l0_2.length : Int) := of_decide_eq_true (by first | (with_reducible assumption) | assumption); obtain ⟨ad262, A262_4, c262_4, A262_5, c262_5, e262, hx262_0, hx262_1, hx262_2, hx262_3, hx262_4, hx262_5, hl262_4, hi262_4, hl262_5, hi262_5⟩ := at_T51 HR0_2.out 0 p262 q262
             cases e262
             have qi262 : (0 < l0_2.length) = True := eq_true (by omega); (try rw [show ((0 : Int)).toNat = 0 from rfl] at hx262_0); (try rw [show 0 * 6 = 0 from rfl] at hx262_0); (try rw [Addr.add_zero'] at hx262_0); (try rw [show ((0 : Int)).toNat = 0 from rfl] at hx262_1); (try rw [show 0 * 6 = 0 from rfl] at hx262_1); (try rw [Addr.add_zero'] at hx262_1); (try rw [show ((0 : Int)).toNat = 0 from rfl] at hx262_2); (try rw [show 0 * 6 = 0 from rfl] at hx262_2); (try rw [Addr.add_zero'] at hx262_2); (try rw [show ((0 : Int)).toNat = 0 from rfl] at hx262_3); (try rw [show 0 * 6 = 0 from rfl] at hx262_3); (try rw [Addr.add_zero'] at hx262_3); (try rw [show ((0 : Int)).toNat = 0 from rfl] at hx262_4); (try rw [show 0 * 6 = 0 from rfl] at hx262_4); (try rw [Addr.add_zero'] at hx262_4); (try rw [show ((0 : Int)).toNat = 0 from rfl] at hx262_5); (try rw [show 0 * 6 = 0 from rfl] at hx262_5); (try rw [Addr.add_zero'] at hx262_5); replace hx262_0 := (HB.out.cell (World.block_lt_of_cell? w _ hx262_0)).trans hx262_0; replace hx262_1 := (HB.out.cell (World.block_lt_of_cell? w _ hx262_1)).trans hx262_1; replace hx262_2 := (HB.out.cell (World.block_lt_of_cell? w _ hx262_2)).trans hx262_2; replace hx262_3 := (HB.out.cell (World.block_lt_of_cell? w _ hx262_3)).trans hx262_3; replace hx262_4 := (HB.out.cell (World.block_lt_of_cell? w _ hx262_4)).trans hx262_4; replace hx262_5 := (HB.out.cell (World.block_lt_of_cell? w _ hx262_5)).trans hx262_5; have HR262_4 := Aside0.mk hi262_4; have HC262_4 := Aside0.mk hl262_4; clear hi262_4 hl262_4; have HR262_5 := Aside0.mk hi262_5; have HC262_5 := Aside0.mk hl262_5; clear hi262_5 hl262_5; replace p262 := eq_true p262; replace q262 := eq_true q262
             go_wp2_with (first | (go_at_call 34; (with_reducible refine (ih_orielref12_filter k6 (by have := HJ2.out; have := HJ9.out; have := HJ13.out; have := HJ15.out; have := HJ18.out; have := HK6.out; omega) ((rd_T51 l0_2 0).f0) ((rd_T51 l0_2 0).f1.f0) ((rd_T51 l0_2 0).f1.f1) ((rd_T51 l0_2 0).f2) _ _ ((rd_T51 l0_2 0).f3) _ _ ((rd_T51 l0_2 0).f4) (wrap64 (a1 - 1)) t263 _ ?side1 ?side2 ?side3 ?side4 A39.out).mono ?_); (case side1 => repeat (first | exact (Kd.C_below HR262_4.out HB.out) | (with_reducible refine Kd.C_alloc ?_ _) | (with_reducible refine Kd.C_drewN ?_ _) | (with_reducible refine Kd.C_drew ?_))); (case side2 => exact HC262_4.out); (case side3 => repeat (first | exact (Kd.C_below HR262_5.out HB.out) | (with_reducible refine Kd.C_alloc ?_ _) | (with_reducible refine Kd.C_drewN ?_ _) | (with_reducible refine Kd.C_drew ?_))); (case side4 => exact HC262_5.out); rintro e w41 ⟨rfl, hb⟩; have n0_ := Aside0.mk (blk_below (g := gb259) (o := .cells #[.int .i64 a0_0, .slice A0_1 l0_1.length c0_1, .slice (some ad262) l0_2.length c0_2] 25 (0, 0)) (bk_ BK259) hb); have n1_ := Aside0.mk (below_step (be1_ HB GE259) hb); clear BK259; clear HB; have BK259 := n0_; have HB := n1_; clear n0_ n1_; (try clear hb); (try clear hb2); (try clear hk); (try clear hi)))
             go_ret
             exact ⟨by first | rfl | exact congrArg (fun b => Ending.returned (Value.bool b)) (isE_ne _).symm | exact congrArg (fun b => Ending.returned (Value.bool b)) (isE_eq _).symm | (simp only [isE_ne, isE_eq, Bool.not_not]; done) | (simp [errW_none, errW_some] <;> rfl) | (simp [*, errW_none, errW_some] <;> rfl), be1_ HB GE259⟩
end Go.Proofs.Ytmbbjdkcanoklaa.X
