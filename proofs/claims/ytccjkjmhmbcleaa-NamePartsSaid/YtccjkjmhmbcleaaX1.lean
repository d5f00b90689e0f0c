/- Printed by a program of this session (xprint) out of the kit's print, with functions proved by hand. -/
import Derived.Test.YtccjkjmhmbcleaaX0
namespace Go.Proofs.Ytccjkjmhmbcleaa.X
open Go.RowKit Go.Proofs.YtccjkjmhmbcleaaW.PrintWords Go.Proofs.YtccjkjmhmbcleaaW.PrintLast Go.Proofs.YtccjkjmhmbcleaaW.PrintMore Go.Proofs.YtccjkjmhmbcleaaW.XConv
attribute [local go_sem] max2_int min2_int max_two min_two max_three min_three max_four min_four   -- for this text's walks alone
set_option linter.unusedVariables false
set_option linter.unusedSimpArgs false

/-! ### char_in: function 21 -/
def char_in.l0 : Nat → Int → List (S38) → Int → Int → Option (Bool)
  | 0, _, _, _, _ => none
  | k + 1, x0, x7, x8, x9 => if x9 < x8 then (if 0 ≤ x9 then (if x9 < (x7.length : Int) then (if x0 ≥ ((rd_T38 x7 x9).f0) then (if x0 ≤ ((rd_T38 x7 x9).f1) then (some true) else (char_in.l0 k x0 x7 x8 (wrap64 (x9 + 1)))) else (char_in.l0 k x0 x7 x8 (wrap64 (x9 + 1)))) else (none)) else (none)) else (some false)
def char_in.f (k : Nat) (a0 : Int) (l1 : List (S38)) : Option (Bool) := char_in.l0 k a0 l1 (l1.length : Int) 0
theorem char_in.mono_l : ∀ k, (∀ y0 y1 y2 y3, LeO (char_in.l0 k y0 y1 y2 y3) (char_in.l0 (k + 1) y0 y1 y2 y3))
  | 0 => fun _ _ _ _ r h => by simp [char_in.l0] at h
  | k + 1 => by
    have ih0 := char_in.mono_l k
    · intro y0 y1 y2 y3
      unfold char_in.l0
      repeat' first
      | (with_reducible exact ih0 _ _ _ _)
      | (with_reducible exact LeO.refl _)
      | (with_reducible exact LeO.none _)
      | (with_reducible refine LeO.ite ?_ ?_)
      | (with_reducible refine LeO.bind ?_ (fun _ => ?_))
      | exact ih0 _ _ _ _
      | exact LeO.none _
      | refine LeO.ite ?_ ?_
      | refine LeO.bind ?_ (fun _ => ?_)
theorem char_in.mono : ∀ a0 a1 k, LeO (char_in.f k a0 a1) (char_in.f (k + 1) a0 a1) := by
  intro a0 a1 k
  have ih0 := char_in.mono_l k
  unfold char_in.f
  repeat' first
      | (with_reducible exact ih0 _ _ _ _)
      | (with_reducible exact LeO.refl _)
      | (with_reducible exact LeO.none _)
      | (with_reducible refine LeO.ite ?_ ?_)
      | (with_reducible refine LeO.bind ?_ (fun _ => ?_))
      | exact ih0 _ _ _ _
      | exact LeO.none _
      | refine LeO.ite ?_ ?_
      | refine LeO.bind ?_ (fun _ => ?_)
set_option maxHeartbeats 8000000 in
set_option maxRecDepth 100000 in
theorem char_in.calls (k : Nat) (a0 : Int) (A1 : Option Addr) (c1 : Nat) (l1 : List (S38)) (r : Bool) (w : World) (hr1 : Kd.C k38 w A1 l1.length l1) (hc1 : l1.length ≤ c1) (h : char_in.f k a0 l1 = some r) :
    Calls Try.prog 21 #[.int .i32 a0, .slice A1 l1.length c1] w fun e w' => e = .returned (.bool r) ∧ Below w.heap.size w w' := by
  have hu38 := Try.underlying38
  have HR1 := Aside0.mk hr1
  have HC1 := Aside0.mk hc1
  clear hr1 hc1
  have HB := Aside0.mk (Below.refl w.heap.size w)
  have H : (char_in.l0 k a0 l1 (l1.length : Int) 0) = some r := h
  clear h
  have H' := Aside0.mk H
  clear H
  go_enter Try.func21, Try.ntmps21
  go_wp2
  go_loopg [9] k (fun kq v9 w' => ∃ (x9_1 : Int), v9 = .int .i64 x9_1 ∧ Aside0 (char_in.l0 kq a0 l1 (l1.length : Int) x9_1 = some r) ∧ Aside0 (kq ≤ k) ∧ Aside0 (Below w.heap.size w w'))
  case atStart => exact ⟨(0), (by first | rfl | (simp; done) | (simp [*]; done)), H', ⟨Nat.le_refl _⟩, ⟨by repeat (first | (with_reducible first | exact HB.out | apply below_alloc | apply pw_below_drewN | apply below_drew1) | exact HB.out)⟩⟩
  case round =>
    clear H'
    try clear c1
    try clear c2
    try clear p2
    obtain ⟨x9_1, rfl, HA, HK1, HB⟩ := hrel
    cases gk with
    | zero => exact absurd HA.out (by simp [char_in.l0])
    | succ k1 =>
      have H := HA.out
      clear HA
      simp only [char_in.l0] at H
      by_cases c3 : x9_1 < (l1.length : Int)
      · rw [if_pos c3] at H
        have c3b0 : decide (x9_1 < (l1.length : Int)) = true := decide_eq_true c3
        clear c3
        by_cases c4 : 0 ≤ x9_1
        · rw [if_pos c4] at H
          have c4b0 : decide (0 ≤ x9_1) = true := decide_eq_true c4
          clear c4
          by_cases c5 : x9_1 < (l1.length : Int)
          · rw [if_pos c5] at H
            have c5b0 : decide (x9_1 < (l1.length : Int)) = true := decide_eq_true c5
            clear c5
            by_cases c6 : a0 ≥ ((rd_T38 l1 x9_1).f0)
            · rw [if_pos c6] at H
              have c6b0 : decide (((rd_T38 l1 x9_1).f0) ≤ a0) = true := decide_eq_true c6
              clear c6
              by_cases c7 : a0 ≤ ((rd_T38 l1 x9_1).f1)
              · rw [if_pos c7] at H
                have c7b0 : decide (a0 ≤ ((rd_T38 l1 x9_1).f1)) = true := decide_eq_true c7
                clear c7
                obtain rfl := Option.some.inj H
                have p101 : 0 ≤ (x9_1 : Int) := of_decide_eq_true (by first | (with_reducible assumption) | assumption)
                have q101 : x9_1 < (l1.length : Int) := of_decide_eq_true (by first | (with_reducible assumption) | assumption)
                obtain ⟨ad101, e101, hx101_0, hx101_1⟩ := at_T38 HR1.out x9_1 p101 q101
                cases e101
                replace hx101_0 := (HB.out.cell (World.block_lt_of_cell? w _ hx101_0)).trans hx101_0
                replace hx101_1 := (HB.out.cell (World.block_lt_of_cell? w _ hx101_1)).trans hx101_1
                replace p101 := eq_true p101
                replace q101 := eq_true q101
                go_wp2_with (first | ((with_reducible refine gate_dst (N := 6) rfl ?_); refine box_event ?hg (N := 6) ?hd (cs := #[.int .i32 0, .int .i32 0]) (t := 38) ?hr ?_; (case hd => rfl); (case hg => rfl); (case hr => first | (go_simp; done) | (go_simp; rfl)); intro gb102 hg w8 hbox hb; have n0_ := Aside0.mk (below_step (by repeat (first | (with_reducible first | exact HB.out | apply below_alloc | apply pw_below_drewN | apply below_drew1) | exact HB.out)) hb); have n1_ := Aside0.mk (hbox); have n2_ := Aside0.mk ((by rw [hg]; exact (below_size (by repeat (first | (with_reducible first | exact HB.out | apply below_alloc | apply pw_below_drewN | apply below_drew1) | exact HB.out))) : w.heap.size ≤ gb102)); have n3_ := Aside0.mk ((by rw [hg]; exact (below_size (by repeat (first | (with_reducible first | exact HB.out | apply below_alloc | apply pw_below_drewN | apply below_drew1) | exact HB.out))) : w.heap.size ≤ gb102)); clear HB; have HB := n0_; have BK102 := n1_; have GW102 := n2_; have GE102 := n3_; clear n0_ n1_ n2_ n3_; clear hb hbox hg; have hcz9_0 : w8.cell? ⟨gb102, 0, none⟩ = some (.int .i32 0) := (blk_cell BK102.out 0).trans rfl; have hcz9_1 : w8.cell? ⟨gb102, 1, none⟩ = some (.int .i32 0) := (blk_cell BK102.out 1).trans rfl; have hfz9_0 := blk_frozen BK102.out 0; have hfz9_1 := blk_frozen BK102.out 1))
                go_ret
                exact ⟨by first | rfl | (simp [errW_none, errW_some] <;> rfl) | (simp [*, errW_none, errW_some] <;> rfl), by repeat (first | (with_reducible first | exact HB.out | apply below_alloc | apply pw_below_drewN | apply below_drew1 | refine below_set ?_ GE102.out) | exact HB.out)⟩
              · rw [if_neg c7] at H
                have c7b0 : decide (a0 ≤ ((rd_T38 l1 x9_1).f1)) = false := decide_eq_false c7
                clear c7
                have H' := Aside0.mk H
                clear H
                have p101 : 0 ≤ (x9_1 : Int) := of_decide_eq_true (by first | (with_reducible assumption) | assumption)
                have q101 : x9_1 < (l1.length : Int) := of_decide_eq_true (by first | (with_reducible assumption) | assumption)
                obtain ⟨ad101, e101, hx101_0, hx101_1⟩ := at_T38 HR1.out x9_1 p101 q101
                cases e101
                replace hx101_0 := (HB.out.cell (World.block_lt_of_cell? w _ hx101_0)).trans hx101_0
                replace hx101_1 := (HB.out.cell (World.block_lt_of_cell? w _ hx101_1)).trans hx101_1
                replace p101 := eq_true p101
                replace q101 := eq_true q101
                go_wp2_with (first | ((with_reducible refine gate_dst (N := 6) rfl ?_); refine box_event ?hg (N := 6) ?hd (cs := #[.int .i32 0, .int .i32 0]) (t := 38) ?hr ?_; (case hd => rfl); (case hg => rfl); (case hr => first | (go_simp; done) | (go_simp; rfl)); intro gb102 hg w10 hbox hb; have n0_ := Aside0.mk (below_step (by repeat (first | (with_reducible first | exact HB.out | apply below_alloc | apply pw_below_drewN | apply below_drew1) | exact HB.out)) hb); have n1_ := Aside0.mk (hbox); have n2_ := Aside0.mk ((by rw [hg]; exact (below_size (by repeat (first | (with_reducible first | exact HB.out | apply below_alloc | apply pw_below_drewN | apply below_drew1) | exact HB.out))) : w.heap.size ≤ gb102)); have n3_ := Aside0.mk ((by rw [hg]; exact (below_size (by repeat (first | (with_reducible first | exact HB.out | apply below_alloc | apply pw_below_drewN | apply below_drew1) | exact HB.out))) : w.heap.size ≤ gb102)); clear HB; have HB := n0_; have BK102 := n1_; have GW102 := n2_; have GE102 := n3_; clear n0_ n1_ n2_ n3_; clear hb hbox hg; have hcz11_0 : w10.cell? ⟨gb102, 0, none⟩ = some (.int .i32 0) := (blk_cell BK102.out 0).trans rfl; have hcz11_1 : w10.cell? ⟨gb102, 1, none⟩ = some (.int .i32 0) := (blk_cell BK102.out 1).trans rfl; have hfz11_0 := blk_frozen BK102.out 0; have hfz11_1 := blk_frozen BK102.out 1))
                go_roundg k1
                case measure => have := HK1.out; omega
                case rel => exact ⟨(wrap64 (x9_1 + 1)), (by first | rfl | (simp; done) | (simp [*]; done)), H', ⟨by have := HK1.out; omega⟩, ⟨by repeat (first | (with_reducible first | exact HB.out | apply below_alloc | apply pw_below_drewN | apply below_drew1 | refine below_set ?_ GE102.out) | exact HB.out)⟩⟩
            · rw [if_neg c6] at H
              have c6b0 : decide (((rd_T38 l1 x9_1).f0) ≤ a0) = false := decide_eq_false c6
              clear c6
              have H' := Aside0.mk H
              clear H
              have p101 : 0 ≤ (x9_1 : Int) := of_decide_eq_true (by first | (with_reducible assumption) | assumption)
              have q101 : x9_1 < (l1.length : Int) := of_decide_eq_true (by first | (with_reducible assumption) | assumption)
              obtain ⟨ad101, e101, hx101_0, hx101_1⟩ := at_T38 HR1.out x9_1 p101 q101
              cases e101
              replace hx101_0 := (HB.out.cell (World.block_lt_of_cell? w _ hx101_0)).trans hx101_0
              replace hx101_1 := (HB.out.cell (World.block_lt_of_cell? w _ hx101_1)).trans hx101_1
              replace p101 := eq_true p101
              replace q101 := eq_true q101
              go_wp2_with (first | ((with_reducible refine gate_dst (N := 6) rfl ?_); refine box_event ?hg (N := 6) ?hd (cs := #[.int .i32 0, .int .i32 0]) (t := 38) ?hr ?_; (case hd => rfl); (case hg => rfl); (case hr => first | (go_simp; done) | (go_simp; rfl)); intro gb102 hg w12 hbox hb; have n0_ := Aside0.mk (below_step (by repeat (first | (with_reducible first | exact HB.out | apply below_alloc | apply pw_below_drewN | apply below_drew1) | exact HB.out)) hb); have n1_ := Aside0.mk (hbox); have n2_ := Aside0.mk ((by rw [hg]; exact (below_size (by repeat (first | (with_reducible first | exact HB.out | apply below_alloc | apply pw_below_drewN | apply below_drew1) | exact HB.out))) : w.heap.size ≤ gb102)); have n3_ := Aside0.mk ((by rw [hg]; exact (below_size (by repeat (first | (with_reducible first | exact HB.out | apply below_alloc | apply pw_below_drewN | apply below_drew1) | exact HB.out))) : w.heap.size ≤ gb102)); clear HB; have HB := n0_; have BK102 := n1_; have GW102 := n2_; have GE102 := n3_; clear n0_ n1_ n2_ n3_; clear hb hbox hg; have hcz13_0 : w12.cell? ⟨gb102, 0, none⟩ = some (.int .i32 0) := (blk_cell BK102.out 0).trans rfl; have hcz13_1 : w12.cell? ⟨gb102, 1, none⟩ = some (.int .i32 0) := (blk_cell BK102.out 1).trans rfl; have hfz13_0 := blk_frozen BK102.out 0; have hfz13_1 := blk_frozen BK102.out 1))
              go_roundg k1
              case measure => have := HK1.out; omega
              case rel => exact ⟨(wrap64 (x9_1 + 1)), (by first | rfl | (simp; done) | (simp [*]; done)), H', ⟨by have := HK1.out; omega⟩, ⟨by repeat (first | (with_reducible first | exact HB.out | apply below_alloc | apply pw_below_drewN | apply below_drew1 | refine below_set ?_ GE102.out) | exact HB.out)⟩⟩
          · rw [if_neg c5] at H
            exact absurd H (by simp)
        · rw [if_neg c4] at H
          exact absurd H (by simp)
      · rw [if_neg c3] at H
        have c3b0 : decide (x9_1 < (l1.length : Int)) = false := decide_eq_false c3
        clear c3
        obtain rfl := Option.some.inj H
        go_wp2
        go_ret
        exact ⟨by first | rfl | (simp [errW_none, errW_some] <;> rfl) | (simp [*, errW_none, errW_some] <;> rfl), by repeat (first | (with_reducible first | exact HB.out | apply below_alloc | apply pw_below_drewN | apply below_drew1) | exact HB.out)⟩

/-! ### char_Start: function 16 -/
def char_Start.f (k : Nat) (a0 : Int) : Option (Bool) := (char_in.f k a0 (([(⟨65, 90⟩ : S38), (⟨97, 122⟩ : S38), (⟨95, 95⟩ : S38), (⟨192, 214⟩ : S38), (⟨216, 246⟩ : S38), (⟨248, 767⟩ : S38), (⟨880, 893⟩ : S38), (⟨895, 8191⟩ : S38), (⟨8204, 8205⟩ : S38), (⟨8304, 8591⟩ : S38), (⟨11264, 12271⟩ : S38), (⟨12289, 55295⟩ : S38), (⟨63744, 64975⟩ : S38), (⟨65008, 65533⟩ : S38), (⟨65536, 983039⟩ : S38)] : List (S38)))).bind fun t106 => (some t106)
theorem char_Start.mono : ∀ a0 k, LeO (char_Start.f k a0) (char_Start.f (k + 1) a0) := by
  intro a0 k
  unfold char_Start.f
  repeat' first
      | (with_reducible exact char_in.mono _ _ _)
      | (with_reducible exact LeO.refl _)
      | (with_reducible exact LeO.none _)
      | (with_reducible refine LeO.ite ?_ ?_)
      | (with_reducible refine LeO.bind ?_ (fun _ => ?_))
      | exact char_in.mono _ _ _
      | exact LeO.none _
      | refine LeO.ite ?_ ?_
      | refine LeO.bind ?_ (fun _ => ?_)
set_option maxHeartbeats 8000000 in
set_option maxRecDepth 100000 in
theorem char_Start.calls (k : Nat) (a0 : Int) (r : Bool) (w : World) (h : char_Start.f k a0 = some r) :
    Calls Try.prog 16 #[.int .i32 a0] w fun e w' => e = .returned (.bool r) ∧ Below w.heap.size w w' := by
  have hu38 := Try.underlying38
  have HB := Aside0.mk (Below.refl w.heap.size w)
  have H : ((char_in.f k a0 (([(⟨65, 90⟩ : S38), (⟨97, 122⟩ : S38), (⟨95, 95⟩ : S38), (⟨192, 214⟩ : S38), (⟨216, 246⟩ : S38), (⟨248, 767⟩ : S38), (⟨880, 893⟩ : S38), (⟨895, 8191⟩ : S38), (⟨8204, 8205⟩ : S38), (⟨8304, 8591⟩ : S38), (⟨11264, 12271⟩ : S38), (⟨12289, 55295⟩ : S38), (⟨63744, 64975⟩ : S38), (⟨65008, 65533⟩ : S38), (⟨65536, 983039⟩ : S38)] : List (S38)))).bind fun t106 => (some t106)) = some r := h
  clear h
  obtain ⟨y103, hy103⟩ : ∃ y_ : List (S38), y_ = (([(⟨65, 90⟩ : S38), (⟨97, 122⟩ : S38), (⟨95, 95⟩ : S38), (⟨192, 214⟩ : S38), (⟨216, 246⟩ : S38), (⟨248, 767⟩ : S38), (⟨880, 893⟩ : S38), (⟨895, 8191⟩ : S38), (⟨8204, 8205⟩ : S38), (⟨8304, 8591⟩ : S38), (⟨11264, 12271⟩ : S38), (⟨12289, 55295⟩ : S38), (⟨63744, 64975⟩ : S38), (⟨65008, 65533⟩ : S38), (⟨65536, 983039⟩ : S38)] : List (S38))) := ⟨_, rfl⟩
  replace H : ((char_in.f k a0 y103).bind fun t106 => (some t106)) = some r := by first | (rw [hy103]; with_reducible exact H) | (have H2_ := (Option.bind_some _ _).symm.trans H; rw [hy103]; with_reducible exact H2_) | (have H2_ := (Option.bind_some _ _).symm.trans H; with_reducible exact H2_) | with_reducible exact H | (rw [hy103]; exact H) | exact H
  have Ny103 := Aside0.mk hy103
  clear hy103
  replace H := Option.bind_eq_some_iff.mp H
  obtain ⟨t106, A20, H⟩ := H
  replace H : (some t106) = some r := H
  have A2 := Aside0.mk A20
  clear A20
  obtain rfl := Option.some.inj H
  go_enter Try.func16, Try.ntmps16
  go_wp2_with (first | ((with_reducible refine gate_dst (N := 19) rfl ?_); refine Kd.R_lit k38 _ 38 ?hg (N := 19) ?hd (xs := ([(⟨65, 90⟩ : S38), (⟨97, 122⟩ : S38), (⟨95, 95⟩ : S38), (⟨192, 214⟩ : S38), (⟨216, 246⟩ : S38), (⟨248, 767⟩ : S38), (⟨880, 893⟩ : S38), (⟨895, 8191⟩ : S38), (⟨8204, 8205⟩ : S38), (⟨8304, 8591⟩ : S38), (⟨11264, 12271⟩ : S38), (⟨12289, 55295⟩ : S38), (⟨63744, 64975⟩ : S38), (⟨65008, 65533⟩ : S38), (⟨65536, 983039⟩ : S38)] : List (S38))) (inner := [.int .i32 65, .int .i32 90, .int .i32 97, .int .i32 122, .int .i32 95, .int .i32 95, .int .i32 192, .int .i32 214, .int .i32 216, .int .i32 246, .int .i32 248, .int .i32 767, .int .i32 880, .int .i32 893, .int .i32 895, .int .i32 8191, .int .i32 8204, .int .i32 8205, .int .i32 8304, .int .i32 8591, .int .i32 11264, .int .i32 12271, .int .i32 12289, .int .i32 55295, .int .i32 63744, .int .i32 64975, .int .i32 65008, .int .i32 65533, .int .i32 65536, .int .i32 983039]) (ok := fun _ => True) (okp := fun _ => True) ?hr ?hp (fun _ hk => hk) trivial (Below.refl _ _) (Nat.le_refl _) (by simp) ?_; (case hd => rfl); (case hg => rfl); (case hr => first | (go_simp; done) | (go_simp; rfl)); (case hp => exact (Reps.c2 (show Kd.M k38 _ _ _ (⟨65, 90⟩ : S38) [.int .i32 65, .int .i32 90] from (k38_mkM _ _ _ (⟨65, 90⟩ : S38) )) (Reps.c2 (show Kd.M k38 _ _ _ (⟨97, 122⟩ : S38) [.int .i32 97, .int .i32 122] from (k38_mkM _ _ _ (⟨97, 122⟩ : S38) )) (Reps.c2 (show Kd.M k38 _ _ _ (⟨95, 95⟩ : S38) [.int .i32 95, .int .i32 95] from (k38_mkM _ _ _ (⟨95, 95⟩ : S38) )) (Reps.c2 (show Kd.M k38 _ _ _ (⟨192, 214⟩ : S38) [.int .i32 192, .int .i32 214] from (k38_mkM _ _ _ (⟨192, 214⟩ : S38) )) (Reps.c2 (show Kd.M k38 _ _ _ (⟨216, 246⟩ : S38) [.int .i32 216, .int .i32 246] from (k38_mkM _ _ _ (⟨216, 246⟩ : S38) )) (Reps.c2 (show Kd.M k38 _ _ _ (⟨248, 767⟩ : S38) [.int .i32 248, .int .i32 767] from (k38_mkM _ _ _ (⟨248, 767⟩ : S38) )) (Reps.c2 (show Kd.M k38 _ _ _ (⟨880, 893⟩ : S38) [.int .i32 880, .int .i32 893] from (k38_mkM _ _ _ (⟨880, 893⟩ : S38) )) (Reps.c2 (show Kd.M k38 _ _ _ (⟨895, 8191⟩ : S38) [.int .i32 895, .int .i32 8191] from (k38_mkM _ _ _ (⟨895, 8191⟩ : S38) )) (Reps.c2 (show Kd.M k38 _ _ _ (⟨8204, 8205⟩ : S38) [.int .i32 8204, .int .i32 8205] from (k38_mkM _ _ _ (⟨8204, 8205⟩ : S38) )) (Reps.c2 (show Kd.M k38 _ _ _ (⟨8304, 8591⟩ : S38) [.int .i32 8304, .int .i32 8591] from (k38_mkM _ _ _ (⟨8304, 8591⟩ : S38) )) (Reps.c2 (show Kd.M k38 _ _ _ (⟨11264, 12271⟩ : S38) [.int .i32 11264, .int .i32 12271] from (k38_mkM _ _ _ (⟨11264, 12271⟩ : S38) )) (Reps.c2 (show Kd.M k38 _ _ _ (⟨12289, 55295⟩ : S38) [.int .i32 12289, .int .i32 55295] from (k38_mkM _ _ _ (⟨12289, 55295⟩ : S38) )) (Reps.c2 (show Kd.M k38 _ _ _ (⟨63744, 64975⟩ : S38) [.int .i32 63744, .int .i32 64975] from (k38_mkM _ _ _ (⟨63744, 64975⟩ : S38) )) (Reps.c2 (show Kd.M k38 _ _ _ (⟨65008, 65533⟩ : S38) [.int .i32 65008, .int .i32 65533] from (k38_mkM _ _ _ (⟨65008, 65533⟩ : S38) )) (Reps.c2 (show Kd.M k38 _ _ _ (⟨65536, 983039⟩ : S38) [.int .i32 65536, .int .i32 983039] from (k38_mkM _ _ _ (⟨65536, 983039⟩ : S38) )) (Reps.none _ _))))))))))))))))); intro v104 w3 ho4 hb hg_ hnew_; clear hg_ hnew_; (first | rw [← Ny103.out] at ho4 | (simp only [Int.reduceToNat] at ho4; rw [← Ny103.out] at ho4)); have n0_ := Aside0.mk (Kd.R_lower ho4 (below_size (by repeat (first | (with_reducible first | exact HB.out | apply below_alloc | apply pw_below_drewN | apply below_drew1) | exact HB.out)))); have n1_ := Aside0.mk (below_step (by repeat (first | (with_reducible first | exact HB.out | apply below_alloc | apply pw_below_drewN | apply below_drew1) | exact HB.out)) hb); clear HB; have HO105 := n0_; have HB := n1_; clear n0_ n1_; clear hb ho4; obtain ⟨Ao5, co5, eo5⟩ := Kd.R_slice HO105.out; subst eo5) | ((with_reducible refine gate_callee (f := 21) rfl ?_); refine goesL_ (some 20) rfl rfl Try.func21 (by kernel_rfl) rfl #[.int .i32 a0, .slice Ao5 y103.length co5] rfl (by (try simp only [List.map_toArray, List.map_cons, List.map_nil]); first | done | rfl | (simp only [List.length_drop, List.length_take]; rfl)) ?_; (with_reducible refine (char_in.calls k a0 _ _ y103 t106 _ ?side1 ?side2 A2.out).mono ?_); (case side1 => repeat (first | exact (Kd.R_reads' HO105.out).2.2 | (with_reducible refine Kd.C_alloc ?_ _) | (with_reducible refine Kd.C_drewN ?_ _) | (with_reducible refine Kd.C_drew ?_))); (case side2 => exact (Kd.R_reads' HO105.out).2.1); rintro e w6 ⟨rfl, hb⟩; refine ⟨_, rfl, ?_⟩; have n0_ := Aside0.mk (Kd.R_below (by (with_reducible repeat (first | apply Kd.R_alloc | apply Kd.R_drewN | apply Kd.R_drew)); exact HO105.out) hb); have n1_ := Aside0.mk (below_step (by repeat (first | (with_reducible first | exact HB.out | apply below_alloc | apply pw_below_drewN | apply below_drew1) | exact HB.out)) hb); clear HO105; clear HB; have HO105 := n0_; have HB := n1_; clear n0_ n1_; (try clear hb); (try clear hb2); (try clear hk); (try clear hi)))
  go_ret
  exact ⟨by first | rfl | (simp [errW_none, errW_some] <;> rfl) | (simp [*, errW_none, errW_some] <;> rfl), by repeat (first | (with_reducible first | exact HB.out | apply below_alloc | apply pw_below_drewN | apply below_drew1) | exact HB.out)⟩

/-! ### char_Part: function 17 -/
def char_Part.f (k : Nat) (a0 : Int) : Option (Bool) := (char_Start.f k a0).bind fun t107 => (if t107 = true then (some true) else ((char_in.f k a0 (([(⟨45, 46⟩ : S38), (⟨48, 57⟩ : S38), (⟨183, 183⟩ : S38), (⟨768, 879⟩ : S38), (⟨8255, 8256⟩ : S38)] : List (S38)))).bind fun t111 => (some t111)))
theorem char_Part.mono : ∀ a0 k, LeO (char_Part.f k a0) (char_Part.f (k + 1) a0) := by
  intro a0 k
  unfold char_Part.f
  repeat' first
      | (with_reducible exact char_Start.mono _ _)
      | (with_reducible exact char_in.mono _ _ _)
      | (with_reducible exact LeO.refl _)
      | (with_reducible exact LeO.none _)
      | (with_reducible refine LeO.ite ?_ ?_)
      | (with_reducible refine LeO.bind ?_ (fun _ => ?_))
      | exact char_Start.mono _ _
      | exact char_in.mono _ _ _
      | exact LeO.none _
      | refine LeO.ite ?_ ?_
      | refine LeO.bind ?_ (fun _ => ?_)
set_option maxHeartbeats 8000000 in
set_option maxRecDepth 100000 in
theorem char_Part.calls (k : Nat) (a0 : Int) (r : Bool) (w : World) (h : char_Part.f k a0 = some r) :
    Calls Try.prog 17 #[.int .i32 a0] w fun e w' => e = .returned (.bool r) ∧ Below w.heap.size w w' := by
  have hu38 := Try.underlying38
  have HB := Aside0.mk (Below.refl w.heap.size w)
  have H : ((char_Start.f k a0).bind fun t107 => (if t107 = true then (some true) else ((char_in.f k a0 (([(⟨45, 46⟩ : S38), (⟨48, 57⟩ : S38), (⟨183, 183⟩ : S38), (⟨768, 879⟩ : S38), (⟨8255, 8256⟩ : S38)] : List (S38)))).bind fun t111 => (some t111)))) = some r := h
  clear h
  replace H := Option.bind_eq_some_iff.mp H
  obtain ⟨t107, A20, H⟩ := H
  replace H : (if t107 = true then (some true) else ((char_in.f k a0 (([(⟨45, 46⟩ : S38), (⟨48, 57⟩ : S38), (⟨183, 183⟩ : S38), (⟨768, 879⟩ : S38), (⟨8255, 8256⟩ : S38)] : List (S38)))).bind fun t111 => (some t111))) = some r := H
  have A2 := Aside0.mk A20
  clear A20
  by_cases c3 : t107 = true
  · subst c3
    have H1 : (some true) = some r := by rw [if_pos rfl] at H; exact H
    clear H
    have H := H1
    clear H1
    obtain rfl := Option.some.inj H
    go_enter Try.func17, Try.ntmps17
    go_wp2_with (first | ((with_reducible refine gate_callee (f := 16) rfl ?_); refine goesL_ (some 4) rfl rfl Try.func16 (by kernel_rfl) rfl #[.int .i32 a0] rfl (by (try simp only [List.map_toArray, List.map_cons, List.map_nil]); first | done | rfl | (simp only [List.length_drop, List.length_take]; rfl)) ?_; (with_reducible refine (char_Start.calls k a0 true _ A2.out).mono ?_); rintro e w4 ⟨rfl, hb⟩; refine ⟨_, rfl, ?_⟩; have n0_ := Aside0.mk (below_step (by repeat (first | (with_reducible first | exact HB.out | apply below_alloc | apply pw_below_drewN | apply below_drew1) | exact HB.out)) hb); clear HB; have HB := n0_; clear n0_; (try clear hb); (try clear hb2); (try clear hk); (try clear hi)))
    go_ret
    exact ⟨by first | rfl | (simp [errW_none, errW_some] <;> rfl) | (simp [*, errW_none, errW_some] <;> rfl), by repeat (first | (with_reducible first | exact HB.out | apply below_alloc | apply pw_below_drewN | apply below_drew1) | exact HB.out)⟩
  · replace c3 := Bool.eq_false_iff.mpr c3
    subst c3
    have H1 : ((char_in.f k a0 (([(⟨45, 46⟩ : S38), (⟨48, 57⟩ : S38), (⟨183, 183⟩ : S38), (⟨768, 879⟩ : S38), (⟨8255, 8256⟩ : S38)] : List (S38)))).bind fun t111 => (some t111)) = some r := by rw [if_neg (show ¬ (false = true) by decide)] at H; exact H
    clear H
    have H := H1
    clear H1
    obtain ⟨y108, hy108⟩ : ∃ y_ : List (S38), y_ = (([(⟨45, 46⟩ : S38), (⟨48, 57⟩ : S38), (⟨183, 183⟩ : S38), (⟨768, 879⟩ : S38), (⟨8255, 8256⟩ : S38)] : List (S38))) := ⟨_, rfl⟩
    replace H : ((char_in.f k a0 y108).bind fun t111 => (some t111)) = some r := by first | (rw [hy108]; with_reducible exact H) | (have H2_ := (Option.bind_some _ _).symm.trans H; rw [hy108]; with_reducible exact H2_) | (have H2_ := (Option.bind_some _ _).symm.trans H; with_reducible exact H2_) | with_reducible exact H | (rw [hy108]; exact H) | exact H
    have Ny108 := Aside0.mk hy108
    clear hy108
    replace H := Option.bind_eq_some_iff.mp H
    obtain ⟨t111, A50, H⟩ := H
    replace H : (some t111) = some r := H
    have A5 := Aside0.mk A50
    clear A50
    obtain rfl := Option.some.inj H
    go_enter Try.func17, Try.ntmps17
    go_wp2_with (first | ((with_reducible refine gate_callee (f := 16) rfl ?_); refine goesL_ (some 4) rfl rfl Try.func16 (by kernel_rfl) rfl #[.int .i32 a0] rfl (by (try simp only [List.map_toArray, List.map_cons, List.map_nil]); first | done | rfl | (simp only [List.length_drop, List.length_take]; rfl)) ?_; (with_reducible refine (char_Start.calls k a0 false _ A2.out).mono ?_); rintro e w6 ⟨rfl, hb⟩; refine ⟨_, rfl, ?_⟩; have n0_ := Aside0.mk (below_step (by repeat (first | (with_reducible first | exact HB.out | apply below_alloc | apply pw_below_drewN | apply below_drew1) | exact HB.out)) hb); clear HB; have HB := n0_; clear n0_; (try clear hb); (try clear hb2); (try clear hk); (try clear hi)) | ((with_reducible refine gate_dst (N := 12) rfl ?_); (try (refine gate_guard (by rfl) ?_; dsimp only)); refine Kd.R_lit k38 _ 38 ?hg (N := 12) ?hd (xs := ([(⟨45, 46⟩ : S38), (⟨48, 57⟩ : S38), (⟨183, 183⟩ : S38), (⟨768, 879⟩ : S38), (⟨8255, 8256⟩ : S38)] : List (S38))) (inner := [.int .i32 45, .int .i32 46, .int .i32 48, .int .i32 57, .int .i32 183, .int .i32 183, .int .i32 768, .int .i32 879, .int .i32 8255, .int .i32 8256]) (ok := fun _ => True) (okp := fun _ => True) ?hr ?hp (fun _ hk => hk) trivial (Below.refl _ _) (Nat.le_refl _) (by simp) ?_; (case hd => rfl); (case hg => rfl); (case hr => first | (go_simp; done) | (go_simp; rfl)); (case hp => exact (Reps.c2 (show Kd.M k38 _ _ _ (⟨45, 46⟩ : S38) [.int .i32 45, .int .i32 46] from (k38_mkM _ _ _ (⟨45, 46⟩ : S38) )) (Reps.c2 (show Kd.M k38 _ _ _ (⟨48, 57⟩ : S38) [.int .i32 48, .int .i32 57] from (k38_mkM _ _ _ (⟨48, 57⟩ : S38) )) (Reps.c2 (show Kd.M k38 _ _ _ (⟨183, 183⟩ : S38) [.int .i32 183, .int .i32 183] from (k38_mkM _ _ _ (⟨183, 183⟩ : S38) )) (Reps.c2 (show Kd.M k38 _ _ _ (⟨768, 879⟩ : S38) [.int .i32 768, .int .i32 879] from (k38_mkM _ _ _ (⟨768, 879⟩ : S38) )) (Reps.c2 (show Kd.M k38 _ _ _ (⟨8255, 8256⟩ : S38) [.int .i32 8255, .int .i32 8256] from (k38_mkM _ _ _ (⟨8255, 8256⟩ : S38) )) (Reps.none _ _))))))); intro v109 w7 ho8 hb hg_ hnew_; clear hg_ hnew_; (first | rw [← Ny108.out] at ho8 | (simp only [Int.reduceToNat] at ho8; rw [← Ny108.out] at ho8)); have n0_ := Aside0.mk (Kd.R_lower ho8 (below_size (by repeat (first | (with_reducible first | exact HB.out | apply below_alloc | apply pw_below_drewN | apply below_drew1) | exact HB.out)))); have n1_ := Aside0.mk (below_step (by repeat (first | (with_reducible first | exact HB.out | apply below_alloc | apply pw_below_drewN | apply below_drew1) | exact HB.out)) hb); clear HB; have HO110 := n0_; have HB := n1_; clear n0_ n1_; clear hb ho8; obtain ⟨Ao9, co9, eo9⟩ := Kd.R_slice HO110.out; subst eo9) | (go_at_call 21; (with_reducible refine (char_in.calls k a0 _ _ y108 t111 _ ?side1 ?side2 A5.out).mono ?_); (case side1 => repeat (first | exact (Kd.R_reads' HO110.out).2.2 | (with_reducible refine Kd.C_alloc ?_ _) | (with_reducible refine Kd.C_drewN ?_ _) | (with_reducible refine Kd.C_drew ?_))); (case side2 => exact (Kd.R_reads' HO110.out).2.1); rintro e w10 ⟨rfl, hb⟩; have n0_ := Aside0.mk (Kd.R_below (by (with_reducible repeat (first | apply Kd.R_alloc | apply Kd.R_drewN | apply Kd.R_drew)); exact HO110.out) hb); have n1_ := Aside0.mk (below_step (by repeat (first | (with_reducible first | exact HB.out | apply below_alloc | apply pw_below_drewN | apply below_drew1) | exact HB.out)) hb); clear HO110; clear HB; have HO110 := n0_; have HB := n1_; clear n0_ n1_; (try clear hb); (try clear hb2); (try clear hk); (try clear hi)))
    go_ret
    exact ⟨by first | rfl | (simp [errW_none, errW_some] <;> rfl) | (simp [*, errW_none, errW_some] <;> rfl), by repeat (first | (with_reducible first | exact HB.out | apply below_alloc | apply pw_below_drewN | apply below_drew1) | exact HB.out)⟩

/-! ### name_Plain: function 10 -/
def name_Plain.l0 : Nat → ByteArray → Nat → Option Bool
  | 0, _, _ => none
  | k + 1, s, p => if p < s.size then (if p = 0 then ((char_Start.f k ((Utf8.decode s p).1 : Int)).bind fun a => (if a = true then ((char_Part.f k ((Utf8.decode s p).1 : Int)).bind fun b => (if b = true then (name_Plain.l0 k s (p + (Utf8.decode s p).2)) else (some false))) else (some false))) else ((char_Part.f k ((Utf8.decode s p).1 : Int)).bind fun b => (if b = true then (name_Plain.l0 k s (p + (Utf8.decode s p).2)) else (some false)))) else (some (!(decide (s.size = 0))))
def name_Plain.f (k : Nat) (a0 : ByteArray) : Option (Bool) := name_Plain.l0 k a0 0
theorem name_Plain.mono_l : ∀ k, (∀ y0 y1, LeO (name_Plain.l0 k y0 y1) (name_Plain.l0 (k + 1) y0 y1))
  | 0 => fun _ _ r h => by simp [name_Plain.l0] at h
  | k + 1 => by
    have ih0 := name_Plain.mono_l k
    intro y0 y1
    unfold name_Plain.l0
    repeat' first
      | (with_reducible exact ih0 _ _)
      | (with_reducible exact char_Part.mono _ _)
      | (with_reducible exact char_Start.mono _ _)
      | (with_reducible exact LeO.refl _)
      | (with_reducible exact LeO.none _)
      | (with_reducible refine LeO.ite ?_ ?_)
      | (with_reducible refine LeO.bind ?_ (fun _ => ?_))
theorem name_Plain.mono : ∀ a0 k, LeO (name_Plain.f k a0) (name_Plain.f (k + 1) a0) := fun a0 k => name_Plain.mono_l k a0 0
set_option maxHeartbeats 8000000 in
set_option maxRecDepth 100000 in
theorem name_Plain.calls (k : Nat) (a0 : ByteArray) (r : Bool) (w : World) (h : name_Plain.f k a0 = some r) :
    Calls Try.prog 10 #[.string a0] w fun e w' => e = .returned (.bool r) ∧ Below w.heap.size w w' := by
  have H : name_Plain.l0 k a0 0 = some r := h
  clear h
  have H' := Aside0.mk H
  clear H
  go_enter Try.func10, Try.ntmps10
  go_wp2
  go_loopg [] k (fun kq w' => ∃ (p : Nat), w'.heap[w.heap.size]? = some (.stringIter a0 p) ∧ Aside0 (name_Plain.l0 kq a0 p = some r) ∧ Aside0 (kq ≤ k) ∧ Aside0 (Below w.heap.size w w'))
  case atStart => exact ⟨0, World.iter_heap _ _ _, H', ⟨Nat.le_refl _⟩, ⟨below_alloc (Below.refl _ _) _⟩⟩
  case round =>
    clear H'
    obtain ⟨p, hi, HA, HK1, HB⟩ := hrel
    cases gk with
    | zero => exact absurd HA.out (by simp [name_Plain.l0])
    | succ k1 =>
      have H := HA.out
      clear HA
      simp only [name_Plain.l0] at H
      by_cases c1 : p < a0.size
      · rw [if_pos c1] at H
        have hnx : ∀ ty, (Instr.next (.pointer (some ⟨w.heap.size, 0, none⟩)) true ty).run Try.prog wr = _ := fun ty => Go.Lib.run_next_any_at wr w.heap.size a0 p ty hi c1
        have n0_ := Go.Lib.iterAt_heap wr w.heap.size a0 p (p + (Utf8.decode a0 p).2) hi
        have n1_ := Aside0.mk (Go.Lib.below_iterAt HB.out (Nat.le_refl _) a0 (p + (Utf8.decode a0 p).2))
        clear hi HB
        have hi := n0_
        have HB := n1_
        clear n0_ n1_ c1
        by_cases c2 : p = 0
        · rw [if_pos c2] at H
          have c2b0 : ((p : Int) == 0) = true := by simp [c2]
          clear c2
          obtain ⟨a, A10, H⟩ := Option.bind_eq_some_iff.mp H
          have A1 := Aside0.mk A10
          clear A10
          by_cases c3 : a = true
          · subst c3
            rw [if_pos rfl] at H
            obtain ⟨b, A20, H⟩ := Option.bind_eq_some_iff.mp H
            have A2 := Aside0.mk A20
            clear A20
            by_cases c4 : b = true
            · subst c4
              rw [if_pos rfl] at H
              have H' := Aside0.mk H
              clear H
              go_wp2_with (first | (go_at_call 16; (with_reducible refine (char_Start.calls k1 _ true _ A1.out).mono ?_); rintro e w4 ⟨rfl, hb⟩; have n0_ := Aside0.mk (below_step HB.out hb); have n1_ := it_keeps hb hi; clear HB hi hb; have HB := n0_; have hi := n1_; clear n0_ n1_) | (go_at_call 17; (with_reducible refine (char_Part.calls k1 _ true _ A2.out).mono ?_); rintro e w4 ⟨rfl, hb⟩; have n0_ := Aside0.mk (below_step HB.out hb); have n1_ := it_keeps hb hi; clear HB hi hb; have HB := n0_; have hi := n1_; clear n0_ n1_))
              go_roundg k1
              case measure => have := HK1.out; omega
              case rel => exact ⟨_, hi, H', ⟨by have := HK1.out; omega⟩, HB⟩
            · obtain rfl := Bool.eq_false_iff.mpr c4
              rw [if_neg (by decide)] at H
              obtain rfl := Option.some.inj H
              go_wp2_with (first | (go_at_call 16; (with_reducible refine (char_Start.calls k1 _ true _ A1.out).mono ?_); rintro e w4 ⟨rfl, hb⟩; have n0_ := Aside0.mk (below_step HB.out hb); have n1_ := it_keeps hb hi; clear HB hi hb; have HB := n0_; have hi := n1_; clear n0_ n1_) | (go_at_call 17; (with_reducible refine (char_Part.calls k1 _ false _ A2.out).mono ?_); rintro e w4 ⟨rfl, hb⟩; have n0_ := Aside0.mk (below_step HB.out hb); have n1_ := it_keeps hb hi; clear HB hi hb; have HB := n0_; have hi := n1_; clear n0_ n1_))
              go_ret
              exact ⟨rfl, HB.out⟩
          · obtain rfl := Bool.eq_false_iff.mpr c3
            rw [if_neg (by decide)] at H
            obtain rfl := Option.some.inj H
            go_wp2_with (first | (go_at_call 16; (with_reducible refine (char_Start.calls k1 _ false _ A1.out).mono ?_); rintro e w4 ⟨rfl, hb⟩; have n0_ := Aside0.mk (below_step HB.out hb); have n1_ := it_keeps hb hi; clear HB hi hb; have HB := n0_; have hi := n1_; clear n0_ n1_))
            go_ret
            exact ⟨rfl, HB.out⟩
        · rw [if_neg c2] at H
          have c2b0 : ((p : Int) == 0) = false := by simp [c2]
          clear c2
          obtain ⟨b, A20, H⟩ := Option.bind_eq_some_iff.mp H
          have A2 := Aside0.mk A20
          clear A20
          by_cases c4 : b = true
          · subst c4
            rw [if_pos rfl] at H
            have H' := Aside0.mk H
            clear H
            go_wp2_with (first | (go_at_call 17; (with_reducible refine (char_Part.calls k1 _ true _ A2.out).mono ?_); rintro e w4 ⟨rfl, hb⟩; have n0_ := Aside0.mk (below_step HB.out hb); have n1_ := it_keeps hb hi; clear HB hi hb; have HB := n0_; have hi := n1_; clear n0_ n1_))
            go_roundg k1
            case measure => have := HK1.out; omega
            case rel => exact ⟨_, hi, H', ⟨by have := HK1.out; omega⟩, HB⟩
          · obtain rfl := Bool.eq_false_iff.mpr c4
            rw [if_neg (by decide)] at H
            obtain rfl := Option.some.inj H
            go_wp2_with (first | (go_at_call 17; (with_reducible refine (char_Part.calls k1 _ false _ A2.out).mono ?_); rintro e w4 ⟨rfl, hb⟩; have n0_ := Aside0.mk (below_step HB.out hb); have n1_ := it_keeps hb hi; clear HB hi hb; have HB := n0_; have hi := n1_; clear n0_ n1_))
            go_ret
            exact ⟨rfl, HB.out⟩
      · rw [if_neg c1] at H
        have hnx : ∀ ty, (Instr.next (.pointer (some ⟨w.heap.size, 0, none⟩)) true ty).run Try.prog wr = _ := fun ty => Go.Lib.run_next_end_at wr w.heap.size a0 p ty hi c1
        obtain rfl := Option.some.inj H
        go_wp2
        go_ret
        exact ⟨by simp [isEmpty_size], HB.out⟩


/-! ### strings_Cut: function 15 -/
def cutB (s : ByteArray) (c : UInt8) : ByteArray × ByteArray × Bool := if 0 ≤ Lib.indexByte s.data.toList c then (s.extract 0 (Lib.indexByte s.data.toList c).toNat, s.extract ((Lib.indexByte s.data.toList c).toNat + 1) s.size, true) else (s, ByteArray.empty, false)
theorem indexByte_lt (l : List UInt8) (c : UInt8) (h : 0 ≤ Lib.indexByte l c) : Lib.indexByte l c < l.length := by
  induction l with
  | nil => exact absurd h (by unfold Lib.indexByte; decide)
  | cons b l ih =>
    unfold Lib.indexByte at h ⊢
    split
    · simp
    · rename_i h1
      rw [if_neg h1] at h
      split at h
      · omega
      · rename_i h2
        rw [if_neg h2]
        have := Lib.indexByte_ge l c
        simp only [beq_iff_eq] at h2
        have := ih (by omega)
        simp only [List.length_cons]
        omega
def strings_Cut.f (a0 a1 : ByteArray) : Option (ByteArray × ByteArray × Bool) := match a1.data.toList with | [c] => if a0.size ≤ 140737488351232 then some (cutB a0 c) else none | _ => none
set_option maxHeartbeats 8000000 in
set_option maxRecDepth 100000 in
theorem slIndexByte (s : ByteArray) (c : Int) (w : World) :
    Calls Try.prog 23 #[.string s, .int .u8 c] w fun e w' => e = .returned (.int .i64 (Lib.indexByte s.data.toList c.toNat.toUInt8)) ∧ w' = w := by
  go_enter Try.func23, Try.ntmps23
  go_wp2
  rw [run_callFunc_extern Try.func27 (by kernel_rfl) (by kernel_rfl) (by kernel_rfl) (e := Extern.BytealgIndexByte.indexByte) (by kernel_rfl), Lib.run_indexByteString]
  simp only [Result.andThen]
  rw [Oper.upon_value]
  go_wp2
  go_ret
  exact ⟨rfl, rfl⟩
set_option maxHeartbeats 8000000 in
set_option maxRecDepth 100000 in
theorem slIndex (s : ByteArray) (c : UInt8) (w : World) :
    Calls Try.prog 22 #[.string s, .string ⟨#[c]⟩] w fun e w' => e = .returned (.int .i64 (Lib.indexByte s.data.toList c)) ∧ w' = w := by
  go_enter Try.func22, Try.ntmps22
  go_wp2_with (go_at_call 23; refine (slIndexByte _ _ _).mono ?_; rintro e w' ⟨rfl, rfl⟩)
  · have h : ([c] == s.toList) = true := by assumption
    go_ret
    refine ⟨?_, rfl⟩
    have e : s.data.toList = [c] := by rw [← Lib.toList_data]; exact (beq_iff_eq.1 h).symm
    rw [e]
    simp [Lib.indexByte]
  · go_ret
    exact ⟨rfl, rfl⟩
set_option maxHeartbeats 8000000 in
set_option maxRecDepth 100000 in
theorem slCut (s : ByteArray) (c : UInt8) (w : World) (hs : s.size ≤ 140737488351232) :
    Calls Try.prog 20 #[.string s, .string ⟨#[c]⟩] w fun e w' => e = .returned (.tuple #[.string (cutB s c).1, .string (cutB s c).2.1, .bool (cutB s c).2.2]) ∧ Drawn0 w w' := by
  have hl := indexByte_lt s.data.toList c
  rw [show s.data.toList.length = s.size from rfl] at hl
  have hg := Lib.indexByte_ge s.data.toList c
  unfold cutB
  obtain ⟨i, hi⟩ : ∃ i, Lib.indexByte s.data.toList c = i := ⟨_, rfl⟩
  rw [hi] at hl hg ⊢
  by_cases h : 0 ≤ i
  · rw [if_pos h]
    have h2 := hl h
    have e : wrap64 (i + 1) = i + 1 := by unfold wrap64; omega
    go_enter Try.func20, Try.ntmps20
    go_wp2_with (go_at_call 22; refine (slIndex _ _ _).mono ?_; rintro e w' ⟨rfl, rfl⟩; rw [hi])
    repeat (go_quiet (fail); try go_wp2)
    go_ret3
    exact ⟨by rw [show i.toNat + 1 = (i + 1).toNat by omega]; rfl, by repeat (first | exact Drawn0.refl _ | apply Drawn0.step)⟩
  · rw [if_neg h]
    go_enter Try.func20, Try.ntmps20
    go_wp2_with (go_at_call 22; refine (slIndex _ _ _).mono ?_; rintro e w' ⟨rfl, rfl⟩; rw [hi])
    repeat (go_quiet (fail); try go_wp2)
    go_ret3
    exact ⟨rfl, by repeat (first | exact Drawn0.refl _ | apply Drawn0.step)⟩
set_option maxHeartbeats 8000000 in
set_option maxRecDepth 100000 in
theorem strings_Cut.calls (a0 : ByteArray) (a1 : ByteArray) (r1 : ByteArray) (r2 : ByteArray) (r3 : Bool) (w : World) (h : strings_Cut.f a0 a1 = some (r1, r2, r3)) :
    Calls Try.prog 15 #[.string a0, .string a1] w fun e w' => e = .returned (.tuple #[.string r1, .string r2, .bool r3]) ∧ Drawn0 w w' := by
  unfold strings_Cut.f at h
  split at h
  · rename_i c hc
    split at h
    · rename_i hs
      obtain rfl : a1 = ⟨#[c]⟩ := by
        obtain ⟨⟨l⟩⟩ := a1
        have : l = [c] := hc
        rw [this]
      have h := Option.some.inj h
      have e1 : r1 = (cutB a0 c).1 := by rw [h]
      have e2 : r2 = (cutB a0 c).2.1 := by rw [h]
      have e3 : r3 = (cutB a0 c).2.2 := by rw [h]
      subst e1 e2 e3
      clear h hc
      go_enter Try.func15, Try.ntmps15
      go_wp2_with (go_at_call 20; refine (slCut _ _ _ hs).mono ?_; rintro e w' ⟨rfl, n, rfl⟩)
      go_ret3
      exact ⟨rfl, ⟨_, rfl⟩⟩
    · cases h
  · cases h


/-! ### name_Split: function 8 -/
def name_Split.j0 : Nat → ByteArray → ByteArray → Bool → Option (ByteArray × ByteArray × Bool)
  | 0, _, _, _ => none
  | k + 1, x5, x6, x7 => (name_Plain.f k x6).bind fun t115 => (if t115 = true then (if x7 = true then ((name_Plain.f k x5).bind fun t116 => (if t116 = true then (some (x5, x6, true)) else (some ((⟨#[]⟩ : ByteArray), (⟨#[]⟩ : ByteArray), false)))) else (some (x5, x6, true))) else (some ((⟨#[]⟩ : ByteArray), (⟨#[]⟩ : ByteArray), false)))
def name_Split.f (k : Nat) (a0 : ByteArray) : Option (ByteArray × ByteArray × Bool) := (strings_Cut.f a0 (⟨#[58]⟩ : ByteArray)).bind fun bt112 => (if bt112.2.2 = true then (name_Split.j0 k bt112.1 bt112.2.1 bt112.2.2) else (name_Split.j0 k (⟨#[]⟩ : ByteArray) a0 bt112.2.2))
theorem name_Split.mono_l : ∀ k, (∀ y0 y1 y2, LeO (name_Split.j0 k y0 y1 y2) (name_Split.j0 (k + 1) y0 y1 y2))
  | 0 => fun _ _ _ r h => by simp [name_Split.j0] at h
  | k + 1 => by
    have ih0 := name_Split.mono_l k
    · intro y0 y1 y2
      unfold name_Split.j0
      repeat' first
      | (with_reducible exact ih0 _ _ _)
      | (with_reducible exact name_Plain.mono _ _)
      | (with_reducible exact LeO.refl _)
      | (with_reducible exact LeO.none _)
      | (with_reducible refine LeO.ite ?_ ?_)
      | (with_reducible refine LeO.bind ?_ (fun _ => ?_))
      | exact ih0 _ _ _
      | exact name_Plain.mono _ _
      | exact LeO.none _
      | refine LeO.ite ?_ ?_
      | refine LeO.bind ?_ (fun _ => ?_)
theorem name_Split.mono : ∀ a0 k, LeO (name_Split.f k a0) (name_Split.f (k + 1) a0) := by
  intro a0 k
  have ih0 := name_Split.mono_l k
  unfold name_Split.f
  repeat' first
      | (with_reducible exact ih0 _ _ _)
      | (with_reducible exact name_Plain.mono _ _)
      | (with_reducible exact LeO.refl _)
      | (with_reducible exact LeO.none _)
      | (with_reducible refine LeO.ite ?_ ?_)
      | (with_reducible refine LeO.bind ?_ (fun _ => ?_))
      | exact ih0 _ _ _
      | exact name_Plain.mono _ _
      | exact LeO.none _
      | refine LeO.ite ?_ ?_
      | refine LeO.bind ?_ (fun _ => ?_)
set_option maxHeartbeats 8000000 in
set_option maxRecDepth 100000 in
theorem name_Split.calls (k : Nat) (a0 : ByteArray) (r1 : ByteArray) (r2 : ByteArray) (r3 : Bool) (w : World) (h : name_Split.f k a0 = some (r1, r2, r3)) :
    Calls Try.prog 8 #[.string a0] w fun e w' => e = .returned (.tuple #[.string r1, .string r2, .bool r3]) ∧ Below w.heap.size w w' := by
  have HB := Aside0.mk (Below.refl w.heap.size w)
  have H : ((strings_Cut.f a0 (⟨#[58]⟩ : ByteArray)).bind fun bt112 => (if bt112.2.2 = true then (name_Split.j0 k bt112.1 bt112.2.1 bt112.2.2) else (name_Split.j0 k (⟨#[]⟩ : ByteArray) a0 bt112.2.2))) = some (r1, r2, r3) := h
  clear h
  replace H := Option.bind_eq_some_iff.mp H
  obtain ⟨⟨t112, t113, t114⟩, A20, H⟩ := H
  replace H : (if t114 = true then (name_Split.j0 k t112 t113 t114) else (name_Split.j0 k (⟨#[]⟩ : ByteArray) a0 t114)) = some (r1, r2, r3) := H
  have A2 := Aside0.mk A20
  clear A20
  have HC3 := Aside0.mk H
  clear H
  go_enter Try.func8, Try.ntmps8
  go_upto_if 15 with (first | ((with_reducible refine gate_callee (f := 15) rfl ?_); refine goesL_ (some 10) rfl rfl Try.func15 (by kernel_rfl) rfl #[.string a0, .string (⟨#[58]⟩ : ByteArray)] rfl (by (try simp only [List.map_toArray, List.map_cons, List.map_nil]); first | done | rfl | (simp only [List.length_drop, List.length_take]; rfl)) ?_; (with_reducible refine (strings_Cut.calls a0 (⟨#[58]⟩ : ByteArray) t112 t113 t114 _ A2.out).mono ?_); rintro e w' ⟨rfl, ⟨nd, rfl⟩⟩; refine ⟨_, rfl, ?_⟩))
  (try simp only [Act.put, List.setIfInBounds_toArray, List.set_cons_zero, List.set_cons_succ])
  go_cut [5, 6] (fun v5 v6 wc => ∃ (kq : Nat) (x5_2 : ByteArray) (x6_2 : ByteArray), v5 = .string x5_2 ∧ v6 = .string x6_2 ∧ Aside0 (name_Split.j0 kq x5_2 x6_2 t114 = some (r1, r2, r3)) ∧ Aside0 (kq ≤ k) ∧ Aside0 (Below w.heap.size w wc))
  case first =>
    have H := HC3.out
    clear HC3
    by_cases c4 : t114 = true
    · subst c4
      have H1 : (name_Split.j0 k t112 t113 true) = some (r1, r2, r3) := by rw [if_pos rfl] at H; exact H
      clear H
      have H := H1
      clear H1
      have H' := Aside0.mk H
      clear H
      go_wp2
      go_meet
      case rel => exact ⟨_, (t112), (t113), (by first | rfl | (simp; done) | (simp [*]; done)), (by first | rfl | (simp; done) | (simp [*]; done)), H', ⟨by first | omega | exact Nat.le_refl _⟩, ⟨by repeat (first | (with_reducible first | exact HB.out | apply below_alloc | apply pw_below_drewN | apply below_drew1) | exact HB.out)⟩⟩
    · replace c4 := Bool.eq_false_iff.mpr c4
      subst c4
      have H1 : (name_Split.j0 k (⟨#[]⟩ : ByteArray) a0 false) = some (r1, r2, r3) := by rw [if_neg (show ¬ (false = true) by decide)] at H; exact H
      clear H
      have H := H1
      clear H1
      have H' := Aside0.mk H
      clear H
      go_wp2
      go_meet
      case rel => exact ⟨_, ((⟨#[]⟩ : ByteArray)), (a0), (by first | rfl | (simp; done) | (simp [*]; done)), (by first | rfl | (simp; done) | (simp [*]; done)), H', ⟨by first | omega | exact Nat.le_refl _⟩, ⟨by repeat (first | (with_reducible first | exact HB.out | apply below_alloc | apply pw_below_drewN | apply below_drew1) | exact HB.out)⟩⟩
  case rest =>
    clear HC3
    try clear c1
    try clear p2
    try clear c4
    obtain ⟨kq, x5_2, x6_2, rfl, rfl, HA, HJ2, HB⟩ := hcut
    cases kq with
    | zero => exact absurd HA.out (by simp [name_Split.j0])
    | succ kj2 =>
      have H := HA.out
      clear HA
      simp only [name_Split.j0] at H
      replace H := Option.bind_eq_some_iff.mp H
      obtain ⟨t115, A50, H⟩ := H
      replace H : (if t115 = true then (if t114 = true then ((name_Plain.f kj2 x5_2).bind fun t116 => (if t116 = true then (some (x5_2, x6_2, true)) else (some ((⟨#[]⟩ : ByteArray), (⟨#[]⟩ : ByteArray), false)))) else (some (x5_2, x6_2, true))) else (some ((⟨#[]⟩ : ByteArray), (⟨#[]⟩ : ByteArray), false))) = some (r1, r2, r3) := H
      have A5 := Aside0.mk A50
      clear A50
      by_cases c6 : t115 = true
      · subst c6
        have H1 : (if t114 = true then ((name_Plain.f kj2 x5_2).bind fun t116 => (if t116 = true then (some (x5_2, x6_2, true)) else (some ((⟨#[]⟩ : ByteArray), (⟨#[]⟩ : ByteArray), false)))) else (some (x5_2, x6_2, true))) = some (r1, r2, r3) := by rw [if_pos rfl] at H; exact H
        clear H
        have H := H1
        clear H1
        by_cases c7 : t114 = true
        · subst c7
          have H1 : ((name_Plain.f kj2 x5_2).bind fun t116 => (if t116 = true then (some (x5_2, x6_2, true)) else (some ((⟨#[]⟩ : ByteArray), (⟨#[]⟩ : ByteArray), false)))) = some (r1, r2, r3) := by rw [if_pos rfl] at H; exact H
          clear H
          have H := H1
          clear H1
          replace H := Option.bind_eq_some_iff.mp H
          obtain ⟨t116, A80, H⟩ := H
          replace H : (if t116 = true then (some (x5_2, x6_2, true)) else (some ((⟨#[]⟩ : ByteArray), (⟨#[]⟩ : ByteArray), false))) = some (r1, r2, r3) := H
          have A8 := Aside0.mk A80
          clear A80
          by_cases c9 : t116 = true
          · subst c9
            have H1 : (some (x5_2, x6_2, true)) = some (r1, r2, r3) := by rw [if_pos rfl] at H; exact H
            clear H
            have H := H1
            clear H1
            simp only [Option.some.injEq, Prod.mk.injEq] at H
            obtain ⟨rfl, rfl, rfl⟩ := H
            go_wp2_with (first | ((with_reducible refine gate_callee (f := 10) rfl ?_); refine goesL_ (some 18) rfl rfl Try.func10 (by kernel_rfl) rfl #[.string x6_2] rfl (by (try simp only [List.map_toArray, List.map_cons, List.map_nil]); first | done | rfl | (simp only [List.length_drop, List.length_take]; rfl)) ?_; (with_reducible refine (name_Plain.calls kj2 x6_2 true _ A5.out).mono ?_); rintro e w10 ⟨rfl, hb⟩; refine ⟨_, rfl, ?_⟩; have n0_ := Aside0.mk (below_step (by repeat (first | (with_reducible first | exact HB.out | apply below_alloc | apply pw_below_drewN | apply below_drew1) | exact HB.out)) hb); clear HB; have HB := n0_; clear n0_; (try clear hb); (try clear hb2); (try clear hk); (try clear hi)) | (go_at_call 10; (with_reducible refine (name_Plain.calls kj2 x5_2 true _ A8.out).mono ?_); rintro e w11 ⟨rfl, hb⟩; have n0_ := Aside0.mk (below_step (by repeat (first | (with_reducible first | exact HB.out | apply below_alloc | apply pw_below_drewN | apply below_drew1) | exact HB.out)) hb); clear HB; have HB := n0_; clear n0_; (try clear hb); (try clear hb2); (try clear hk); (try clear hi)))
            go_ret3
            exact ⟨by first | rfl | (simp [errW_none, errW_some] <;> rfl) | (simp [*, errW_none, errW_some] <;> rfl), by repeat (first | (with_reducible first | exact HB.out | apply below_alloc | apply pw_below_drewN | apply below_drew1) | exact HB.out)⟩
          · replace c9 := Bool.eq_false_iff.mpr c9
            subst c9
            have H1 : (some ((⟨#[]⟩ : ByteArray), (⟨#[]⟩ : ByteArray), false)) = some (r1, r2, r3) := by rw [if_neg (show ¬ (false = true) by decide)] at H; exact H
            clear H
            have H := H1
            clear H1
            simp only [Option.some.injEq, Prod.mk.injEq] at H
            obtain ⟨rfl, rfl, rfl⟩ := H
            go_wp2_with (first | ((with_reducible refine gate_callee (f := 10) rfl ?_); refine goesL_ (some 18) rfl rfl Try.func10 (by kernel_rfl) rfl #[.string x6_2] rfl (by (try simp only [List.map_toArray, List.map_cons, List.map_nil]); first | done | rfl | (simp only [List.length_drop, List.length_take]; rfl)) ?_; (with_reducible refine (name_Plain.calls kj2 x6_2 true _ A5.out).mono ?_); rintro e w12 ⟨rfl, hb⟩; refine ⟨_, rfl, ?_⟩; have n0_ := Aside0.mk (below_step (by repeat (first | (with_reducible first | exact HB.out | apply below_alloc | apply pw_below_drewN | apply below_drew1) | exact HB.out)) hb); clear HB; have HB := n0_; clear n0_; (try clear hb); (try clear hb2); (try clear hk); (try clear hi)) | (go_at_call 10; (with_reducible refine (name_Plain.calls kj2 x5_2 false _ A8.out).mono ?_); rintro e w13 ⟨rfl, hb⟩; have n0_ := Aside0.mk (below_step (by repeat (first | (with_reducible first | exact HB.out | apply below_alloc | apply pw_below_drewN | apply below_drew1) | exact HB.out)) hb); clear HB; have HB := n0_; clear n0_; (try clear hb); (try clear hb2); (try clear hk); (try clear hi)))
            go_ret3
            exact ⟨by first | rfl | (simp [errW_none, errW_some] <;> rfl) | (simp [*, errW_none, errW_some] <;> rfl), by repeat (first | (with_reducible first | exact HB.out | apply below_alloc | apply pw_below_drewN | apply below_drew1) | exact HB.out)⟩
        · replace c7 := Bool.eq_false_iff.mpr c7
          subst c7
          have H1 : (some (x5_2, x6_2, true)) = some (r1, r2, r3) := by rw [if_neg (show ¬ (false = true) by decide)] at H; exact H
          clear H
          have H := H1
          clear H1
          simp only [Option.some.injEq, Prod.mk.injEq] at H
          obtain ⟨rfl, rfl, rfl⟩ := H
          go_wp2_with (first | ((with_reducible refine gate_callee (f := 10) rfl ?_); refine goesL_ (some 18) rfl rfl Try.func10 (by kernel_rfl) rfl #[.string x6_2] rfl (by (try simp only [List.map_toArray, List.map_cons, List.map_nil]); first | done | rfl | (simp only [List.length_drop, List.length_take]; rfl)) ?_; (with_reducible refine (name_Plain.calls kj2 x6_2 true _ A5.out).mono ?_); rintro e w14 ⟨rfl, hb⟩; refine ⟨_, rfl, ?_⟩; have n0_ := Aside0.mk (below_step (by repeat (first | (with_reducible first | exact HB.out | apply below_alloc | apply pw_below_drewN | apply below_drew1) | exact HB.out)) hb); clear HB; have HB := n0_; clear n0_; (try clear hb); (try clear hb2); (try clear hk); (try clear hi)))
          go_ret3
          exact ⟨by first | rfl | (simp [errW_none, errW_some] <;> rfl) | (simp [*, errW_none, errW_some] <;> rfl), by repeat (first | (with_reducible first | exact HB.out | apply below_alloc | apply pw_below_drewN | apply below_drew1) | exact HB.out)⟩
      · replace c6 := Bool.eq_false_iff.mpr c6
        subst c6
        have H1 : (some ((⟨#[]⟩ : ByteArray), (⟨#[]⟩ : ByteArray), false)) = some (r1, r2, r3) := by rw [if_neg (show ¬ (false = true) by decide)] at H; exact H
        clear H
        have H := H1
        clear H1
        simp only [Option.some.injEq, Prod.mk.injEq] at H
        obtain ⟨rfl, rfl, rfl⟩ := H
        go_wp2_with (first | ((with_reducible refine gate_callee (f := 10) rfl ?_); refine goesL_ (some 18) rfl rfl Try.func10 (by kernel_rfl) rfl #[.string x6_2] rfl (by (try simp only [List.map_toArray, List.map_cons, List.map_nil]); first | done | rfl | (simp only [List.length_drop, List.length_take]; rfl)) ?_; (with_reducible refine (name_Plain.calls kj2 x6_2 false _ A5.out).mono ?_); rintro e w15 ⟨rfl, hb⟩; refine ⟨_, rfl, ?_⟩; have n0_ := Aside0.mk (below_step (by repeat (first | (with_reducible first | exact HB.out | apply below_alloc | apply pw_below_drewN | apply below_drew1) | exact HB.out)) hb); clear HB; have HB := n0_; clear n0_; (try clear hb); (try clear hb2); (try clear hk); (try clear hi)))
        go_ret3
        exact ⟨by first | rfl | (simp [errW_none, errW_some] <;> rfl) | (simp [*, errW_none, errW_some] <;> rfl), by repeat (first | (with_reducible first | exact HB.out | apply below_alloc | apply pw_below_drewN | apply below_drew1) | exact HB.out)⟩

/-! ### name_Cut: function 12 -/
def name_Cut.l0 : Nat → ByteArray → Int → Nat → Option (ByteArray × Int)
  | 0, _, _, _ => none
  | k + 1, s, a, p => if p < (s.extract a.toNat s.size).size then (if ((Utf8.decode (s.extract a.toNat s.size) p).1 : Int) = 58 then (name_Cut.l0 k s a (p + (Utf8.decode (s.extract a.toNat s.size) p).2)) else ((char_Part.f k ((Utf8.decode (s.extract a.toNat s.size) p).1 : Int)).bind fun b => (if b = true then (name_Cut.l0 k s a (p + (Utf8.decode (s.extract a.toNat s.size) p).2)) else (some (s.extract a.toNat (a + p).toNat, a + p))))) else (some (s.extract a.toNat s.size, (s.size : Int)))
def name_Cut.f (k : Nat) (a0 : ByteArray) (a1 : Int) : Option (ByteArray × Int) := if a1 < 0 then some (ByteArray.empty, a1) else (if a1 > (a0.size : Int) then some (ByteArray.empty, a1) else (if a0.size ≤ 140737488351232 then name_Cut.l0 k a0 a1 0 else none))
theorem name_Cut.mono_l : ∀ k, (∀ y0 y1 y2, LeO (name_Cut.l0 k y0 y1 y2) (name_Cut.l0 (k + 1) y0 y1 y2))
  | 0 => fun _ _ _ r h => by simp [name_Cut.l0] at h
  | k + 1 => by
    have ih0 := name_Cut.mono_l k
    intro y0 y1 y2
    unfold name_Cut.l0
    repeat' first
      | (with_reducible exact ih0 _ _ _)
      | (with_reducible exact char_Part.mono _ _)
      | (with_reducible exact LeO.refl _)
      | (with_reducible exact LeO.none _)
      | (with_reducible refine LeO.ite ?_ ?_)
      | (with_reducible refine LeO.bind ?_ (fun _ => ?_))
theorem name_Cut.mono : ∀ a0 a1 k, LeO (name_Cut.f k a0 a1) (name_Cut.f (k + 1) a0 a1) := by
  intro a0 a1 k
  have ih0 := name_Cut.mono_l k
  unfold name_Cut.f
  repeat' first
      | (with_reducible exact ih0 _ _ _)
      | (with_reducible exact LeO.refl _)
      | (with_reducible refine LeO.ite ?_ ?_)
set_option maxHeartbeats 8000000 in
set_option maxRecDepth 100000 in
theorem name_Cut.calls (k : Nat) (a0 : ByteArray) (a1 : Int) (r1 : ByteArray) (r2 : Int) (w : World) (h : name_Cut.f k a0 a1 = some (r1, r2)) :
    Calls Try.prog 12 #[.string a0, .int .i64 a1] w fun e w' => e = .returned (.tuple #[.string r1, .int .i64 r2]) ∧ Below w.heap.size w w' := by
  unfold name_Cut.f at h
  by_cases c5 : a1 < 0
  · rw [if_pos c5] at h
    obtain ⟨rfl, rfl⟩ := Prod.mk.inj (Option.some.inj h)
    clear h
    have b5 : decide (a1 < 0) = true := decide_eq_true c5
    go_enter Try.func12, Try.ntmps12
    go_wp2
    go_ret2
    exact ⟨rfl, by repeat (first | exact Below.refl _ _ | apply below_alloc | apply pw_below_drewN | apply below_drew1)⟩
  rw [if_neg c5] at h
  have b5 : decide (a1 < 0) = false := decide_eq_false c5
  by_cases c6 : a1 > (a0.size : Int)
  · rw [if_pos c6] at h
    obtain ⟨rfl, rfl⟩ := Prod.mk.inj (Option.some.inj h)
    clear h
    have b6 : decide (a1 > (a0.size : Int)) = true := decide_eq_true c6
    have b6' : decide ((a0.size : Int) < a1) = true := decide_eq_true c6
    go_enter Try.func12, Try.ntmps12
    go_wp2
    go_ret2
    exact ⟨rfl, by repeat (first | exact Below.refl _ _ | apply below_alloc | apply pw_below_drewN | apply below_drew1)⟩
  rw [if_neg c6] at h
  have b6 : decide (a1 > (a0.size : Int)) = false := decide_eq_false c6
  have b6' : decide ((a0.size : Int) < a1) = false := decide_eq_false c6
  by_cases c7 : a0.size ≤ 140737488351232
  · rw [if_pos c7] at h
    have H' := Aside0.mk h
    clear h
    have g0 : 0 ≤ a1 := by omega
    have g1 : a1 ≤ (a0.size : Int) := by omega
    go_enter Try.func12, Try.ntmps12
    go_wp2
    repeat (go_quiet (fail); try go_wp2)
    go_loopg [] k (fun kq w' => ∃ (p : Nat), w'.heap[w.heap.size]? = some (.stringIter (a0.extract a1.toNat a0.size) p) ∧ Aside0 (p ≤ (a0.extract a1.toNat a0.size).size) ∧ Aside0 (name_Cut.l0 kq a0 a1 p = some (r1, r2)) ∧ Aside0 (kq ≤ k) ∧ Aside0 (Below w.heap.size w w'))
    case atStart => exact ⟨0, World.iter_heap _ _ _, ⟨Nat.zero_le _⟩, H', ⟨Nat.le_refl _⟩, ⟨by repeat (first | exact Below.refl _ _ | apply below_alloc | apply pw_below_drewN | apply below_drew1)⟩⟩
    case round =>
      clear H'
      obtain ⟨p, hi, HP, HA, HK1, HB⟩ := hrel
      cases gk with
      | zero => exact absurd HA.out (by simp [name_Cut.l0])
      | succ k1 =>
        have H := HA.out
        clear HA
        simp only [name_Cut.l0] at H
        by_cases c1 : p < (a0.extract a1.toNat a0.size).size
        · rw [if_pos c1] at H
          have hnx : ∀ ty, (Instr.next (.pointer (some ⟨w.heap.size, 0, none⟩)) true ty).run Try.prog wr = _ := fun ty => Go.Lib.run_next_any_at wr w.heap.size (a0.extract a1.toNat a0.size) p ty hi c1
          have hw := decode_pos (a0.extract a1.toNat a0.size) p c1
          have hl := decode_fits (a0.extract a1.toNat a0.size) p c1
          have n0_ := Go.Lib.iterAt_heap wr w.heap.size (a0.extract a1.toNat a0.size) p (p + (Utf8.decode (a0.extract a1.toNat a0.size) p).2) hi
          have n1_ := Aside0.mk (Go.Lib.below_iterAt HB.out (Nat.le_refl _) (a0.extract a1.toNat a0.size) (p + (Utf8.decode (a0.extract a1.toNat a0.size) p).2))
          clear hi HB
          have hi := n0_
          have HB := n1_
          have hz : (a0.extract a1.toNat a0.size).size = a0.size - a1.toNat := by rw [ByteArray.size_extract]; omega
          have e1 : wrap64 (a1 + p) = a1 + p := by unfold wrap64; omega
          have g2 : 0 ≤ a1 + p := by omega
          have g3 : a1 ≤ a1 + p := by omega
          have g4 : a1 + p ≤ (a0.size : Int) := by omega
          have HZ := Aside0.mk hz
          have HL := Aside0.mk hl
          clear n0_ n1_ c1 hz hl hw
          by_cases c2 : ((Utf8.decode (a0.extract a1.toNat a0.size) p).1 : Int) = 58
          · rw [if_pos c2] at H
            have c2b0 : (((Utf8.decode (a0.extract a1.toNat a0.size) p).1 : Int) == 58) = true := by simp [c2]
            have c2b1 : (((Utf8.decode (a0.extract a1.toNat a0.size) p).1 : Int) != 58) = false := by simp [c2]
            clear c2
            have H' := Aside0.mk H
            clear H
            go_wp2
            go_roundg k1
            case measure => have := HK1.out; omega
            case rel => exact ⟨_, hi, HL, H', ⟨by have := HK1.out; omega⟩, HB⟩
          · rw [if_neg c2] at H
            have c2b0 : (((Utf8.decode (a0.extract a1.toNat a0.size) p).1 : Int) == 58) = false := beq_eq_false_iff_ne.mpr c2
            have c2b1 : (((Utf8.decode (a0.extract a1.toNat a0.size) p).1 : Int) != 58) = true := bne_iff_ne.mpr c2
            clear c2
            obtain ⟨b, A20, H⟩ := Option.bind_eq_some_iff.mp H
            have A2 := Aside0.mk A20
            clear A20
            by_cases c4 : b = true
            · subst c4
              rw [if_pos rfl] at H
              have H' := Aside0.mk H
              clear H
              go_wp2_with (first | (go_at_call 17; (with_reducible refine (char_Part.calls k1 _ true _ A2.out).mono ?_); rintro e w4 ⟨rfl, hb⟩; have n0_ := Aside0.mk (below_step HB.out hb); have n1_ := it_keeps hb hi; clear HB hi hb; have HB := n0_; have hi := n1_; clear n0_ n1_))
              go_roundg k1
              case measure => have := HK1.out; omega
              case rel => exact ⟨_, hi, HL, H', ⟨by have := HK1.out; omega⟩, HB⟩
            · obtain rfl := Bool.eq_false_iff.mpr c4
              rw [if_neg (by decide)] at H
              obtain ⟨rfl, rfl⟩ := Prod.mk.inj (Option.some.inj H)
              clear H
              go_wp2_with (first | (go_at_call 17; (with_reducible refine (char_Part.calls k1 _ false _ A2.out).mono ?_); rintro e w4 ⟨rfl, hb⟩; have n0_ := Aside0.mk (below_step HB.out hb); have n1_ := it_keeps hb hi; clear HB hi hb; have HB := n0_; have hi := n1_; clear n0_ n1_))
              repeat (go_quiet (fail); try go_wp2)
              go_ret2
              exact ⟨by first | rfl | simp [e1], by repeat (first | exact HB.out | apply below_alloc | apply pw_below_drewN | apply below_drew1)⟩
        · rw [if_neg c1] at H
          have hnx : ∀ ty, (Instr.next (.pointer (some ⟨w.heap.size, 0, none⟩)) true ty).run Try.prog wr = _ := fun ty => Go.Lib.run_next_end_at wr w.heap.size (a0.extract a1.toNat a0.size) p ty hi c1
          obtain ⟨rfl, rfl⟩ := Prod.mk.inj (Option.some.inj H)
          clear H
          go_wp2
          repeat (go_quiet (fail); try go_wp2)
          go_ret2
          exact ⟨by first | rfl | simp, by repeat (first | exact HB.out | apply below_alloc | apply pw_below_drewN | apply below_drew1)⟩
  · rw [if_neg c7] at h
    cases h


/-! ### name_Join: function 14 -/
def name_Join.f (a0 : ByteArray) (a1 : ByteArray) : Option (ByteArray) := if a0.toList = ([] : List UInt8) then (some a1) else (if a0.size + 1 ≤ 9223372036854775807 then (if (a0 ++ (⟨#[58]⟩ : ByteArray)).size + a1.size ≤ 9223372036854775807 then (some ((a0 ++ (⟨#[58]⟩ : ByteArray)) ++ a1)) else (none)) else (none))
set_option maxHeartbeats 8000000 in
set_option maxRecDepth 100000 in
theorem name_Join.calls (a0 : ByteArray) (a1 : ByteArray) (r : ByteArray) (w : World) (h : name_Join.f a0 a1 = some r) :
    Calls Try.prog 14 #[.string a0, .string a1] w fun e w' => e = .returned (.string r) ∧ Drawn0 w w' := by
  have H : (if a0.toList = ([] : List UInt8) then (some a1) else (if a0.size + 1 ≤ 9223372036854775807 then (if (a0 ++ (⟨#[58]⟩ : ByteArray)).size + a1.size ≤ 9223372036854775807 then (some ((a0 ++ (⟨#[58]⟩ : ByteArray)) ++ a1)) else (none)) else (none))) = some r := h
  clear h
  by_cases c3 : a0.toList = ([] : List UInt8)
  · rw [if_pos c3] at H
    have c3b0 : (a0.toList == ([] : List UInt8)) = true := beq_iff_eq.mpr c3
    have c3b1 : (a0.toList != ([] : List UInt8)) = false := bne_eq_false_iff_eq.mpr c3
    clear c3
    obtain rfl := Option.some.inj H
    go_enter Try.func14, Try.ntmps14
    go_wp2
    go_ret
    exact ⟨by first | rfl | (simp; done) | (simp [*]; done), by repeat (first | exact Drawn0.refl _ | apply Drawn0.step)⟩
  · rw [if_neg c3] at H
    have c3b0 : (a0.toList == ([] : List UInt8)) = false := beq_eq_false_iff_ne.mpr c3
    have c3b1 : (a0.toList != ([] : List UInt8)) = true := bne_iff_ne.mpr c3
    by_cases c4 : a0.size + 1 ≤ 9223372036854775807
    · rw [if_pos c4] at H
      have c4b0 := eq_true c4
      have c4b1 : decide (a0.size + 1 ≤ 9223372036854775807) = true := decide_eq_true c4
      try have c4b2 : (9223372036854775807 < a0.size + 1) = False := eq_false (Nat.not_lt.2 c4)
      by_cases c5 : (a0 ++ (⟨#[58]⟩ : ByteArray)).size + a1.size ≤ 9223372036854775807
      · rw [if_pos c5] at H
        have c5b0 := eq_true c5
        have c5b1 : decide ((a0 ++ (⟨#[58]⟩ : ByteArray)).size + a1.size ≤ 9223372036854775807) = true := decide_eq_true c5
        try have c5b2 : (9223372036854775807 < (a0 ++ (⟨#[58]⟩ : ByteArray)).size + a1.size) = False := eq_false (Nat.not_lt.2 c5)
        obtain rfl := Option.some.inj H
        go_enter Try.func14, Try.ntmps14
        go_wp2
        go_ret
        exact ⟨by first | rfl | (simp; done) | (simp [*]; done), by repeat (first | exact Drawn0.refl _ | apply Drawn0.step)⟩
      · rw [if_neg c5] at H
        exact absurd H (by simp)
    · rw [if_neg c4] at H
      exact absurd H (by simp)

end Go.Proofs.Ytccjkjmhmbcleaa.X
