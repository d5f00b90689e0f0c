/- Printed by a program of this session (xprint) out of the kit's print, with functions proved by hand. -/
import Derived.Test.YtmbbjdkcanoklaaX0
import Derived.Test.YtmbbjdkcanoklaaX7
import Derived.Test.YtmbbjdkcanoklaaX14
import Derived.Test.YtmbbjdkcanoklaaX15
import Derived.Test.YtmbbjdkcanoklaaX16
namespace Go.Proofs.Ytmbbjdkcanoklaa.X
open Go.RowKit Go.Proofs.YtmbbjdkcanoklaaW.PrintWords Go.Proofs.YtmbbjdkcanoklaaW.PrintLast Go.Proofs.YtmbbjdkcanoklaaW.PrintMore Go.Proofs.YtmbbjdkcanoklaaW.XConv
attribute [local go_sem] max2_int min2_int max_two min_two max_three min_three max_four min_four   -- for this text's walks alone
set_option linter.unusedVariables false
set_option linter.unusedSimpArgs false

theorem grp_orielref12_path.all_ : ∀ k, orielref12_path.Spec_ k ∧ orielref12_filter.Spec_ k := fun k => Nat.strongRecOn k (fun k ih => ⟨orielref12_path.step_ k (fun m_ h_ => (ih m_ h_).1) (fun m_ h_ => (ih m_ h_).2), orielref12_filter.step_ k (fun m_ h_ => (ih m_ h_).1) (fun m_ h_ => (ih m_ h_).2)⟩)
theorem orielref12_path.calls (k : Nat) : orielref12_path.Spec_ k := (grp_orielref12_path.all_ k).1
theorem orielref12_filter.calls (k : Nat) : orielref12_filter.Spec_ k := (grp_orielref12_path.all_ k).2

/-! ### orielref12_Right: function 9 -/
def orielref12_Right.f (k : Nat) (a0_0 : Int) (l0_1 : List (S25)) (l0_2 : List (S51)) : Option (Bool) := (orielref12_Size.f k a0_0 l0_1 l0_2).bind fun t274 => (if t274 ≤ 64 then ((orielref12_path.f k a0_0 l0_1 l0_2 16).bind fun t275 => (some t275)) else (some false))
theorem orielref12_Right.mono : ∀ a0 a1 a2 k, LeO (orielref12_Right.f k a0 a1 a2) (orielref12_Right.f (k + 1) a0 a1 a2) := by
 intro a0 a1 a2 k
 unfold orielref12_Right.f
 repeat' first
  | (with_reducible exact orielref12_Size.mono _ _ _ _)
  | (with_reducible exact orielref12_path.mono _ _ _ _ _)
  | (with_reducible exact LeO.refl _)
  | (with_reducible exact LeO.none _)
  | (with_reducible refine LeO.ite ?_ ?_)
  | (with_reducible refine LeO.bind ?_ (fun _ => ?_))
  | exact orielref12_Size.mono _ _ _ _
  | exact orielref12_path.mono _ _ _ _ _
  | exact LeO.none _
  | refine LeO.ite ?_ ?_
  | refine LeO.bind ?_ (fun _ => ?_)
set_option maxHeartbeats 8000000 in
set_option maxRecDepth 100000 in
theorem orielref12_Right.calls (k : Nat) (a0_0 : Int) (A0_1 : Option Addr) (c0_1 : Nat) (l0_1 : List (S25)) (A0_2 : Option Addr) (c0_2 : Nat) (l0_2 : List (S51)) (r : Bool) (w : World) (hr0_1 : Kd.C k25 w A0_1 l0_1.length l0_1) (hc0_1 : l0_1.length ≤ c0_1) (hr0_2 : Kd.C k51 w A0_2 l0_2.length l0_2) (hc0_2 : l0_2.length ≤ c0_2) (h : orielref12_Right.f k a0_0 l0_1 l0_2 = some r) :
  Calls Try.prog 9 #[.agg #[.int .i64 a0_0, .slice A0_1 l0_1.length c0_1, .slice A0_2 l0_2.length c0_2]] w fun e w' => e = .returned (.bool r) ∧ Below w.heap.size w w' := by
 have hu25 := Try.underlying25; have HR0_1 := Aside0.mk hr0_1; have HC0_1 := Aside0.mk hc0_1; clear hr0_1 hc0_1; have HR0_2 := Aside0.mk hr0_2; have HC0_2 := Aside0.mk hc0_2; clear hr0_2 hc0_2; have HB := Aside0.mk (Below.refl w.heap.size w); have H : ((orielref12_Size.f k a0_0 l0_1 l0_2).bind fun t274 => (if t274 ≤ 64 then ((orielref12_path.f k a0_0 l0_1 l0_2 16).bind fun t275 => (some t275)) else (some false))) = some r := h; clear h; replace H := Option.bind_eq_some_iff.mp H; obtain ⟨t274, A20, H⟩ := H; replace H : (if t274 ≤ 64 then ((orielref12_path.f k a0_0 l0_1 l0_2 16).bind fun t275 => (some t275)) else (some false)) = some r := H; have A2 := Aside0.mk A20; clear A20
 by_cases c3 : t274 ≤ 64
 rotate_left
 ·
  rw [if_neg c3] at H; have c3b0 : decide (t274 ≤ 64) = false := decide_eq_false c3; clear c3; obtain rfl := Option.some.inj H
  go_enter Try.func9, Try.ntmps9
  go_wp2_with (first | ((with_reducible refine gate_dst (N := 1) rfl ?_); refine box_event ?hg (N := 1) ?hd (cs := #[.int .i64 a0_0, .slice A0_1 l0_1.length c0_1, .slice A0_2 l0_2.length c0_2]) (t := 25) ?hr ?_; (case hd => rfl); (case hg => rfl); (case hr => first | (go_simp; done) | (go_simp; rfl)); intro gb273 hg w10 hbox hb; have n0_ := Aside0.mk (below_step (be0_ HB) hb); have n1_ := Aside0.mk (hbox); have n2_ := Aside0.mk ((by rw [hg]; exact (below_size (be0_ HB)) : w.heap.size ≤ gb273)); have n3_ := Aside0.mk ((by rw [hg]; exact (below_size (be0_ HB)) : w.heap.size ≤ gb273)); clear HB; have HB := n0_; have BK273 := n1_; have GW273 := n2_; have GE273 := n3_; clear n0_ n1_ n2_ n3_; clear hb hbox hg; have hcz11_0 : w10.cell? ⟨gb273, 0, none⟩ = some (.int .i64 a0_0) := (blk_cell BK273.out 0).trans rfl; have hcz11_1 : w10.cell? ⟨gb273, 1, none⟩ = some (.slice A0_1 l0_1.length c0_1) := (blk_cell BK273.out 1).trans rfl; have hcz11_2 : w10.cell? ⟨gb273, 2, none⟩ = some (.slice A0_2 l0_2.length c0_2) := (blk_cell BK273.out 2).trans rfl; have hfz11_0 := blk_frozen BK273.out 0; have hfz11_1 := blk_frozen BK273.out 1; have hfz11_2 := blk_frozen BK273.out 2) | ((with_reducible refine gate_callee (f := 25) rfl ?_); refine goesL_ (some 4) rfl rfl Try.func25 (by kernel_rfl) rfl #[.agg #[.int .i64 a0_0, .slice A0_1 l0_1.length c0_1, .slice A0_2 l0_2.length c0_2]] rfl (by (try simp only [List.map_toArray, List.map_cons, List.map_nil]); first | done | rfl | (simp only [List.length_drop, List.length_take]; rfl)) ?_; (with_reducible refine (orielref12_Size.calls k a0_0 _ _ l0_1 _ _ l0_2 t274 _ ?side1 ?side2 ?side3 ?side4 A2.out).mono ?_); (case side1 => repeat (first | exact (Kd.C_below HR0_1.out HB.out) | (with_reducible refine Kd.C_alloc ?_ _) | (with_reducible refine Kd.C_drewN ?_ _) | (with_reducible refine Kd.C_drew ?_))); (case side2 => exact HC0_1.out); (case side3 => repeat (first | exact (Kd.C_below HR0_2.out HB.out) | (with_reducible refine Kd.C_alloc ?_ _) | (with_reducible refine Kd.C_drewN ?_ _) | (with_reducible refine Kd.C_drew ?_))); (case side4 => exact HC0_2.out); rintro e w12 ⟨rfl, hb⟩; refine ⟨_, rfl, ?_⟩; have n0_ := Aside0.mk (blk_below (g := gb273) (o := .cells #[.int .i64 a0_0, .slice A0_1 l0_1.length c0_1, .slice A0_2 l0_2.length c0_2] 25 (0, 0)) (bk_ BK273) hb); have n1_ := Aside0.mk (below_step (be1_ HB GE273) hb); clear BK273; clear HB; have BK273 := n0_; have HB := n1_; clear n0_ n1_; (try clear hb); (try clear hb2); (try clear hk); (try clear hi)))
  go_ret
  exact ⟨by first | rfl | exact congrArg (fun b => Ending.returned (Value.bool b)) (isE_ne _).symm | exact congrArg (fun b => Ending.returned (Value.bool b)) (isE_eq _).symm | (simp only [isE_ne, isE_eq, Bool.not_not]; done) | (simp [errW_none, errW_some] <;> rfl) | (simp [*, errW_none, errW_some] <;> rfl), be1_ HB GE273⟩
 rw [if_pos c3] at H; have c3b0 : decide (t274 ≤ 64) = true := decide_eq_true c3; clear c3; replace H := Option.bind_eq_some_iff.mp H; obtain ⟨t275, A40, H⟩ := H; replace H : (some t275) = some r := H; have A4 := Aside0.mk A40; clear A40; obtain rfl := Option.some.inj H
 go_enter Try.func9, Try.ntmps9
 go_wp2_with (first | ((with_reducible refine gate_dst (N := 1) rfl ?_); refine box_event ?hg (N := 1) ?hd (cs := #[.int .i64 a0_0, .slice A0_1 l0_1.length c0_1, .slice A0_2 l0_2.length c0_2]) (t := 25) ?hr ?_; (case hd => rfl); (case hg => rfl); (case hr => first | (go_simp; done) | (go_simp; rfl)); intro gb273 hg w5 hbox hb; have n0_ := Aside0.mk (below_step (be0_ HB) hb); have n1_ := Aside0.mk (hbox); have n2_ := Aside0.mk ((by rw [hg]; exact (below_size (be0_ HB)) : w.heap.size ≤ gb273)); have n3_ := Aside0.mk ((by rw [hg]; exact (below_size (be0_ HB)) : w.heap.size ≤ gb273)); clear HB; have HB := n0_; have BK273 := n1_; have GW273 := n2_; have GE273 := n3_; clear n0_ n1_ n2_ n3_; clear hb hbox hg; have hcz6_0 : w5.cell? ⟨gb273, 0, none⟩ = some (.int .i64 a0_0) := (blk_cell BK273.out 0).trans rfl; have hcz6_1 : w5.cell? ⟨gb273, 1, none⟩ = some (.slice A0_1 l0_1.length c0_1) := (blk_cell BK273.out 1).trans rfl; have hcz6_2 : w5.cell? ⟨gb273, 2, none⟩ = some (.slice A0_2 l0_2.length c0_2) := (blk_cell BK273.out 2).trans rfl; have hfz6_0 := blk_frozen BK273.out 0; have hfz6_1 := blk_frozen BK273.out 1; have hfz6_2 := blk_frozen BK273.out 2) | ((with_reducible refine gate_callee (f := 25) rfl ?_); refine goesL_ (some 4) rfl rfl Try.func25 (by kernel_rfl) rfl #[.agg #[.int .i64 a0_0, .slice A0_1 l0_1.length c0_1, .slice A0_2 l0_2.length c0_2]] rfl (by (try simp only [List.map_toArray, List.map_cons, List.map_nil]); first | done | rfl | (simp only [List.length_drop, List.length_take]; rfl)) ?_; (with_reducible refine (orielref12_Size.calls k a0_0 _ _ l0_1 _ _ l0_2 t274 _ ?side1 ?side2 ?side3 ?side4 A2.out).mono ?_); (case side1 => repeat (first | exact (Kd.C_below HR0_1.out HB.out) | (with_reducible refine Kd.C_alloc ?_ _) | (with_reducible refine Kd.C_drewN ?_ _) | (with_reducible refine Kd.C_drew ?_))); (case side2 => exact HC0_1.out); (case side3 => repeat (first | exact (Kd.C_below HR0_2.out HB.out) | (with_reducible refine Kd.C_alloc ?_ _) | (with_reducible refine Kd.C_drewN ?_ _) | (with_reducible refine Kd.C_drew ?_))); (case side4 => exact HC0_2.out); rintro e w7 ⟨rfl, hb⟩; refine ⟨_, rfl, ?_⟩; have n0_ := Aside0.mk (blk_below (g := gb273) (o := .cells #[.int .i64 a0_0, .slice A0_1 l0_1.length c0_1, .slice A0_2 l0_2.length c0_2] 25 (0, 0)) (bk_ BK273) hb); have n1_ := Aside0.mk (below_step (be1_ HB GE273) hb); clear BK273; clear HB; have BK273 := n0_; have HB := n1_; clear n0_ n1_; (try clear hb); (try clear hb2); (try clear hk); (try clear hi); have hcz8_0 : w7.cell? ⟨gb273, 0, none⟩ = some (.int .i64 a0_0) := (blk_cell BK273.out 0).trans rfl; have hcz8_1 : w7.cell? ⟨gb273, 1, none⟩ = some (.slice A0_1 l0_1.length c0_1) := (blk_cell BK273.out 1).trans rfl; have hcz8_2 : w7.cell? ⟨gb273, 2, none⟩ = some (.slice A0_2 l0_2.length c0_2) := (blk_cell BK273.out 2).trans rfl; have hfz8_0 := blk_frozen BK273.out 0; have hfz8_1 := blk_frozen BK273.out 1; have hfz8_2 := blk_frozen BK273.out 2) | (go_at_call 26; (with_reducible refine (orielref12_path.calls k a0_0 _ _ l0_1 _ _ l0_2 16 t275 _ ?side1 ?side2 ?side3 ?side4 A4.out).mono ?_); (case side1 => repeat (first | exact (Kd.C_below HR0_1.out HB.out) | (with_reducible refine Kd.C_alloc ?_ _) | (with_reducible refine Kd.C_drewN ?_ _) | (with_reducible refine Kd.C_drew ?_))); (case side2 => exact HC0_1.out); (case side3 => repeat (first | exact (Kd.C_below HR0_2.out HB.out) | (with_reducible refine Kd.C_alloc ?_ _) | (with_reducible refine Kd.C_drewN ?_ _) | (with_reducible refine Kd.C_drew ?_))); (case side4 => exact HC0_2.out); rintro e w9 ⟨rfl, hb⟩; have n0_ := Aside0.mk (blk_below (g := gb273) (o := .cells #[.int .i64 a0_0, .slice A0_1 l0_1.length c0_1, .slice A0_2 l0_2.length c0_2] 25 (0, 0)) (bk_ BK273) hb); have n1_ := Aside0.mk (below_step (be1_ HB GE273) hb); clear BK273; clear HB; have BK273 := n0_; have HB := n1_; clear n0_ n1_; (try clear hb); (try clear hb2); (try clear hk); (try clear hi)))
 go_ret
 exact ⟨by first | rfl | exact congrArg (fun b => Ending.returned (Value.bool b)) (isE_ne _).symm | exact congrArg (fun b => Ending.returned (Value.bool b)) (isE_eq _).symm | (simp only [isE_ne, isE_eq, Bool.not_not]; done) | (simp [errW_none, errW_some] <;> rfl) | (simp [*, errW_none, errW_some] <;> rfl), be1_ HB GE273⟩
mutual
def orielref12_SameFilter.j0 : Nat → Bool → Int → ByteArray → ByteArray → ByteArray → List (S51) → List (S25) → Int → ByteArray → ByteArray → ByteArray → List (S51) → List (S25) → Option (Bool)
 | 0, _, _, _, _, _, _, _, _, _, _, _, _, _ => none
 | k + 1, x43, x341000, x341001, x341002, x341003, x341004, x341005, x342000, x342001, x342002, x342003, x342004, x342005 => if x43 = true then (some false) else (orielref12_SameFilter.l0 k 0 x341000 x341001 x341002 x341003 x341004 x341005 x342000 x342001 x342002 x342003 x342004 x342005)
def orielref12_SameFilter.l0 : Nat → Int → Int → ByteArray → ByteArray → ByteArray → List (S51) → List (S25) → Int → ByteArray → ByteArray → ByteArray → List (S51) → List (S25) → Option (Bool)
 | 0, _, _, _, _, _, _, _, _, _, _, _, _, _ => none
 | k + 1, x5, x341000, x341001, x341002, x341003, x341004, x341005, x342000, x342001, x342002, x342003, x342004, x342005 => if x5 < (x341004.length : Int) then (if 0 ≤ x5 then (if x5 < (x342004.length : Int) then ((orielref12_SameFilter.f k ((rd_T51 x341004 x5).f0) ((rd_T51 x341004 x5).f1.f0) ((rd_T51 x341004 x5).f1.f1) ((rd_T51 x341004 x5).f2) ((rd_T51 x341004 x5).f3) ((rd_T51 x341004 x5).f4) ((rd_T51 x342004 x5).f0) ((rd_T51 x342004 x5).f1.f0) ((rd_T51 x342004 x5).f1.f1) ((rd_T51 x342004 x5).f2) ((rd_T51 x342004 x5).f3) ((rd_T51 x342004 x5).f4)).bind fun t344 => (if t344 = true then (orielref12_SameFilter.l0 k (wrap64 (x5 + 1)) x341000 x341001 x341002 x341003 x341004 x341005 x342000 x342001 x342002 x342003 x342004 x342005) else (some false))) else (none)) else (none)) else (orielref12_SameFilter.l1 k 0 x341000 x341001 x341002 x341003 x341004 x341005 x342000 x342001 x342002 x342003 x342004 x342005)
def orielref12_SameFilter.l1 : Nat → Int → Int → ByteArray → ByteArray → ByteArray → List (S51) → List (S25) → Int → ByteArray → ByteArray → ByteArray → List (S51) → List (S25) → Option (Bool)
 | 0, _, _, _, _, _, _, _, _, _, _, _, _, _ => none
 | k + 1, x6, x341000, x341001, x341002, x341003, x341004, x341005, x342000, x342001, x342002, x342003, x342004, x342005 => if x6 < (x341005.length : Int) then (if 0 ≤ x6 then (if x6 < (x342005.length : Int) then ((orielref12_Same.f k ((rd_T25 x341005 x6).f0) ((rd_T25 x341005 x6).f1) ((rd_T25 x341005 x6).f2) ((rd_T25 x342005 x6).f0) ((rd_T25 x342005 x6).f1) ((rd_T25 x342005 x6).f2)).bind fun t347 => (if t347 = true then (orielref12_SameFilter.l1 k (wrap64 (x6 + 1)) x341000 x341001 x341002 x341003 x341004 x341005 x342000 x342001 x342002 x342003 x342004 x342005) else (some false))) else (none)) else (none)) else (some true)
def orielref12_SameFilter.f : Nat → Int → ByteArray → ByteArray → ByteArray → List (S51) → List (S25) → Int → ByteArray → ByteArray → ByteArray → List (S51) → List (S25) → Option (Bool)
 | 0, _, _, _, _, _, _, _, _, _, _, _, _ => none
 | k + 1, a0_0, a0_1, a0_2, a0_3, l0_4, l0_5, a1_0, a1_1, a1_2, a1_3, l1_4, l1_5 => if a0_0 = a1_0 then (if (!(a0_1.toList == a1_1.toList) || (!(a0_2.toList == a1_2.toList))) = true then (orielref12_SameFilter.j0 k true a0_0 a0_1 a0_2 a0_3 l0_4 l0_5 a1_0 a1_1 a1_2 a1_3 l1_4 l1_5) else (if a0_3.toList = a1_3.toList then (if (l0_4.length : Int) = (l1_4.length : Int) then (orielref12_SameFilter.j0 k ((l0_5.length : Int) != (l1_5.length : Int)) a0_0 a0_1 a0_2 a0_3 l0_4 l0_5 a1_0 a1_1 a1_2 a1_3 l1_4 l1_5) else (orielref12_SameFilter.j0 k true a0_0 a0_1 a0_2 a0_3 l0_4 l0_5 a1_0 a1_1 a1_2 a1_3 l1_4 l1_5)) else (orielref12_SameFilter.j0 k true a0_0 a0_1 a0_2 a0_3 l0_4 l0_5 a1_0 a1_1 a1_2 a1_3 l1_4 l1_5))) else (orielref12_SameFilter.j0 k true a0_0 a0_1 a0_2 a0_3 l0_4 l0_5 a1_0 a1_1 a1_2 a1_3 l1_4 l1_5)
def orielref12_Same.j0 : Nat → Bool → Int → List (S25) → List (S51) → Int → List (S25) → List (S51) → Option (Bool)
 | 0, _, _, _, _, _, _, _ => none
 | k + 1, x29, x349000, x349001, x349002, x350000, x350001, x350002 => if x29 = true then (some false) else (orielref12_Same.l0 k 0 x349000 x349001 x349002 x350000 x350001 x350002)
def orielref12_Same.l0 : Nat → Int → Int → List (S25) → List (S51) → Int → List (S25) → List (S51) → Option (Bool)
 | 0, _, _, _, _, _, _, _ => none
 | k + 1, x5, x349000, x349001, x349002, x350000, x350001, x350002 => if x5 < (x349001.length : Int) then (if 0 ≤ x5 then (if x5 < (x350001.length : Int) then ((orielref12_Same.f k ((rd_T25 x349001 x5).f0) ((rd_T25 x349001 x5).f1) ((rd_T25 x349001 x5).f2) ((rd_T25 x350001 x5).f0) ((rd_T25 x350001 x5).f1) ((rd_T25 x350001 x5).f2)).bind fun t352 => (if t352 = true then (orielref12_Same.l0 k (wrap64 (x5 + 1)) x349000 x349001 x349002 x350000 x350001 x350002) else (some false))) else (none)) else (none)) else (orielref12_Same.l1 k 0 x349000 x349001 x349002 x350000 x350001 x350002)
def orielref12_Same.l1 : Nat → Int → Int → List (S25) → List (S51) → Int → List (S25) → List (S51) → Option (Bool)
 | 0, _, _, _, _, _, _, _ => none
 | k + 1, x6, x349000, x349001, x349002, x350000, x350001, x350002 => if x6 < (x349002.length : Int) then (if 0 ≤ x6 then (if x6 < (x350002.length : Int) then ((orielref12_SameFilter.f k ((rd_T51 x349002 x6).f0) ((rd_T51 x349002 x6).f1.f0) ((rd_T51 x349002 x6).f1.f1) ((rd_T51 x349002 x6).f2) ((rd_T51 x349002 x6).f3) ((rd_T51 x349002 x6).f4) ((rd_T51 x350002 x6).f0) ((rd_T51 x350002 x6).f1.f0) ((rd_T51 x350002 x6).f1.f1) ((rd_T51 x350002 x6).f2) ((rd_T51 x350002 x6).f3) ((rd_T51 x350002 x6).f4)).bind fun t355 => (if t355 = true then (orielref12_Same.l1 k (wrap64 (x6 + 1)) x349000 x349001 x349002 x350000 x350001 x350002) else (some false))) else (none)) else (none)) else (some true)
def orielref12_Same.f : Nat → Int → List (S25) → List (S51) → Int → List (S25) → List (S51) → Option (Bool)
 | 0, _, _, _, _, _, _ => none
 | k + 1, a0_0, l0_1, l0_2, a1_0, l1_1, l1_2 => if a0_0 = a1_0 then (if (l0_1.length : Int) = (l1_1.length : Int) then (orielref12_Same.j0 k ((l0_2.length : Int) != (l1_2.length : Int)) a0_0 l0_1 l0_2 a1_0 l1_1 l1_2) else (orielref12_Same.j0 k true a0_0 l0_1 l0_2 a1_0 l1_1 l1_2)) else (orielref12_Same.j0 k true a0_0 l0_1 l0_2 a1_0 l1_1 l1_2)
end
theorem grp_orielref12_SameFilter.mono_l : ∀ k, (∀ y0 y1 y2 y3 y4 y5 y6 y7 y8 y9 y10 y11, LeO (orielref12_SameFilter.f k y0 y1 y2 y3 y4 y5 y6 y7 y8 y9 y10 y11) (orielref12_SameFilter.f (k + 1) y0 y1 y2 y3 y4 y5 y6 y7 y8 y9 y10 y11)) ∧ (∀ y0 y1 y2 y3 y4 y5 y6 y7 y8 y9 y10 y11 y12, LeO (orielref12_SameFilter.j0 k y0 y1 y2 y3 y4 y5 y6 y7 y8 y9 y10 y11 y12) (orielref12_SameFilter.j0 (k + 1) y0 y1 y2 y3 y4 y5 y6 y7 y8 y9 y10 y11 y12)) ∧ (∀ y0 y1 y2 y3 y4 y5 y6 y7 y8 y9 y10 y11 y12, LeO (orielref12_SameFilter.l0 k y0 y1 y2 y3 y4 y5 y6 y7 y8 y9 y10 y11 y12) (orielref12_SameFilter.l0 (k + 1) y0 y1 y2 y3 y4 y5 y6 y7 y8 y9 y10 y11 y12)) ∧ (∀ y0 y1 y2 y3 y4 y5 y6 y7 y8 y9 y10 y11 y12, LeO (orielref12_SameFilter.l1 k y0 y1 y2 y3 y4 y5 y6 y7 y8 y9 y10 y11 y12) (orielref12_SameFilter.l1 (k + 1) y0 y1 y2 y3 y4 y5 y6 y7 y8 y9 y10 y11 y12)) ∧ (∀ y0 y1 y2 y3 y4 y5, LeO (orielref12_Same.f k y0 y1 y2 y3 y4 y5) (orielref12_Same.f (k + 1) y0 y1 y2 y3 y4 y5)) ∧ (∀ y0 y1 y2 y3 y4 y5 y6, LeO (orielref12_Same.j0 k y0 y1 y2 y3 y4 y5 y6) (orielref12_Same.j0 (k + 1) y0 y1 y2 y3 y4 y5 y6)) ∧ (∀ y0 y1 y2 y3 y4 y5 y6, LeO (orielref12_Same.l0 k y0 y1 y2 y3 y4 y5 y6) (orielref12_Same.l0 (k + 1) y0 y1 y2 y3 y4 y5 y6)) ∧ (∀ y0 y1 y2 y3 y4 y5 y6, LeO (orielref12_Same.l1 k y0 y1 y2 y3 y4 y5 y6) (orielref12_Same.l1 (k + 1) y0 y1 y2 y3 y4 y5 y6))
 | 0 => ⟨fun _ _ _ _ _ _ _ _ _ _ _ _ r h => by simp [orielref12_SameFilter.f] at h, fun _ _ _ _ _ _ _ _ _ _ _ _ _ r h => by simp [orielref12_SameFilter.j0] at h, fun _ _ _ _ _ _ _ _ _ _ _ _ _ r h => by simp [orielref12_SameFilter.l0] at h, fun _ _ _ _ _ _ _ _ _ _ _ _ _ r h => by simp [orielref12_SameFilter.l1] at h, fun _ _ _ _ _ _ r h => by simp [orielref12_Same.f] at h, fun _ _ _ _ _ _ _ r h => by simp [orielref12_Same.j0] at h, fun _ _ _ _ _ _ _ r h => by simp [orielref12_Same.l0] at h, fun _ _ _ _ _ _ _ r h => by simp [orielref12_Same.l1] at h⟩
 | k + 1 => by
  obtain ⟨ih0, ih1, ih2, ih3, ih4, ih5, ih6, ih7⟩ := grp_orielref12_SameFilter.mono_l k
  refine ⟨?_, ?_, ?_, ?_, ?_, ?_, ?_, ?_⟩
  ·
   intro y0 y1 y2 y3 y4 y5 y6 y7 y8 y9 y10 y11
   unfold orielref12_SameFilter.f
   repeat' first
   | (with_reducible exact ih0 _ _ _ _ _ _ _ _ _ _ _ _)
   | (with_reducible exact ih1 _ _ _ _ _ _ _ _ _ _ _ _ _)
   | (with_reducible exact ih2 _ _ _ _ _ _ _ _ _ _ _ _ _)
   | (with_reducible exact ih3 _ _ _ _ _ _ _ _ _ _ _ _ _)
   | (with_reducible exact ih4 _ _ _ _ _ _)
   | (with_reducible exact ih5 _ _ _ _ _ _ _)
   | (with_reducible exact ih6 _ _ _ _ _ _ _)
   | (with_reducible exact ih7 _ _ _ _ _ _ _)
   | (with_reducible exact LeO.refl _)
   | (with_reducible exact LeO.none _)
   | (with_reducible refine LeO.ite ?_ ?_)
   | (with_reducible refine LeO.bind ?_ (fun _ => ?_))
   | exact ih0 _ _ _ _ _ _ _ _ _ _ _ _
   | exact ih1 _ _ _ _ _ _ _ _ _ _ _ _ _
   | exact ih2 _ _ _ _ _ _ _ _ _ _ _ _ _
   | exact ih3 _ _ _ _ _ _ _ _ _ _ _ _ _
   | exact ih4 _ _ _ _ _ _
   | exact ih5 _ _ _ _ _ _ _
   | exact ih6 _ _ _ _ _ _ _
   | exact ih7 _ _ _ _ _ _ _
   | exact LeO.none _
   | refine LeO.ite ?_ ?_
   | refine LeO.bind ?_ (fun _ => ?_)
  ·
   intro y0 y1 y2 y3 y4 y5 y6 y7 y8 y9 y10 y11 y12
   unfold orielref12_SameFilter.j0
   repeat' first
   | (with_reducible exact ih0 _ _ _ _ _ _ _ _ _ _ _ _)
   | (with_reducible exact ih1 _ _ _ _ _ _ _ _ _ _ _ _ _)
   | (with_reducible exact ih2 _ _ _ _ _ _ _ _ _ _ _ _ _)
   | (with_reducible exact ih3 _ _ _ _ _ _ _ _ _ _ _ _ _)
   | (with_reducible exact ih4 _ _ _ _ _ _)
   | (with_reducible exact ih5 _ _ _ _ _ _ _)
   | (with_reducible exact ih6 _ _ _ _ _ _ _)
   | (with_reducible exact ih7 _ _ _ _ _ _ _)
   | (with_reducible exact LeO.refl _)
   | (with_reducible exact LeO.none _)
   | (with_reducible refine LeO.ite ?_ ?_)
   | (with_reducible refine LeO.bind ?_ (fun _ => ?_))
   | exact ih0 _ _ _ _ _ _ _ _ _ _ _ _
   | exact ih1 _ _ _ _ _ _ _ _ _ _ _ _ _
   | exact ih2 _ _ _ _ _ _ _ _ _ _ _ _ _
   | exact ih3 _ _ _ _ _ _ _ _ _ _ _ _ _
   | exact ih4 _ _ _ _ _ _
   | exact ih5 _ _ _ _ _ _ _
   | exact ih6 _ _ _ _ _ _ _
   | exact ih7 _ _ _ _ _ _ _
   | exact LeO.none _
   | refine LeO.ite ?_ ?_
   | refine LeO.bind ?_ (fun _ => ?_)
  ·
   intro y0 y1 y2 y3 y4 y5 y6 y7 y8 y9 y10 y11 y12
   unfold orielref12_SameFilter.l0
   repeat' first
   | (with_reducible exact ih0 _ _ _ _ _ _ _ _ _ _ _ _)
   | (with_reducible exact ih1 _ _ _ _ _ _ _ _ _ _ _ _ _)
   | (with_reducible exact ih2 _ _ _ _ _ _ _ _ _ _ _ _ _)
   | (with_reducible exact ih3 _ _ _ _ _ _ _ _ _ _ _ _ _)
   | (with_reducible exact ih4 _ _ _ _ _ _)
   | (with_reducible exact ih5 _ _ _ _ _ _ _)
   | (with_reducible exact ih6 _ _ _ _ _ _ _)
   | (with_reducible exact ih7 _ _ _ _ _ _ _)
   | (with_reducible exact LeO.refl _)
   | (with_reducible exact LeO.none _)
   | (with_reducible refine LeO.ite ?_ ?_)
   | (with_reducible refine LeO.bind ?_ (fun _ => ?_))
   | exact ih0 _ _ _ _ _ _ _ _ _ _ _ _
   | exact ih1 _ _ _ _ _ _ _ _ _ _ _ _ _
   | exact ih2 _ _ _ _ _ _ _ _ _ _ _ _ _
   | exact ih3 _ _ _ _ _ _ _ _ _ _ _ _ _
   | exact ih4 _ _ _ _ _ _
   | exact ih5 _ _ _ _ _ _ _
   | exact ih6 _ _ _ _ _ _ _
   | exact ih7 _ _ _ _ _ _ _
   | exact LeO.none _
   | refine LeO.ite ?_ ?_
   | refine LeO.bind ?_ (fun _ => ?_)
  ·
   intro y0 y1 y2 y3 y4 y5 y6 y7 y8 y9 y10 y11 y12
   unfold orielref12_SameFilter.l1
   repeat' first
   | (with_reducible exact ih0 _ _ _ _ _ _ _ _ _ _ _ _)
   | (with_reducible exact ih1 _ _ _ _ _ _ _ _ _ _ _ _ _)
   | (with_reducible exact ih2 _ _ _ _ _ _ _ _ _ _ _ _ _)
   | (with_reducible exact ih3 _ _ _ _ _ _ _ _ _ _ _ _ _)
   | (with_reducible exact ih4 _ _ _ _ _ _)
   | (with_reducible exact ih5 _ _ _ _ _ _ _)
   | (with_reducible exact ih6 _ _ _ _ _ _ _)
   | (with_reducible exact ih7 _ _ _ _ _ _ _)
   | (with_reducible exact LeO.refl _)
   | (with_reducible exact LeO.none _)
   | (with_reducible refine LeO.ite ?_ ?_)
   | (with_reducible refine LeO.bind ?_ (fun _ => ?_))
   | exact ih0 _ _ _ _ _ _ _ _ _ _ _ _
   | exact ih1 _ _ _ _ _ _ _ _ _ _ _ _ _
   | exact ih2 _ _ _ _ _ _ _ _ _ _ _ _ _
   | exact ih3 _ _ _ _ _ _ _ _ _ _ _ _ _
   | exact ih4 _ _ _ _ _ _
   | exact ih5 _ _ _ _ _ _ _
   | exact ih6 _ _ _ _ _ _ _
   | exact ih7 _ _ _ _ _ _ _
   | exact LeO.none _
   | refine LeO.ite ?_ ?_
   | refine LeO.bind ?_ (fun _ => ?_)
  ·
   intro y0 y1 y2 y3 y4 y5
   unfold orielref12_Same.f
   repeat' first
   | (with_reducible exact ih0 _ _ _ _ _ _ _ _ _ _ _ _)
   | (with_reducible exact ih1 _ _ _ _ _ _ _ _ _ _ _ _ _)
   | (with_reducible exact ih2 _ _ _ _ _ _ _ _ _ _ _ _ _)
   | (with_reducible exact ih3 _ _ _ _ _ _ _ _ _ _ _ _ _)
   | (with_reducible exact ih4 _ _ _ _ _ _)
   | (with_reducible exact ih5 _ _ _ _ _ _ _)
   | (with_reducible exact ih6 _ _ _ _ _ _ _)
   | (with_reducible exact ih7 _ _ _ _ _ _ _)
   | (with_reducible exact LeO.refl _)
   | (with_reducible exact LeO.none _)
   | (with_reducible refine LeO.ite ?_ ?_)
   | (with_reducible refine LeO.bind ?_ (fun _ => ?_))
   | exact ih0 _ _ _ _ _ _ _ _ _ _ _ _
   | exact ih1 _ _ _ _ _ _ _ _ _ _ _ _ _
   | exact ih2 _ _ _ _ _ _ _ _ _ _ _ _ _
   | exact ih3 _ _ _ _ _ _ _ _ _ _ _ _ _
   | exact ih4 _ _ _ _ _ _
   | exact ih5 _ _ _ _ _ _ _
   | exact ih6 _ _ _ _ _ _ _
   | exact ih7 _ _ _ _ _ _ _
   | exact LeO.none _
   | refine LeO.ite ?_ ?_
   | refine LeO.bind ?_ (fun _ => ?_)
  ·
   intro y0 y1 y2 y3 y4 y5 y6
   unfold orielref12_Same.j0
   repeat' first
   | (with_reducible exact ih0 _ _ _ _ _ _ _ _ _ _ _ _)
   | (with_reducible exact ih1 _ _ _ _ _ _ _ _ _ _ _ _ _)
   | (with_reducible exact ih2 _ _ _ _ _ _ _ _ _ _ _ _ _)
   | (with_reducible exact ih3 _ _ _ _ _ _ _ _ _ _ _ _ _)
   | (with_reducible exact ih4 _ _ _ _ _ _)
   | (with_reducible exact ih5 _ _ _ _ _ _ _)
   | (with_reducible exact ih6 _ _ _ _ _ _ _)
   | (with_reducible exact ih7 _ _ _ _ _ _ _)
   | (with_reducible exact LeO.refl _)
   | (with_reducible exact LeO.none _)
   | (with_reducible refine LeO.ite ?_ ?_)
   | (with_reducible refine LeO.bind ?_ (fun _ => ?_))
   | exact ih0 _ _ _ _ _ _ _ _ _ _ _ _
   | exact ih1 _ _ _ _ _ _ _ _ _ _ _ _ _
   | exact ih2 _ _ _ _ _ _ _ _ _ _ _ _ _
   | exact ih3 _ _ _ _ _ _ _ _ _ _ _ _ _
   | exact ih4 _ _ _ _ _ _
   | exact ih5 _ _ _ _ _ _ _
   | exact ih6 _ _ _ _ _ _ _
   | exact ih7 _ _ _ _ _ _ _
   | exact LeO.none _
   | refine LeO.ite ?_ ?_
   | refine LeO.bind ?_ (fun _ => ?_)
  ·
   intro y0 y1 y2 y3 y4 y5 y6
   unfold orielref12_Same.l0
   repeat' first
   | (with_reducible exact ih0 _ _ _ _ _ _ _ _ _ _ _ _)
   | (with_reducible exact ih1 _ _ _ _ _ _ _ _ _ _ _ _ _)
   | (with_reducible exact ih2 _ _ _ _ _ _ _ _ _ _ _ _ _)
   | (with_reducible exact ih3 _ _ _ _ _ _ _ _ _ _ _ _ _)
   | (with_reducible exact ih4 _ _ _ _ _ _)
   | (with_reducible exact ih5 _ _ _ _ _ _ _)
   | (with_reducible exact ih6 _ _ _ _ _ _ _)
   | (with_reducible exact ih7 _ _ _ _ _ _ _)
   | (with_reducible exact LeO.refl _)
   | (with_reducible exact LeO.none _)
   | (with_reducible refine LeO.ite ?_ ?_)
   | (with_reducible refine LeO.bind ?_ (fun _ => ?_))
   | exact ih0 _ _ _ _ _ _ _ _ _ _ _ _
   | exact ih1 _ _ _ _ _ _ _ _ _ _ _ _ _
   | exact ih2 _ _ _ _ _ _ _ _ _ _ _ _ _
   | exact ih3 _ _ _ _ _ _ _ _ _ _ _ _ _
   | exact ih4 _ _ _ _ _ _
   | exact ih5 _ _ _ _ _ _ _
   | exact ih6 _ _ _ _ _ _ _
   | exact ih7 _ _ _ _ _ _ _
   | exact LeO.none _
   | refine LeO.ite ?_ ?_
   | refine LeO.bind ?_ (fun _ => ?_)
  ·
   intro y0 y1 y2 y3 y4 y5 y6
   unfold orielref12_Same.l1
   repeat' first
   | (with_reducible exact ih0 _ _ _ _ _ _ _ _ _ _ _ _)
   | (with_reducible exact ih1 _ _ _ _ _ _ _ _ _ _ _ _ _)
   | (with_reducible exact ih2 _ _ _ _ _ _ _ _ _ _ _ _ _)
   | (with_reducible exact ih3 _ _ _ _ _ _ _ _ _ _ _ _ _)
   | (with_reducible exact ih4 _ _ _ _ _ _)
   | (with_reducible exact ih5 _ _ _ _ _ _ _)
   | (with_reducible exact ih6 _ _ _ _ _ _ _)
   | (with_reducible exact ih7 _ _ _ _ _ _ _)
   | (with_reducible exact LeO.refl _)
   | (with_reducible exact LeO.none _)
   | (with_reducible refine LeO.ite ?_ ?_)
   | (with_reducible refine LeO.bind ?_ (fun _ => ?_))
   | exact ih0 _ _ _ _ _ _ _ _ _ _ _ _
   | exact ih1 _ _ _ _ _ _ _ _ _ _ _ _ _
   | exact ih2 _ _ _ _ _ _ _ _ _ _ _ _ _
   | exact ih3 _ _ _ _ _ _ _ _ _ _ _ _ _
   | exact ih4 _ _ _ _ _ _
   | exact ih5 _ _ _ _ _ _ _
   | exact ih6 _ _ _ _ _ _ _
   | exact ih7 _ _ _ _ _ _ _
   | exact LeO.none _
   | refine LeO.ite ?_ ?_
   | refine LeO.bind ?_ (fun _ => ?_)
theorem orielref12_SameFilter.mono : ∀ a0 a1 a2 a3 a4 a5 a6 a7 a8 a9 a10 a11 k, LeO (orielref12_SameFilter.f k a0 a1 a2 a3 a4 a5 a6 a7 a8 a9 a10 a11) (orielref12_SameFilter.f (k + 1) a0 a1 a2 a3 a4 a5 a6 a7 a8 a9 a10 a11) := by
 intro a0 a1 a2 a3 a4 a5 a6 a7 a8 a9 a10 a11 k; obtain ⟨ih0, ih1, ih2, ih3, ih4, ih5, ih6, ih7⟩ := grp_orielref12_SameFilter.mono_l k; exact ih0 a0 a1 a2 a3 a4 a5 a6 a7 a8 a9 a10 a11
theorem orielref12_Same.mono : ∀ a0 a1 a2 a3 a4 a5 k, LeO (orielref12_Same.f k a0 a1 a2 a3 a4 a5) (orielref12_Same.f (k + 1) a0 a1 a2 a3 a4 a5) := by
 intro a0 a1 a2 a3 a4 a5 k; obtain ⟨ih0, ih1, ih2, ih3, ih4, ih5, ih6, ih7⟩ := grp_orielref12_SameFilter.mono_l k; exact ih4 a0 a1 a2 a3 a4 a5
abbrev orielref12_SameFilter.Spec_ (k : Nat) : Prop := ∀ (a0_0 : Int) (a0_1 : ByteArray) (a0_2 : ByteArray) (a0_3 : ByteArray) (A0_4 : Option Addr) (c0_4 : Nat) (l0_4 : List (S51)) (A0_5 : Option Addr) (c0_5 : Nat) (l0_5 : List (S25)) (a1_0 : Int) (a1_1 : ByteArray) (a1_2 : ByteArray) (a1_3 : ByteArray) (A1_4 : Option Addr) (c1_4 : Nat) (l1_4 : List (S51)) (A1_5 : Option Addr) (c1_5 : Nat) (l1_5 : List (S25)) (r : Bool) (w : World) (hr0_4 : Kd.C k51 w A0_4 l0_4.length l0_4) (hc0_4 : l0_4.length ≤ c0_4) (hr0_5 : Kd.C k25 w A0_5 l0_5.length l0_5) (hc0_5 : l0_5.length ≤ c0_5) (hr1_4 : Kd.C k51 w A1_4 l1_4.length l1_4) (hc1_4 : l1_4.length ≤ c1_4) (hr1_5 : Kd.C k25 w A1_5 l1_5.length l1_5) (hc1_5 : l1_5.length ≤ c1_5) (h : orielref12_SameFilter.f k a0_0 a0_1 a0_2 a0_3 l0_4 l0_5 a1_0 a1_1 a1_2 a1_3 l1_4 l1_5 = some r),
  Calls Try.prog 27 #[.agg #[.int .i64 a0_0, .string a0_1, .string a0_2, .string a0_3, .slice A0_4 l0_4.length c0_4, .slice A0_5 l0_5.length c0_5], .agg #[.int .i64 a1_0, .string a1_1, .string a1_2, .string a1_3, .slice A1_4 l1_4.length c1_4, .slice A1_5 l1_5.length c1_5]] w fun e w' => e = .returned (.bool r) ∧ Below w.heap.size w w'
abbrev orielref12_Same.Spec_ (k : Nat) : Prop := ∀ (a0_0 : Int) (A0_1 : Option Addr) (c0_1 : Nat) (l0_1 : List (S25)) (A0_2 : Option Addr) (c0_2 : Nat) (l0_2 : List (S51)) (a1_0 : Int) (A1_1 : Option Addr) (c1_1 : Nat) (l1_1 : List (S25)) (A1_2 : Option Addr) (c1_2 : Nat) (l1_2 : List (S51)) (r : Bool) (w : World) (hr0_1 : Kd.C k25 w A0_1 l0_1.length l0_1) (hc0_1 : l0_1.length ≤ c0_1) (hr0_2 : Kd.C k51 w A0_2 l0_2.length l0_2) (hc0_2 : l0_2.length ≤ c0_2) (hr1_1 : Kd.C k25 w A1_1 l1_1.length l1_1) (hc1_1 : l1_1.length ≤ c1_1) (hr1_2 : Kd.C k51 w A1_2 l1_2.length l1_2) (hc1_2 : l1_2.length ≤ c1_2) (h : orielref12_Same.f k a0_0 l0_1 l0_2 a1_0 l1_1 l1_2 = some r),
  Calls Try.prog 35 #[.agg #[.int .i64 a0_0, .slice A0_1 l0_1.length c0_1, .slice A0_2 l0_2.length c0_2], .agg #[.int .i64 a1_0, .slice A1_1 l1_1.length c1_1, .slice A1_2 l1_2.length c1_2]] w fun e w' => e = .returned (.bool r) ∧ Below w.heap.size w w'

end Go.Proofs.Ytmbbjdkcanoklaa.X
