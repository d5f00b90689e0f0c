/- Printed by a program of this session (xprint) out of the kit's print, with functions proved by hand. -/
import Derived.Test.YtjhchjjpopbieaaX0
namespace Go.Proofs.Ytjhchjjpopbieaa.X
open Go.RowKit Go.Proofs.YtjhchjjpopbieaaW.PrintWords Go.Proofs.YtjhchjjpopbieaaW.PrintLast Go.Proofs.YtjhchjjpopbieaaW.PrintMore Go.Proofs.YtjhchjjpopbieaaW.XConv
attribute [local go_sem] max2_int min2_int max_two min_two max_three min_three max_four min_four   -- for this text's walks alone
set_option linter.unusedVariables false
set_option linter.unusedSimpArgs false

/-! ### slices_Clone_api_Bind: function 22 -/
def slices_Clone_api_Bind.f (l0 : List S44) : Option (List S44) := if l0.length < 4398046511104 then some l0 else none
theorem slices_Clone_api_Bind.infoE : (Try.prog.info? 44).map (fun i => (i.zero, i.size, i.bytes)) = some (some (.agg #[(.string ⟨#[]⟩), (.string ⟨#[]⟩)]), 2, 32) := by kernel_rfl
set_option maxHeartbeats 8000000 in
set_option maxRecDepth 100000 in
theorem slices_Clone_api_Bind.calls (A0 : Option Addr) (c0 : Nat) (l0 : List S44) (r : List S44) (w : World) (hr0 : Kd.C k44 w A0 l0.length l0) (hc0 : l0.length ≤ c0) (h : slices_Clone_api_Bind.f l0 = some r) :
  Calls Try.prog 22 #[.slice A0 l0.length c0] w fun e w' => ∃ v0_ : Value, e = .returned v0_ ∧ Kd.R k44 44 w' w.heap.size (fun _ => True) v0_ r ∧ Below w.heap.size w w' := by
 unfold slices_Clone_api_Bind.f at h
 split at h
 ·
  rename_i hl
  obtain rfl := Option.some.inj h
  clear h
  have LM := Aside0.mk hl
  have HR0 := Aside0.mk hr0
  have HB := Aside0.mk (Below.refl w.heap.size w)
  clear hr0 hl
  have hu22 := Try.underlying22
  have hu44 := Try.underlying44
  cases A0 with
  | none =>
   have e0 : l0 = [] := by
    have h3 := HR0.out.2.2
    by_cases hz : 0 < l0.length
    ·
     obtain ⟨ad, h4, _⟩ := h3 hz
     cases h4
    ·
     exact List.length_eq_zero_iff.1 (by omega)
   subst e0
   have hn : ∀ W_ : World, (binOp .eql 22 (.slice none 0 c0) (.slice none 0 0)).run Try.prog W_ = .ok (.bool true) W_ := fun W_ => Lib.run_eql_slice_nil W_ _ _ _ _ _ _ _ Try.underlying22
   simp only [List.length_nil]
   go_enter Try.func22, Try.ntmps22
   go_wp2
   go_ret
   exact ⟨_, rfl, Kd.R_nil _ _ _ _ _, (by repeat (first | (with_reducible first | exact HB.out | apply below_alloc | apply pw_below_drewN | apply below_drew1) | exact HB.out))⟩
  | some ad =>
   have hn : ∀ W_ : World, (binOp .eql 22 (.slice (some ad) l0.length c0) (.slice none 0 0)).run Try.prog W_ = .ok (.bool false) W_ := fun W_ => Lib.run_eql_slice_nil W_ _ _ _ _ _ _ _ Try.underlying22
   go_enter Try.func22, Try.ntmps22
   go_wp2_with (first | ((with_reducible refine gate_dst (N := 5) rfl ?_); refine Kd.R_lit k44 _ 44 ?hg (N := 5) ?hd (xs := ([] : List (S44))) (inner := []) (ok := fun _ => True) (okp := fun _ => True) ?hr ?hp (fun _ hk => hk) trivial (Below.refl _ _) (Nat.le_refl _) (by simp) ?_; (case hd => rfl); (case hg => rfl); (case hr => first | (go_simp; done) | (go_simp; rfl)); (case hp => exact (Reps.none _ _)); intro v1 w1 ho7 hb hg_ hnew_; clear hg_ hnew_; have HO1 := Aside0.mk (Kd.R_lower ho7 (below_size (by repeat (first | (with_reducible first | exact HB.out | apply below_alloc | apply pw_below_drewN | apply below_drew1) | exact HB.out)))); have n3_ := Aside0.mk (below_step (by repeat (first | (with_reducible first | exact HB.out | apply below_alloc | apply pw_below_drewN | apply below_drew1) | exact HB.out)) hb); clear HB; have HB := n3_; clear n3_; clear hb ho7) | ((with_reducible refine gate_builtin (b := .append) (xs := #[.tmp 5, .tmp 6]) rfl ?_); at_builtin; refine Kd.R_append_rows k44 (w0 := w) w.heap.size rfl (.tmp 5) (.tmp 6) 22 44 (.agg #[(.string ⟨#[]⟩), (.string ⟨#[]⟩)]) 32 rfl Try.underlying22 slices_Clone_api_Bind.infoE rfl (by decide) (by omega) v1 [] l0 _ _ _ (fun _ => True) (fun _ => False) rfl rfl ?aO ?aR (fun _ _ h => h) (fun _ h => h.elim) ?aF ?aB ?aS ?aL ?_; (case aR => repeat (first | exact (Kd.C_below HR0.out HB.out) | (with_reducible refine Kd.C_alloc ?_ _) | (with_reducible refine Kd.C_drewN ?_ _) | (with_reducible refine Kd.C_drew ?_))); (case aB => exact (by repeat (first | (with_reducible first | exact HB.out | apply below_alloc | apply pw_below_drewN | apply below_drew1) | exact HB.out))); (case aF => exact (fun _ _ => trivial)); (case aO => exact (by (with_reducible repeat (first | apply Kd.R_alloc | apply Kd.R_drewN | apply Kd.R_drew)); exact HO1.out)); (case aS => exact (below_size (by repeat (first | (with_reducible first | exact HB.out | apply below_alloc | apply pw_below_drewN | apply below_drew1) | exact HB.out)))); (case aL => have := LM.out; simp; omega); intro v2 w2 ho hb hg hat; have n2_ := Aside0.mk hb; have n3_ := Aside0.mk ho; clear HB; clear HO1; have HB := n2_; have HO2 := n3_; clear n2_ n3_; clear ho hb hg hat))
   go_ret
   exact ⟨_, rfl, (by (with_reducible repeat (first | apply Kd.R_alloc | apply Kd.R_drewN | apply Kd.R_drew)); simpa using HO2.out), (by repeat (first | (with_reducible first | exact HB.out | apply below_alloc | apply pw_below_drewN | apply below_drew1) | exact HB.out))⟩
 ·
  cases h


/-! ### strings_Cut: function 35 -/
def cutB (s : ByteArray) (c : UInt8) : ByteArray × ByteArray × Bool := if 0 ≤ Lib.indexByte s.data.toList c then (s.extract 0 (Lib.indexByte s.data.toList c).toNat, s.extract ((Lib.indexByte s.data.toList c).toNat + 1) s.size, true) else (s, ByteArray.empty, false)
theorem indexByte_lt (l : List UInt8) (c : UInt8) (h : 0 ≤ Lib.indexByte l c) : Lib.indexByte l c < l.length := by
 induction l with
 | nil => exact absurd h (by unfold Lib.indexByte; decide)
 | cons b l ih =>
  unfold Lib.indexByte at h ⊢
  split
  ·
   simp
  ·
   rename_i h1
   rw [if_neg h1] at h
   split at h
   ·
    omega
   ·
    rename_i h2
    rw [if_neg h2]
    have := Lib.indexByte_ge l c
    simp only [beq_iff_eq] at h2
    have := ih (by omega)
    simp only [List.length_cons]
    omega
def strings_Cut.f (a0 a1 : ByteArray) : Option (ByteArray × ByteArray × Bool) := match a1.data.toList with | [c] => if a0.size ≤ 140737488351232 then some (cutB a0 c) else none | _ => none
set_option maxHeartbeats 8000000 in
set_option maxRecDepth 100000 in
theorem slIndexByte (s : ByteArray) (c : Int) (w : World) :
  Calls Try.prog 44 #[.string s, .int .u8 c] w fun e w' => e = .returned (.int .i64 (Lib.indexByte s.data.toList c.toNat.toUInt8)) ∧ w' = w := by
 go_enter Try.func44, Try.ntmps44
 go_wp2
 rw [run_callFunc_extern Try.func48 (by kernel_rfl) (by kernel_rfl) (by kernel_rfl) (e := Extern.BytealgIndexByte.indexByte) (by kernel_rfl), Lib.run_indexByteString]
 simp only [Result.andThen]
 rw [Oper.upon_value]
 go_wp2
 go_ret
 exact ⟨rfl, rfl⟩
set_option maxHeartbeats 8000000 in
set_option maxRecDepth 100000 in
theorem slIndex (s : ByteArray) (c : UInt8) (w : World) :
  Calls Try.prog 42 #[.string s, .string ⟨#[c]⟩] w fun e w' => e = .returned (.int .i64 (Lib.indexByte s.data.toList c)) ∧ w' = w := by
 go_enter Try.func42, Try.ntmps42
 go_wp2_with (go_at_call 44; refine (slIndexByte _ _ _).mono ?_; rintro e w' ⟨rfl, rfl⟩)
 ·
  have h : ([c] == s.toList) = true := by assumption
  go_ret
  refine ⟨?_, rfl⟩
  have e : s.data.toList = [c] := by rw [← Lib.toList_data]; exact (beq_iff_eq.1 h).symm
  rw [e]
  simp [Lib.indexByte]
 ·
  go_ret
  exact ⟨rfl, rfl⟩
set_option maxHeartbeats 8000000 in
set_option maxRecDepth 100000 in
theorem slCut (s : ByteArray) (c : UInt8) (w : World) (hs : s.size ≤ 140737488351232) :
  Calls Try.prog 39 #[.string s, .string ⟨#[c]⟩] w fun e w' => e = .returned (.tuple #[.string (cutB s c).1, .string (cutB s c).2.1, .bool (cutB s c).2.2]) ∧ Drawn0 w w' := by
 have hl := indexByte_lt s.data.toList c
 rw [show s.data.toList.length = s.size from rfl] at hl
 have hg := Lib.indexByte_ge s.data.toList c
 unfold cutB
 obtain ⟨i, hi⟩ : ∃ i, Lib.indexByte s.data.toList c = i := ⟨_, rfl⟩
 rw [hi] at hl hg ⊢
 by_cases h : 0 ≤ i
 ·
  rw [if_pos h]
  have h2 := hl h
  have e : wrap64 (i + 1) = i + 1 := by unfold wrap64; omega
  go_enter Try.func39, Try.ntmps39
  go_wp2_with (go_at_call 42; refine (slIndex _ _ _).mono ?_; rintro e w' ⟨rfl, rfl⟩; rw [hi])
  repeat (go_quiet (fail); try go_wp2)
  go_ret3
  exact ⟨by rw [show i.toNat + 1 = (i + 1).toNat by omega]; rfl, by repeat (first | exact Drawn0.refl _ | apply Drawn0.step)⟩
 ·
  rw [if_neg h]
  go_enter Try.func39, Try.ntmps39
  go_wp2_with (go_at_call 42; refine (slIndex _ _ _).mono ?_; rintro e w' ⟨rfl, rfl⟩; rw [hi])
  repeat (go_quiet (fail); try go_wp2)
  go_ret3
  exact ⟨rfl, by repeat (first | exact Drawn0.refl _ | apply Drawn0.step)⟩
set_option maxHeartbeats 8000000 in
set_option maxRecDepth 100000 in
theorem strings_Cut.calls (a0 : ByteArray) (a1 : ByteArray) (r1 : ByteArray) (r2 : ByteArray) (r3 : Bool) (w : World) (h : strings_Cut.f a0 a1 = some (r1, r2, r3)) :
  Calls Try.prog 35 #[.string a0, .string a1] w fun e w' => e = .returned (.tuple #[.string r1, .string r2, .bool r3]) ∧ Drawn0 w w' := by
 unfold strings_Cut.f at h
 split at h
 ·
  rename_i c hc
  split at h
  ·
   rename_i hs
   obtain rfl : a1 = ⟨#[c]⟩ := by
    obtain ⟨⟨l⟩⟩ := a1
    have : l = [c] := hc
    rw [this]
   have h := Option.some.inj h
   have e1 : r1 = (cutB a0 c).1 := by rw [h]
   have e2 : r2 = (cutB a0 c).2.1 := by rw [h]
   have e3 : r3 = (cutB a0 c).2.2 := by rw [h]
   subst e1 e2 e3
   clear h hc
   go_enter Try.func35, Try.ntmps35
   go_wp2_with (go_at_call 39; refine (slCut _ _ _ hs).mono ?_; rintro e w' ⟨rfl, n, rfl⟩)
   go_ret3
   exact ⟨rfl, ⟨_, rfl⟩⟩
  ·
   cases h
 ·
  cases h


/-! ### char_in: function 43 -/
def char_in.l0 : Nat → Int → List (S81) → Int → Int → Option (Bool)
 | 0, _, _, _, _ => none
 | k + 1, x0, x7, x8, x9 => if x9 < x8 then (if 0 ≤ x9 then (if x9 < (x7.length : Int) then (if x0 ≥ ((rd_T81 x7 x9).f0) then (if x0 ≤ ((rd_T81 x7 x9).f1) then (some true) else (char_in.l0 k x0 x7 x8 (wrap64 (x9 + 1)))) else (char_in.l0 k x0 x7 x8 (wrap64 (x9 + 1)))) else (none)) else (none)) else (some false)
def char_in.f (k : Nat) (a0 : Int) (l1 : List (S81)) : Option (Bool) := char_in.l0 k a0 l1 (l1.length : Int) 0
theorem char_in.mono_l : ∀ k, (∀ y0 y1 y2 y3, LeO (char_in.l0 k y0 y1 y2 y3) (char_in.l0 (k + 1) y0 y1 y2 y3))
 | 0 => fun _ _ _ _ r h => by simp [char_in.l0] at h
 | k + 1 => by
  have ih0 := char_in.mono_l k
  ·
   intro y0 y1 y2 y3
   unfold char_in.l0
   repeat' first
   | (with_reducible exact ih0 _ _ _ _)
   | (with_reducible exact LeO.refl _)
   | (with_reducible exact LeO.none _)
   | (with_reducible refine LeO.ite ?_ ?_)
   | (with_reducible refine LeO.bind ?_ (fun _ => ?_))
   | exact ih0 _ _ _ _
   | exact LeO.none _
   | refine LeO.ite ?_ ?_
   | refine LeO.bind ?_ (fun _ => ?_)
theorem char_in.mono : ∀ a0 a1 k, LeO (char_in.f k a0 a1) (char_in.f (k + 1) a0 a1) := by
 intro a0 a1 k
 have ih0 := char_in.mono_l k
 unfold char_in.f
 repeat' first
   | (with_reducible exact ih0 _ _ _ _)
   | (with_reducible exact LeO.refl _)
   | (with_reducible exact LeO.none _)
   | (with_reducible refine LeO.ite ?_ ?_)
   | (with_reducible refine LeO.bind ?_ (fun _ => ?_))
   | exact ih0 _ _ _ _
   | exact LeO.none _
   | refine LeO.ite ?_ ?_
   | refine LeO.bind ?_ (fun _ => ?_)
set_option maxHeartbeats 8000000 in
set_option maxRecDepth 100000 in
theorem char_in.calls (k : Nat) (a0 : Int) (A1 : Option Addr) (c1 : Nat) (l1 : List (S81)) (r : Bool) (w : World) (hr1 : Kd.C k81 w A1 l1.length l1) (hc1 : l1.length ≤ c1) (h : char_in.f k a0 l1 = some r) :
  Calls Try.prog 43 #[.int .i32 a0, .slice A1 l1.length c1] w fun e w' => e = .returned (.bool r) ∧ Below w.heap.size w w' := by
 have hu81 := Try.underlying81
 have HR1 := Aside0.mk hr1
 have HC1 := Aside0.mk hc1
 clear hr1 hc1
 have HB := Aside0.mk (Below.refl w.heap.size w)
 have H : (char_in.l0 k a0 l1 (l1.length : Int) 0) = some r := h
 clear h
 have H' := Aside0.mk H
 clear H
 go_enter Try.func43, Try.ntmps43
 go_wp2
 go_loopg [9] k (fun kq v9 w' => ∃ (x9_1 : Int), v9 = .int .i64 x9_1 ∧ Aside0 (char_in.l0 kq a0 l1 (l1.length : Int) x9_1 = some r) ∧ Aside0 (kq ≤ k) ∧ Aside0 (Below w.heap.size w w'))
 case atStart => exact ⟨(0), (by first | rfl | (simp; done) | (simp [*]; done)), H', ⟨Nat.le_refl _⟩, ⟨by repeat (first | (with_reducible first | exact HB.out | apply below_alloc | apply pw_below_drewN | apply below_drew1) | exact HB.out)⟩⟩
 case round =>
  clear H'
  try clear c1
  try clear p2
  obtain ⟨x9_1, rfl, HA, HK1, HB⟩ := hrel
  cases gk with
  | zero => exact absurd HA.out (by simp [char_in.l0])
  | succ k1 =>
   have H := HA.out
   clear HA
   simp only [char_in.l0] at H
   by_cases c3 : x9_1 < (l1.length : Int)
   ·
    rw [if_pos c3] at H
    have c3b0 : decide (x9_1 < (l1.length : Int)) = true := decide_eq_true c3
    clear c3
    by_cases c4 : 0 ≤ x9_1
    ·
     rw [if_pos c4] at H
     have c4b0 : decide (0 ≤ x9_1) = true := decide_eq_true c4
     clear c4
     by_cases c5 : x9_1 < (l1.length : Int)
     ·
      rw [if_pos c5] at H
      have c5b0 : decide (x9_1 < (l1.length : Int)) = true := decide_eq_true c5
      clear c5
      by_cases c6 : a0 ≥ ((rd_T81 l1 x9_1).f0)
      ·
       rw [if_pos c6] at H
       have c6b0 : decide (((rd_T81 l1 x9_1).f0) ≤ a0) = true := decide_eq_true c6
       clear c6
       by_cases c7 : a0 ≤ ((rd_T81 l1 x9_1).f1)
       ·
        rw [if_pos c7] at H
        have c7b0 : decide (a0 ≤ ((rd_T81 l1 x9_1).f1)) = true := decide_eq_true c7
        clear c7
        obtain rfl := Option.some.inj H
        have p101 : 0 ≤ (x9_1 : Int) := of_decide_eq_true (by first | (with_reducible assumption) | assumption)
        have q101 : x9_1 < (l1.length : Int) := of_decide_eq_true (by first | (with_reducible assumption) | assumption)
        obtain ⟨ad101, e101, hx101_0, hx101_1⟩ := at_T81 HR1.out x9_1 p101 q101
        cases e101
        replace hx101_0 := (HB.out.cell (World.block_lt_of_cell? w _ hx101_0)).trans hx101_0
        replace hx101_1 := (HB.out.cell (World.block_lt_of_cell? w _ hx101_1)).trans hx101_1
        replace p101 := eq_true p101
        replace q101 := eq_true q101
        go_wp2_with (first | ((with_reducible refine gate_dst (N := 6) rfl ?_); refine box_event ?hg (N := 6) ?hd (cs := #[.int .i32 0, .int .i32 0]) (t := 81) ?hr ?_; (case hd => rfl); (case hg => rfl); (case hr => first | (go_simp; done) | (go_simp; rfl)); intro gb102 hg w8 hbox hb; have n0_ := Aside0.mk (below_step (by repeat (first | (with_reducible first | exact HB.out | apply below_alloc | apply pw_below_drewN | apply below_drew1) | exact HB.out)) hb); have n1_ := Aside0.mk (hbox); have n2_ := Aside0.mk ((by rw [hg]; exact (below_size (by repeat (first | (with_reducible first | exact HB.out | apply below_alloc | apply pw_below_drewN | apply below_drew1) | exact HB.out))) : w.heap.size ≤ gb102)); have n3_ := Aside0.mk ((by rw [hg]; exact (below_size (by repeat (first | (with_reducible first | exact HB.out | apply below_alloc | apply pw_below_drewN | apply below_drew1) | exact HB.out))) : w.heap.size ≤ gb102)); clear HB; have HB := n0_; have BK102 := n1_; have GW102 := n2_; have GE102 := n3_; clear n0_ n1_ n2_ n3_; clear hb hbox hg; have hcz9_0 : w8.cell? ⟨gb102, 0, none⟩ = some (.int .i32 0) := (blk_cell BK102.out 0).trans rfl; have hcz9_1 : w8.cell? ⟨gb102, 1, none⟩ = some (.int .i32 0) := (blk_cell BK102.out 1).trans rfl; have hfz9_0 := blk_frozen BK102.out 0; have hfz9_1 := blk_frozen BK102.out 1))
        go_ret
        exact ⟨by first | rfl | exact congrArg (fun b => Ending.returned (Value.bool b)) (isE_ne _).symm | exact congrArg (fun b => Ending.returned (Value.bool b)) (isE_eq _).symm | (simp only [isE_ne, isE_eq, Bool.not_not]; done) | (simp [errW_none, errW_some] <;> rfl) | (simp [*, errW_none, errW_some] <;> rfl), by repeat (first | (with_reducible first | exact HB.out | apply below_alloc | apply pw_below_drewN | apply below_drew1 | refine below_set ?_ GE102.out) | exact HB.out)⟩
       ·
        rw [if_neg c7] at H
        have c7b0 : decide (a0 ≤ ((rd_T81 l1 x9_1).f1)) = false := decide_eq_false c7
        clear c7
        have H' := Aside0.mk H
        clear H
        have p101 : 0 ≤ (x9_1 : Int) := of_decide_eq_true (by first | (with_reducible assumption) | assumption)
        have q101 : x9_1 < (l1.length : Int) := of_decide_eq_true (by first | (with_reducible assumption) | assumption)
        obtain ⟨ad101, e101, hx101_0, hx101_1⟩ := at_T81 HR1.out x9_1 p101 q101
        cases e101
        replace hx101_0 := (HB.out.cell (World.block_lt_of_cell? w _ hx101_0)).trans hx101_0
        replace hx101_1 := (HB.out.cell (World.block_lt_of_cell? w _ hx101_1)).trans hx101_1
        replace p101 := eq_true p101
        replace q101 := eq_true q101
        go_wp2_with (first | ((with_reducible refine gate_dst (N := 6) rfl ?_); refine box_event ?hg (N := 6) ?hd (cs := #[.int .i32 0, .int .i32 0]) (t := 81) ?hr ?_; (case hd => rfl); (case hg => rfl); (case hr => first | (go_simp; done) | (go_simp; rfl)); intro gb102 hg w10 hbox hb; have n0_ := Aside0.mk (below_step (by repeat (first | (with_reducible first | exact HB.out | apply below_alloc | apply pw_below_drewN | apply below_drew1) | exact HB.out)) hb); have n1_ := Aside0.mk (hbox); have n2_ := Aside0.mk ((by rw [hg]; exact (below_size (by repeat (first | (with_reducible first | exact HB.out | apply below_alloc | apply pw_below_drewN | apply below_drew1) | exact HB.out))) : w.heap.size ≤ gb102)); have n3_ := Aside0.mk ((by rw [hg]; exact (below_size (by repeat (first | (with_reducible first | exact HB.out | apply below_alloc | apply pw_below_drewN | apply below_drew1) | exact HB.out))) : w.heap.size ≤ gb102)); clear HB; have HB := n0_; have BK102 := n1_; have GW102 := n2_; have GE102 := n3_; clear n0_ n1_ n2_ n3_; clear hb hbox hg; have hcz11_0 : w10.cell? ⟨gb102, 0, none⟩ = some (.int .i32 0) := (blk_cell BK102.out 0).trans rfl; have hcz11_1 : w10.cell? ⟨gb102, 1, none⟩ = some (.int .i32 0) := (blk_cell BK102.out 1).trans rfl; have hfz11_0 := blk_frozen BK102.out 0; have hfz11_1 := blk_frozen BK102.out 1))
        go_roundg k1
        case measure => have := HK1.out; omega
        case rel => exact ⟨(wrap64 (x9_1 + 1)), (by first | rfl | (simp; done) | (simp [*]; done)), H', ⟨by have := HK1.out; omega⟩, ⟨by repeat (first | (with_reducible first | exact HB.out | apply below_alloc | apply pw_below_drewN | apply below_drew1 | refine below_set ?_ GE102.out) | exact HB.out)⟩⟩
      ·
       rw [if_neg c6] at H
       have c6b0 : decide (((rd_T81 l1 x9_1).f0) ≤ a0) = false := decide_eq_false c6
       clear c6
       have H' := Aside0.mk H
       clear H
       have p101 : 0 ≤ (x9_1 : Int) := of_decide_eq_true (by first | (with_reducible assumption) | assumption)
       have q101 : x9_1 < (l1.length : Int) := of_decide_eq_true (by first | (with_reducible assumption) | assumption)
       obtain ⟨ad101, e101, hx101_0, hx101_1⟩ := at_T81 HR1.out x9_1 p101 q101
       cases e101
       replace hx101_0 := (HB.out.cell (World.block_lt_of_cell? w _ hx101_0)).trans hx101_0
       replace hx101_1 := (HB.out.cell (World.block_lt_of_cell? w _ hx101_1)).trans hx101_1
       replace p101 := eq_true p101
       replace q101 := eq_true q101
       go_wp2_with (first | ((with_reducible refine gate_dst (N := 6) rfl ?_); refine box_event ?hg (N := 6) ?hd (cs := #[.int .i32 0, .int .i32 0]) (t := 81) ?hr ?_; (case hd => rfl); (case hg => rfl); (case hr => first | (go_simp; done) | (go_simp; rfl)); intro gb102 hg w12 hbox hb; have n0_ := Aside0.mk (below_step (by repeat (first | (with_reducible first | exact HB.out | apply below_alloc | apply pw_below_drewN | apply below_drew1) | exact HB.out)) hb); have n1_ := Aside0.mk (hbox); have n2_ := Aside0.mk ((by rw [hg]; exact (below_size (by repeat (first | (with_reducible first | exact HB.out | apply below_alloc | apply pw_below_drewN | apply below_drew1) | exact HB.out))) : w.heap.size ≤ gb102)); have n3_ := Aside0.mk ((by rw [hg]; exact (below_size (by repeat (first | (with_reducible first | exact HB.out | apply below_alloc | apply pw_below_drewN | apply below_drew1) | exact HB.out))) : w.heap.size ≤ gb102)); clear HB; have HB := n0_; have BK102 := n1_; have GW102 := n2_; have GE102 := n3_; clear n0_ n1_ n2_ n3_; clear hb hbox hg; have hcz13_0 : w12.cell? ⟨gb102, 0, none⟩ = some (.int .i32 0) := (blk_cell BK102.out 0).trans rfl; have hcz13_1 : w12.cell? ⟨gb102, 1, none⟩ = some (.int .i32 0) := (blk_cell BK102.out 1).trans rfl; have hfz13_0 := blk_frozen BK102.out 0; have hfz13_1 := blk_frozen BK102.out 1))
       go_roundg k1
       case measure => have := HK1.out; omega
       case rel => exact ⟨(wrap64 (x9_1 + 1)), (by first | rfl | (simp; done) | (simp [*]; done)), H', ⟨by have := HK1.out; omega⟩, ⟨by repeat (first | (with_reducible first | exact HB.out | apply below_alloc | apply pw_below_drewN | apply below_drew1 | refine below_set ?_ GE102.out) | exact HB.out)⟩⟩
     ·
      rw [if_neg c5] at H
      exact absurd H (by simp)
    ·
     rw [if_neg c4] at H
     exact absurd H (by simp)
   ·
    rw [if_neg c3] at H
    have c3b0 : decide (x9_1 < (l1.length : Int)) = false := decide_eq_false c3
    clear c3
    obtain rfl := Option.some.inj H
    go_wp2
    go_ret
    exact ⟨by first | rfl | exact congrArg (fun b => Ending.returned (Value.bool b)) (isE_ne _).symm | exact congrArg (fun b => Ending.returned (Value.bool b)) (isE_eq _).symm | (simp only [isE_ne, isE_eq, Bool.not_not]; done) | (simp [errW_none, errW_some] <;> rfl) | (simp [*, errW_none, errW_some] <;> rfl), by repeat (first | (with_reducible first | exact HB.out | apply below_alloc | apply pw_below_drewN | apply below_drew1) | exact HB.out)⟩

/-! ### char_Start: function 40 -/
def char_Start.f (k : Nat) (a0 : Int) : Option (Bool) := (char_in.f k a0 (([(⟨65, 90⟩ : S81), (⟨97, 122⟩ : S81), (⟨95, 95⟩ : S81), (⟨192, 214⟩ : S81), (⟨216, 246⟩ : S81), (⟨248, 767⟩ : S81), (⟨880, 893⟩ : S81), (⟨895, 8191⟩ : S81), (⟨8204, 8205⟩ : S81), (⟨8304, 8591⟩ : S81), (⟨11264, 12271⟩ : S81), (⟨12289, 55295⟩ : S81), (⟨63744, 64975⟩ : S81), (⟨65008, 65533⟩ : S81), (⟨65536, 983039⟩ : S81)] : List (S81)))).bind fun t106 => (some t106)
theorem char_Start.mono : ∀ a0 k, LeO (char_Start.f k a0) (char_Start.f (k + 1) a0) := by
 intro a0 k
 unfold char_Start.f
 repeat' first
   | (with_reducible exact char_in.mono _ _ _)
   | (with_reducible exact LeO.refl _)
   | (with_reducible exact LeO.none _)
   | (with_reducible refine LeO.ite ?_ ?_)
   | (with_reducible refine LeO.bind ?_ (fun _ => ?_))
   | exact char_in.mono _ _ _
   | exact LeO.none _
   | refine LeO.ite ?_ ?_
   | refine LeO.bind ?_ (fun _ => ?_)
set_option maxHeartbeats 8000000 in
set_option maxRecDepth 100000 in
theorem char_Start.calls (k : Nat) (a0 : Int) (r : Bool) (w : World) (h : char_Start.f k a0 = some r) :
  Calls Try.prog 40 #[.int .i32 a0] w fun e w' => e = .returned (.bool r) ∧ Below w.heap.size w w' := by
 have hu81 := Try.underlying81
 have HB := Aside0.mk (Below.refl w.heap.size w)
 have H : ((char_in.f k a0 (([(⟨65, 90⟩ : S81), (⟨97, 122⟩ : S81), (⟨95, 95⟩ : S81), (⟨192, 214⟩ : S81), (⟨216, 246⟩ : S81), (⟨248, 767⟩ : S81), (⟨880, 893⟩ : S81), (⟨895, 8191⟩ : S81), (⟨8204, 8205⟩ : S81), (⟨8304, 8591⟩ : S81), (⟨11264, 12271⟩ : S81), (⟨12289, 55295⟩ : S81), (⟨63744, 64975⟩ : S81), (⟨65008, 65533⟩ : S81), (⟨65536, 983039⟩ : S81)] : List (S81)))).bind fun t106 => (some t106)) = some r := h
 clear h
 obtain ⟨y103, hy103⟩ : ∃ y_ : List (S81), y_ = (([(⟨65, 90⟩ : S81), (⟨97, 122⟩ : S81), (⟨95, 95⟩ : S81), (⟨192, 214⟩ : S81), (⟨216, 246⟩ : S81), (⟨248, 767⟩ : S81), (⟨880, 893⟩ : S81), (⟨895, 8191⟩ : S81), (⟨8204, 8205⟩ : S81), (⟨8304, 8591⟩ : S81), (⟨11264, 12271⟩ : S81), (⟨12289, 55295⟩ : S81), (⟨63744, 64975⟩ : S81), (⟨65008, 65533⟩ : S81), (⟨65536, 983039⟩ : S81)] : List (S81))) := ⟨_, rfl⟩
 replace H : ((char_in.f k a0 y103).bind fun t106 => (some t106)) = some r := by first | (rw [hy103]; with_reducible exact H) | (have H2_ := (Option.bind_some _ _).symm.trans H; rw [hy103]; with_reducible exact H2_) | (have H2_ := (Option.bind_some _ _).symm.trans H; with_reducible exact H2_) | with_reducible exact H | (rw [hy103]; exact H) | exact H
 have Ny103 := Aside0.mk hy103
 clear hy103
 replace H := Option.bind_eq_some_iff.mp H
 obtain ⟨t106, A20, H⟩ := H
 replace H : (some t106) = some r := H
 have A2 := Aside0.mk A20
 clear A20
 obtain rfl := Option.some.inj H
 go_enter Try.func40, Try.ntmps40
 go_wp2_with (first | ((with_reducible refine gate_dst (N := 19) rfl ?_); refine Kd.R_lit k81 _ 81 ?hg (N := 19) ?hd (xs := ([(⟨65, 90⟩ : S81), (⟨97, 122⟩ : S81), (⟨95, 95⟩ : S81), (⟨192, 214⟩ : S81), (⟨216, 246⟩ : S81), (⟨248, 767⟩ : S81), (⟨880, 893⟩ : S81), (⟨895, 8191⟩ : S81), (⟨8204, 8205⟩ : S81), (⟨8304, 8591⟩ : S81), (⟨11264, 12271⟩ : S81), (⟨12289, 55295⟩ : S81), (⟨63744, 64975⟩ : S81), (⟨65008, 65533⟩ : S81), (⟨65536, 983039⟩ : S81)] : List (S81))) (inner := [.int .i32 65, .int .i32 90, .int .i32 97, .int .i32 122, .int .i32 95, .int .i32 95, .int .i32 192, .int .i32 214, .int .i32 216, .int .i32 246, .int .i32 248, .int .i32 767, .int .i32 880, .int .i32 893, .int .i32 895, .int .i32 8191, .int .i32 8204, .int .i32 8205, .int .i32 8304, .int .i32 8591, .int .i32 11264, .int .i32 12271, .int .i32 12289, .int .i32 55295, .int .i32 63744, .int .i32 64975, .int .i32 65008, .int .i32 65533, .int .i32 65536, .int .i32 983039]) (ok := fun _ => True) (okp := fun _ => True) ?hr ?hp (fun _ hk => hk) trivial (Below.refl _ _) (Nat.le_refl _) (by simp) ?_; (case hd => rfl); (case hg => rfl); (case hr => first | (go_simp; done) | (go_simp; rfl)); (case hp => exact (Reps.c2 (show Kd.M k81 _ _ _ (⟨65, 90⟩ : S81) [.int .i32 65, .int .i32 90] from (k81_mkM _ _ _ (⟨65, 90⟩ : S81) )) (Reps.c2 (show Kd.M k81 _ _ _ (⟨97, 122⟩ : S81) [.int .i32 97, .int .i32 122] from (k81_mkM _ _ _ (⟨97, 122⟩ : S81) )) (Reps.c2 (show Kd.M k81 _ _ _ (⟨95, 95⟩ : S81) [.int .i32 95, .int .i32 95] from (k81_mkM _ _ _ (⟨95, 95⟩ : S81) )) (Reps.c2 (show Kd.M k81 _ _ _ (⟨192, 214⟩ : S81) [.int .i32 192, .int .i32 214] from (k81_mkM _ _ _ (⟨192, 214⟩ : S81) )) (Reps.c2 (show Kd.M k81 _ _ _ (⟨216, 246⟩ : S81) [.int .i32 216, .int .i32 246] from (k81_mkM _ _ _ (⟨216, 246⟩ : S81) )) (Reps.c2 (show Kd.M k81 _ _ _ (⟨248, 767⟩ : S81) [.int .i32 248, .int .i32 767] from (k81_mkM _ _ _ (⟨248, 767⟩ : S81) )) (Reps.c2 (show Kd.M k81 _ _ _ (⟨880, 893⟩ : S81) [.int .i32 880, .int .i32 893] from (k81_mkM _ _ _ (⟨880, 893⟩ : S81) )) (Reps.c2 (show Kd.M k81 _ _ _ (⟨895, 8191⟩ : S81) [.int .i32 895, .int .i32 8191] from (k81_mkM _ _ _ (⟨895, 8191⟩ : S81) )) (Reps.c2 (show Kd.M k81 _ _ _ (⟨8204, 8205⟩ : S81) [.int .i32 8204, .int .i32 8205] from (k81_mkM _ _ _ (⟨8204, 8205⟩ : S81) )) (Reps.c2 (show Kd.M k81 _ _ _ (⟨8304, 8591⟩ : S81) [.int .i32 8304, .int .i32 8591] from (k81_mkM _ _ _ (⟨8304, 8591⟩ : S81) )) (Reps.c2 (show Kd.M k81 _ _ _ (⟨11264, 12271⟩ : S81) [.int .i32 11264, .int .i32 12271] from (k81_mkM _ _ _ (⟨11264, 12271⟩ : S81) )) (Reps.c2 (show Kd.M k81 _ _ _ (⟨12289, 55295⟩ : S81) [.int .i32 12289, .int .i32 55295] from (k81_mkM _ _ _ (⟨12289, 55295⟩ : S81) )) (Reps.c2 (show Kd.M k81 _ _ _ (⟨63744, 64975⟩ : S81) [.int .i32 63744, .int .i32 64975] from (k81_mkM _ _ _ (⟨63744, 64975⟩ : S81) )) (Reps.c2 (show Kd.M k81 _ _ _ (⟨65008, 65533⟩ : S81) [.int .i32 65008, .int .i32 65533] from (k81_mkM _ _ _ (⟨65008, 65533⟩ : S81) )) (Reps.c2 (show Kd.M k81 _ _ _ (⟨65536, 983039⟩ : S81) [.int .i32 65536, .int .i32 983039] from (k81_mkM _ _ _ (⟨65536, 983039⟩ : S81) )) (Reps.none _ _))))))))))))))))); intro v104 w3 ho4 hb hg_ hnew_; clear hg_ hnew_; (first | rw [← Ny103.out] at ho4 | (simp only [Int.reduceToNat] at ho4; rw [← Ny103.out] at ho4)); have n0_ := Aside0.mk (Kd.R_lower ho4 (below_size (by repeat (first | (with_reducible first | exact HB.out | apply below_alloc | apply pw_below_drewN | apply below_drew1) | exact HB.out)))); have n1_ := Aside0.mk (below_step (by repeat (first | (with_reducible first | exact HB.out | apply below_alloc | apply pw_below_drewN | apply below_drew1) | exact HB.out)) hb); clear HB; have HO105 := n0_; have HB := n1_; clear n0_ n1_; clear hb ho4; obtain ⟨Ao5, co5, eo5⟩ := Kd.R_slice HO105.out; subst eo5) | ((with_reducible refine gate_callee (f := 43) rfl ?_); refine goesL_ (some 20) rfl rfl Try.func43 (by kernel_rfl) rfl #[.int .i32 a0, .slice Ao5 y103.length co5] rfl (by (try simp only [List.map_toArray, List.map_cons, List.map_nil]); first | done | rfl | (simp only [List.length_drop, List.length_take]; rfl)) ?_; (with_reducible refine (char_in.calls k a0 _ _ y103 t106 _ ?side1 ?side2 A2.out).mono ?_); (case side1 => repeat (first | exact (Kd.R_reads' HO105.out).2.2 | (with_reducible refine Kd.C_alloc ?_ _) | (with_reducible refine Kd.C_drewN ?_ _) | (with_reducible refine Kd.C_drew ?_))); (case side2 => exact (Kd.R_reads' HO105.out).2.1); rintro e w6 ⟨rfl, hb⟩; refine ⟨_, rfl, ?_⟩; have n0_ := Aside0.mk (Kd.R_below (by (with_reducible repeat (first | apply Kd.R_alloc | apply Kd.R_drewN | apply Kd.R_drew)); exact HO105.out) hb); have n1_ := Aside0.mk (below_step (by repeat (first | (with_reducible first | exact HB.out | apply below_alloc | apply pw_below_drewN | apply below_drew1) | exact HB.out)) hb); clear HO105; clear HB; have HO105 := n0_; have HB := n1_; clear n0_ n1_; (try clear hb); (try clear hb2); (try clear hk); (try clear hi)))
 go_ret
 exact ⟨by first | rfl | exact congrArg (fun b => Ending.returned (Value.bool b)) (isE_ne _).symm | exact congrArg (fun b => Ending.returned (Value.bool b)) (isE_eq _).symm | (simp only [isE_ne, isE_eq, Bool.not_not]; done) | (simp [errW_none, errW_some] <;> rfl) | (simp [*, errW_none, errW_some] <;> rfl), by repeat (first | (with_reducible first | exact HB.out | apply below_alloc | apply pw_below_drewN | apply below_drew1) | exact HB.out)⟩

/-! ### char_Part: function 41 -/
def char_Part.f (k : Nat) (a0 : Int) : Option (Bool) := (char_Start.f k a0).bind fun t107 => (if t107 = true then (some true) else ((char_in.f k a0 (([(⟨45, 46⟩ : S81), (⟨48, 57⟩ : S81), (⟨183, 183⟩ : S81), (⟨768, 879⟩ : S81), (⟨8255, 8256⟩ : S81)] : List (S81)))).bind fun t111 => (some t111)))
theorem char_Part.mono : ∀ a0 k, LeO (char_Part.f k a0) (char_Part.f (k + 1) a0) := by
 intro a0 k
 unfold char_Part.f
 repeat' first
   | (with_reducible exact char_Start.mono _ _)
   | (with_reducible exact char_in.mono _ _ _)
   | (with_reducible exact LeO.refl _)
   | (with_reducible exact LeO.none _)
   | (with_reducible refine LeO.ite ?_ ?_)
   | (with_reducible refine LeO.bind ?_ (fun _ => ?_))
   | exact char_Start.mono _ _
   | exact char_in.mono _ _ _
   | exact LeO.none _
   | refine LeO.ite ?_ ?_
   | refine LeO.bind ?_ (fun _ => ?_)
set_option maxHeartbeats 8000000 in
set_option maxRecDepth 100000 in
theorem char_Part.calls (k : Nat) (a0 : Int) (r : Bool) (w : World) (h : char_Part.f k a0 = some r) :
  Calls Try.prog 41 #[.int .i32 a0] w fun e w' => e = .returned (.bool r) ∧ Below w.heap.size w w' := by
 have hu81 := Try.underlying81
 have HB := Aside0.mk (Below.refl w.heap.size w)
 have H : ((char_Start.f k a0).bind fun t107 => (if t107 = true then (some true) else ((char_in.f k a0 (([(⟨45, 46⟩ : S81), (⟨48, 57⟩ : S81), (⟨183, 183⟩ : S81), (⟨768, 879⟩ : S81), (⟨8255, 8256⟩ : S81)] : List (S81)))).bind fun t111 => (some t111)))) = some r := h
 clear h
 replace H := Option.bind_eq_some_iff.mp H
 obtain ⟨t107, A20, H⟩ := H
 replace H : (if t107 = true then (some true) else ((char_in.f k a0 (([(⟨45, 46⟩ : S81), (⟨48, 57⟩ : S81), (⟨183, 183⟩ : S81), (⟨768, 879⟩ : S81), (⟨8255, 8256⟩ : S81)] : List (S81)))).bind fun t111 => (some t111))) = some r := H
 have A2 := Aside0.mk A20
 clear A20
 by_cases c3 : t107 = true
 ·
  subst c3
  have H1 : (some true) = some r := by rw [if_pos rfl] at H; exact H
  clear H
  have H := H1
  clear H1
  obtain rfl := Option.some.inj H
  go_enter Try.func41, Try.ntmps41
  go_wp2_with (first | ((with_reducible refine gate_callee (f := 40) rfl ?_); refine goesL_ (some 4) rfl rfl Try.func40 (by kernel_rfl) rfl #[.int .i32 a0] rfl (by (try simp only [List.map_toArray, List.map_cons, List.map_nil]); first | done | rfl | (simp only [List.length_drop, List.length_take]; rfl)) ?_; (with_reducible refine (char_Start.calls k a0 true _ A2.out).mono ?_); rintro e w4 ⟨rfl, hb⟩; refine ⟨_, rfl, ?_⟩; have n0_ := Aside0.mk (below_step (by repeat (first | (with_reducible first | exact HB.out | apply below_alloc | apply pw_below_drewN | apply below_drew1) | exact HB.out)) hb); clear HB; have HB := n0_; clear n0_; (try clear hb); (try clear hb2); (try clear hk); (try clear hi)))
  go_ret
  exact ⟨by first | rfl | exact congrArg (fun b => Ending.returned (Value.bool b)) (isE_ne _).symm | exact congrArg (fun b => Ending.returned (Value.bool b)) (isE_eq _).symm | (simp only [isE_ne, isE_eq, Bool.not_not]; done) | (simp [errW_none, errW_some] <;> rfl) | (simp [*, errW_none, errW_some] <;> rfl), by repeat (first | (with_reducible first | exact HB.out | apply below_alloc | apply pw_below_drewN | apply below_drew1) | exact HB.out)⟩
 ·
  replace c3 := Bool.eq_false_iff.mpr c3
  subst c3
  have H1 : ((char_in.f k a0 (([(⟨45, 46⟩ : S81), (⟨48, 57⟩ : S81), (⟨183, 183⟩ : S81), (⟨768, 879⟩ : S81), (⟨8255, 8256⟩ : S81)] : List (S81)))).bind fun t111 => (some t111)) = some r := by rw [if_neg (show ¬ (false = true) by decide)] at H; exact H
  clear H
  have H := H1
  clear H1
  obtain ⟨y108, hy108⟩ : ∃ y_ : List (S81), y_ = (([(⟨45, 46⟩ : S81), (⟨48, 57⟩ : S81), (⟨183, 183⟩ : S81), (⟨768, 879⟩ : S81), (⟨8255, 8256⟩ : S81)] : List (S81))) := ⟨_, rfl⟩
  replace H : ((char_in.f k a0 y108).bind fun t111 => (some t111)) = some r := by first | (rw [hy108]; with_reducible exact H) | (have H2_ := (Option.bind_some _ _).symm.trans H; rw [hy108]; with_reducible exact H2_) | (have H2_ := (Option.bind_some _ _).symm.trans H; with_reducible exact H2_) | with_reducible exact H | (rw [hy108]; exact H) | exact H
  have Ny108 := Aside0.mk hy108
  clear hy108
  replace H := Option.bind_eq_some_iff.mp H
  obtain ⟨t111, A50, H⟩ := H
  replace H : (some t111) = some r := H
  have A5 := Aside0.mk A50
  clear A50
  obtain rfl := Option.some.inj H
  go_enter Try.func41, Try.ntmps41
  go_wp2_with (first | ((with_reducible refine gate_callee (f := 40) rfl ?_); refine goesL_ (some 4) rfl rfl Try.func40 (by kernel_rfl) rfl #[.int .i32 a0] rfl (by (try simp only [List.map_toArray, List.map_cons, List.map_nil]); first | done | rfl | (simp only [List.length_drop, List.length_take]; rfl)) ?_; (with_reducible refine (char_Start.calls k a0 false _ A2.out).mono ?_); rintro e w6 ⟨rfl, hb⟩; refine ⟨_, rfl, ?_⟩; have n0_ := Aside0.mk (below_step (by repeat (first | (with_reducible first | exact HB.out | apply below_alloc | apply pw_below_drewN | apply below_drew1) | exact HB.out)) hb); clear HB; have HB := n0_; clear n0_; (try clear hb); (try clear hb2); (try clear hk); (try clear hi)) | ((with_reducible refine gate_dst (N := 12) rfl ?_); (try (refine gate_guard (by rfl) ?_; dsimp only)); refine Kd.R_lit k81 _ 81 ?hg (N := 12) ?hd (xs := ([(⟨45, 46⟩ : S81), (⟨48, 57⟩ : S81), (⟨183, 183⟩ : S81), (⟨768, 879⟩ : S81), (⟨8255, 8256⟩ : S81)] : List (S81))) (inner := [.int .i32 45, .int .i32 46, .int .i32 48, .int .i32 57, .int .i32 183, .int .i32 183, .int .i32 768, .int .i32 879, .int .i32 8255, .int .i32 8256]) (ok := fun _ => True) (okp := fun _ => True) ?hr ?hp (fun _ hk => hk) trivial (Below.refl _ _) (Nat.le_refl _) (by simp) ?_; (case hd => rfl); (case hg => rfl); (case hr => first | (go_simp; done) | (go_simp; rfl)); (case hp => exact (Reps.c2 (show Kd.M k81 _ _ _ (⟨45, 46⟩ : S81) [.int .i32 45, .int .i32 46] from (k81_mkM _ _ _ (⟨45, 46⟩ : S81) )) (Reps.c2 (show Kd.M k81 _ _ _ (⟨48, 57⟩ : S81) [.int .i32 48, .int .i32 57] from (k81_mkM _ _ _ (⟨48, 57⟩ : S81) )) (Reps.c2 (show Kd.M k81 _ _ _ (⟨183, 183⟩ : S81) [.int .i32 183, .int .i32 183] from (k81_mkM _ _ _ (⟨183, 183⟩ : S81) )) (Reps.c2 (show Kd.M k81 _ _ _ (⟨768, 879⟩ : S81) [.int .i32 768, .int .i32 879] from (k81_mkM _ _ _ (⟨768, 879⟩ : S81) )) (Reps.c2 (show Kd.M k81 _ _ _ (⟨8255, 8256⟩ : S81) [.int .i32 8255, .int .i32 8256] from (k81_mkM _ _ _ (⟨8255, 8256⟩ : S81) )) (Reps.none _ _))))))); intro v109 w7 ho8 hb hg_ hnew_; clear hg_ hnew_; (first | rw [← Ny108.out] at ho8 | (simp only [Int.reduceToNat] at ho8; rw [← Ny108.out] at ho8)); have n0_ := Aside0.mk (Kd.R_lower ho8 (below_size (by repeat (first | (with_reducible first | exact HB.out | apply below_alloc | apply pw_below_drewN | apply below_drew1) | exact HB.out)))); have n1_ := Aside0.mk (below_step (by repeat (first | (with_reducible first | exact HB.out | apply below_alloc | apply pw_below_drewN | apply below_drew1) | exact HB.out)) hb); clear HB; have HO110 := n0_; have HB := n1_; clear n0_ n1_; clear hb ho8; obtain ⟨Ao9, co9, eo9⟩ := Kd.R_slice HO110.out; subst eo9) | (go_at_call 43; (with_reducible refine (char_in.calls k a0 _ _ y108 t111 _ ?side1 ?side2 A5.out).mono ?_); (case side1 => repeat (first | exact (Kd.R_reads' HO110.out).2.2 | (with_reducible refine Kd.C_alloc ?_ _) | (with_reducible refine Kd.C_drewN ?_ _) | (with_reducible refine Kd.C_drew ?_))); (case side2 => exact (Kd.R_reads' HO110.out).2.1); rintro e w10 ⟨rfl, hb⟩; have n0_ := Aside0.mk (Kd.R_below (by (with_reducible repeat (first | apply Kd.R_alloc | apply Kd.R_drewN | apply Kd.R_drew)); exact HO110.out) hb); have n1_ := Aside0.mk (below_step (by repeat (first | (with_reducible first | exact HB.out | apply below_alloc | apply pw_below_drewN | apply below_drew1) | exact HB.out)) hb); clear HO110; clear HB; have HO110 := n0_; have HB := n1_; clear n0_ n1_; (try clear hb); (try clear hb2); (try clear hk); (try clear hi)))
  go_ret
  exact ⟨by first | rfl | exact congrArg (fun b => Ending.returned (Value.bool b)) (isE_ne _).symm | exact congrArg (fun b => Ending.returned (Value.bool b)) (isE_eq _).symm | (simp only [isE_ne, isE_eq, Bool.not_not]; done) | (simp [errW_none, errW_some] <;> rfl) | (simp [*, errW_none, errW_some] <;> rfl), by repeat (first | (with_reducible first | exact HB.out | apply below_alloc | apply pw_below_drewN | apply below_drew1) | exact HB.out)⟩

/-! ### name_Plain: function 36 -/
def name_Plain.l0 : Nat → ByteArray → Nat → Option Bool
 | 0, _, _ => none
 | k + 1, s, p => if p < s.size then (if p = 0 then ((char_Start.f k ((Utf8.decode s p).1 : Int)).bind fun a => (if a = true then ((char_Part.f k ((Utf8.decode s p).1 : Int)).bind fun b => (if b = true then (name_Plain.l0 k s (p + (Utf8.decode s p).2)) else (some false))) else (some false))) else ((char_Part.f k ((Utf8.decode s p).1 : Int)).bind fun b => (if b = true then (name_Plain.l0 k s (p + (Utf8.decode s p).2)) else (some false)))) else (some (!(decide (s.size = 0))))
def name_Plain.f (k : Nat) (a0 : ByteArray) : Option (Bool) := name_Plain.l0 k a0 0
theorem name_Plain.mono_l : ∀ k, (∀ y0 y1, LeO (name_Plain.l0 k y0 y1) (name_Plain.l0 (k + 1) y0 y1))
 | 0 => fun _ _ r h => by simp [name_Plain.l0] at h
 | k + 1 => by
  have ih0 := name_Plain.mono_l k
  intro y0 y1
  unfold name_Plain.l0
  repeat' first
   | (with_reducible exact ih0 _ _)
   | (with_reducible exact char_Part.mono _ _)
   | (with_reducible exact char_Start.mono _ _)
   | (with_reducible exact LeO.refl _)
   | (with_reducible exact LeO.none _)
   | (with_reducible refine LeO.ite ?_ ?_)
   | (with_reducible refine LeO.bind ?_ (fun _ => ?_))
theorem name_Plain.mono : ∀ a0 k, LeO (name_Plain.f k a0) (name_Plain.f (k + 1) a0) := fun a0 k => name_Plain.mono_l k a0 0
set_option maxHeartbeats 8000000 in
set_option maxRecDepth 100000 in
theorem name_Plain.calls (k : Nat) (a0 : ByteArray) (r : Bool) (w : World) (h : name_Plain.f k a0 = some r) :
  Calls Try.prog 36 #[.string a0] w fun e w' => e = .returned (.bool r) ∧ Below w.heap.size w w' := by
 have H : name_Plain.l0 k a0 0 = some r := h
 clear h
 have H' := Aside0.mk H
 clear H
 go_enter Try.func36, Try.ntmps36
 go_wp2
 go_loopg [] k (fun kq w' => ∃ (p : Nat), w'.heap[w.heap.size]? = some (.stringIter a0 p) ∧ Aside0 (name_Plain.l0 kq a0 p = some r) ∧ Aside0 (kq ≤ k) ∧ Aside0 (Below w.heap.size w w'))
 case atStart => exact ⟨0, World.iter_heap _ _ _, H', ⟨Nat.le_refl _⟩, ⟨below_alloc (Below.refl _ _) _⟩⟩
 case round =>
  clear H'
  obtain ⟨p, hi, HA, HK1, HB⟩ := hrel
  cases gk with
  | zero => exact absurd HA.out (by simp [name_Plain.l0])
  | succ k1 =>
   have H := HA.out
   clear HA
   simp only [name_Plain.l0] at H
   by_cases c1 : p < a0.size
   ·
    rw [if_pos c1] at H
    have hnx : ∀ ty, (Instr.next (.pointer (some ⟨w.heap.size, 0, none⟩)) true ty).run Try.prog wr = _ := fun ty => Go.Lib.run_next_any_at wr w.heap.size a0 p ty hi c1
    have n0_ := Go.Lib.iterAt_heap wr w.heap.size a0 p (p + (Utf8.decode a0 p).2) hi
    have n1_ := Aside0.mk (Go.Lib.below_iterAt HB.out (Nat.le_refl _) a0 (p + (Utf8.decode a0 p).2))
    clear hi HB
    have hi := n0_
    have HB := n1_
    clear n0_ n1_ c1
    by_cases c2 : p = 0
    ·
     rw [if_pos c2] at H
     have c2b0 : ((p : Int) == 0) = true := by simp [c2]
     clear c2
     obtain ⟨a, A10, H⟩ := Option.bind_eq_some_iff.mp H
     have A1 := Aside0.mk A10
     clear A10
     by_cases c3 : a = true
     ·
      subst c3
      rw [if_pos rfl] at H
      obtain ⟨b, A20, H⟩ := Option.bind_eq_some_iff.mp H
      have A2 := Aside0.mk A20
      clear A20
      by_cases c4 : b = true
      ·
       subst c4
       rw [if_pos rfl] at H
       have H' := Aside0.mk H
       clear H
       go_wp2_with (first | (go_at_call 40; (with_reducible refine (char_Start.calls k1 _ true _ A1.out).mono ?_); rintro e w4 ⟨rfl, hb⟩; have n0_ := Aside0.mk (below_step HB.out hb); have n1_ := it_keeps hb hi; clear HB hi hb; have HB := n0_; have hi := n1_; clear n0_ n1_) | (go_at_call 41; (with_reducible refine (char_Part.calls k1 _ true _ A2.out).mono ?_); rintro e w4 ⟨rfl, hb⟩; have n0_ := Aside0.mk (below_step HB.out hb); have n1_ := it_keeps hb hi; clear HB hi hb; have HB := n0_; have hi := n1_; clear n0_ n1_))
       go_roundg k1
       case measure => have := HK1.out; omega
       case rel => exact ⟨_, hi, H', ⟨by have := HK1.out; omega⟩, HB⟩
      ·
       obtain rfl := Bool.eq_false_iff.mpr c4
       rw [if_neg (by decide)] at H
       obtain rfl := Option.some.inj H
       go_wp2_with (first | (go_at_call 40; (with_reducible refine (char_Start.calls k1 _ true _ A1.out).mono ?_); rintro e w4 ⟨rfl, hb⟩; have n0_ := Aside0.mk (below_step HB.out hb); have n1_ := it_keeps hb hi; clear HB hi hb; have HB := n0_; have hi := n1_; clear n0_ n1_) | (go_at_call 41; (with_reducible refine (char_Part.calls k1 _ false _ A2.out).mono ?_); rintro e w4 ⟨rfl, hb⟩; have n0_ := Aside0.mk (below_step HB.out hb); have n1_ := it_keeps hb hi; clear HB hi hb; have HB := n0_; have hi := n1_; clear n0_ n1_))
       go_ret
       exact ⟨rfl, HB.out⟩
     ·
      obtain rfl := Bool.eq_false_iff.mpr c3
      rw [if_neg (by decide)] at H
      obtain rfl := Option.some.inj H
      go_wp2_with (first | (go_at_call 40; (with_reducible refine (char_Start.calls k1 _ false _ A1.out).mono ?_); rintro e w4 ⟨rfl, hb⟩; have n0_ := Aside0.mk (below_step HB.out hb); have n1_ := it_keeps hb hi; clear HB hi hb; have HB := n0_; have hi := n1_; clear n0_ n1_))
      go_ret
      exact ⟨rfl, HB.out⟩
    ·
     rw [if_neg c2] at H
     have c2b0 : ((p : Int) == 0) = false := by simp [c2]
     clear c2
     obtain ⟨b, A20, H⟩ := Option.bind_eq_some_iff.mp H
     have A2 := Aside0.mk A20
     clear A20
     by_cases c4 : b = true
     ·
      subst c4
      rw [if_pos rfl] at H
      have H' := Aside0.mk H
      clear H
      go_wp2_with (first | (go_at_call 41; (with_reducible refine (char_Part.calls k1 _ true _ A2.out).mono ?_); rintro e w4 ⟨rfl, hb⟩; have n0_ := Aside0.mk (below_step HB.out hb); have n1_ := it_keeps hb hi; clear HB hi hb; have HB := n0_; have hi := n1_; clear n0_ n1_))
      go_roundg k1
      case measure => have := HK1.out; omega
      case rel => exact ⟨_, hi, H', ⟨by have := HK1.out; omega⟩, HB⟩
     ·
      obtain rfl := Bool.eq_false_iff.mpr c4
      rw [if_neg (by decide)] at H
      obtain rfl := Option.some.inj H
      go_wp2_with (first | (go_at_call 41; (with_reducible refine (char_Part.calls k1 _ false _ A2.out).mono ?_); rintro e w4 ⟨rfl, hb⟩; have n0_ := Aside0.mk (below_step HB.out hb); have n1_ := it_keeps hb hi; clear HB hi hb; have HB := n0_; have hi := n1_; clear n0_ n1_))
      go_ret
      exact ⟨rfl, HB.out⟩
   ·
    rw [if_neg c1] at H
    have hnx : ∀ ty, (Instr.next (.pointer (some ⟨w.heap.size, 0, none⟩)) true ty).run Try.prog wr = _ := fun ty => Go.Lib.run_next_end_at wr w.heap.size a0 p ty hi c1
    obtain rfl := Option.some.inj H
    go_wp2
    go_ret
    exact ⟨by simp [isEmpty_size], HB.out⟩


/-! ### name_Split: function 31 -/
def name_Split.j0 : Nat → ByteArray → ByteArray → Bool → Option (ByteArray × ByteArray × Bool)
 | 0, _, _, _ => none
 | k + 1, x5, x6, x7 => (name_Plain.f k x6).bind fun t115 => (if t115 = true then (if x7 = true then ((name_Plain.f k x5).bind fun t116 => (if t116 = true then (some (x5, x6, true)) else (some ((⟨#[]⟩ : ByteArray), (⟨#[]⟩ : ByteArray), false)))) else (some (x5, x6, true))) else (some ((⟨#[]⟩ : ByteArray), (⟨#[]⟩ : ByteArray), false)))
def name_Split.f (k : Nat) (a0 : ByteArray) : Option (ByteArray × ByteArray × Bool) := (strings_Cut.f a0 (⟨#[58]⟩ : ByteArray)).bind fun bt112 => (if bt112.2.2 = true then (name_Split.j0 k bt112.1 bt112.2.1 bt112.2.2) else (name_Split.j0 k (⟨#[]⟩ : ByteArray) a0 bt112.2.2))
theorem name_Split.mono_l : ∀ k, (∀ y0 y1 y2, LeO (name_Split.j0 k y0 y1 y2) (name_Split.j0 (k + 1) y0 y1 y2))
 | 0 => fun _ _ _ r h => by simp [name_Split.j0] at h
 | k + 1 => by
  have ih0 := name_Split.mono_l k
  ·
   intro y0 y1 y2
   unfold name_Split.j0
   repeat' first
   | (with_reducible exact ih0 _ _ _)
   | (with_reducible exact name_Plain.mono _ _)
   | (with_reducible exact LeO.refl _)
   | (with_reducible exact LeO.none _)
   | (with_reducible refine LeO.ite ?_ ?_)
   | (with_reducible refine LeO.bind ?_ (fun _ => ?_))
   | exact ih0 _ _ _
   | exact name_Plain.mono _ _
   | exact LeO.none _
   | refine LeO.ite ?_ ?_
   | refine LeO.bind ?_ (fun _ => ?_)
theorem name_Split.mono : ∀ a0 k, LeO (name_Split.f k a0) (name_Split.f (k + 1) a0) := by
 intro a0 k
 have ih0 := name_Split.mono_l k
 unfold name_Split.f
 repeat' first
   | (with_reducible exact ih0 _ _ _)
   | (with_reducible exact name_Plain.mono _ _)
   | (with_reducible exact LeO.refl _)
   | (with_reducible exact LeO.none _)
   | (with_reducible refine LeO.ite ?_ ?_)
   | (with_reducible refine LeO.bind ?_ (fun _ => ?_))
   | exact ih0 _ _ _
   | exact name_Plain.mono _ _
   | exact LeO.none _
   | refine LeO.ite ?_ ?_
   | refine LeO.bind ?_ (fun _ => ?_)
set_option maxHeartbeats 8000000 in
set_option maxRecDepth 100000 in
theorem name_Split.calls (k : Nat) (a0 : ByteArray) (r1 : ByteArray) (r2 : ByteArray) (r3 : Bool) (w : World) (h : name_Split.f k a0 = some (r1, r2, r3)) :
  Calls Try.prog 31 #[.string a0] w fun e w' => e = .returned (.tuple #[.string r1, .string r2, .bool r3]) ∧ Below w.heap.size w w' := by
 have HB := Aside0.mk (Below.refl w.heap.size w)
 have H : ((strings_Cut.f a0 (⟨#[58]⟩ : ByteArray)).bind fun bt112 => (if bt112.2.2 = true then (name_Split.j0 k bt112.1 bt112.2.1 bt112.2.2) else (name_Split.j0 k (⟨#[]⟩ : ByteArray) a0 bt112.2.2))) = some (r1, r2, r3) := h
 clear h
 replace H := Option.bind_eq_some_iff.mp H
 obtain ⟨⟨t112, t113, t114⟩, A20, H⟩ := H
 replace H : (if t114 = true then (name_Split.j0 k t112 t113 t114) else (name_Split.j0 k (⟨#[]⟩ : ByteArray) a0 t114)) = some (r1, r2, r3) := H
 have A2 := Aside0.mk A20
 clear A20
 have HC3 := Aside0.mk H
 clear H
 go_enter Try.func31, Try.ntmps31
 go_upto_if 15 with (first | ((with_reducible refine gate_callee (f := 35) rfl ?_); refine goesL_ (some 10) rfl rfl Try.func35 (by kernel_rfl) rfl #[.string a0, .string (⟨#[58]⟩ : ByteArray)] rfl (by (try simp only [List.map_toArray, List.map_cons, List.map_nil]); first | done | rfl | (simp only [List.length_drop, List.length_take]; rfl)) ?_; (with_reducible refine (strings_Cut.calls a0 (⟨#[58]⟩ : ByteArray) t112 t113 t114 _ A2.out).mono ?_); rintro e w' ⟨rfl, ⟨nd, rfl⟩⟩; refine ⟨_, rfl, ?_⟩))
 (try simp only [Act.put, List.setIfInBounds_toArray, List.set_cons_zero, List.set_cons_succ])
 go_cut [5, 6] (fun v5 v6 wc => ∃ (kq : Nat) (x5_2 : ByteArray) (x6_2 : ByteArray), v5 = .string x5_2 ∧ v6 = .string x6_2 ∧ Aside0 (name_Split.j0 kq x5_2 x6_2 t114 = some (r1, r2, r3)) ∧ Aside0 (kq ≤ k) ∧ Aside0 (Below w.heap.size w wc))
 case first =>
  have H := HC3.out
  clear HC3
  by_cases c4 : t114 = true
  ·
   subst c4
   have H1 : (name_Split.j0 k t112 t113 true) = some (r1, r2, r3) := by rw [if_pos rfl] at H; exact H
   clear H
   have H := H1
   clear H1
   have H' := Aside0.mk H
   clear H
   go_wp2
   go_meet
   case rel => exact ⟨_, (t112), (t113), (by first | rfl | (simp; done) | (simp [*]; done)), (by first | rfl | (simp; done) | (simp [*]; done)), H', ⟨by first | omega | exact Nat.le_refl _⟩, ⟨by repeat (first | (with_reducible first | exact HB.out | apply below_alloc | apply pw_below_drewN | apply below_drew1) | exact HB.out)⟩⟩
  ·
   replace c4 := Bool.eq_false_iff.mpr c4
   subst c4
   have H1 : (name_Split.j0 k (⟨#[]⟩ : ByteArray) a0 false) = some (r1, r2, r3) := by rw [if_neg (show ¬ (false = true) by decide)] at H; exact H
   clear H
   have H := H1
   clear H1
   have H' := Aside0.mk H
   clear H
   go_wp2
   go_meet
   case rel => exact ⟨_, ((⟨#[]⟩ : ByteArray)), (a0), (by first | rfl | (simp; done) | (simp [*]; done)), (by first | rfl | (simp; done) | (simp [*]; done)), H', ⟨by first | omega | exact Nat.le_refl _⟩, ⟨by repeat (first | (with_reducible first | exact HB.out | apply below_alloc | apply pw_below_drewN | apply below_drew1) | exact HB.out)⟩⟩
 case rest =>
  clear HC3
  try clear p2
  try clear c3
  try clear c4
  obtain ⟨kq, x5_2, x6_2, rfl, rfl, HA, HJ2, HB⟩ := hcut
  cases kq with
  | zero => exact absurd HA.out (by simp [name_Split.j0])
  | succ kj2 =>
   have H := HA.out
   clear HA
   simp only [name_Split.j0] at H
   replace H := Option.bind_eq_some_iff.mp H
   obtain ⟨t115, A50, H⟩ := H
   replace H : (if t115 = true then (if t114 = true then ((name_Plain.f kj2 x5_2).bind fun t116 => (if t116 = true then (some (x5_2, x6_2, true)) else (some ((⟨#[]⟩ : ByteArray), (⟨#[]⟩ : ByteArray), false)))) else (some (x5_2, x6_2, true))) else (some ((⟨#[]⟩ : ByteArray), (⟨#[]⟩ : ByteArray), false))) = some (r1, r2, r3) := H
   have A5 := Aside0.mk A50
   clear A50
   by_cases c6 : t115 = true
   ·
    subst c6
    have H1 : (if t114 = true then ((name_Plain.f kj2 x5_2).bind fun t116 => (if t116 = true then (some (x5_2, x6_2, true)) else (some ((⟨#[]⟩ : ByteArray), (⟨#[]⟩ : ByteArray), false)))) else (some (x5_2, x6_2, true))) = some (r1, r2, r3) := by rw [if_pos rfl] at H; exact H
    clear H
    have H := H1
    clear H1
    by_cases c7 : t114 = true
    ·
     subst c7
     have H1 : ((name_Plain.f kj2 x5_2).bind fun t116 => (if t116 = true then (some (x5_2, x6_2, true)) else (some ((⟨#[]⟩ : ByteArray), (⟨#[]⟩ : ByteArray), false)))) = some (r1, r2, r3) := by rw [if_pos rfl] at H; exact H
     clear H
     have H := H1
     clear H1
     replace H := Option.bind_eq_some_iff.mp H
     obtain ⟨t116, A80, H⟩ := H
     replace H : (if t116 = true then (some (x5_2, x6_2, true)) else (some ((⟨#[]⟩ : ByteArray), (⟨#[]⟩ : ByteArray), false))) = some (r1, r2, r3) := H
     have A8 := Aside0.mk A80
     clear A80
     by_cases c9 : t116 = true
     ·
      subst c9
      have H1 : (some (x5_2, x6_2, true)) = some (r1, r2, r3) := by rw [if_pos rfl] at H; exact H
      clear H
      have H := H1
      clear H1
      simp only [Option.some.injEq, Prod.mk.injEq] at H
      obtain ⟨rfl, rfl, rfl⟩ := H
      go_wp2_with (first | ((with_reducible refine gate_callee (f := 36) rfl ?_); refine goesL_ (some 18) rfl rfl Try.func36 (by kernel_rfl) rfl #[.string x6_2] rfl (by (try simp only [List.map_toArray, List.map_cons, List.map_nil]); first | done | rfl | (simp only [List.length_drop, List.length_take]; rfl)) ?_; (with_reducible refine (name_Plain.calls kj2 x6_2 true _ A5.out).mono ?_); rintro e w10 ⟨rfl, hb⟩; refine ⟨_, rfl, ?_⟩; have n0_ := Aside0.mk (below_step (by repeat (first | (with_reducible first | exact HB.out | apply below_alloc | apply pw_below_drewN | apply below_drew1) | exact HB.out)) hb); clear HB; have HB := n0_; clear n0_; (try clear hb); (try clear hb2); (try clear hk); (try clear hi)) | (go_at_call 36; (with_reducible refine (name_Plain.calls kj2 x5_2 true _ A8.out).mono ?_); rintro e w11 ⟨rfl, hb⟩; have n0_ := Aside0.mk (below_step (by repeat (first | (with_reducible first | exact HB.out | apply below_alloc | apply pw_below_drewN | apply below_drew1) | exact HB.out)) hb); clear HB; have HB := n0_; clear n0_; (try clear hb); (try clear hb2); (try clear hk); (try clear hi)))
      go_ret3
      exact ⟨by first | rfl | exact congrArg (fun b => Ending.returned (Value.bool b)) (isE_ne _).symm | exact congrArg (fun b => Ending.returned (Value.bool b)) (isE_eq _).symm | (simp only [isE_ne, isE_eq, Bool.not_not]; done) | (simp [errW_none, errW_some] <;> rfl) | (simp [*, errW_none, errW_some] <;> rfl), by repeat (first | (with_reducible first | exact HB.out | apply below_alloc | apply pw_below_drewN | apply below_drew1) | exact HB.out)⟩
     ·
      replace c9 := Bool.eq_false_iff.mpr c9
      subst c9
      have H1 : (some ((⟨#[]⟩ : ByteArray), (⟨#[]⟩ : ByteArray), false)) = some (r1, r2, r3) := by rw [if_neg (show ¬ (false = true) by decide)] at H; exact H
      clear H
      have H := H1
      clear H1
      simp only [Option.some.injEq, Prod.mk.injEq] at H
      obtain ⟨rfl, rfl, rfl⟩ := H
      go_wp2_with (first | ((with_reducible refine gate_callee (f := 36) rfl ?_); refine goesL_ (some 18) rfl rfl Try.func36 (by kernel_rfl) rfl #[.string x6_2] rfl (by (try simp only [List.map_toArray, List.map_cons, List.map_nil]); first | done | rfl | (simp only [List.length_drop, List.length_take]; rfl)) ?_; (with_reducible refine (name_Plain.calls kj2 x6_2 true _ A5.out).mono ?_); rintro e w12 ⟨rfl, hb⟩; refine ⟨_, rfl, ?_⟩; have n0_ := Aside0.mk (below_step (by repeat (first | (with_reducible first | exact HB.out | apply below_alloc | apply pw_below_drewN | apply below_drew1) | exact HB.out)) hb); clear HB; have HB := n0_; clear n0_; (try clear hb); (try clear hb2); (try clear hk); (try clear hi)) | (go_at_call 36; (with_reducible refine (name_Plain.calls kj2 x5_2 false _ A8.out).mono ?_); rintro e w13 ⟨rfl, hb⟩; have n0_ := Aside0.mk (below_step (by repeat (first | (with_reducible first | exact HB.out | apply below_alloc | apply pw_below_drewN | apply below_drew1) | exact HB.out)) hb); clear HB; have HB := n0_; clear n0_; (try clear hb); (try clear hb2); (try clear hk); (try clear hi)))
      go_ret3
      exact ⟨by first | rfl | exact congrArg (fun b => Ending.returned (Value.bool b)) (isE_ne _).symm | exact congrArg (fun b => Ending.returned (Value.bool b)) (isE_eq _).symm | (simp only [isE_ne, isE_eq, Bool.not_not]; done) | (simp [errW_none, errW_some] <;> rfl) | (simp [*, errW_none, errW_some] <;> rfl), by repeat (first | (with_reducible first | exact HB.out | apply below_alloc | apply pw_below_drewN | apply below_drew1) | exact HB.out)⟩
    ·
     replace c7 := Bool.eq_false_iff.mpr c7
     subst c7
     have H1 : (some (x5_2, x6_2, true)) = some (r1, r2, r3) := by rw [if_neg (show ¬ (false = true) by decide)] at H; exact H
     clear H
     have H := H1
     clear H1
     simp only [Option.some.injEq, Prod.mk.injEq] at H
     obtain ⟨rfl, rfl, rfl⟩ := H
     go_wp2_with (first | ((with_reducible refine gate_callee (f := 36) rfl ?_); refine goesL_ (some 18) rfl rfl Try.func36 (by kernel_rfl) rfl #[.string x6_2] rfl (by (try simp only [List.map_toArray, List.map_cons, List.map_nil]); first | done | rfl | (simp only [List.length_drop, List.length_take]; rfl)) ?_; (with_reducible refine (name_Plain.calls kj2 x6_2 true _ A5.out).mono ?_); rintro e w14 ⟨rfl, hb⟩; refine ⟨_, rfl, ?_⟩; have n0_ := Aside0.mk (below_step (by repeat (first | (with_reducible first | exact HB.out | apply below_alloc | apply pw_below_drewN | apply below_drew1) | exact HB.out)) hb); clear HB; have HB := n0_; clear n0_; (try clear hb); (try clear hb2); (try clear hk); (try clear hi)))
     go_ret3
     exact ⟨by first | rfl | exact congrArg (fun b => Ending.returned (Value.bool b)) (isE_ne _).symm | exact congrArg (fun b => Ending.returned (Value.bool b)) (isE_eq _).symm | (simp only [isE_ne, isE_eq, Bool.not_not]; done) | (simp [errW_none, errW_some] <;> rfl) | (simp [*, errW_none, errW_some] <;> rfl), by repeat (first | (with_reducible first | exact HB.out | apply below_alloc | apply pw_below_drewN | apply below_drew1) | exact HB.out)⟩
   ·
    replace c6 := Bool.eq_false_iff.mpr c6
    subst c6
    have H1 : (some ((⟨#[]⟩ : ByteArray), (⟨#[]⟩ : ByteArray), false)) = some (r1, r2, r3) := by rw [if_neg (show ¬ (false = true) by decide)] at H; exact H
    clear H
    have H := H1
    clear H1
    simp only [Option.some.injEq, Prod.mk.injEq] at H
    obtain ⟨rfl, rfl, rfl⟩ := H
    go_wp2_with (first | ((with_reducible refine gate_callee (f := 36) rfl ?_); refine goesL_ (some 18) rfl rfl Try.func36 (by kernel_rfl) rfl #[.string x6_2] rfl (by (try simp only [List.map_toArray, List.map_cons, List.map_nil]); first | done | rfl | (simp only [List.length_drop, List.length_take]; rfl)) ?_; (with_reducible refine (name_Plain.calls kj2 x6_2 false _ A5.out).mono ?_); rintro e w15 ⟨rfl, hb⟩; refine ⟨_, rfl, ?_⟩; have n0_ := Aside0.mk (below_step (by repeat (first | (with_reducible first | exact HB.out | apply below_alloc | apply pw_below_drewN | apply below_drew1) | exact HB.out)) hb); clear HB; have HB := n0_; clear n0_; (try clear hb); (try clear hb2); (try clear hk); (try clear hi)))
    go_ret3
    exact ⟨by first | rfl | exact congrArg (fun b => Ending.returned (Value.bool b)) (isE_ne _).symm | exact congrArg (fun b => Ending.returned (Value.bool b)) (isE_eq _).symm | (simp only [isE_ne, isE_eq, Bool.not_not]; done) | (simp [errW_none, errW_some] <;> rfl) | (simp [*, errW_none, errW_some] <;> rfl), by repeat (first | (with_reducible first | exact HB.out | apply below_alloc | apply pw_below_drewN | apply below_drew1) | exact HB.out)⟩

/-! ### scope_bound: function 23 -/
def scope_bound.f (k : Nat) (a0_0 : ByteArray) (a0_1 : ByteArray) : Option (ByteArray × Bool) := (name_Split.f k a0_0).bind fun bt118 => (if bt118.1.toList = ([120, 109, 108, 110, 115] : List UInt8) then (some (bt118.2.1, true)) else (some ((⟨#[]⟩ : ByteArray), (a0_0.toList == ([120, 109, 108, 110, 115] : List UInt8)))))
theorem scope_bound.mono : ∀ a0 a1 k, LeO (scope_bound.f k a0 a1) (scope_bound.f (k + 1) a0 a1) := by
 intro a0 a1 k
 unfold scope_bound.f
 repeat' first
   | (with_reducible exact name_Split.mono _ _)
   | (with_reducible exact LeO.refl _)
   | (with_reducible exact LeO.none _)
   | (with_reducible refine LeO.ite ?_ ?_)
   | (with_reducible refine LeO.bind ?_ (fun _ => ?_))
   | exact name_Split.mono _ _
   | exact LeO.none _
   | refine LeO.ite ?_ ?_
   | refine LeO.bind ?_ (fun _ => ?_)
set_option maxHeartbeats 8000000 in
set_option maxRecDepth 100000 in
theorem scope_bound.calls (k : Nat) (a0_0 : ByteArray) (a0_1 : ByteArray) (r1 : ByteArray) (r2 : Bool) (w : World) (h : scope_bound.f k a0_0 a0_1 = some (r1, r2)) :
  Calls Try.prog 23 #[.agg #[.string a0_0, .string a0_1]] w fun e w' => e = .returned (.tuple #[.string r1, .bool r2]) ∧ Below w.heap.size w w' := by
 have hu51 := Try.underlying51
 have HB := Aside0.mk (Below.refl w.heap.size w)
 have H : ((name_Split.f k a0_0).bind fun bt118 => (if bt118.1.toList = ([120, 109, 108, 110, 115] : List UInt8) then (some (bt118.2.1, true)) else (some ((⟨#[]⟩ : ByteArray), (a0_0.toList == ([120, 109, 108, 110, 115] : List UInt8)))))) = some (r1, r2) := h
 clear h
 replace H := Option.bind_eq_some_iff.mp H
 obtain ⟨⟨t118, t119, t120⟩, A20, H⟩ := H
 replace H : (if t118.toList = ([120, 109, 108, 110, 115] : List UInt8) then (some (t119, true)) else (some ((⟨#[]⟩ : ByteArray), (a0_0.toList == ([120, 109, 108, 110, 115] : List UInt8))))) = some (r1, r2) := H
 have A2 := Aside0.mk A20
 clear A20
 by_cases c3 : t118.toList = ([120, 109, 108, 110, 115] : List UInt8)
 ·
  rw [if_pos c3] at H
  have c3b0 : (t118.toList == ([120, 109, 108, 110, 115] : List UInt8)) = true := beq_iff_eq.mpr c3
  have c3b1 : (t118.toList != ([120, 109, 108, 110, 115] : List UInt8)) = false := bne_eq_false_iff_eq.mpr c3
  clear c3
  simp only [Option.some.injEq, Prod.mk.injEq] at H
  obtain ⟨rfl, rfl⟩ := H
  go_enter Try.func23, Try.ntmps23
  go_wp2_with (first | ((with_reducible refine gate_dst (N := 1) rfl ?_); refine box_event ?hg (N := 1) ?hd (cs := #[.string a0_0, .string a0_1]) (t := 51) ?hr ?_; (case hd => rfl); (case hg => rfl); (case hr => first | (go_simp; done) | (go_simp; rfl)); intro gb117 hg w4 hbox hb; have n0_ := Aside0.mk (below_step (by repeat (first | (with_reducible first | exact HB.out | apply below_alloc | apply pw_below_drewN | apply below_drew1) | exact HB.out)) hb); have n1_ := Aside0.mk (hbox); have n2_ := Aside0.mk ((by rw [hg]; exact (below_size (by repeat (first | (with_reducible first | exact HB.out | apply below_alloc | apply pw_below_drewN | apply below_drew1) | exact HB.out))) : w.heap.size ≤ gb117)); have n3_ := Aside0.mk ((by rw [hg]; exact (below_size (by repeat (first | (with_reducible first | exact HB.out | apply below_alloc | apply pw_below_drewN | apply below_drew1) | exact HB.out))) : w.heap.size ≤ gb117)); clear HB; have HB := n0_; have BK117 := n1_; have GW117 := n2_; have GE117 := n3_; clear n0_ n1_ n2_ n3_; clear hb hbox hg; have hcz5_0 : w4.cell? ⟨gb117, 0, none⟩ = some (.string a0_0) := (blk_cell BK117.out 0).trans rfl; have hcz5_1 : w4.cell? ⟨gb117, 1, none⟩ = some (.string a0_1) := (blk_cell BK117.out 1).trans rfl; have hfz5_0 := blk_frozen BK117.out 0; have hfz5_1 := blk_frozen BK117.out 1) | (go_at_call 31; (with_reducible refine (name_Split.calls k a0_0 t118 t119 t120 _ A2.out).mono ?_); rintro e w6 ⟨rfl, hb⟩; have n0_ := Aside0.mk (blk_below (g := gb117) (o := .cells #[.string a0_0, .string a0_1] 51 (0, 0)) (by (with_reducible repeat (first | refine blk_drewN ?_ _ | refine blk_drew ?_ | refine blk_alloc ?_ _)); exact BK117.out) hb); have n1_ := Aside0.mk (below_step (by repeat (first | (with_reducible first | exact HB.out | apply below_alloc | apply pw_below_drewN | apply below_drew1 | refine below_set ?_ GE117.out) | exact HB.out)) hb); clear BK117; clear HB; have BK117 := n0_; have HB := n1_; clear n0_ n1_; (try clear hb); (try clear hb2); (try clear hk); (try clear hi)))
  repeat (go_quiet (first | ((with_reducible refine gate_dst (N := 1) rfl ?_); refine box_event ?hg (N := 1) ?hd (cs := #[.string a0_0, .string a0_1]) (t := 51) ?hr ?_; (case hd => rfl); (case hg => rfl); (case hr => first | (go_simp; done) | (go_simp; rfl)); intro gb117 hg w4 hbox hb; have n0_ := Aside0.mk (below_step (by repeat (first | (with_reducible first | exact HB.out | apply below_alloc | apply pw_below_drewN | apply below_drew1) | exact HB.out)) hb); have n1_ := Aside0.mk (hbox); have n2_ := Aside0.mk ((by rw [hg]; exact (below_size (by repeat (first | (with_reducible first | exact HB.out | apply below_alloc | apply pw_below_drewN | apply below_drew1) | exact HB.out))) : w.heap.size ≤ gb117)); have n3_ := Aside0.mk ((by rw [hg]; exact (below_size (by repeat (first | (with_reducible first | exact HB.out | apply below_alloc | apply pw_below_drewN | apply below_drew1) | exact HB.out))) : w.heap.size ≤ gb117)); clear HB; have HB := n0_; have BK117 := n1_; have GW117 := n2_; have GE117 := n3_; clear n0_ n1_ n2_ n3_; clear hb hbox hg; have hcz5_0 : w4.cell? ⟨gb117, 0, none⟩ = some (.string a0_0) := (blk_cell BK117.out 0).trans rfl; have hcz5_1 : w4.cell? ⟨gb117, 1, none⟩ = some (.string a0_1) := (blk_cell BK117.out 1).trans rfl; have hfz5_0 := blk_frozen BK117.out 0; have hfz5_1 := blk_frozen BK117.out 1) | (go_at_call 31; (with_reducible refine (name_Split.calls k a0_0 t118 t119 t120 _ A2.out).mono ?_); rintro e w6 ⟨rfl, hb⟩; have n0_ := Aside0.mk (blk_below (g := gb117) (o := .cells #[.string a0_0, .string a0_1] 51 (0, 0)) (by (with_reducible repeat (first | refine blk_drewN ?_ _ | refine blk_drew ?_ | refine blk_alloc ?_ _)); exact BK117.out) hb); have n1_ := Aside0.mk (below_step (by repeat (first | (with_reducible first | exact HB.out | apply below_alloc | apply pw_below_drewN | apply below_drew1 | refine below_set ?_ GE117.out) | exact HB.out)) hb); clear BK117; clear HB; have BK117 := n0_; have HB := n1_; clear n0_ n1_; (try clear hb); (try clear hb2); (try clear hk); (try clear hi))); try go_wp2_with (first | ((with_reducible refine gate_dst (N := 1) rfl ?_); refine box_event ?hg (N := 1) ?hd (cs := #[.string a0_0, .string a0_1]) (t := 51) ?hr ?_; (case hd => rfl); (case hg => rfl); (case hr => first | (go_simp; done) | (go_simp; rfl)); intro gb117 hg w4 hbox hb; have n0_ := Aside0.mk (below_step (by repeat (first | (with_reducible first | exact HB.out | apply below_alloc | apply pw_below_drewN | apply below_drew1) | exact HB.out)) hb); have n1_ := Aside0.mk (hbox); have n2_ := Aside0.mk ((by rw [hg]; exact (below_size (by repeat (first | (with_reducible first | exact HB.out | apply below_alloc | apply pw_below_drewN | apply below_drew1) | exact HB.out))) : w.heap.size ≤ gb117)); have n3_ := Aside0.mk ((by rw [hg]; exact (below_size (by repeat (first | (with_reducible first | exact HB.out | apply below_alloc | apply pw_below_drewN | apply below_drew1) | exact HB.out))) : w.heap.size ≤ gb117)); clear HB; have HB := n0_; have BK117 := n1_; have GW117 := n2_; have GE117 := n3_; clear n0_ n1_ n2_ n3_; clear hb hbox hg; have hcz5_0 : w4.cell? ⟨gb117, 0, none⟩ = some (.string a0_0) := (blk_cell BK117.out 0).trans rfl; have hcz5_1 : w4.cell? ⟨gb117, 1, none⟩ = some (.string a0_1) := (blk_cell BK117.out 1).trans rfl; have hfz5_0 := blk_frozen BK117.out 0; have hfz5_1 := blk_frozen BK117.out 1) | (go_at_call 31; (with_reducible refine (name_Split.calls k a0_0 t118 t119 t120 _ A2.out).mono ?_); rintro e w6 ⟨rfl, hb⟩; have n0_ := Aside0.mk (blk_below (g := gb117) (o := .cells #[.string a0_0, .string a0_1] 51 (0, 0)) (by (with_reducible repeat (first | refine blk_drewN ?_ _ | refine blk_drew ?_ | refine blk_alloc ?_ _)); exact BK117.out) hb); have n1_ := Aside0.mk (below_step (by repeat (first | (with_reducible first | exact HB.out | apply below_alloc | apply pw_below_drewN | apply below_drew1 | refine below_set ?_ GE117.out) | exact HB.out)) hb); clear BK117; clear HB; have BK117 := n0_; have HB := n1_; clear n0_ n1_; (try clear hb); (try clear hb2); (try clear hk); (try clear hi))))
  go_ret2
  exact ⟨by first | rfl | exact congrArg (fun b => Ending.returned (Value.bool b)) (isE_ne _).symm | exact congrArg (fun b => Ending.returned (Value.bool b)) (isE_eq _).symm | (simp only [isE_ne, isE_eq, Bool.not_not]; done) | (simp [errW_none, errW_some] <;> rfl) | (simp [*, errW_none, errW_some] <;> rfl), by repeat (first | (with_reducible first | exact HB.out | apply below_alloc | apply pw_below_drewN | apply below_drew1 | refine below_set ?_ GE117.out) | exact HB.out)⟩
 ·
  rw [if_neg c3] at H
  have c3b0 : (t118.toList == ([120, 109, 108, 110, 115] : List UInt8)) = false := beq_eq_false_iff_ne.mpr c3
  have c3b1 : (t118.toList != ([120, 109, 108, 110, 115] : List UInt8)) = true := bne_iff_ne.mpr c3
  simp only [Option.some.injEq, Prod.mk.injEq] at H
  obtain ⟨rfl, rfl⟩ := H
  go_enter Try.func23, Try.ntmps23
  go_wp2_with (first | ((with_reducible refine gate_dst (N := 1) rfl ?_); refine box_event ?hg (N := 1) ?hd (cs := #[.string a0_0, .string a0_1]) (t := 51) ?hr ?_; (case hd => rfl); (case hg => rfl); (case hr => first | (go_simp; done) | (go_simp; rfl)); intro gb117 hg w7 hbox hb; have n0_ := Aside0.mk (below_step (by repeat (first | (with_reducible first | exact HB.out | apply below_alloc | apply pw_below_drewN | apply below_drew1) | exact HB.out)) hb); have n1_ := Aside0.mk (hbox); have n2_ := Aside0.mk ((by rw [hg]; exact (below_size (by repeat (first | (with_reducible first | exact HB.out | apply below_alloc | apply pw_below_drewN | apply below_drew1) | exact HB.out))) : w.heap.size ≤ gb117)); have n3_ := Aside0.mk ((by rw [hg]; exact (below_size (by repeat (first | (with_reducible first | exact HB.out | apply below_alloc | apply pw_below_drewN | apply below_drew1) | exact HB.out))) : w.heap.size ≤ gb117)); clear HB; have HB := n0_; have BK117 := n1_; have GW117 := n2_; have GE117 := n3_; clear n0_ n1_ n2_ n3_; clear hb hbox hg; have hcz8_0 : w7.cell? ⟨gb117, 0, none⟩ = some (.string a0_0) := (blk_cell BK117.out 0).trans rfl; have hcz8_1 : w7.cell? ⟨gb117, 1, none⟩ = some (.string a0_1) := (blk_cell BK117.out 1).trans rfl; have hfz8_0 := blk_frozen BK117.out 0; have hfz8_1 := blk_frozen BK117.out 1) | (go_at_call 31; (with_reducible refine (name_Split.calls k a0_0 t118 t119 t120 _ A2.out).mono ?_); rintro e w9 ⟨rfl, hb⟩; have n0_ := Aside0.mk (blk_below (g := gb117) (o := .cells #[.string a0_0, .string a0_1] 51 (0, 0)) (by (with_reducible repeat (first | refine blk_drewN ?_ _ | refine blk_drew ?_ | refine blk_alloc ?_ _)); exact BK117.out) hb); have n1_ := Aside0.mk (below_step (by repeat (first | (with_reducible first | exact HB.out | apply below_alloc | apply pw_below_drewN | apply below_drew1 | refine below_set ?_ GE117.out) | exact HB.out)) hb); clear BK117; clear HB; have BK117 := n0_; have HB := n1_; clear n0_ n1_; (try clear hb); (try clear hb2); (try clear hk); (try clear hi); have hcz10_0 : w9.cell? ⟨gb117, 0, none⟩ = some (.string a0_0) := (blk_cell BK117.out 0).trans rfl; have hcz10_1 : w9.cell? ⟨gb117, 1, none⟩ = some (.string a0_1) := (blk_cell BK117.out 1).trans rfl; have hfz10_0 := blk_frozen BK117.out 0; have hfz10_1 := blk_frozen BK117.out 1))
  repeat (go_quiet (first | ((with_reducible refine gate_dst (N := 1) rfl ?_); refine box_event ?hg (N := 1) ?hd (cs := #[.string a0_0, .string a0_1]) (t := 51) ?hr ?_; (case hd => rfl); (case hg => rfl); (case hr => first | (go_simp; done) | (go_simp; rfl)); intro gb117 hg w7 hbox hb; have n0_ := Aside0.mk (below_step (by repeat (first | (with_reducible first | exact HB.out | apply below_alloc | apply pw_below_drewN | apply below_drew1) | exact HB.out)) hb); have n1_ := Aside0.mk (hbox); have n2_ := Aside0.mk ((by rw [hg]; exact (below_size (by repeat (first | (with_reducible first | exact HB.out | apply below_alloc | apply pw_below_drewN | apply below_drew1) | exact HB.out))) : w.heap.size ≤ gb117)); have n3_ := Aside0.mk ((by rw [hg]; exact (below_size (by repeat (first | (with_reducible first | exact HB.out | apply below_alloc | apply pw_below_drewN | apply below_drew1) | exact HB.out))) : w.heap.size ≤ gb117)); clear HB; have HB := n0_; have BK117 := n1_; have GW117 := n2_; have GE117 := n3_; clear n0_ n1_ n2_ n3_; clear hb hbox hg; have hcz8_0 : w7.cell? ⟨gb117, 0, none⟩ = some (.string a0_0) := (blk_cell BK117.out 0).trans rfl; have hcz8_1 : w7.cell? ⟨gb117, 1, none⟩ = some (.string a0_1) := (blk_cell BK117.out 1).trans rfl; have hfz8_0 := blk_frozen BK117.out 0; have hfz8_1 := blk_frozen BK117.out 1) | (go_at_call 31; (with_reducible refine (name_Split.calls k a0_0 t118 t119 t120 _ A2.out).mono ?_); rintro e w9 ⟨rfl, hb⟩; have n0_ := Aside0.mk (blk_below (g := gb117) (o := .cells #[.string a0_0, .string a0_1] 51 (0, 0)) (by (with_reducible repeat (first | refine blk_drewN ?_ _ | refine blk_drew ?_ | refine blk_alloc ?_ _)); exact BK117.out) hb); have n1_ := Aside0.mk (below_step (by repeat (first | (with_reducible first | exact HB.out | apply below_alloc | apply pw_below_drewN | apply below_drew1 | refine below_set ?_ GE117.out) | exact HB.out)) hb); clear BK117; clear HB; have BK117 := n0_; have HB := n1_; clear n0_ n1_; (try clear hb); (try clear hb2); (try clear hk); (try clear hi); have hcz10_0 : w9.cell? ⟨gb117, 0, none⟩ = some (.string a0_0) := (blk_cell BK117.out 0).trans rfl; have hcz10_1 : w9.cell? ⟨gb117, 1, none⟩ = some (.string a0_1) := (blk_cell BK117.out 1).trans rfl; have hfz10_0 := blk_frozen BK117.out 0; have hfz10_1 := blk_frozen BK117.out 1)); try go_wp2_with (first | ((with_reducible refine gate_dst (N := 1) rfl ?_); refine box_event ?hg (N := 1) ?hd (cs := #[.string a0_0, .string a0_1]) (t := 51) ?hr ?_; (case hd => rfl); (case hg => rfl); (case hr => first | (go_simp; done) | (go_simp; rfl)); intro gb117 hg w7 hbox hb; have n0_ := Aside0.mk (below_step (by repeat (first | (with_reducible first | exact HB.out | apply below_alloc | apply pw_below_drewN | apply below_drew1) | exact HB.out)) hb); have n1_ := Aside0.mk (hbox); have n2_ := Aside0.mk ((by rw [hg]; exact (below_size (by repeat (first | (with_reducible first | exact HB.out | apply below_alloc | apply pw_below_drewN | apply below_drew1) | exact HB.out))) : w.heap.size ≤ gb117)); have n3_ := Aside0.mk ((by rw [hg]; exact (below_size (by repeat (first | (with_reducible first | exact HB.out | apply below_alloc | apply pw_below_drewN | apply below_drew1) | exact HB.out))) : w.heap.size ≤ gb117)); clear HB; have HB := n0_; have BK117 := n1_; have GW117 := n2_; have GE117 := n3_; clear n0_ n1_ n2_ n3_; clear hb hbox hg; have hcz8_0 : w7.cell? ⟨gb117, 0, none⟩ = some (.string a0_0) := (blk_cell BK117.out 0).trans rfl; have hcz8_1 : w7.cell? ⟨gb117, 1, none⟩ = some (.string a0_1) := (blk_cell BK117.out 1).trans rfl; have hfz8_0 := blk_frozen BK117.out 0; have hfz8_1 := blk_frozen BK117.out 1) | (go_at_call 31; (with_reducible refine (name_Split.calls k a0_0 t118 t119 t120 _ A2.out).mono ?_); rintro e w9 ⟨rfl, hb⟩; have n0_ := Aside0.mk (blk_below (g := gb117) (o := .cells #[.string a0_0, .string a0_1] 51 (0, 0)) (by (with_reducible repeat (first | refine blk_drewN ?_ _ | refine blk_drew ?_ | refine blk_alloc ?_ _)); exact BK117.out) hb); have n1_ := Aside0.mk (below_step (by repeat (first | (with_reducible first | exact HB.out | apply below_alloc | apply pw_below_drewN | apply below_drew1 | refine below_set ?_ GE117.out) | exact HB.out)) hb); clear BK117; clear HB; have BK117 := n0_; have HB := n1_; clear n0_ n1_; (try clear hb); (try clear hb2); (try clear hk); (try clear hi); have hcz10_0 : w9.cell? ⟨gb117, 0, none⟩ = some (.string a0_0) := (blk_cell BK117.out 0).trans rfl; have hcz10_1 : w9.cell? ⟨gb117, 1, none⟩ = some (.string a0_1) := (blk_cell BK117.out 1).trans rfl; have hfz10_0 := blk_frozen BK117.out 0; have hfz10_1 := blk_frozen BK117.out 1)))
  go_ret2
  exact ⟨by first | rfl | exact congrArg (fun b => Ending.returned (Value.bool b)) (isE_ne _).symm | exact congrArg (fun b => Ending.returned (Value.bool b)) (isE_eq _).symm | (simp only [isE_ne, isE_eq, Bool.not_not]; done) | (simp [errW_none, errW_some] <;> rfl) | (simp [*, errW_none, errW_some] <;> rfl), by repeat (first | (with_reducible first | exact HB.out | apply below_alloc | apply pw_below_drewN | apply below_drew1 | refine below_set ?_ GE117.out) | exact HB.out)⟩

/-! ### scope_may: function 24 -/
def scope_may.f (a0_0 : ByteArray) (a0_1 : ByteArray) : Option (Bool) := if a0_0.toList = ([120, 109, 108, 110, 115] : List UInt8) then (some false) else (if a0_1.toList = ([104, 116, 116, 112, 58, 47, 47, 119, 119, 119, 46, 119, 51, 46, 111, 114, 103, 47, 50, 48, 48, 48, 47, 120, 109, 108, 110, 115, 47] : List UInt8) then (some false) else (if ((a0_0.toList == ([120, 109, 108] : List UInt8)) != (a0_1.toList == ([104, 116, 116, 112, 58, 47, 47, 119, 119, 119, 46, 119, 51, 46, 111, 114, 103, 47, 88, 77, 76, 47, 49, 57, 57, 56, 47, 110, 97, 109, 101, 115, 112, 97, 99, 101] : List UInt8))) = true then (some false) else (if a0_0.toList = ([] : List UInt8) then (some true) else (some (a0_1.toList != ([] : List UInt8))))))
set_option maxHeartbeats 8000000 in
set_option maxRecDepth 100000 in
theorem scope_may.calls (a0_0 : ByteArray) (a0_1 : ByteArray) (r : Bool) (w : World) (h : scope_may.f a0_0 a0_1 = some r) :
  Calls Try.prog 24 #[.agg #[.string a0_0, .string a0_1]] w fun e w' => e = .returned (.bool r) ∧ Below w.heap.size w w' := by
 have hu44 := Try.underlying44
 have HB := Aside0.mk (Below.refl w.heap.size w)
 have H : (if a0_0.toList = ([120, 109, 108, 110, 115] : List UInt8) then (some false) else (if a0_1.toList = ([104, 116, 116, 112, 58, 47, 47, 119, 119, 119, 46, 119, 51, 46, 111, 114, 103, 47, 50, 48, 48, 48, 47, 120, 109, 108, 110, 115, 47] : List UInt8) then (some false) else (if ((a0_0.toList == ([120, 109, 108] : List UInt8)) != (a0_1.toList == ([104, 116, 116, 112, 58, 47, 47, 119, 119, 119, 46, 119, 51, 46, 111, 114, 103, 47, 88, 77, 76, 47, 49, 57, 57, 56, 47, 110, 97, 109, 101, 115, 112, 97, 99, 101] : List UInt8))) = true then (some false) else (if a0_0.toList = ([] : List UInt8) then (some true) else (some (a0_1.toList != ([] : List UInt8))))))) = some r := h
 clear h
 by_cases c2 : a0_0.toList = ([120, 109, 108, 110, 115] : List UInt8)
 ·
  rw [if_pos c2] at H
  have c2b0 : (a0_0.toList == ([120, 109, 108, 110, 115] : List UInt8)) = true := beq_iff_eq.mpr c2
  have c2b1 : (a0_0.toList != ([120, 109, 108, 110, 115] : List UInt8)) = false := bne_eq_false_iff_eq.mpr c2
  clear c2
  obtain rfl := Option.some.inj H
  go_enter Try.func24, Try.ntmps24
  go_wp2_with (first | ((with_reducible refine gate_dst (N := 1) rfl ?_); refine box_event ?hg (N := 1) ?hd (cs := #[.string a0_0, .string a0_1]) (t := 44) ?hr ?_; (case hd => rfl); (case hg => rfl); (case hr => first | (go_simp; done) | (go_simp; rfl)); intro gb121 hg w3 hbox hb; have n0_ := Aside0.mk (below_step (by repeat (first | (with_reducible first | exact HB.out | apply below_alloc | apply pw_below_drewN | apply below_drew1) | exact HB.out)) hb); have n1_ := Aside0.mk (hbox); have n2_ := Aside0.mk ((by rw [hg]; exact (below_size (by repeat (first | (with_reducible first | exact HB.out | apply below_alloc | apply pw_below_drewN | apply below_drew1) | exact HB.out))) : w.heap.size ≤ gb121)); have n3_ := Aside0.mk ((by rw [hg]; exact (below_size (by repeat (first | (with_reducible first | exact HB.out | apply below_alloc | apply pw_below_drewN | apply below_drew1) | exact HB.out))) : w.heap.size ≤ gb121)); clear HB; have HB := n0_; have BK121 := n1_; have GW121 := n2_; have GE121 := n3_; clear n0_ n1_ n2_ n3_; clear hb hbox hg; have hcz4_0 : w3.cell? ⟨gb121, 0, none⟩ = some (.string a0_0) := (blk_cell BK121.out 0).trans rfl; have hcz4_1 : w3.cell? ⟨gb121, 1, none⟩ = some (.string a0_1) := (blk_cell BK121.out 1).trans rfl; have hfz4_0 := blk_frozen BK121.out 0; have hfz4_1 := blk_frozen BK121.out 1))
  go_ret
  exact ⟨by first | rfl | exact congrArg (fun b => Ending.returned (Value.bool b)) (isE_ne _).symm | exact congrArg (fun b => Ending.returned (Value.bool b)) (isE_eq _).symm | (simp only [isE_ne, isE_eq, Bool.not_not]; done) | (simp [errW_none, errW_some] <;> rfl) | (simp [*, errW_none, errW_some] <;> rfl), by repeat (first | (with_reducible first | exact HB.out | apply below_alloc | apply pw_below_drewN | apply below_drew1 | refine below_set ?_ GE121.out) | exact HB.out)⟩
 ·
  rw [if_neg c2] at H
  have c2b0 : (a0_0.toList == ([120, 109, 108, 110, 115] : List UInt8)) = false := beq_eq_false_iff_ne.mpr c2
  have c2b1 : (a0_0.toList != ([120, 109, 108, 110, 115] : List UInt8)) = true := bne_iff_ne.mpr c2
  by_cases c5 : a0_1.toList = ([104, 116, 116, 112, 58, 47, 47, 119, 119, 119, 46, 119, 51, 46, 111, 114, 103, 47, 50, 48, 48, 48, 47, 120, 109, 108, 110, 115, 47] : List UInt8)
  ·
   rw [if_pos c5] at H
   have c5b0 : (a0_1.toList == ([104, 116, 116, 112, 58, 47, 47, 119, 119, 119, 46, 119, 51, 46, 111, 114, 103, 47, 50, 48, 48, 48, 47, 120, 109, 108, 110, 115, 47] : List UInt8)) = true := beq_iff_eq.mpr c5
   have c5b1 : (a0_1.toList != ([104, 116, 116, 112, 58, 47, 47, 119, 119, 119, 46, 119, 51, 46, 111, 114, 103, 47, 50, 48, 48, 48, 47, 120, 109, 108, 110, 115, 47] : List UInt8)) = false := bne_eq_false_iff_eq.mpr c5
   clear c5
   obtain rfl := Option.some.inj H
   go_enter Try.func24, Try.ntmps24
   go_wp2_with (first | ((with_reducible refine gate_dst (N := 1) rfl ?_); refine box_event ?hg (N := 1) ?hd (cs := #[.string a0_0, .string a0_1]) (t := 44) ?hr ?_; (case hd => rfl); (case hg => rfl); (case hr => first | (go_simp; done) | (go_simp; rfl)); intro gb121 hg w6 hbox hb; have n0_ := Aside0.mk (below_step (by repeat (first | (with_reducible first | exact HB.out | apply below_alloc | apply pw_below_drewN | apply below_drew1) | exact HB.out)) hb); have n1_ := Aside0.mk (hbox); have n2_ := Aside0.mk ((by rw [hg]; exact (below_size (by repeat (first | (with_reducible first | exact HB.out | apply below_alloc | apply pw_below_drewN | apply below_drew1) | exact HB.out))) : w.heap.size ≤ gb121)); have n3_ := Aside0.mk ((by rw [hg]; exact (below_size (by repeat (first | (with_reducible first | exact HB.out | apply below_alloc | apply pw_below_drewN | apply below_drew1) | exact HB.out))) : w.heap.size ≤ gb121)); clear HB; have HB := n0_; have BK121 := n1_; have GW121 := n2_; have GE121 := n3_; clear n0_ n1_ n2_ n3_; clear hb hbox hg; have hcz7_0 : w6.cell? ⟨gb121, 0, none⟩ = some (.string a0_0) := (blk_cell BK121.out 0).trans rfl; have hcz7_1 : w6.cell? ⟨gb121, 1, none⟩ = some (.string a0_1) := (blk_cell BK121.out 1).trans rfl; have hfz7_0 := blk_frozen BK121.out 0; have hfz7_1 := blk_frozen BK121.out 1))
   go_ret
   exact ⟨by first | rfl | exact congrArg (fun b => Ending.returned (Value.bool b)) (isE_ne _).symm | exact congrArg (fun b => Ending.returned (Value.bool b)) (isE_eq _).symm | (simp only [isE_ne, isE_eq, Bool.not_not]; done) | (simp [errW_none, errW_some] <;> rfl) | (simp [*, errW_none, errW_some] <;> rfl), by repeat (first | (with_reducible first | exact HB.out | apply below_alloc | apply pw_below_drewN | apply below_drew1 | refine below_set ?_ GE121.out) | exact HB.out)⟩
  ·
   rw [if_neg c5] at H
   have c5b0 : (a0_1.toList == ([104, 116, 116, 112, 58, 47, 47, 119, 119, 119, 46, 119, 51, 46, 111, 114, 103, 47, 50, 48, 48, 48, 47, 120, 109, 108, 110, 115, 47] : List UInt8)) = false := beq_eq_false_iff_ne.mpr c5
   have c5b1 : (a0_1.toList != ([104, 116, 116, 112, 58, 47, 47, 119, 119, 119, 46, 119, 51, 46, 111, 114, 103, 47, 50, 48, 48, 48, 47, 120, 109, 108, 110, 115, 47] : List UInt8)) = true := bne_iff_ne.mpr c5
   by_cases c8 : ((a0_0.toList == ([120, 109, 108] : List UInt8)) != (a0_1.toList == ([104, 116, 116, 112, 58, 47, 47, 119, 119, 119, 46, 119, 51, 46, 111, 114, 103, 47, 88, 77, 76, 47, 49, 57, 57, 56, 47, 110, 97, 109, 101, 115, 112, 97, 99, 101] : List UInt8))) = true
   ·
    rw [if_pos c8] at H
    have c8b0 : ((a0_0.toList == ([120, 109, 108] : List UInt8)) != (a0_1.toList == ([104, 116, 116, 112, 58, 47, 47, 119, 119, 119, 46, 119, 51, 46, 111, 114, 103, 47, 88, 77, 76, 47, 49, 57, 57, 56, 47, 110, 97, 109, 101, 115, 112, 97, 99, 101] : List UInt8))) = true := c8
    (try (have c8b1 : decide ((a0_0.toList == ([120, 109, 108] : List UInt8)) = (a0_1.toList == ([104, 116, 116, 112, 58, 47, 47, 119, 119, 119, 46, 119, 51, 46, 111, 114, 103, 47, 88, 77, 76, 47, 49, 57, 57, 56, 47, 110, 97, 109, 101, 115, 112, 97, 99, 101] : List UInt8))) = false := by simpa using c8))
    (try (have c8b2 : ((a0_0.toList == ([120, 109, 108] : List UInt8)) == (a0_1.toList == ([104, 116, 116, 112, 58, 47, 47, 119, 119, 119, 46, 119, 51, 46, 111, 114, 103, 47, 88, 77, 76, 47, 49, 57, 57, 56, 47, 110, 97, 109, 101, 115, 112, 97, 99, 101] : List UInt8))) = false := by simpa using c8))
    (try (have c8b3 : ¬ ((a0_0.toList == ([120, 109, 108] : List UInt8)) = (a0_1.toList == ([104, 116, 116, 112, 58, 47, 47, 119, 119, 119, 46, 119, 51, 46, 111, 114, 103, 47, 88, 77, 76, 47, 49, 57, 57, 56, 47, 110, 97, 109, 101, 115, 112, 97, 99, 101] : List UInt8))) := by simpa using c8))
    clear c8
    obtain rfl := Option.some.inj H
    go_enter Try.func24, Try.ntmps24
    go_wp2_with (first | ((with_reducible refine gate_dst (N := 1) rfl ?_); refine box_event ?hg (N := 1) ?hd (cs := #[.string a0_0, .string a0_1]) (t := 44) ?hr ?_; (case hd => rfl); (case hg => rfl); (case hr => first | (go_simp; done) | (go_simp; rfl)); intro gb121 hg w9 hbox hb; have n0_ := Aside0.mk (below_step (by repeat (first | (with_reducible first | exact HB.out | apply below_alloc | apply pw_below_drewN | apply below_drew1) | exact HB.out)) hb); have n1_ := Aside0.mk (hbox); have n2_ := Aside0.mk ((by rw [hg]; exact (below_size (by repeat (first | (with_reducible first | exact HB.out | apply below_alloc | apply pw_below_drewN | apply below_drew1) | exact HB.out))) : w.heap.size ≤ gb121)); have n3_ := Aside0.mk ((by rw [hg]; exact (below_size (by repeat (first | (with_reducible first | exact HB.out | apply below_alloc | apply pw_below_drewN | apply below_drew1) | exact HB.out))) : w.heap.size ≤ gb121)); clear HB; have HB := n0_; have BK121 := n1_; have GW121 := n2_; have GE121 := n3_; clear n0_ n1_ n2_ n3_; clear hb hbox hg; have hcz10_0 : w9.cell? ⟨gb121, 0, none⟩ = some (.string a0_0) := (blk_cell BK121.out 0).trans rfl; have hcz10_1 : w9.cell? ⟨gb121, 1, none⟩ = some (.string a0_1) := (blk_cell BK121.out 1).trans rfl; have hfz10_0 := blk_frozen BK121.out 0; have hfz10_1 := blk_frozen BK121.out 1))
    go_ret
    exact ⟨by first | rfl | exact congrArg (fun b => Ending.returned (Value.bool b)) (isE_ne _).symm | exact congrArg (fun b => Ending.returned (Value.bool b)) (isE_eq _).symm | (simp only [isE_ne, isE_eq, Bool.not_not]; done) | (simp [errW_none, errW_some] <;> rfl) | (simp [*, errW_none, errW_some] <;> rfl), by repeat (first | (with_reducible first | exact HB.out | apply below_alloc | apply pw_below_drewN | apply below_drew1 | refine below_set ?_ GE121.out) | exact HB.out)⟩
   ·
    rw [if_neg c8] at H
    have c8b0 : ((a0_0.toList == ([120, 109, 108] : List UInt8)) != (a0_1.toList == ([104, 116, 116, 112, 58, 47, 47, 119, 119, 119, 46, 119, 51, 46, 111, 114, 103, 47, 88, 77, 76, 47, 49, 57, 57, 56, 47, 110, 97, 109, 101, 115, 112, 97, 99, 101] : List UInt8))) = false := by simpa using c8
    (try (have c8b1 : decide ((a0_0.toList == ([120, 109, 108] : List UInt8)) = (a0_1.toList == ([104, 116, 116, 112, 58, 47, 47, 119, 119, 119, 46, 119, 51, 46, 111, 114, 103, 47, 88, 77, 76, 47, 49, 57, 57, 56, 47, 110, 97, 109, 101, 115, 112, 97, 99, 101] : List UInt8))) = true := by simpa using c8))
    (try (have c8b2 : ((a0_0.toList == ([120, 109, 108] : List UInt8)) == (a0_1.toList == ([104, 116, 116, 112, 58, 47, 47, 119, 119, 119, 46, 119, 51, 46, 111, 114, 103, 47, 88, 77, 76, 47, 49, 57, 57, 56, 47, 110, 97, 109, 101, 115, 112, 97, 99, 101] : List UInt8))) = true := by simpa using c8))
    clear c8
    by_cases c11 : a0_0.toList = ([] : List UInt8)
    ·
     rw [if_pos c11] at H
     have c11b0 : (a0_0.toList == ([] : List UInt8)) = true := beq_iff_eq.mpr c11
     have c11b1 : (a0_0.toList != ([] : List UInt8)) = false := bne_eq_false_iff_eq.mpr c11
     clear c11
     obtain rfl := Option.some.inj H
     go_enter Try.func24, Try.ntmps24
     go_wp2_with (first | ((with_reducible refine gate_dst (N := 1) rfl ?_); refine box_event ?hg (N := 1) ?hd (cs := #[.string a0_0, .string a0_1]) (t := 44) ?hr ?_; (case hd => rfl); (case hg => rfl); (case hr => first | (go_simp; done) | (go_simp; rfl)); intro gb121 hg w12 hbox hb; have n0_ := Aside0.mk (below_step (by repeat (first | (with_reducible first | exact HB.out | apply below_alloc | apply pw_below_drewN | apply below_drew1) | exact HB.out)) hb); have n1_ := Aside0.mk (hbox); have n2_ := Aside0.mk ((by rw [hg]; exact (below_size (by repeat (first | (with_reducible first | exact HB.out | apply below_alloc | apply pw_below_drewN | apply below_drew1) | exact HB.out))) : w.heap.size ≤ gb121)); have n3_ := Aside0.mk ((by rw [hg]; exact (below_size (by repeat (first | (with_reducible first | exact HB.out | apply below_alloc | apply pw_below_drewN | apply below_drew1) | exact HB.out))) : w.heap.size ≤ gb121)); clear HB; have HB := n0_; have BK121 := n1_; have GW121 := n2_; have GE121 := n3_; clear n0_ n1_ n2_ n3_; clear hb hbox hg; have hcz13_0 : w12.cell? ⟨gb121, 0, none⟩ = some (.string a0_0) := (blk_cell BK121.out 0).trans rfl; have hcz13_1 : w12.cell? ⟨gb121, 1, none⟩ = some (.string a0_1) := (blk_cell BK121.out 1).trans rfl; have hfz13_0 := blk_frozen BK121.out 0; have hfz13_1 := blk_frozen BK121.out 1))
     go_ret
     exact ⟨by first | rfl | exact congrArg (fun b => Ending.returned (Value.bool b)) (isE_ne _).symm | exact congrArg (fun b => Ending.returned (Value.bool b)) (isE_eq _).symm | (simp only [isE_ne, isE_eq, Bool.not_not]; done) | (simp [errW_none, errW_some] <;> rfl) | (simp [*, errW_none, errW_some] <;> rfl), by repeat (first | (with_reducible first | exact HB.out | apply below_alloc | apply pw_below_drewN | apply below_drew1 | refine below_set ?_ GE121.out) | exact HB.out)⟩
    ·
     rw [if_neg c11] at H
     have c11b0 : (a0_0.toList == ([] : List UInt8)) = false := beq_eq_false_iff_ne.mpr c11
     have c11b1 : (a0_0.toList != ([] : List UInt8)) = true := bne_iff_ne.mpr c11
     obtain rfl := Option.some.inj H
     go_enter Try.func24, Try.ntmps24
     go_wp2_with (first | ((with_reducible refine gate_dst (N := 1) rfl ?_); refine box_event ?hg (N := 1) ?hd (cs := #[.string a0_0, .string a0_1]) (t := 44) ?hr ?_; (case hd => rfl); (case hg => rfl); (case hr => first | (go_simp; done) | (go_simp; rfl)); intro gb121 hg w14 hbox hb; have n0_ := Aside0.mk (below_step (by repeat (first | (with_reducible first | exact HB.out | apply below_alloc | apply pw_below_drewN | apply below_drew1) | exact HB.out)) hb); have n1_ := Aside0.mk (hbox); have n2_ := Aside0.mk ((by rw [hg]; exact (below_size (by repeat (first | (with_reducible first | exact HB.out | apply below_alloc | apply pw_below_drewN | apply below_drew1) | exact HB.out))) : w.heap.size ≤ gb121)); have n3_ := Aside0.mk ((by rw [hg]; exact (below_size (by repeat (first | (with_reducible first | exact HB.out | apply below_alloc | apply pw_below_drewN | apply below_drew1) | exact HB.out))) : w.heap.size ≤ gb121)); clear HB; have HB := n0_; have BK121 := n1_; have GW121 := n2_; have GE121 := n3_; clear n0_ n1_ n2_ n3_; clear hb hbox hg; have hcz15_0 : w14.cell? ⟨gb121, 0, none⟩ = some (.string a0_0) := (blk_cell BK121.out 0).trans rfl; have hcz15_1 : w14.cell? ⟨gb121, 1, none⟩ = some (.string a0_1) := (blk_cell BK121.out 1).trans rfl; have hfz15_0 := blk_frozen BK121.out 0; have hfz15_1 := blk_frozen BK121.out 1))
     go_ret
     exact ⟨by first | rfl | exact congrArg (fun b => Ending.returned (Value.bool b)) (isE_ne _).symm | exact congrArg (fun b => Ending.returned (Value.bool b)) (isE_eq _).symm | (simp only [isE_ne, isE_eq, Bool.not_not]; done) | (simp [errW_none, errW_some] <;> rfl) | (simp [*, errW_none, errW_some] <;> rfl), by repeat (first | (with_reducible first | exact HB.out | apply below_alloc | apply pw_below_drewN | apply below_drew1 | refine below_set ?_ GE121.out) | exact HB.out)⟩

end Go.Proofs.Ytjhchjjpopbieaa.X
