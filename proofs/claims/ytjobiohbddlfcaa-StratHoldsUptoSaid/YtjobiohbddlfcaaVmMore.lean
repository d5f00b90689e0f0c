/- A path's machines, by the program and by the document. -/
import Derived.Test.YtjobiohbddlfcaaVmPure
import Derived.Test.YtjobiohbddlfcaaVmTbb
/- A path's machines: the program's and the document's. -/
set_option linter.unusedVariables false
set_option linter.unusedSimpArgs false
namespace Go.Vm.T
open Go Go.Vm Go.Proofs
attribute [local irreducible] lv oriellaw18_StratHolds_b oriellaw18_StratHolds_l0 oriellaw18_StratHolds_l1 oriellaw18_StratOrder_b oriellaw18_StratOrder_l0 oriellaw18_StratOrder_l1 oriellaw18_StratOrder_l2 oriellaw18_StratKeeps_b oriellaw18_StratKeeps_l0 oriellaw18_StratKeeps_l1 oriellaw18_awake_b strat_Make_b strat_Make_l0 strat_Make_l1 strat_maker_path_b strat_maker_path_l0 strat_maker_path_l1 strat_maker_filter_b strat_maker_filter_l0 strat_maker_filter_l1 api_Path_b api_Path_2_b api_Path_2_l0 strat_maker_filter_1_b path_Same_b api_Path_3_b api_Path_3_l0 prog_Compile_b api_Filter_b api_Filter_l0 prog_maker_path_b path_sameFilter_b prog_maker_step_b prog_maker_seq_b prog_maker_seq_l0 prog_maker_alt_b prog_maker_alt_l0 prog_maker_alt_l1 prog_maker_alt_l2 prog_maker_alt_l3 prog_maker_state_b prog_maker_lay_b prog_maker_free_b strat_Items_b strat_Items_l0 orielref12_Right_b strat_Find_b orielref12_Size_b api_Path_4_b api_Path_4_l0 orielref12_size_b orielref12_size_l0 orielref12_size_l1 strat_Find_1_b orielref12_sizeFilter_b orielref12_sizeFilter_l0 orielref12_sizeFilter_l1 strat_Holds_b orielref12_path_b orielref12_path_l0 orielref12_path_l1 strat_node_holds_b orielref12_filter_b orielref12_filter_l0 orielref12_filter_l1 orielref12_filter_l2 orielref12_filter_l3 orielref12_filter_l4 strat_node_attr_b strat_node_attr_l0 api_Filter_2_b api_Filter_3_b api_Path_5_b orielref12_named_b orielref04_Right_b orielref04_Right_l0 api_Filter_4_b api_Filter_4_l0 api_Filter_5_b api_Filter_5_l0 api_Path_6_b api_Path_6_l0 orielref03_Plain_b orielref03_Plain_l0 orielref01_All_b orielref01_All_l0 orielref01_All_l1 strat_node_fails_b strat_node_holds_2_b strat_node_leads_b orielref02_Start_b orielref01_Rune_b orielref01_Rune_l0 strat_node_attr_2_b strat_node_attr_2_l0 orielref01_Put_b orielref01_cut_b orielref01_cut_l0 orielref01_cut_l1 orielref01_cut_l2 orielref01_cut_l3 orielref01_cut_l4 orielref01_value_b orielref01_value_l0 orielref01_value_l1 orielref09_Right_b orielref09_Right_l0 orielref09_Right_l1 orielref09_Right_l2 orielref18_Inner_b orielref18_Inner_l0 orielref18_Inner_l1 orielref18_Inner_l2 orielref18_Inner_l3 orielref18_Make_b orielref18_Make_l0 orielref18_Make_l1 orielref02_Char_b orielref02_Part_b orielref01_begins_b orielref01_begins_l0 orielref09_named_b orielref18_within_b orielref18_within_l0 orielref18_within_l1 orielref17_Compile_b orielref02_Blank_b orielref17_add_b orielref17_add_l0 orielref17_add_l1 orielref17_add_l2 orielref17_add_l3 orielref17_add_l4 orielref17_add_l5 orielref17_add_l6 orielref17_edge_b orielref09_Few_b orielref09_Few_l0 orielref09_Few_l1 strat_Tests_b strat_Tests_l0 strat_Tests_l1 orielref05_Find_b orielref05_Find_l0 orielref18_Find_b orielref18_Find_l0 orielref12_Same_b orielref12_Same_l0 orielref12_Same_l1 orielref12_SameFilter_b orielref12_SameFilter_l0 orielref12_SameFilter_l1 oriellaw18_bits_b oriellaw18_bits_l0 oriellaw18_bits_l1 orielref18_Items_b orielref18_Items_l0 orielref12_Filters_b orielref12_Filters_l0 orielref12_Filters_l1 orielref12_Filters_l2 orielref12_Filters_l3 orielref12_within_b orielref12_within_l0 orielref12_within_l1 orielref18_Holds_b orielref18_Holds_l0 orielref18_Holds_l1
theorem bytes25 : Try.prog.bytesOf 25 ≤ 1024 := of_decide_eq_true (by kernel_rfl)
theorem bytes41 : Try.prog.bytesOf 41 ≤ 1024 := of_decide_eq_true (by kernel_rfl)
theorem good_get {D : List (List C)} (h : ∀ x, x ∈ D → Good x) (i : Nat) : SmR BB (D.getD i []) := by
  rw [List.getD_eq_getElem?_getD]
  cases hi : D[i]? with
  | none => intro x hx; cases hx
  | some r => exact (h r (List.mem_of_getElem? hi)).sm
/-- is one alike to a path in a list? -/
theorem cont_tot (D : List (List C)) (x : List C) (hD : ∀ y, y ∈ D → Good y) (hl : D.length ≤ 1000000) (hx : SmR BB x) : Tot (fun k _ _ => (lv k).api_Path D (gi x 0) (gr x 1) (gr x 2)) (fun r => r = true ↔ ∃ z, z ∈ D ∧ Alike true z x) := by
  refine api_Path_up _ _ _ _ (Tot.congr ?_ (fun k _ _ => api_Path_q (lv k) k D (gi x 0) (gr x 1) (gr x 2)))
  have h2 : Tot (fun k _ _ => (lv k).api_Path_2 D (gi x 0) (gr x 1) (gr x 2)) (Fst D.length (fun j => Alike true x (D.getD j []))) := by
    refine api_Path_2_up _ _ _ _ (Tot.congr ?_ (fun k _ _ => api_Path_2_q (lv k) k D (gi x 0) (gr x 1) (gr x 2)))
    refine Tot.in0 (Tot.first (H := fun k p q v => api_Path_2_l0 (lv k) k D (gi x 0) (gr x 1) (gr x 2) p v) (n := D.length) (by omega) ?_ (fun i Q hi hy hn => ?_))
    · refine Tot.step0 (fun k p_ q_ => api_Path_2_l0_q (lv k) k D (gi x 0) (gr x 1) (gr x 2) p_ _) ?_
      exact Tot.f (decide_eq_false (by omega)) (Tot.ret rfl)
    · refine Tot.step0 (fun k p_ q_ => api_Path_2_l0_q (lv k) k D (gi x 0) (gr x 1) (gr x 2) p_ _) ?_
      rw [Int.toNat_natCast]
      repeat (refine Tot.t (decide_eq_true (by omega)) ?_)
      refine Tot.bind (R := AlQ true x (D.getD i [])) ?_ fun r hr => Tot.cond (fun h => Tot.ret (hy (hr.1 h))) (fun h => hn (fun ha => by rw [hr.2 ha] at h; cases h))
      refine strat_maker_filter_1_up _ _ _ _ _ _ (Tot.congr ?_ (fun k _ _ => strat_maker_filter_1_q (lv k) k (gi (D.getD i []) 0) (gr (D.getD i []) 1) (gr (D.getD i []) 2) (gi x 0) (gr x 1) (gr x 2)))
      exact Tot.bind (psame_tot x (D.getD i []) hx (good_get hD i)) fun r hr => Tot.ret hr
  refine Tot.bind h2 fun r hr => Tot.ret ?_
  rcases hr with ⟨rfl, h⟩ | ⟨i, rfl, h1, h2, h3⟩
  · constructor
    · intro h; simp at h
    · rintro ⟨z, hz, ha⟩
      obtain ⟨i, hi, rfl⟩ := mem_getD hz
      exact absurd ha.symm (h i hi)
  · exact ⟨fun _ => ⟨_, getD_mem h1, h2.symm⟩, fun _ => decide_eq_true (by omega)⟩
theorem add1_row3 (r : List (List C)) (x : List C) : add1 r (row3 x) = add1 r x := by
  by_cases h : ∃ z, z ∈ r ∧ Alike true z x
  · obtain ⟨z, h1, h2⟩ := h
    rw [add1_old ⟨z, h1, h2⟩, add1_old ⟨z, h1, h2.trans (al3 _).symm⟩]
  · rw [add1_new h, add1_new fun ⟨z, h1, h2⟩ => h ⟨z, h1, h2.trans (al3 _)⟩]
    rfl
theorem set_last {l : List (List C)} {z w : List C} : (l ++ [z]).set l.length w = l ++ [w] := by
  induction l with
  | nil => rfl
  | cons x l ih => simp [ih]
theorem get_last {l : List (List C)} {z : List C} : (l ++ [z]).getD l.length [] = z := by
  rw [getD_app, if_neg (Nat.lt_irrefl _), Nat.sub_self]
  rfl
theorem take_flat {l : List (List C)} {f : List C → List (List C)} {i : Nat} : ((l.take i).flatMap f).length ≤ (l.flatMap f).length := by
  have := List.take_append_drop i l
  have h : (l.flatMap f).length = ((l.take i).flatMap f).length + ((l.drop i).flatMap f).length := by
    rw [← List.length_append, ← List.flatMap_append, this]
  omega
theorem take_flat1 {l : List (List C)} {f : List C → List (List C)} {i : Nat} (hi : i < l.length) : ((l.take i).flatMap f).length + (f (l.getD i [])).length ≤ (l.flatMap f).length := by
  have := take_flat (l := l) (f := f) (i := i + 1)
  rw [flat_take hi, List.length_append] at this
  exact this
/-- what the gathering is to come to -/
def PM (d : Nat) (k : Bool) : Prop := ∀ (a : List C) (D : List (List C)), ok d k a → (∀ e, sz e k a ≤ 64) → SmR BB a → (∀ x, x ∈ D → Good x) → D.length + (inn d k a).length ≤ 1000 →
  match k with
  | true => Tot (fun k _ _ => (lv k).strat_maker_path D (gi a 0) (gr a 1) (gr a 2)) (fun r => r = (inn d true a).foldl add1 D)
  | false => Tot (fun k _ _ => (lv k).strat_maker_filter D (gi a 0) (gs a 1) (gs a 2) (gs a 3) (gr a 4) (gr a 5)) (fun r => r = (inn d false a).foldl add1 D)
theorem sub_sz {a : List C} {k : Bool} (hz : ∀ e, sz e k a ≤ 64) (j : Nat) (k' : Bool) (hj : (k, j, k') = (true, 1, true) ∨ (k, j, k') = (true, 2, false) ∨ (k, j, k') = (false, 4, false) ∨ (k, j, k') = (false, 5, true)) {i : Nat} (hi : i < (gr a j).length) : ∀ e, sz e k' ((gr a j).getD i []) ≤ 64 := by
  intro e
  have h1 := hz (e + 1)
  have h2 := sz_sub (f := sz e k') hi
  rcases hj with hj | hj | hj | hj <;> cases hj <;> simp only [sz] at h1 <;> omega
theorem gather : ∀ d, d ≤ 16 → PM d true ∧ PM d false := by
  intro d
  induction d with
  | zero => intro _; exact ⟨fun a D h => h.elim, fun a D h => h.elim⟩
  | succ d ih =>
    intro hd
    have ih := ih (by omega)
    constructor
    · intro a D ha hz hs hD hl
      have hgood := inn_good hd ha hz hs
      have ha' := ha
      obtain ⟨_, _, _, _, _, _, _, _, h9, h10⟩ := ha'
      have e0 : inn (d + 1) true a = (gr a 1).flatMap (inn d true) ++ (gr a 2).flatMap (inn d false) := rfl
      rw [e0] at hgood hl ⊢
      rw [List.length_append] at hl
      have hl1 : (gr a 1).length ≤ 1048576 := (hs.gr 1).1
      have hl2 : (gr a 2).length ≤ 1048576 := (hs.gr 2).1
      have g1 : ∀ i x, x ∈ ((gr a 1).take i).flatMap (inn d true) → Good x := fun i x hx => hgood x (List.mem_append_left _ (by
        obtain ⟨y, hy, h⟩ := List.mem_flatMap.1 hx
        exact List.mem_flatMap.2 ⟨y, List.mem_of_mem_take hy, h⟩))
      have g2 : ∀ i x, x ∈ ((gr a 2).take i).flatMap (inn d false) → Good x := fun i x hx => hgood x (List.mem_append_right _ (by
        obtain ⟨y, hy, h⟩ := List.mem_flatMap.1 hx
        exact List.mem_flatMap.2 ⟨y, List.mem_of_mem_take hy, h⟩))
      refine strat_maker_path_up _ _ _ _ (Tot.congr ?_ (fun k _ _ => strat_maker_path_q (lv k) k D (gi a 0) (gr a 1) (gr a 2)))
      refine Tot.in0 (Tot.loop (H := fun k p q v s => strat_maker_path_l0 (lv k) k D (gi a 0) (gr a 1) (gr a 2) p v s) (n := (gr a 1).length) (fun i s => s = (((gr a 1).take i).flatMap (inn d true)).foldl add1 D) (by omega) (fun s hs' => ?_) (fun i s hi hs' next => ?_) _ 0 D rfl (by omega) rfl)
      · subst hs'
        refine Tot.step0 (fun k p_ q_ => strat_maker_path_l0_q (lv k) k D (gi a 0) (gr a 1) (gr a 2) p_ _ _) ?_
        refine Tot.f (decide_eq_false (by omega)) ?_
        rw [List.take_length]
        refine Tot.in0 (Tot.loop (H := fun k p q v s => strat_maker_path_l1 (lv k) k D (gi a 0) (gr a 1) (gr a 2) p v s) (n := (gr a 2).length) (fun i s => s = (((gr a 2).take i).flatMap (inn d false)).foldl add1 (((gr a 1).flatMap (inn d true)).foldl add1 D)) (by omega) (fun s hs' => ?_) (fun i s hi hs' next => ?_) _ 0 _ rfl (by omega) rfl)
        · subst hs'
          refine Tot.step0 (fun k p_ q_ => strat_maker_path_l1_q (lv k) k D (gi a 0) (gr a 1) (gr a 2) p_ _ _) ?_
          refine Tot.f (decide_eq_false (by omega)) (Tot.ret ?_)
          rw [List.take_length, List.foldl_append]
        · subst hs'
          refine Tot.step0 (fun k p_ q_ => strat_maker_path_l1_q (lv k) k D (gi a 0) (gr a 1) (gr a 2) p_ _ _) ?_
          rw [Int.toNat_natCast]
          repeat (refine Tot.t (decide_eq_true (by omega)) ?_)
          have q1 := add_len D ((gr a 1).flatMap (inn d true))
          have q2 := add_len (((gr a 1).flatMap (inn d true)).foldl add1 D) (((gr a 2).take i).flatMap (inn d false))
          have q3 := take_flat1 (f := inn d false) hi
          refine Tot.bind (ih.2 _ _ (h10 i hi) (sub_sz hz 2 false (by simp) hi) ((hs.gr 2).get i) (add_good (add_good hD (fun x hx => g1 (gr a 1).length x (by rw [List.take_length]; exact hx))) (g2 i)) (by omega)) fun r hr => next r ?_
          rw [hr, flat_take hi, List.foldl_append]
      · subst hs'
        refine Tot.step0 (fun k p_ q_ => strat_maker_path_l0_q (lv k) k D (gi a 0) (gr a 1) (gr a 2) p_ _ _) ?_
        rw [Int.toNat_natCast]
        repeat (refine Tot.t (decide_eq_true (by omega)) ?_)
        have q2 := add_len D (((gr a 1).take i).flatMap (inn d true))
        have q3 := take_flat1 (f := inn d true) hi
        refine Tot.bind (ih.1 _ _ (h9 i hi) (sub_sz hz 1 true (by simp) hi) ((hs.gr 1).get i) (add_good hD (g1 i)) (by omega)) fun r hr => next r ?_
        rw [hr, flat_take hi, List.foldl_append]
    · intro a D ha hz hs hD hl
      have hgood := inn_good hd ha hz hs
      have ha' := ha
      obtain ⟨_, _, _, _, _, _, _, _, h9, h10⟩ := ha'
      have e0 : inn (d + 1) false a = (gr a 4).flatMap (inn d false) ++ (gr a 5).flatMap (fun x => inn d true x ++ [row3 x]) := rfl
      rw [e0] at hgood hl ⊢
      rw [List.length_append] at hl
      have hl1 : (gr a 4).length ≤ 1048576 := (hs.gr 4).1
      have hl2 : (gr a 5).length ≤ 1048576 := (hs.gr 5).1
      have g1 : ∀ i x, x ∈ ((gr a 4).take i).flatMap (inn d false) → Good x := fun i x hx => hgood x (List.mem_append_left _ (by
        obtain ⟨y, hy, h⟩ := List.mem_flatMap.1 hx
        exact List.mem_flatMap.2 ⟨y, List.mem_of_mem_take hy, h⟩))
      have g2 : ∀ i x, x ∈ ((gr a 5).take i).flatMap (fun x => inn d true x ++ [row3 x]) → Good x := fun i x hx => hgood x (List.mem_append_right _ (by
        obtain ⟨y, hy, h⟩ := List.mem_flatMap.1 hx
        exact List.mem_flatMap.2 ⟨y, List.mem_of_mem_take hy, h⟩))
      refine strat_maker_filter_up _ _ _ _ _ _ _ (Tot.congr ?_ (fun k _ _ => strat_maker_filter_q (lv k) k D (gi a 0) (gs a 1) (gs a 2) (gs a 3) (gr a 4) (gr a 5)))
      refine Tot.in0 (Tot.loop (H := fun k p q v s => strat_maker_filter_l0 (lv k) k D (gi a 0) (gs a 1) (gs a 2) (gs a 3) (gr a 4) (gr a 5) p v s) (n := (gr a 4).length) (fun i s => s = (((gr a 4).take i).flatMap (inn d false)).foldl add1 D) (by omega) (fun s hs' => ?_) (fun i s hi hs' next => ?_) _ 0 D rfl (by omega) rfl)
      · subst hs'
        refine Tot.step0 (fun k p_ q_ => strat_maker_filter_l0_q (lv k) k D (gi a 0) (gs a 1) (gs a 2) (gs a 3) (gr a 4) (gr a 5) p_ _ _) ?_
        refine Tot.f (decide_eq_false (by omega)) ?_
        rw [List.take_length]
        refine Tot.in0 (Tot.loop (H := fun k p q v s => strat_maker_filter_l1 (lv k) k D (gi a 0) (gs a 1) (gs a 2) (gs a 3) (gr a 4) (gr a 5) p v s) (n := (gr a 5).length) (fun i s => s = (((gr a 5).take i).flatMap (fun x => inn d true x ++ [row3 x])).foldl add1 (((gr a 4).flatMap (inn d false)).foldl add1 D)) (by omega) (fun s hs' => ?_) (fun i s hi hs' next => ?_) _ 0 _ rfl (by omega) rfl)
        · subst hs'
          refine Tot.step0 (fun k p_ q_ => strat_maker_filter_l1_q (lv k) k D (gi a 0) (gs a 1) (gs a 2) (gs a 3) (gr a 4) (gr a 5) p_ _ _) ?_
          refine Tot.f (decide_eq_false (by omega)) (Tot.ret ?_)
          rw [List.take_length, List.foldl_append]
        · refine Tot.step0 (fun k p_ q_ => strat_maker_filter_l1_q (lv k) k D (gi a 0) (gs a 1) (gs a 2) (gs a 3) (gr a 4) (gr a 5) p_ _ _) ?_
          rw [Int.toNat_natCast]
          repeat (refine Tot.t (decide_eq_true (by omega)) ?_)
          have q1 := add_len D ((gr a 4).flatMap (inn d false))
          have q2 := add_len (((gr a 4).flatMap (inn d false)).foldl add1 D) (((gr a 5).take i).flatMap (fun x => inn d true x ++ [row3 x]))
          have q3 := take_flat1 (f := fun x => inn d true x ++ [row3 x]) hi
          rw [← hs'] at q2
          simp only [List.length_append, List.length_singleton] at q3
          have gs : ∀ x, x ∈ s → Good x := by
            rw [hs']
            exact add_good (add_good hD (fun x hx => g1 (gr a 4).length x (by rw [List.take_length]; exact hx))) (g2 i)
          have hzi := sub_sz hz 5 true (by simp) hi
          refine Tot.bind (ih.1 _ s (h10 i hi) hzi ((hs.gr 5).get i) gs (by omega)) fun r hr => ?_
          have q4 := add_len s (inn d true ((gr a 5).getD i []))
          rw [← hr] at q4
          have gr' : ∀ x, x ∈ r → Good x := by
            rw [hr]
            exact add_good gs (inn_good (by omega) (h10 i hi) hzi ((hs.gr 5).get i))
          refine Tot.bind (cont_tot r _ gr' (by omega) ((hs.gr 5).get i)) fun r2 hr2 => ?_
          have en : (((gr a 5).take (i + 1)).flatMap (fun x => inn d true x ++ [row3 x])).foldl add1 (((gr a 4).flatMap (inn d false)).foldl add1 D) = add1 r ((gr a 5).getD i []) := by
            rw [flat_take hi, List.foldl_append, ← hs', List.foldl_append, ← hr]
            exact add1_row3 _ _
          refine Tot.cond (fun h2 => ?_) (fun h2 => ?_)
          · have h2 : r2 = false := by simpa using h2
            have hne : ¬ ∃ z, z ∈ r ∧ Alike true z ((gr a 5).getD i []) := fun h => by rw [hr2.2 h] at h2; cases h2
            refine Tot.choice eqLL_rfl (fun n p q => ?_) (Tot.t (roomy_of bytes25 (by omega)) (next _ ?_))
            · rw [Int.toNat_natCast, get_last, decide_eq_true (show (0 : Int) ≤ (r.length : Int) by omega), decide_eq_true (show (r.length : Int) < ((r ++ [[C.int .i64 0, C.nil 25, C.nil 50]]).length : Int) by simp; omega), set_last]
              rfl
            · rw [en, add1_new hne]
              rfl
          · have h2 : r2 = true := by simpa using h2
            exact next _ (by rw [en, add1_old (hr2.1 h2)])
      · subst hs'
        refine Tot.step0 (fun k p_ q_ => strat_maker_filter_l0_q (lv k) k D (gi a 0) (gs a 1) (gs a 2) (gs a 3) (gr a 4) (gr a 5) p_ _ _) ?_
        rw [Int.toNat_natCast]
        repeat (refine Tot.t (decide_eq_true (by omega)) ?_)
        have q2 := add_len D (((gr a 4).take i).flatMap (inn d false))
        have q3 := take_flat1 (f := inn d false) hi
        refine Tot.bind (ih.2 _ _ (h9 i hi) (sub_sz hz 4 false (by simp) hi) ((hs.gr 4).get i) (add_good hD (g1 i)) (by omega)) fun r hr => next r ?_
        rw [hr, flat_take hi, List.foldl_append]
end Go.Vm.T
/- awake. -/
set_option linter.unusedVariables false
namespace Go.Vm.T
open Go Go.Vm Go.Proofs
theorem awake_at (m : Nat) : (lv (m + 40)).oriellaw18_awake = some true := by kernel_rfl
theorem awake_tot : Tot (fun n _ _ => (lv n).oriellaw18_awake) (fun r => r = true) := ⟨true, rfl, 40, fun n a b hn _ _ => by
  obtain ⟨m, rfl⟩ : ∃ m, n = m + 40 := ⟨n - 40, by omega⟩
  exact awake_at m⟩
end Go.Vm.T
/- The machines of a path, by the program and by the document. -/
set_option linter.unusedVariables false
set_option linter.unusedSimpArgs false
namespace Go.Vm.T
open Go Go.Vm Go.Proofs
attribute [local irreducible] lv oriellaw18_StratHolds_b oriellaw18_StratHolds_l0 oriellaw18_StratHolds_l1 oriellaw18_StratOrder_b oriellaw18_StratOrder_l0 oriellaw18_StratOrder_l1 oriellaw18_StratOrder_l2 oriellaw18_StratKeeps_b oriellaw18_StratKeeps_l0 oriellaw18_StratKeeps_l1 oriellaw18_awake_b strat_Make_b strat_Make_l0 strat_Make_l1 strat_maker_path_b strat_maker_path_l0 strat_maker_path_l1 strat_maker_filter_b strat_maker_filter_l0 strat_maker_filter_l1 api_Path_b api_Path_2_b api_Path_2_l0 strat_maker_filter_1_b path_Same_b api_Path_3_b api_Path_3_l0 prog_Compile_b api_Filter_b api_Filter_l0 prog_maker_path_b path_sameFilter_b prog_maker_step_b prog_maker_seq_b prog_maker_seq_l0 prog_maker_alt_b prog_maker_alt_l0 prog_maker_alt_l1 prog_maker_alt_l2 prog_maker_alt_l3 prog_maker_state_b prog_maker_lay_b prog_maker_free_b strat_Items_b strat_Items_l0 orielref12_Right_b strat_Find_b orielref12_Size_b api_Path_4_b api_Path_4_l0 orielref12_size_b orielref12_size_l0 orielref12_size_l1 strat_Find_1_b orielref12_sizeFilter_b orielref12_sizeFilter_l0 orielref12_sizeFilter_l1 strat_Holds_b orielref12_path_b orielref12_path_l0 orielref12_path_l1 strat_node_holds_b orielref12_filter_b orielref12_filter_l0 orielref12_filter_l1 orielref12_filter_l2 orielref12_filter_l3 orielref12_filter_l4 strat_node_attr_b strat_node_attr_l0 api_Filter_2_b api_Filter_3_b api_Path_5_b orielref12_named_b orielref04_Right_b orielref04_Right_l0 api_Filter_4_b api_Filter_4_l0 api_Filter_5_b api_Filter_5_l0 api_Path_6_b api_Path_6_l0 orielref03_Plain_b orielref03_Plain_l0 orielref01_All_b orielref01_All_l0 orielref01_All_l1 strat_node_fails_b strat_node_holds_2_b strat_node_leads_b orielref02_Start_b orielref01_Rune_b orielref01_Rune_l0 strat_node_attr_2_b strat_node_attr_2_l0 orielref01_Put_b orielref01_cut_b orielref01_cut_l0 orielref01_cut_l1 orielref01_cut_l2 orielref01_cut_l3 orielref01_cut_l4 orielref01_value_b orielref01_value_l0 orielref01_value_l1 orielref09_Right_b orielref09_Right_l0 orielref09_Right_l1 orielref09_Right_l2 orielref18_Inner_b orielref18_Inner_l0 orielref18_Inner_l1 orielref18_Inner_l2 orielref18_Inner_l3 orielref18_Make_b orielref18_Make_l0 orielref18_Make_l1 orielref02_Char_b orielref02_Part_b orielref01_begins_b orielref01_begins_l0 orielref09_named_b orielref18_within_b orielref18_within_l0 orielref18_within_l1 orielref17_Compile_b orielref02_Blank_b orielref17_add_b orielref17_add_l0 orielref17_add_l1 orielref17_add_l2 orielref17_add_l3 orielref17_add_l4 orielref17_add_l5 orielref17_add_l6 orielref17_edge_b orielref09_Few_b orielref09_Few_l0 orielref09_Few_l1 strat_Tests_b strat_Tests_l0 strat_Tests_l1 orielref05_Find_b orielref05_Find_l0 orielref18_Find_b orielref18_Find_l0 orielref12_Same_b orielref12_Same_l0 orielref12_Same_l1 orielref12_SameFilter_b orielref12_SameFilter_l0 orielref12_SameFilter_l1 oriellaw18_bits_b oriellaw18_bits_l0 oriellaw18_bits_l1 orielref18_Items_b orielref18_Items_l0 orielref12_Filters_b orielref12_Filters_l0 orielref12_Filters_l1 orielref12_Filters_l2 orielref12_Filters_l3 orielref12_within_b orielref12_within_l0 orielref12_within_l1 orielref18_Holds_b orielref18_Holds_l0 orielref18_Holds_l1
noncomputable def mach (x : List C) : Mk := mk 16 (gi x 0) (gr x 1) (gr x 2) 0 0
noncomputable def nst (x : List C) : Int := (mach x).n
noncomputable def prow (x : List C) : List C := [C.int .i64 (mach x).n, C.int .i64 (mach x).s, C.int .i64 (mach x).e, C.row 125 (mach x).E, C.row 50 (mach x).T]
noncomputable def rrow (x : List C) : List C := [C.int .i64 (mach x).n, C.int .i64 (mach x).s, C.int .i64 (mach x).e, C.row 125 (mach x).E, C.row 50 ((mach x).T.map nf)]
noncomputable def sumn : List (List C) → Int
  | [] => 0
  | x :: l => nst x + sumn l
noncomputable def bases : Int → List (List C) → List (List C)
  | _, [] => []
  | s, x :: l => [C.int .i64 s] :: bases (s + nst x) l
theorem sumn_app (l m : List (List C)) : sumn (l ++ m) = sumn l + sumn m := by
  induction l with
  | nil => simp [sumn]
  | cons x l ih => simp only [List.cons_append, sumn, ih]; omega
theorem bases_app (l m : List (List C)) : ∀ s, bases s (l ++ m) = bases s l ++ bases (s + sumn l) m := by
  induction l with
  | nil => intro s; simp [bases, sumn]
  | cons x l ih => intro s; simp only [List.cons_append, bases, sumn, ih]; rw [show s + nst x + sumn l = s + (nst x + sumn l) by omega]
theorem bases_len (l : List (List C)) : ∀ s, (bases s l).length = l.length := by
  induction l with
  | nil => intro s; rfl
  | cons x l ih => intro s; simp [bases, ih]
theorem bases_get (l : List (List C)) : ∀ (s : Int) (i : Nat), i < l.length → (bases s l).getD i [] = [C.int .i64 (s + sumn (l.take i))] := by
  induction l with
  | nil => intro s i h; simp at h
  | cons x l ih =>
    intro s i h
    cases i with
    | zero => simp [bases, sumn]
    | succ i =>
      have := ih (s + nst x) i (by simpa using h)
      simp only [bases, List.getD_cons_succ, List.take_succ_cons, sumn]
      rw [this, show s + nst x + sumn (l.take i) = s + (nst x + sumn (l.take i)) by omega]
theorem Good.nst {x : List C} (h : Good x) : 0 ≤ nst x ∧ nst x ≤ 128 := by
  have h1 := mk_bd 16 _ _ _ 0 0 h.pok
  have h2 := h.pc
  have h3 := h1.lo
  have h4 := h1.hi
  unfold Go.Vm.T.nst mach
  omega
theorem sumn_bd {l : List (List C)} (h : ∀ x, x ∈ l → Good x) : 0 ≤ sumn l ∧ sumn l ≤ 128 * l.length := by
  induction l with
  | nil => simp [sumn]
  | cons x l ih =>
    have h1 := (h x List.mem_cons_self).nst
    have h2 := ih fun y hy => h y (List.mem_cons_of_mem _ hy)
    simp only [sumn, List.length_cons]
    omega
theorem take_succ {l : List (List C)} {i : Nat} (h : i < l.length) : l.take (i + 1) = l.take i ++ [l.getD i []] := by
  rw [List.take_add_one, List.getElem?_eq_getElem h, List.getD_eq_getElem?_getD, List.getElem?_eq_getElem h]
  rfl
theorem mem_take {l : List (List C)} (h : ∀ x, x ∈ l → Good x) (i : Nat) : ∀ x, x ∈ l.take i → Good x := fun x hx => h x (List.mem_of_mem_take hx)
noncomputable def DD (p : List C) : List (List C) := (inn 16 true p).foldl add1 []
theorem Good.inn {p : List C} (h : Good p) : ∀ x, x ∈ inn 16 true p → Good x := inn_good (by omega) h.ok h.sz h.sm
theorem Good.len {p : List C} (h : Good p) : (Go.Vm.T.inn 16 true p).length ≤ 63 := by
  have := inn_len 16 true p
  have := h.sz 16
  omega
theorem Good.ded {p : List C} (h : Good p) : Ded (Go.Vm.T.inn 16 true p) (DD p) := ded_all (inn_cl (by omega) h.ok) h.inn
theorem comp_tot {x : List C} (h : Good x) : Tot (fun k _ _ => (lv k).prog_Compile (gi x 0) (gr x 1) (gr x 2)) (fun r => r = ((mach x).n, (mach x).s, (mach x).e, (mach x).E, (mach x).T)) := compile_tot _ _ _ h.pok h.pc
theorem rcomp_tot {x : List C} (h : Good x) : Tot (fun k _ _ => (lv k).orielref17_Compile (gi x 0) (gr x 1) (gr x 2)) (fun r => r = ((mach x).n, (mach x).s, (mach x).e, (mach x).E, (mach x).T.map nf)) := rcompile_tot _ _ _ h.pok h.pc
theorem make_tot {p : List C} (h : Good p) : Tot (fun k _ _ => (lv k).strat_Make (gi p 0) (gr p 1) (gr p 2)) (fun r => r = (DD p, (DD p).map prow, bases 0 (DD p), (mach p).n, (mach p).s, (mach p).e, (mach p).E, (mach p).T)) := by
  have hg := h.ded.good
  have hlen : (DD p).length ≤ 63 := Nat.le_trans h.ded.len h.len
  refine strat_Make_up _ _ _ (Tot.congr ?_ (fun k _ _ => strat_Make_q (lv k) k (gi p 0) (gr p 1) (gr p 2)))
  refine Tot.bind ((gather 16 (Nat.le_refl _)).1 p [] h.ok h.sz h.sm (fun x hx => by cases hx) (by have := h.len; simp; omega)) fun r hr => ?_
  have hr : r = DD p := hr
  subst hr
  refine Tot.bind (comp_tot h) fun r hr => ?_
  subst hr
  refine Tot.in0 (g := fun k p_ q_ => strat_Make_l0 (lv k) k (gi p 0) (gr p 1) (gr p 2) p_ ((DD p).length : Int) (mach p).n (mach p).s (mach p).e (DD p) (mach p).E (mach p).T) ?_
  refine Tot.step0 (fun k p_ q_ => strat_Make_l0_q (lv k) k (gi p 0) (gr p 1) (gr p 2) p_ _ _ _ _ _ _ _) ?_
  refine Tot.cond (fun h0 => ?_) (fun h0 => Tot.ret ?_)
  · have h0 := of_decide_eq_true h0
    refine Tot.t (decide_eq_true (by omega)) ?_
    have h1 := hg _ (getD_mem (d := []) (show 0 < (DD p).length by omega))
    refine Tot.bind (comp_tot h1) fun r hr => ?_
    subst hr
    have hn1 := h1.nst
    have loop := Tot.loop (H := fun k q r v s => strat_Make_l1 (lv k) k (gi p 0) (gr p 1) (gr p 2) q s.1 ((DD p).length : Int) v (mach p).n (mach p).s (mach p).e (DD p) s.2.1 s.2.2 (mach p).E (mach p).T) (Q := fun r => r = (DD p, (DD p).map prow, bases 0 (DD p), (mach p).n, (mach p).s, (mach p).e, (mach p).E, (mach p).T)) (n := (DD p).length) (fun i s => s = (sumn ((DD p).take i), ((DD p).take i).map prow, bases 0 ((DD p).take i))) (by omega) (fun s hs => ?_) (fun i s hi hs next => ?_) _ 1 (nst ((DD p).getD 0 []), [prow ((DD p).getD 0 [])], [[C.int .i64 0]]) rfl (by omega) (by
      rw [take_succ (show 0 < (DD p).length by omega)]
      simp [sumn, bases])
    · rw [wrap_id (x := (0 : Int) + (mach ((DD p).getD 0 [])).n) (by have := hn1.1; unfold nst at this; omega) (by have := hn1.2; unfold nst at this; omega), Int.zero_add]
      exact loop
    · subst hs
      refine Tot.step0 (fun k p_ q_ => strat_Make_l1_q (lv k) k (gi p 0) (gr p 1) (gr p 2) p_ _ _ _ _ _ _ _ _ _ _ _) ?_
      rw [List.take_length]
      exact Tot.f (decide_eq_false (by omega)) (Tot.ret rfl)
    · subst hs
      refine Tot.step0 (fun k p_ q_ => strat_Make_l1_q (lv k) k (gi p 0) (gr p 1) (gr p 2) p_ _ _ _ _ _ _ _ _ _ _ _) ?_
      rw [Int.toNat_natCast]
      repeat (refine Tot.t (decide_eq_true (by omega)) ?_)
      have hgi := hg _ (getD_mem (d := []) hi)
      have b1 := sumn_bd (mem_take hg i)
      have b2 := hgi.nst
      have b3 : ((DD p).take i).length ≤ i := by simp; omega
      refine Tot.bind (comp_tot hgi) fun r hr => ?_
      subst hr
      refine Tot.t (roomy_of bytes41 (by simp; omega)) (Tot.t (roomy_of bytes3 (by rw [bases_len]; omega)) ?_)
      have nx := next (sumn ((DD p).take (i + 1)), ((DD p).take (i + 1)).map prow, bases 0 ((DD p).take (i + 1))) rfl
      rw [take_succ hi, sumn_app, bases_app, List.map_append] at nx
      simp only [sumn, bases, List.map_cons, List.map_nil, Int.add_zero, Int.zero_add] at nx ⊢
      rw [wrap_id (x := sumn ((DD p).take i) + (mach ((DD p).getD i [])).n) (by unfold nst at b2; omega) (by unfold nst at b2; omega)]
      exact nx
  · have h0 := of_decide_eq_false h0
    have : DD p = [] := List.length_eq_zero_iff.1 (by omega)
    rw [this]
    rfl
theorem rfind_tot (D B C' : List (List C)) (n s e : Int) (E T : List (List C)) (x : List C) (hD : ∀ y, y ∈ D → Good y) (hl : D.length ≤ 1000000) (hx : SmR BB x) : Tot (fun k _ _ => (lv k).orielref18_Find D B C' n s e E T (gi x 0) (gr x 1) (gr x 2)) (Fst D.length (fun j => Alike true (D.getD j []) x)) := by
  refine orielref18_Find_up _ _ _ _ _ _ _ _ _ _ _ (Tot.congr ?_ (fun k _ _ => orielref18_Find_q (lv k) k D B C' n s e E T (gi x 0) (gr x 1) (gr x 2)))
  refine Tot.in0 (Tot.first (H := fun k p q v => orielref18_Find_l0 (lv k) k D B C' n s e E T (gi x 0) (gr x 1) (gr x 2) p v) (n := D.length) (by omega) ?_ (fun i Q hi hy hn => ?_))
  · refine Tot.step0 (fun k p_ q_ => orielref18_Find_l0_q (lv k) k D B C' n s e E T (gi x 0) (gr x 1) (gr x 2) p_ _) ?_
    exact Tot.f (decide_eq_false (by omega)) (Tot.ret rfl)
  · refine Tot.step0 (fun k p_ q_ => orielref18_Find_l0_q (lv k) k D B C' n s e E T (gi x 0) (gr x 1) (gr x 2) p_ _) ?_
    rw [Int.toNat_natCast]
    repeat (refine Tot.t (decide_eq_true (by omega)) ?_)
    exact Tot.bind (rsame_tot (D.getD i []) x (good_get hD i) hx) fun r hr => Tot.cond (fun h => Tot.ret (hy (hr.1 h))) (fun h => hn (fun ha => by rw [hr.2 ha] at h; cases h))
theorem pfind_tot (D B C' : List (List C)) (n s e : Int) (E T : List (List C)) (x : List C) (hD : ∀ y, y ∈ D → Good y) (hl : D.length ≤ 1000000) (hx : SmR BB x) : Tot (fun k _ _ => (lv k).strat_Find D B C' n s e E T (gi x 0) (gr x 1) (gr x 2)) (Fst D.length (fun j => Alike true (D.getD j []) x)) := by
  refine strat_Find_up _ _ _ _ _ _ _ _ _ _ _ (Tot.congr ?_ (fun k _ _ => strat_Find_q (lv k) k D B C' n s e E T (gi x 0) (gr x 1) (gr x 2)))
  refine Tot.bind (R := Fst D.length (fun j => Alike true (D.getD j []) x)) ?_ fun r hr => Tot.ret hr
  refine api_Path_4_up _ _ _ _ (Tot.congr ?_ (fun k _ _ => api_Path_4_q (lv k) k D (gi x 0) (gr x 1) (gr x 2)))
  refine Tot.in0 (Tot.first (H := fun k p q v => api_Path_4_l0 (lv k) k D (gi x 0) (gr x 1) (gr x 2) p v) (n := D.length) (by omega) ?_ (fun i Q hi hy hn => ?_))
  · refine Tot.step0 (fun k p_ q_ => api_Path_4_l0_q (lv k) k D (gi x 0) (gr x 1) (gr x 2) p_ _) ?_
    exact Tot.f (decide_eq_false (by omega)) (Tot.ret rfl)
  · refine Tot.step0 (fun k p_ q_ => api_Path_4_l0_q (lv k) k D (gi x 0) (gr x 1) (gr x 2) p_ _) ?_
    rw [Int.toNat_natCast]
    repeat (refine Tot.t (decide_eq_true (by omega)) ?_)
    refine Tot.bind (R := AlQ true (D.getD i []) x) ?_ fun r hr => Tot.cond (fun h => Tot.ret (hy (hr.1 h))) (fun h => hn (fun ha => by rw [hr.2 ha] at h; cases h))
    refine strat_Find_1_up _ _ _ _ _ _ (Tot.congr ?_ (fun k _ _ => strat_Find_1_q (lv k) k (gi (D.getD i []) 0) (gr (D.getD i []) 1) (gr (D.getD i []) 2) (gi x 0) (gr x 1) (gr x 2)))
    exact Tot.bind (psame_tot (D.getD i []) x (good_get hD i) hx) fun r hr => Tot.ret hr
/-! the document's -/
theorem Tot.cat {α : Type} {g : Nat → Nat → Nat → Option α} {Q Q' : α → Prop} (h : Tot g Q) (hq : ∀ r, Q r → Q' r) : Tot g Q' := h.mono hq
def RI (k : Bool) (a : List C) (d : Nat) : Prop := match k with
  | true => Tot (fun k _ _ => (lv k).orielref18_Inner (gi a 0) (gr a 1) (gr a 2)) (fun r => r = inn d true a)
  | false => Tot (fun k _ _ => (lv k).orielref18_within (gi a 0) (gs a 1) (gs a 2) (gs a 3) (gr a 4) (gr a 5)) (fun r => r = inn d false a)
theorem rinner : ∀ d, d ≤ 16 → ∀ (k : Bool) (a : List C), ok d k a → (∀ e, sz e k a ≤ 64) → SmR BB a → RI k a d := by
  intro d
  induction d with
  | zero => intro _ k a h; exact h.elim
  | succ d ih =>
    intro hd k a ha hz hs
    have ih := @ih (by omega)
    have hlen := inn_len (d + 1) k a
    have hz' := hz (d + 1)
    have ha' := ha
    cases k with
    | true =>
      obtain ⟨_, _, _, _, _, _, _, _, h9, h10⟩ := ha'
      have e0 : inn (d + 1) true a = (gr a 1).flatMap (inn d true) ++ (gr a 2).flatMap (inn d false) := rfl
      show Tot _ _
      rw [e0] at hlen ⊢
      rw [List.length_append] at hlen
      have hl1 : (gr a 1).length ≤ 1048576 := (hs.gr 1).1
      have hl2 : (gr a 2).length ≤ 1048576 := (hs.gr 2).1
      refine orielref18_Inner_up _ _ _ (Tot.congr ?_ (fun k _ _ => orielref18_Inner_q (lv k) k (gi a 0) (gr a 1) (gr a 2)))
      have l3 : ∀ (i : Nat) s, i ≤ (gr a 2).length → s = (gr a 1).flatMap (inn d true) ++ ((gr a 2).take i).flatMap (inn d false) → Tot (fun k p q => orielref18_Inner_l3 (lv k) k (gi a 0) (gr a 1) (gr a 2) p (i : Int) s) (fun r => r = (gr a 1).flatMap (inn d true) ++ (gr a 2).flatMap (inn d false)) := fun i s hi hs' =>
        Tot.loop (H := fun k p q v s => orielref18_Inner_l3 (lv k) k (gi a 0) (gr a 1) (gr a 2) p v s) (n := (gr a 2).length) (fun i s => s = (gr a 1).flatMap (inn d true) ++ ((gr a 2).take i).flatMap (inn d false)) (by omega) (fun s hs' => by
          subst hs'
          refine Tot.step0 (fun k p_ q_ => orielref18_Inner_l3_q (lv k) k (gi a 0) (gr a 1) (gr a 2) p_ _ _) ?_
          rw [List.take_length]
          exact Tot.f (decide_eq_false (by omega)) (Tot.ret rfl)) (fun i s hi hs' next => by
          subst hs'
          refine Tot.step0 (fun k p_ q_ => orielref18_Inner_l3_q (lv k) k (gi a 0) (gr a 1) (gr a 2) p_ _ _) ?_
          rw [Int.toNat_natCast]
          repeat (refine Tot.t (decide_eq_true (by omega)) ?_)
          have q3 := take_flat1 (f := inn d false) hi
          refine Tot.bind (ih false _ (h10 i hi) (sub_sz hz 2 false (by simp) hi) ((hs.gr 2).get i)) fun r hr => ?_
          subst hr
          exact Tot.t (roomy_of bytes25 (by rw [List.length_append]; omega)) (next _ (by rw [flat_take hi, List.append_assoc]))) _ i s rfl hi hs'
      have l2 : ∀ (i : Nat) s, i ≤ (gr a 1).length → s = ((gr a 1).take i).flatMap (inn d true) → Tot (fun k p q => orielref18_Inner_l2 (lv k) k (gi a 0) (gr a 1) (gr a 2) p (i : Int) s) (fun r => r = (gr a 1).flatMap (inn d true) ++ (gr a 2).flatMap (inn d false)) := fun i s hi hs' =>
        Tot.loop (H := fun k p q v s => orielref18_Inner_l2 (lv k) k (gi a 0) (gr a 1) (gr a 2) p v s) (n := (gr a 1).length) (fun i s => s = ((gr a 1).take i).flatMap (inn d true)) (by omega) (fun s hs' => by
          subst hs'
          refine Tot.step0 (fun k p_ q_ => orielref18_Inner_l2_q (lv k) k (gi a 0) (gr a 1) (gr a 2) p_ _ _) ?_
          rw [List.take_length]
          exact Tot.f (decide_eq_false (by omega)) (Tot.in0 (l3 0 _ (by omega) (by simp)))) (fun i s hi hs' next => by
          subst hs'
          refine Tot.step0 (fun k p_ q_ => orielref18_Inner_l2_q (lv k) k (gi a 0) (gr a 1) (gr a 2) p_ _ _) ?_
          rw [Int.toNat_natCast]
          repeat (refine Tot.t (decide_eq_true (by omega)) ?_)
          have q3 := take_flat1 (f := inn d true) hi
          refine Tot.bind (ih true _ (h9 i hi) (sub_sz hz 1 true (by simp) hi) ((hs.gr 1).get i)) fun r hr => ?_
          subst hr
          exact Tot.t (roomy_of bytes25 (by omega)) (next _ (by rw [flat_take hi]))) _ i s rfl hi hs'
      refine Tot.in0 (g := fun k p_ q_ => orielref18_Inner_l0 (lv k) k (gi a 0) (gr a 1) (gr a 2) p_ ) ?_
      refine Tot.step0 (fun k p_ q_ => orielref18_Inner_l0_q (lv k) k (gi a 0) (gr a 1) (gr a 2) p_ ) ?_
      refine Tot.cond (fun h0 => ?_) (fun h0 => ?_)
      · have h0 := of_decide_eq_true h0
        refine Tot.t (decide_eq_true (by omega)) (Tot.bind (ih true _ (h9 0 (by omega)) (sub_sz hz 1 true (by simp) (show 0 < (gr a 1).length by omega)) ((hs.gr 1).get 0)) fun r hr => ?_)
        subst hr
        have q3 := take_flat1 (f := inn d true) (show 0 < (gr a 1).length by omega)
        refine Tot.t (roomy_of bytes25 (by omega)) (l2 1 _ (by omega) ?_)
        rw [flat_take (show 0 < (gr a 1).length by omega)]
        simp
      · have h0 := of_decide_eq_false h0
        have e1 : gr a 1 = [] := List.length_eq_zero_iff.1 (by omega)
        refine Tot.in0 (g := fun k p_ q_ => orielref18_Inner_l1 (lv k) k (gi a 0) (gr a 1) (gr a 2) p_ ) ?_
        refine Tot.step0 (fun k p_ q_ => orielref18_Inner_l1_q (lv k) k (gi a 0) (gr a 1) (gr a 2) p_ ) ?_
        refine Tot.cond (fun h0 => ?_) (fun h0 => ?_)
        · have h0 := of_decide_eq_true h0
          refine Tot.t (decide_eq_true (by omega)) (Tot.bind (ih false _ (h10 0 (by omega)) (sub_sz hz 2 false (by simp) (show 0 < (gr a 2).length by omega)) ((hs.gr 2).get 0)) fun r hr => ?_)
          subst hr
          have q3 := take_flat1 (f := inn d false) (show 0 < (gr a 2).length by omega)
          refine Tot.t (roomy_of bytes25 (by omega)) (l3 1 _ (by omega) ?_)
          rw [flat_take (show 0 < (gr a 2).length by omega)]
          simp [e1]
        · have h0 := of_decide_eq_false h0
          have e2 : gr a 2 = [] := List.length_eq_zero_iff.1 (by omega)
          exact Tot.ret (by simp [e1, e2])
    | false =>
      obtain ⟨_, _, _, _, _, _, h7, h8, h9, h10⟩ := ha'
      have e0 : inn (d + 1) false a = (gr a 4).flatMap (inn d false) ++ (gr a 5).flatMap (fun x => inn d true x ++ [row3 x]) := rfl
      show Tot _ _
      rw [e0] at hlen ⊢
      rw [List.length_append] at hlen
      have hl1 : (gr a 4).length ≤ 1048576 := (hs.gr 4).1
      have hl2 : (gr a 5).length ≤ 1048576 := (hs.gr 5).1
      have e5 : ∀ h : 0 < (gr a 5).length, (gr a 5).flatMap (fun x => inn d true x ++ [row3 x]) = inn d true ((gr a 5).getD 0 []) ++ [row3 ((gr a 5).getD 0 [])] := fun h => by
        have := flat_take (f := fun x => inn d true x ++ [row3 x]) h
        rw [List.take_of_length_le (by omega)] at this
        simpa using this
      refine orielref18_within_up _ _ _ _ _ _ (Tot.congr ?_ (fun k _ _ => orielref18_within_q (lv k) k (gi a 0) (gs a 1) (gs a 2) (gs a 3) (gr a 4) (gr a 5)))
      have l1 : ∀ (i : Nat) s, i ≤ (gr a 4).length → s = ((gr a 4).take i).flatMap (inn d false) → Tot (fun k p q => orielref18_within_l1 (lv k) k (gi a 0) (gs a 1) (gs a 2) (gs a 3) (gr a 4) (gr a 5) p (i : Int) s) (fun r => r = (gr a 4).flatMap (inn d false) ++ (gr a 5).flatMap (fun x => inn d true x ++ [row3 x])) := fun i s hi hs' =>
        Tot.loop (H := fun k p q v s => orielref18_within_l1 (lv k) k (gi a 0) (gs a 1) (gs a 2) (gs a 3) (gr a 4) (gr a 5) p v s) (n := (gr a 4).length) (fun i s => s = ((gr a 4).take i).flatMap (inn d false)) (by omega) (fun s hs' => by
          subst hs'
          refine Tot.step0 (fun k p_ q_ => orielref18_within_l1_q (lv k) k (gi a 0) (gs a 1) (gs a 2) (gs a 3) (gr a 4) (gr a 5) p_ _ _) ?_
          rw [List.take_length]
          refine Tot.f (decide_eq_false (by omega)) (Tot.cond (fun h11 => ?_) (fun h11 => Tot.ret ?_))
          · have h11 := h7.1 (eq_of_beq h11)
            have h05 : 0 < (gr a 5).length := by omega
            rw [e5 h05] at hlen ⊢
            rw [List.length_append, List.length_singleton] at hlen
            refine Tot.t (decide_eq_true (by omega)) (Tot.bind (ih true _ (h10 0 h05) (sub_sz hz 5 true (by simp) h05) ((hs.gr 5).get 0)) fun r hr => ?_)
            subst hr
            refine Tot.t (roomy_of bytes25 (by omega)) (Tot.t (decide_eq_true (by omega)) (Tot.t (roomy_of bytes25 (by rw [List.length_append]; omega)) (Tot.ret ?_)))
            rw [List.append_assoc]
            rfl
          · have h11 : gi a 0 ≠ 11 := by simpa using h11
            have e2 : gr a 5 = [] := List.length_eq_zero_iff.1 (by
              rcases Nat.lt_or_ge 0 (gr a 5).length with h | h
              · exact absurd (h7.2 (by omega)) h11
              · omega)
            simp [e2]) (fun i s hi hs' next => by
          subst hs'
          refine Tot.step0 (fun k p_ q_ => orielref18_within_l1_q (lv k) k (gi a 0) (gs a 1) (gs a 2) (gs a 3) (gr a 4) (gr a 5) p_ _ _) ?_
          rw [Int.toNat_natCast]
          repeat (refine Tot.t (decide_eq_true (by omega)) ?_)
          have q3 := take_flat1 (f := inn d false) hi
          refine Tot.bind (ih false _ (h9 i hi) (sub_sz hz 4 false (by simp) hi) ((hs.gr 4).get i)) fun r hr => ?_
          subst hr
          exact Tot.t (roomy_of bytes25 (by omega)) (next _ (by rw [flat_take hi]))) _ i s rfl hi hs'
      refine Tot.in0 (g := fun k p_ q_ => orielref18_within_l0 (lv k) k (gi a 0) (gs a 1) (gs a 2) (gs a 3) (gr a 4) (gr a 5) p_ ) ?_
      refine Tot.step0 (fun k p_ q_ => orielref18_within_l0_q (lv k) k (gi a 0) (gs a 1) (gs a 2) (gs a 3) (gr a 4) (gr a 5) p_ ) ?_
      refine Tot.cond (fun h0 => ?_) (fun h0 => ?_)
      · have h0 := of_decide_eq_true h0
        refine Tot.t (decide_eq_true (by omega)) (Tot.bind (ih false _ (h9 0 (by omega)) (sub_sz hz 4 false (by simp) (show 0 < (gr a 4).length by omega)) ((hs.gr 4).get 0)) fun r hr => ?_)
        subst hr
        have q3 := take_flat1 (f := inn d false) (show 0 < (gr a 4).length by omega)
        refine Tot.t (roomy_of bytes25 (by omega)) (l1 1 _ (by omega) ?_)
        rw [flat_take (show 0 < (gr a 4).length by omega)]
        simp
      · have h0 := of_decide_eq_false h0
        have e1 : gr a 4 = [] := List.length_eq_zero_iff.1 (by omega)
        refine Tot.cond (fun h11 => ?_) (fun h11 => Tot.ret ?_)
        · have h11 := h7.1 (eq_of_beq h11)
          have h05 : 0 < (gr a 5).length := by omega
          rw [e5 h05] at hlen ⊢
          rw [List.length_append, List.length_singleton] at hlen
          refine Tot.t (decide_eq_true (by omega)) (Tot.bind (ih true _ (h10 0 h05) (sub_sz hz 5 true (by simp) h05) ((hs.gr 5).get 0)) fun r hr => ?_)
          subst hr
          refine Tot.t (roomy_of bytes25 (by omega)) (Tot.t (decide_eq_true (by omega)) (Tot.t (roomy_of bytes25 (by omega)) (Tot.ret ?_)))
          rw [e1]
          rfl
        · have h11 : gi a 0 ≠ 11 := by simpa using h11
          have e2 : gr a 5 = [] := List.length_eq_zero_iff.1 (by
            rcases Nat.lt_or_ge 0 (gr a 5).length with h | h
            · exact absurd (h7.2 (by omega)) h11
            · omega)
          simp [e1, e2]
end Go.Vm.T
/- The document's machines; what is new memory; the order of a path's machines. -/
set_option linter.unusedVariables false
set_option linter.unusedSimpArgs false
namespace Go.Vm.T
open Go Go.Vm Go.Proofs
attribute [local irreducible] lv oriellaw18_StratHolds_b oriellaw18_StratHolds_l0 oriellaw18_StratHolds_l1 oriellaw18_StratOrder_b oriellaw18_StratOrder_l0 oriellaw18_StratOrder_l1 oriellaw18_StratOrder_l2 oriellaw18_StratKeeps_b oriellaw18_StratKeeps_l0 oriellaw18_StratKeeps_l1 oriellaw18_awake_b strat_Make_b strat_Make_l0 strat_Make_l1 strat_maker_path_b strat_maker_path_l0 strat_maker_path_l1 strat_maker_filter_b strat_maker_filter_l0 strat_maker_filter_l1 api_Path_b api_Path_2_b api_Path_2_l0 strat_maker_filter_1_b path_Same_b api_Path_3_b api_Path_3_l0 prog_Compile_b api_Filter_b api_Filter_l0 prog_maker_path_b path_sameFilter_b prog_maker_step_b prog_maker_seq_b prog_maker_seq_l0 prog_maker_alt_b prog_maker_alt_l0 prog_maker_alt_l1 prog_maker_alt_l2 prog_maker_alt_l3 prog_maker_state_b prog_maker_lay_b prog_maker_free_b strat_Items_b strat_Items_l0 orielref12_Right_b strat_Find_b orielref12_Size_b api_Path_4_b api_Path_4_l0 orielref12_size_b orielref12_size_l0 orielref12_size_l1 strat_Find_1_b orielref12_sizeFilter_b orielref12_sizeFilter_l0 orielref12_sizeFilter_l1 strat_Holds_b orielref12_path_b orielref12_path_l0 orielref12_path_l1 strat_node_holds_b orielref12_filter_b orielref12_filter_l0 orielref12_filter_l1 orielref12_filter_l2 orielref12_filter_l3 orielref12_filter_l4 strat_node_attr_b strat_node_attr_l0 api_Filter_2_b api_Filter_3_b api_Path_5_b orielref12_named_b orielref04_Right_b orielref04_Right_l0 api_Filter_4_b api_Filter_4_l0 api_Filter_5_b api_Filter_5_l0 api_Path_6_b api_Path_6_l0 orielref03_Plain_b orielref03_Plain_l0 orielref01_All_b orielref01_All_l0 orielref01_All_l1 strat_node_fails_b strat_node_holds_2_b strat_node_leads_b orielref02_Start_b orielref01_Rune_b orielref01_Rune_l0 strat_node_attr_2_b strat_node_attr_2_l0 orielref01_Put_b orielref01_cut_b orielref01_cut_l0 orielref01_cut_l1 orielref01_cut_l2 orielref01_cut_l3 orielref01_cut_l4 orielref01_value_b orielref01_value_l0 orielref01_value_l1 orielref09_Right_b orielref09_Right_l0 orielref09_Right_l1 orielref09_Right_l2 orielref18_Inner_b orielref18_Inner_l0 orielref18_Inner_l1 orielref18_Inner_l2 orielref18_Inner_l3 orielref18_Make_b orielref18_Make_l0 orielref18_Make_l1 orielref02_Char_b orielref02_Part_b orielref01_begins_b orielref01_begins_l0 orielref09_named_b orielref18_within_b orielref18_within_l0 orielref18_within_l1 orielref17_Compile_b orielref02_Blank_b orielref17_add_b orielref17_add_l0 orielref17_add_l1 orielref17_add_l2 orielref17_add_l3 orielref17_add_l4 orielref17_add_l5 orielref17_add_l6 orielref17_edge_b orielref09_Few_b orielref09_Few_l0 orielref09_Few_l1 strat_Tests_b strat_Tests_l0 strat_Tests_l1 orielref05_Find_b orielref05_Find_l0 orielref18_Find_b orielref18_Find_l0 orielref12_Same_b orielref12_Same_l0 orielref12_Same_l1 orielref12_SameFilter_b orielref12_SameFilter_l0 orielref12_SameFilter_l1 oriellaw18_bits_b oriellaw18_bits_l0 oriellaw18_bits_l1 orielref18_Items_b orielref18_Items_l0 orielref12_Filters_b orielref12_Filters_l0 orielref12_Filters_l1 orielref12_Filters_l2 orielref12_Filters_l3 orielref12_within_b orielref12_within_l0 orielref12_within_l1 orielref18_Holds_b orielref18_Holds_l0 orielref18_Holds_l1
theorem rinn_tot {p : List C} (h : Good p) : Tot (fun k _ _ => (lv k).orielref18_Inner (gi p 0) (gr p 1) (gr p 2)) (fun r => r = inn 16 true p) := rinner 16 (Nat.le_refl _) true p h.ok h.sz h.sm
theorem ded_take {p : List C} (h : Good p) (i : Nat) (hi : i ≤ (inn 16 true p).length) : Ded ((inn 16 true p).take i) (((inn 16 true p).take i).foldl add1 []) := ded_of (inn_cl (by omega) h.ok) h.inn i hi
theorem rmake_tot {p : List C} (h : Good p) : Tot (fun k _ _ => (lv k).orielref18_Make (gi p 0) (gr p 1) (gr p 2)) (fun r => r = (DD p, (DD p).map rrow, bases 0 (DD p), (mach p).n, (mach p).s, (mach p).e, (mach p).E, (mach p).T.map nf)) := by
  have hlen := h.len
  refine orielref18_Make_up _ _ _ (Tot.congr ?_ (fun k _ _ => orielref18_Make_q (lv k) k (gi p 0) (gr p 1) (gr p 2)))
  refine Tot.bind (rcomp_tot h) fun r hr => ?_
  subst hr
  refine Tot.bind (rinn_tot h) fun r hr => ?_
  subst hr
  refine Tot.in0 (g := fun k p_ q_ => orielref18_Make_l0 (lv k) k (gi p 0) (gr p 1) (gr p 2) p_ 0 (mach p).n (mach p).s (mach p).e (mach p).E ((mach p).T.map nf) (inn 16 true p)) ?_
  refine Tot.step0 (fun k p_ q_ => orielref18_Make_l0_q (lv k) k (gi p 0) (gr p 1) (gr p 2) p_ _ _ _ _ _ _ _) ?_
  rw [show Int.toNat 0 = 0 from rfl, show IntKind.i64.wrap ((0 : Int) + 1) = 1 from rfl]
  refine Tot.cond (fun h0 => ?_) (fun h0 => Tot.ret ?_)
  · have h0 := of_decide_eq_true h0
    have h0' : 0 < (inn 16 true p).length := by omega
    refine Tot.t (by rfl) (Tot.t (decide_eq_true (by omega)) ?_)
    have h1 := h.inn _ (getD_mem (d := []) h0')
    refine Tot.bind (rfind_tot [] [] [] _ _ _ _ _ _ (fun y hy => by cases hy) (by simp) h1.sm) fun r hr => ?_
    have hr : r = -1 := by
      rcases hr with ⟨e, _⟩ | ⟨i, _, e, _⟩
      · exact e
      · simp at e
    subst hr
    refine Tot.f (by rfl) (Tot.t (by rfl) (Tot.t (decide_eq_true (by omega)) ?_))
    refine Tot.bind (rcomp_tot h1) fun r hr => ?_
    subst hr
    refine Tot.t (by rfl) (Tot.t (decide_eq_true (by omega)) ?_)
    have hn1 := h1.nst
    have e1 : ((inn 16 true p).take 1).foldl add1 [] = [row3 ((inn 16 true p).getD 0 [])] := by
      rw [take_succ h0']
      show add1 [] ((inn 16 true p).getD 0 []) = _
      rw [add1_new (by rintro ⟨z, hz, _⟩; cases hz)]
      rfl
    have loop := Tot.loop (H := fun k q r v s => orielref18_Make_l1 (lv k) k (gi p 0) (gr p 1) (gr p 2) q s.1 v (mach p).n (mach p).s (mach p).e (mach p).E ((mach p).T.map nf) (inn 16 true p) s.2.1 s.2.2.1 s.2.2.2) (Q := fun r => r = (DD p, (DD p).map rrow, bases 0 (DD p), (mach p).n, (mach p).s, (mach p).e, (mach p).E, (mach p).T.map nf)) (n := (inn 16 true p).length) (fun i s => s = (sumn (((inn 16 true p).take i).foldl add1 []), ((inn 16 true p).take i).foldl add1 [], (((inn 16 true p).take i).foldl add1 []).map rrow, bases 0 (((inn 16 true p).take i).foldl add1 []))) (by omega) (fun s hs => ?_) (fun i s hi hs next => ?_) _ 1 (nst ((inn 16 true p).getD 0 []), [row3 ((inn 16 true p).getD 0 [])], [rrow ((inn 16 true p).getD 0 [])], [[C.int .i64 0]]) rfl (by omega) (by
      rw [e1]
      simp only [sumn, bases, List.map_cons, List.map_nil, Int.add_zero]
      rfl)
    · rw [wrap_id (x := (0 : Int) + (mach ((inn 16 true p).getD 0 [])).n) (by have := hn1.1; unfold nst at this; omega) (by have := hn1.2; unfold nst at this; omega), Int.zero_add]
      exact loop
    · subst hs
      refine Tot.step0 (fun k p_ q_ => orielref18_Make_l1_q (lv k) k (gi p 0) (gr p 1) (gr p 2) p_ _ _ _ _ _ _ _ _ _ _ _) ?_
      rw [List.take_length]
      exact Tot.f (decide_eq_false (by omega)) (Tot.ret rfl)
    · have hd := ded_take h i (by omega)
      have hti : ((inn 16 true p).take (i + 1)).foldl add1 [] = add1 (((inn 16 true p).take i).foldl add1 []) ((inn 16 true p).getD i []) := by
        rw [take_succ hi, List.foldl_append]
        rfl
      rw [hti] at next
      generalize ((inn 16 true p).take i).foldl add1 [] = D at hs hd next
      subst hs
      have hgi := h.inn _ (getD_mem (d := []) hi)
      have b0 : D.length ≤ 63 := by have := hd.len; rw [List.length_take] at this; omega
      refine Tot.step0 (fun k p_ q_ => orielref18_Make_l1_q (lv k) k (gi p 0) (gr p 1) (gr p 2) p_ _ _ _ _ _ _ _ _ _ _ _) ?_
      rw [Int.toNat_natCast]
      repeat (refine Tot.t (decide_eq_true (by omega)) ?_)
      refine Tot.bind (rfind_tot D _ _ _ _ _ _ _ _ hd.good (by omega) hgi.sm) fun r hr => Tot.cond (fun hc => ?_) (fun hc => ?_)
      · have hc := of_decide_eq_true hc
        have hex : ∃ z, z ∈ D ∧ Alike true z ((inn 16 true p).getD i []) := by
          rcases hr with ⟨e, _⟩ | ⟨j, _, e1, e2, _⟩
          · omega
          · exact ⟨_, getD_mem e1, e2⟩
        rw [add1_old hex] at next
        exact next _ rfl
      · have hc := of_decide_eq_false hc
        have hex : ¬ ∃ z, z ∈ D ∧ Alike true z ((inn 16 true p).getD i []) := by
          rintro ⟨z, hz, ha⟩
          obtain ⟨j, hj, rfl⟩ := mem_getD hz
          rcases hr with ⟨e, e1⟩ | ⟨j, e, _⟩
          · exact e1 j hj ha
          · omega
        rw [add1_new hex] at next
        repeat (refine Tot.t (decide_eq_true (by omega)) ?_)
        refine Tot.bind (rcomp_tot hgi) fun r hr => ?_
        subst hr
        repeat (refine Tot.t (decide_eq_true (by omega)) ?_)
        have b1 := sumn_bd hd.good
        have b2 := hgi.nst
        refine Tot.t (roomy_of bytes25 (by show D.length + 1 ≤ _; omega)) (Tot.t (roomy_of bytes41 (by simp; omega)) (Tot.t (roomy_of bytes3 (by rw [bases_len]; omega)) ?_))
        have nx := next _ rfl
        rw [sumn_app, bases_app, List.map_append] at nx
        simp only [sumn, bases, List.map_cons, List.map_nil, Int.add_zero, Int.zero_add] at nx ⊢
        rw [wrap_id (x := sumn D + (mach ((inn 16 true p).getD i [])).n) (by unfold nst at b2; omega) (by unfold nst at b2; omega)]
        exact nx
  · have h0 := of_decide_eq_false h0
    have : inn 16 true p = [] := List.length_eq_zero_iff.1 (by omega)
    unfold DD
    rw [this]
    rfl
theorem items_tot (A B C' : List (List C)) (n s e : Int) (E T D : List (List C)) (f : List C → List C) (hB : B = D.map f) (hf : ∀ x, gi (f x) 0 = nst x) (hD : ∀ x, x ∈ D → Good x) (hl : D.length ≤ 1000000) : Tot (fun k _ _ => (lv k).strat_Items A B C' n s e E T) (fun r => r = sumn D) := by
  subst hB
  refine strat_Items_up _ _ _ _ _ _ _ _ (Tot.congr ?_ (fun k _ _ => strat_Items_q (lv k) k A (D.map f) C' n s e E T))
  refine Tot.in0 (Tot.loop (H := fun k p q v w => strat_Items_l0 (lv k) k A (D.map f) C' n s e E T p w v) (n := D.length) (fun i w => w = sumn (D.take i)) (by omega) (fun w hw => ?_) (fun i w hi hw next => ?_) _ 0 0 rfl (by omega) rfl)
  · subst hw
    refine Tot.step0 (fun k p_ q_ => strat_Items_l0_q (lv k) k A (D.map f) C' n s e E T p_ _ _) ?_
    rw [List.length_map, List.take_length]
    exact Tot.f (decide_eq_false (by omega)) (Tot.ret rfl)
  · subst hw
    refine Tot.step0 (fun k p_ q_ => strat_Items_l0_q (lv k) k A (D.map f) C' n s e E T p_ _ _) ?_
    rw [Int.toNat_natCast, List.length_map]
    repeat (refine Tot.t (decide_eq_true (by omega)) ?_)
    have e1 : (D.map f).getD i [] = f (D.getD i []) := by simp [List.getD_eq_getElem?_getD, hi]
    have b1 := sumn_bd (mem_take hD i)
    have b2 := (hD _ (getD_mem (d := []) hi)).nst
    have b3 : (D.take i).length ≤ i := by simp; omega
    rw [e1, hf]
    refine next _ ?_
    rw [wrap_id (by omega) (by omega), take_succ hi, sumn_app]
    simp [sumn]
theorem ritems_tot (A B C' : List (List C)) (n s e : Int) (E T D : List (List C)) (f : List C → List C) (hB : B = D.map f) (hf : ∀ x, gi (f x) 0 = nst x) (hD : ∀ x, x ∈ D → Good x) (hl : D.length ≤ 1000000) : Tot (fun k _ _ => (lv k).orielref18_Items A B C' n s e E T) (fun r => r = sumn D) := by
  subst hB
  refine orielref18_Items_up _ _ _ _ _ _ _ _ (Tot.congr ?_ (fun k _ _ => orielref18_Items_q (lv k) k A (D.map f) C' n s e E T))
  refine Tot.in0 (Tot.loop (H := fun k p q v w => orielref18_Items_l0 (lv k) k A (D.map f) C' n s e E T p w v) (n := D.length) (fun i w => w = sumn (D.take i)) (by omega) (fun w hw => ?_) (fun i w hi hw next => ?_) _ 0 0 rfl (by omega) rfl)
  · subst hw
    refine Tot.step0 (fun k p_ q_ => orielref18_Items_l0_q (lv k) k A (D.map f) C' n s e E T p_ _ _) ?_
    rw [List.length_map, List.take_length]
    exact Tot.f (decide_eq_false (by omega)) (Tot.ret rfl)
  · subst hw
    refine Tot.step0 (fun k p_ q_ => orielref18_Items_l0_q (lv k) k A (D.map f) C' n s e E T p_ _ _) ?_
    rw [Int.toNat_natCast, List.length_map]
    repeat (refine Tot.t (decide_eq_true (by omega)) ?_)
    have e1 : (D.map f).getD i [] = f (D.getD i []) := by simp [List.getD_eq_getElem?_getD, hi]
    have b1 := sumn_bd (mem_take hD i)
    have b2 := (hD _ (getD_mem (d := []) hi)).nst
    have b3 : (D.take i).length ≤ i := by simp; omega
    rw [e1, hf]
    refine next _ ?_
    rw [wrap_id (by omega) (by omega), take_succ hi, sumn_app]
    simp [sumn]
/-! the laws -/
theorem to_good {p : List C} (hp : SmR BB p) (h : ok 16 true p ∧ ∀ d, sz d true p ≤ 64) : Good p := ⟨h.1, h.2, hp⟩
theorem keeps_tot (p : List C) (hp : SmR BB p) : Tot (fun k _ _ => (lv k).oriellaw18_StratKeeps (gi p 0) (gr p 1) (gr p 2)) (fun r => r = true) := by
  refine oriellaw18_StratKeeps_up _ _ _ (Tot.congr ?_ (fun k _ _ => oriellaw18_StratKeeps_q (lv k) k (gi p 0) (gr p 1) (gr p 2)))
  refine Tot.bind awake_tot fun r hr => ?_
  subst hr
  refine Tot.f rfl (Tot.bind2 (right_tot p hp) fun r hr hr2 => Tot.cond (fun _ => Tot.bind awake_tot fun r hr => Tot.ret hr) (fun hb => ?_))
  have hrt : r = true := by simpa using hb
  subst hrt
  have h := to_good hp (hr rfl)
  have hlen : (DD p).length ≤ 63 := Nat.le_trans h.ded.len h.len
  have hg := h.ded.good
  refine Tot.bind (make_tot h) fun r hr => ?_
  subst hr
  refine Tot.in0 (Tot.loop (H := fun k q r v (w : List (List C)) => oriellaw18_StratKeeps_l0 (lv k) k (gi p 0) (gr p 1) (gr p 2) q v (mach p).n (mach p).s (mach p).e (DD p) ((DD p).map prow) w (mach p).E (mach p).T) (n := (DD p).length) (fun i w => w.length = (DD p).length) (by omega) (fun w hw => ?_) (fun i w hi hw next => ?_) _ 0 (bases 0 (DD p)) rfl (by omega) (bases_len _ _))
  · refine Tot.step0 (fun k p_ q_ => oriellaw18_StratKeeps_l0_q (lv k) k (gi p 0) (gr p 1) (gr p 2) p_ _ _ _ _ _ _ _ _ _) ?_
    refine Tot.f (decide_eq_false (by omega)) ?_
    refine Tot.in0 (Tot.loop (H := fun k q r v (u : List (List C)) => oriellaw18_StratKeeps_l1 (lv k) k (gi p 0) (gr p 1) (gr p 2) q v (mach p).n (mach p).s (mach p).e (DD p) u w (mach p).E (mach p).T) (n := (DD p).length) (fun i u => u.length = (DD p).length) (by omega) (fun u hu => ?_) (fun i u hi hu next => ?_) _ 0 ((DD p).map prow) rfl (by omega) (by simp))
    · refine Tot.step0 (fun k p_ q_ => oriellaw18_StratKeeps_l1_q (lv k) k (gi p 0) (gr p 1) (gr p 2) p_ _ _ _ _ _ _ _ _ _) ?_
      refine Tot.f (decide_eq_false (by omega)) ?_
      refine Tot.bind (make_tot h) fun r hr => ?_
      subst hr
      refine Tot.bind (items_tot _ _ _ _ _ _ _ _ (DD p) prow rfl (fun _ => rfl) hg (by omega)) fun r hr => ?_
      subst hr
      refine Tot.bind (rmake_tot h) fun r hr => ?_
      subst hr
      refine Tot.bind (ritems_tot _ _ _ _ _ _ _ _ (DD p) rrow rfl (fun _ => rfl) hg (by omega)) fun r hr => ?_
      subst hr
      exact Tot.t (by simp) (Tot.bind hr2 fun r hr => Tot.ret hr)
    · refine Tot.step0 (fun k p_ q_ => oriellaw18_StratKeeps_l1_q (lv k) k (gi p 0) (gr p 1) (gr p 2) p_ _ _ _ _ _ _ _ _ _) ?_
      repeat (refine Tot.t (decide_eq_true (by omega)) ?_)
      exact next _ (by simpa using hu)
  · refine Tot.step0 (fun k p_ q_ => oriellaw18_StratKeeps_l0_q (lv k) k (gi p 0) (gr p 1) (gr p 2) p_ _ _ _ _ _ _ _ _ _) ?_
    repeat (refine Tot.t (decide_eq_true (by omega)) ?_)
    exact next _ (by simpa using hw)
theorem fst_at {D : List (List C)} (hd : ∀ i j, i < j → j < D.length → ¬ Alike true (D.getD i []) (D.getD j [])) {i : Nat} (hi : i < D.length) {r : Int} (h : Fst D.length (fun j => Alike true (D.getD j []) (D.getD i [])) r) : r = i :=
  h.uniq (.inr ⟨i, rfl, hi, Alike.refl _ _, fun j hj => hd j i hj hi⟩)
theorem order_tot (p : List C) (hp : SmR BB p) : Tot (fun k _ _ => (lv k).oriellaw18_StratOrder (gi p 0) (gr p 1) (gr p 2)) (fun r => r = true) := by
  refine oriellaw18_StratOrder_up _ _ _ (Tot.congr ?_ (fun k _ _ => oriellaw18_StratOrder_q (lv k) k (gi p 0) (gr p 1) (gr p 2)))
  refine Tot.bind awake_tot fun r hr => ?_
  subst hr
  refine Tot.f rfl (Tot.bind (right_tot p hp) fun r hr => Tot.cond (fun _ => Tot.bind awake_tot fun r hr => Tot.ret hr) (fun hb => ?_))
  have hrt : r = true := by simpa using hb
  subst hrt
  have h := to_good hp (hr rfl)
  have hd := h.ded
  have hg := hd.good
  have hll := h.len
  have hlen : (DD p).length ≤ 63 := Nat.le_trans hd.len h.len
  refine Tot.bind (make_tot h) fun r hr => ?_
  subst hr
  refine Tot.in0 (Tot.loop (H := fun k q r v (w : Int) => oriellaw18_StratOrder_l0 (lv k) k (gi p 0) (gr p 1) (gr p 2) q w v (mach p).n (mach p).s (mach p).e (DD p) ((DD p).map prow) (bases 0 (DD p)) (mach p).E (mach p).T) (n := (DD p).length) (fun i w => w = sumn ((DD p).take i)) (by omega) (fun w hw => ?_) (fun i w hi hw next => ?_) _ 0 0 rfl (by omega) rfl)
  · refine Tot.step0 (fun k p_ q_ => oriellaw18_StratOrder_l0_q (lv k) k (gi p 0) (gr p 1) (gr p 2) p_ _ _ _ _ _ _ _ _ _ _) ?_
    rw [List.length_map]
    refine Tot.f (decide_eq_false (by omega)) (Tot.bind (rinn_tot h) fun r hr => ?_)
    subst hr
    refine Tot.in0 (Tot.loop (H := fun k q r v (_ : Unit) => oriellaw18_StratOrder_l2 (lv k) k (gi p 0) (gr p 1) (gr p 2) q w v (mach p).n (mach p).s (mach p).e (inn 16 true p) (DD p) ((DD p).map prow) (bases 0 (DD p)) (mach p).E (mach p).T) (n := (inn 16 true p).length) (fun i _ => True) (by omega) (fun _ _ => ?_) (fun i _ hi _ next => ?_) _ 0 () rfl (by omega) trivial)
    · refine Tot.step0 (fun k p_ q_ => oriellaw18_StratOrder_l2_q (lv k) k (gi p 0) (gr p 1) (gr p 2) p_ _ _ _ _ _ _ _ _ _ _ _) ?_
      refine Tot.f (decide_eq_false (by omega)) (Tot.bind (items_tot _ _ _ _ _ _ _ _ (DD p) prow rfl (fun _ => rfl) hg (by omega)) fun r hr => ?_)
      subst hr
      rw [List.take_length] at hw
      subst hw
      refine Tot.t (by simp) (Tot.ret (decide_eq_true ?_))
      have := hd.len
      omega
    · refine Tot.step0 (fun k p_ q_ => oriellaw18_StratOrder_l2_q (lv k) k (gi p 0) (gr p 1) (gr p 2) p_ _ _ _ _ _ _ _ _ _ _ _) ?_
      rw [Int.toNat_natCast]
      repeat (refine Tot.t (decide_eq_true (by omega)) ?_)
      have hx : (inn 16 true p).getD i [] ∈ inn 16 true p := getD_mem hi
      refine Tot.bind (pfind_tot (DD p) _ _ _ _ _ _ _ _ hg (by omega) (h.inn _ hx).sm) fun r hr => Tot.f (decide_eq_false ?_) (next () trivial)
      obtain ⟨z, hz, ha⟩ := hd.al _ hx
      obtain ⟨j, hj, rfl⟩ := mem_getD hz
      rcases hr with ⟨_, e1⟩ | ⟨m, e, _⟩
      · exact absurd ha (e1 j hj)
      · omega
  · subst hw
    refine Tot.step0 (fun k p_ q_ => oriellaw18_StratOrder_l0_q (lv k) k (gi p 0) (gr p 1) (gr p 2) p_ _ _ _ _ _ _ _ _ _ _) ?_
    have e1 : ((DD p).map prow).getD i [] = prow ((DD p).getD i []) := by simp [List.getD_eq_getElem?_getD, hi]
    have hgi := hg _ (getD_mem (d := []) hi)
    have b1 := sumn_bd (mem_take hg i)
    have b2 := hgi.nst
    have b3 : ((DD p).take i).length ≤ i := by simp; omega
    rw [Int.toNat_natCast, List.length_map, bases_len, bases_get _ _ _ hi, e1, Int.zero_add]
    repeat (refine Tot.t (decide_eq_true (by omega)) ?_)
    refine Tot.f (by show (!(sumn ((DD p).take i) == sumn ((DD p).take i))) = false; simp) ?_
    repeat (refine Tot.t (decide_eq_true (by omega)) ?_)
    refine Tot.bind (pfind_tot (DD p) _ _ _ _ _ _ _ _ hg (by omega) hgi.sm) fun r hr => ?_
    have hr := fst_at hd.dif hi hr
    subst hr
    refine Tot.f (by simp) ?_
    repeat (refine Tot.t (decide_eq_true (by omega)) ?_)
    refine Tot.bind (rinn_tot hgi) fun r hr => ?_
    subst hr
    rw [show gi (prow ((DD p).getD i [])) 0 = nst ((DD p).getD i []) from rfl, wrap_id (x := sumn ((DD p).take i) + nst ((DD p).getD i [])) (by omega) (by omega)]
    have hll2 := hgi.len
    refine Tot.in1 (Tot.loop (H := fun k q r v (_ : Unit) => oriellaw18_StratOrder_l1 (lv k) k (gi p 0) (gr p 1) (gr p 2) q r (sumn ((DD p).take i) + nst ((DD p).getD i [])) (i : Int) v (mach p).n (mach p).s (mach p).e (inn 16 true ((DD p).getD i [])) (DD p) ((DD p).map prow) (bases 0 (DD p)) (mach p).E (mach p).T) (n := (inn 16 true ((DD p).getD i [])).length) (fun i _ => True) (by omega) (fun _ _ => ?_) (fun j _ hj _ nx => ?_) _ 0 () rfl (by omega) trivial)
    · refine Tot.step1 (fun k p_ q_ => oriellaw18_StratOrder_l1_q (lv k) k (gi p 0) (gr p 1) (gr p 2) p_ q_ _ _ _ _ _ _ _ _ _ _ _ _) ?_
      refine Tot.f (decide_eq_false (by omega)) (next _ ?_)
      rw [take_succ hi, sumn_app]
      simp [sumn]
    · refine Tot.step1 (fun k p_ q_ => oriellaw18_StratOrder_l1_q (lv k) k (gi p 0) (gr p 1) (gr p 2) p_ q_ _ _ _ _ _ _ _ _ _ _ _ _) ?_
      rw [Int.toNat_natCast]
      repeat (refine Tot.t (decide_eq_true (by omega)) ?_)
      have hx : (inn 16 true ((DD p).getD i [])).getD j [] ∈ inn 16 true ((DD p).getD i []) := getD_mem hj
      refine Tot.bind (pfind_tot (DD p) _ _ _ _ _ _ _ _ hg (by omega) (hgi.inn _ hx).sm) fun r hr => ?_
      obtain ⟨m, hm, ha⟩ := hd.ahead i hi _ hx
      have hr' : 0 ≤ r ∧ r < i := by
        rcases hr with ⟨_, e1⟩ | ⟨m', e, g1, g2, g3⟩
        · exact absurd ha (e1 m (by omega))
        · refine ⟨by omega, ?_⟩
          rcases Nat.lt_or_ge m m' with g | g
          · exact absurd ha (g3 m g)
          · omega
      exact Tot.f (decide_eq_false (by omega)) (Tot.f (decide_eq_false (by omega)) (nx () trivial))
end Go.Vm.T
/- A machine's edges lead from states to states; what is handed in stays. -/
set_option linter.unusedVariables false
set_option linter.unusedSimpArgs false
namespace Go.Vm.T
open Go Go.Vm Go.Proofs
attribute [local irreducible] lv oriellaw18_StratHolds_b oriellaw18_StratHolds_l0 oriellaw18_StratHolds_l1 oriellaw18_StratOrder_b oriellaw18_StratOrder_l0 oriellaw18_StratOrder_l1 oriellaw18_StratOrder_l2 oriellaw18_StratKeeps_b oriellaw18_StratKeeps_l0 oriellaw18_StratKeeps_l1 oriellaw18_awake_b strat_Make_b strat_Make_l0 strat_Make_l1 strat_maker_path_b strat_maker_path_l0 strat_maker_path_l1 strat_maker_filter_b strat_maker_filter_l0 strat_maker_filter_l1 api_Path_b api_Path_2_b api_Path_2_l0 strat_maker_filter_1_b path_Same_b api_Path_3_b api_Path_3_l0 prog_Compile_b api_Filter_b api_Filter_l0 prog_maker_path_b path_sameFilter_b prog_maker_step_b prog_maker_seq_b prog_maker_seq_l0 prog_maker_alt_b prog_maker_alt_l0 prog_maker_alt_l1 prog_maker_alt_l2 prog_maker_alt_l3 prog_maker_state_b prog_maker_lay_b prog_maker_free_b strat_Items_b strat_Items_l0 orielref12_Right_b strat_Find_b orielref12_Size_b api_Path_4_b api_Path_4_l0 orielref12_size_b orielref12_size_l0 orielref12_size_l1 strat_Find_1_b orielref12_sizeFilter_b orielref12_sizeFilter_l0 orielref12_sizeFilter_l1 strat_Holds_b orielref12_path_b orielref12_path_l0 orielref12_path_l1 strat_node_holds_b orielref12_filter_b orielref12_filter_l0 orielref12_filter_l1 orielref12_filter_l2 orielref12_filter_l3 orielref12_filter_l4 strat_node_attr_b strat_node_attr_l0 api_Filter_2_b api_Filter_3_b api_Path_5_b orielref12_named_b orielref04_Right_b orielref04_Right_l0 api_Filter_4_b api_Filter_4_l0 api_Filter_5_b api_Filter_5_l0 api_Path_6_b api_Path_6_l0 orielref03_Plain_b orielref03_Plain_l0 orielref01_All_b orielref01_All_l0 orielref01_All_l1 strat_node_fails_b strat_node_holds_2_b strat_node_leads_b orielref02_Start_b orielref01_Rune_b orielref01_Rune_l0 strat_node_attr_2_b strat_node_attr_2_l0 orielref01_Put_b orielref01_cut_b orielref01_cut_l0 orielref01_cut_l1 orielref01_cut_l2 orielref01_cut_l3 orielref01_cut_l4 orielref01_value_b orielref01_value_l0 orielref01_value_l1 orielref09_Right_b orielref09_Right_l0 orielref09_Right_l1 orielref09_Right_l2 orielref18_Inner_b orielref18_Inner_l0 orielref18_Inner_l1 orielref18_Inner_l2 orielref18_Inner_l3 orielref18_Make_b orielref18_Make_l0 orielref18_Make_l1 orielref02_Char_b orielref02_Part_b orielref01_begins_b orielref01_begins_l0 orielref09_named_b orielref18_within_b orielref18_within_l0 orielref18_within_l1 orielref17_Compile_b orielref02_Blank_b orielref17_add_b orielref17_add_l0 orielref17_add_l1 orielref17_add_l2 orielref17_add_l3 orielref17_add_l4 orielref17_add_l5 orielref17_add_l6 orielref17_edge_b orielref09_Few_b orielref09_Few_l0 orielref09_Few_l1 strat_Tests_b strat_Tests_l0 strat_Tests_l1 orielref05_Find_b orielref05_Find_l0 orielref18_Find_b orielref18_Find_l0 orielref12_Same_b orielref12_Same_l0 orielref12_Same_l1 orielref12_SameFilter_b orielref12_SameFilter_l0 orielref12_SameFilter_l1 oriellaw18_bits_b oriellaw18_bits_l0 oriellaw18_bits_l1 orielref18_Items_b orielref18_Items_l0 orielref12_Filters_b orielref12_Filters_l0 orielref12_Filters_l1 orielref12_Filters_l2 orielref12_Filters_l3 orielref12_within_b orielref12_within_l0 orielref12_within_l1 orielref18_Holds_b orielref18_Holds_l0 orielref18_Holds_l1
def EdI (lo hi tl th : Int) (r : List C) : Prop := lo ≤ gi r 0 ∧ gi r 0 < hi ∧ lo ≤ gi r 1 ∧ gi r 1 < hi ∧ (gi r 2 = 3 → tl ≤ gi r 3 ∧ gi r 3 < th)
theorem EdI.mono {lo hi tl th lo' hi' tl' th' : Int} {r : List C} (h : EdI lo hi tl th r) (h1 : lo' ≤ lo) (h2 : hi ≤ hi') (h3 : tl' ≤ tl) (h4 : th ≤ th') : EdI lo' hi' tl' th' r := by
  obtain ⟨a, b, c, d, e⟩ := h
  exact ⟨by omega, by omega, by omega, by omega, fun h => by have := e h; omega⟩
theorem edI_st4 {lo hi tl th a b k t : Int} (h1 : lo ≤ a) (h2 : a < hi) (h3 : lo ≤ b) (h4 : b < hi) (h5 : k = 3 → tl ≤ t ∧ t < th) : EdI lo hi tl th (st4 a b k t) := ⟨h1, h2, h3, h4, h5⟩
structure Shp (n t : Int) (m : Mk) : Prop where
  ed : ∀ r, r ∈ m.E → EdI n m.n t (t + m.T.length) r
  s0 : n ≤ m.s
  s1 : m.s < m.n
  e0 : n ≤ m.e
  e1 : m.e < m.n
structure ShA (n t s : Int) (m : Al) : Prop where
  ed : ∀ r, r ∈ m.E → EdI n m.n t (t + m.T.length) r
  es : ∀ b, b ∈ m.es → n ≤ b ∧ b < m.n
  s0 : n ≤ s
  s1 : s < m.n
theorem seqF_shp {f : List C → Int → Int → Mk} {n t : Int} : ∀ {l : List (List C)} {m : Mk}, (∀ r, r ∈ l → ∀ n t, Shp n t (f r n t)) → Shp n t m → Shp n t (seqF f t l m) := by
  intro l
  induction l with
  | nil => intro m _ h; exact h
  | cons r l ih =>
    intro m hf hm
    have y := hf r List.mem_cons_self m.n (t + m.T.length)
    have h1 := hm.s0
    have h2 := hm.s1
    have h3 := hm.e0
    have h4 := hm.e1
    have h5 := y.s0
    have h6 := y.s1
    have h7 := y.e0
    have h8 := y.e1
    refine ih (fun r hr => hf r (List.mem_cons_of_mem _ hr)) ⟨fun x hx => ?_, h1, by show m.s < (f r m.n (t + m.T.length)).n; omega, by show n ≤ (f r m.n (t + m.T.length)).e; omega, h8⟩
    have hT : ((m.T ++ (f r m.n (t + m.T.length)).T).length : Int) = m.T.length + (f r m.n (t + m.T.length)).T.length := by simp
    show EdI n (f r m.n (t + m.T.length)).n t (t + ((m.T ++ (f r m.n (t + m.T.length)).T).length : Int)) x
    rw [hT]
    rcases List.mem_append.1 hx with hx | hx
    · exact (hm.ed x hx).mono (by omega) (by omega) (by omega) (by omega)
    · rcases List.mem_append.1 hx with hx | hx
      · exact (y.ed x hx).mono (by omega) (by omega) (by omega) (by omega)
      · rw [List.mem_singleton.1 hx]
        exact edI_st4 (by omega) (by omega) (by omega) (by omega) (fun h => by cases h)
theorem altF_shp {f : List C → Int → Int → Mk} {n t s : Int} : ∀ {l : List (List C)} {m : Al}, (∀ r, r ∈ l → ∀ n t, Shp n t (f r n t)) → ShA n t s m → ShA n t s (altF f t s l m) := by
  intro l
  induction l with
  | nil => intro m _ h; exact h
  | cons r l ih =>
    intro m hf hm
    have y := hf r List.mem_cons_self m.n (t + m.T.length)
    have h1 := hm.s0
    have h2 := hm.s1
    have h5 := y.s0
    have h6 := y.s1
    have h7 := y.e0
    have h8 := y.e1
    refine ih (fun r hr => hf r (List.mem_cons_of_mem _ hr)) ⟨fun x hx => ?_, fun b hb => ?_, h1, by show s < (f r m.n (t + m.T.length)).n; omega⟩
    · have hT : ((m.T ++ (f r m.n (t + m.T.length)).T).length : Int) = m.T.length + (f r m.n (t + m.T.length)).T.length := by simp
      show EdI n (f r m.n (t + m.T.length)).n t (t + ((m.T ++ (f r m.n (t + m.T.length)).T).length : Int)) x
      rw [hT]
      rcases List.mem_append.1 hx with hx | hx
      · exact (hm.ed x hx).mono (by omega) (by omega) (by omega) (by omega)
      · rcases List.mem_append.1 hx with hx | hx
        · exact (y.ed x hx).mono (by omega) (by omega) (by omega) (by omega)
        · rw [List.mem_singleton.1 hx]
          exact edI_st4 (by omega) (by omega) (by omega) (by omega) (fun h => by cases h)
    · show n ≤ b ∧ b < (f r m.n (t + m.T.length)).n
      rcases List.mem_append.1 hb with hb | hb
      · have := hm.es b hb; omega
      · rw [List.mem_singleton.1 hb]; omega
theorem mk_shp : ∀ (d : Nat) (op : Int) (subs tests : List (List C)) (n t : Int), POk d op subs tests → Shp n t (mk d op subs tests n t) := by
  intro d
  induction d with
  | zero => intro op subs tests n t h; exact h.elim
  | succ d ih =>
    intro op subs tests n t h
    obtain ⟨h1, h7, h45, h6, h77, ht, hl, h0, hsub⟩ := h
    have hf : ∀ r, r ∈ subs → ∀ n t, Shp n t (fr d r n t) := fun r hr n t => ih _ _ _ n t (hsub r hr)
    by_cases e4 : op = 4
    · cases subs with
      | nil => have := h45 (.inl e4); simp at this
      | cons r l => rw [mk_4 e4]; exact seqF_shp (fun r hr => hf r (List.mem_cons_of_mem _ hr)) (hf r List.mem_cons_self n t)
    · by_cases e5 : op = 5
      · rw [mk_5 e5]
        have a := altF_shp (l := subs) (n := n) (t := t) (s := n) (m := ⟨n + 1, [], [], []⟩) hf ⟨fun r hr => (by cases hr), fun b hb => (by cases hb), Int.le_refl _, by show n < n + 1; omega⟩
        have g1 := a.s1
        refine ⟨fun x hx => ?_, Int.le_refl _, by show n < (altF _ _ _ _ _).n + 1; omega, by show n ≤ (altF _ _ _ _ _).n; omega, by show (altF _ _ _ _ _).n < (altF _ _ _ _ _).n + 1; omega⟩
        rcases List.mem_append.1 hx with hx | hx
        · exact (a.ed x hx).mono (Int.le_refl _) (by show _ ≤ (altF _ _ _ _ _).n + 1; omega) (Int.le_refl _) (Int.le_refl _)
        · obtain ⟨b, hb, rfl⟩ := List.mem_map.1 hx
          have := a.es b hb
          exact edI_st4 (by omega) (by show b < (altF _ _ _ _ _).n + 1; omega) (by omega) (by show (altF _ _ _ _ _).n < (altF _ _ _ _ _).n + 1; omega) (fun h => by cases h)
      · by_cases e6 : op = 6
        · cases subs with
          | nil => have := h6 e6; simp at this
          | cons r l =>
            rw [mk_6 e6]
            have y := hf r List.mem_cons_self (n + 1) t
            have g1 := y.s0
            have g2 := y.s1
            have g3 := y.e0
            have g4 := y.e1
            refine ⟨fun x hx => ?_, Int.le_refl _, by show n < (fr d r (n + 1) t).n; omega, Int.le_refl _, by show n < (fr d r (n + 1) t).n; omega⟩
            rcases List.mem_append.1 hx with hx | hx
            · rcases List.mem_append.1 hx with hx | hx
              · exact (y.ed x hx).mono (by omega) (Int.le_refl _) (Int.le_refl _) (Int.le_refl _)
              · rw [List.mem_singleton.1 hx]
                exact edI_st4 (Int.le_refl _) (by show n < (fr d r (n + 1) t).n; omega) (by omega) g2 (fun h => by cases h)
            · rw [List.mem_singleton.1 hx]
              exact edI_st4 (by omega) g4 (Int.le_refl _) (by show n < (fr d r (n + 1) t).n; omega) (fun h => by cases h)
        · by_cases e7 : op = 7
          · rw [mk_7 e7]
            have htl := h77.1 e7
            refine ⟨fun x hx => ?_, Int.le_refl _, by show n < n + 2; omega, by show n ≤ n + 1; omega, by show n + 1 < n + 2; omega⟩
            rw [List.mem_singleton.1 hx]
            exact edI_st4 (Int.le_refl _) (by show n < n + 2; omega) (by omega) (by show n + 1 < n + 2; omega) (fun _ => ⟨Int.le_refl _, by show t < t + (tests.length : Int); omega⟩)
          · rw [mk_0 e4 e5 e6 e7]
            refine ⟨fun x hx => ?_, Int.le_refl _, by show n < n + 2; omega, by show n ≤ n + 1; omega, by show n + 1 < n + 2; omega⟩
            rw [List.mem_singleton.1 hx]
            refine edI_st4 (Int.le_refl _) (by show n < n + 2; omega) (by omega) (by show n + 1 < n + 2; omega) (fun h => ?_)
            unfold kindOf at h
            split at h
            · cases h
            · split at h <;> cases h
end Go.Vm.T
/- Whether a filter holds: the program and the document answer the same. -/
set_option linter.unusedVariables false
set_option linter.unusedSimpArgs false
namespace Go.Vm.T
open Go Go.Vm Go.Proofs
attribute [local irreducible] lv oriellaw18_StratHolds_b oriellaw18_StratHolds_l0 oriellaw18_StratHolds_l1 oriellaw18_StratOrder_b oriellaw18_StratOrder_l0 oriellaw18_StratOrder_l1 oriellaw18_StratOrder_l2 oriellaw18_StratKeeps_b oriellaw18_StratKeeps_l0 oriellaw18_StratKeeps_l1 oriellaw18_awake_b strat_Make_b strat_Make_l0 strat_Make_l1 strat_maker_path_b strat_maker_path_l0 strat_maker_path_l1 strat_maker_filter_b strat_maker_filter_l0 strat_maker_filter_l1 api_Path_b api_Path_2_b api_Path_2_l0 strat_maker_filter_1_b path_Same_b api_Path_3_b api_Path_3_l0 prog_Compile_b api_Filter_b api_Filter_l0 prog_maker_path_b path_sameFilter_b prog_maker_step_b prog_maker_seq_b prog_maker_seq_l0 prog_maker_alt_b prog_maker_alt_l0 prog_maker_alt_l1 prog_maker_alt_l2 prog_maker_alt_l3 prog_maker_state_b prog_maker_lay_b prog_maker_free_b strat_Items_b strat_Items_l0 orielref12_Right_b strat_Find_b orielref12_Size_b api_Path_4_b api_Path_4_l0 orielref12_size_b orielref12_size_l0 orielref12_size_l1 strat_Find_1_b orielref12_sizeFilter_b orielref12_sizeFilter_l0 orielref12_sizeFilter_l1 strat_Holds_b orielref12_path_b orielref12_path_l0 orielref12_path_l1 strat_node_holds_b orielref12_filter_b orielref12_filter_l0 orielref12_filter_l1 orielref12_filter_l2 orielref12_filter_l3 orielref12_filter_l4 strat_node_attr_b strat_node_attr_l0 api_Filter_2_b api_Filter_3_b api_Path_5_b orielref12_named_b orielref04_Right_b orielref04_Right_l0 api_Filter_4_b api_Filter_4_l0 api_Filter_5_b api_Filter_5_l0 api_Path_6_b api_Path_6_l0 orielref03_Plain_b orielref03_Plain_l0 orielref01_All_b orielref01_All_l0 orielref01_All_l1 strat_node_fails_b strat_node_holds_2_b strat_node_leads_b orielref02_Start_b orielref01_Rune_b orielref01_Rune_l0 strat_node_attr_2_b strat_node_attr_2_l0 orielref01_Put_b orielref01_cut_b orielref01_cut_l0 orielref01_cut_l1 orielref01_cut_l2 orielref01_cut_l3 orielref01_cut_l4 orielref01_value_b orielref01_value_l0 orielref01_value_l1 orielref09_Right_b orielref09_Right_l0 orielref09_Right_l1 orielref09_Right_l2 orielref18_Inner_b orielref18_Inner_l0 orielref18_Inner_l1 orielref18_Inner_l2 orielref18_Inner_l3 orielref18_Make_b orielref18_Make_l0 orielref18_Make_l1 orielref02_Char_b orielref02_Part_b orielref01_begins_b orielref01_begins_l0 orielref09_named_b orielref18_within_b orielref18_within_l0 orielref18_within_l1 orielref17_Compile_b orielref02_Blank_b orielref17_add_b orielref17_add_l0 orielref17_add_l1 orielref17_add_l2 orielref17_add_l3 orielref17_add_l4 orielref17_add_l5 orielref17_add_l6 orielref17_edge_b orielref09_Few_b orielref09_Few_l0 orielref09_Few_l1 strat_Tests_b strat_Tests_l0 strat_Tests_l1 orielref05_Find_b orielref05_Find_l0 orielref18_Find_b orielref18_Find_l0 orielref12_Same_b orielref12_Same_l0 orielref12_Same_l1 orielref12_SameFilter_b orielref12_SameFilter_l0 orielref12_SameFilter_l1 oriellaw18_bits_b oriellaw18_bits_l0 oriellaw18_bits_l1 orielref18_Items_b orielref18_Items_l0 orielref12_Filters_b orielref12_Filters_l0 orielref12_Filters_l1 orielref12_Filters_l2 orielref12_Filters_l3 orielref12_within_b orielref12_within_l0 orielref12_within_l1 orielref18_Holds_b orielref18_Holds_l0 orielref18_Holds_l1
structure Ctx (D B K ea bits : List (List C)) : Prop where
  good : ∀ x, x ∈ D → Good x
  dl : D.length ≤ 1000
  bl : B.length = D.length
  kl : K.length = D.length
  at_ : ∀ i, i < D.length → 0 ≤ gi (K.getD i []) 0 + gi (B.getD i []) 1 ∧ gi (K.getD i []) 0 + gi (B.getD i []) 1 < bits.length
  bits : bits.length ≤ 1000000
  al : ea.length ≤ 1048576
theorem Fst.ex (n : Nat) (p : Nat → Prop) : ∃ r, Fst n p r := by
  induction n with
  | zero => exact ⟨-1, .inl ⟨rfl, fun j h => by omega⟩⟩
  | succ n ih =>
    obtain ⟨r, hr⟩ := ih
    rcases hr with ⟨e, h⟩ | ⟨i, e, h1, h2, h3⟩
    · by_cases hp : p n
      · exact ⟨n, .inr ⟨n, rfl, by omega, hp, h⟩⟩
      · exact ⟨-1, .inl ⟨rfl, fun j hj => by
          rcases Nat.lt_or_ge j n with g | g
          · exact h j g
          · rw [show j = n by omega]; exact hp⟩⟩
    · exact ⟨r, .inr ⟨i, e, by omega, h2, h3⟩⟩
section
variable {D B K E T ea bits : List (List C)} {n s e ek : Int} {e1 e2 et : ByteArray}
theorem leads2 (h : Ctx D B K ea bits) (x : List C) (hx : SmR BB x) : ∃ b, Tot (fun k _ _ => (lv k).strat_node_leads D B K n s e E T ek e1 e2 ea et bits (gi x 0) (gr x 1) (gr x 2)) (fun r => r = b) ∧
    Tot (fun k _ _ => ((lv k).orielref18_Find D B K n s e E T (gi x 0) (gr x 1) (gr x 2)).bind fun r2 => cond (decide (r2 ≥ (0 : Int))) (cond (decide ((0 : Int) ≤ r2)) (cond (decide (r2 < (K.length : Int))) (cond (decide ((0 : Int) ≤ r2)) (cond (decide (r2 < (B.length : Int))) (cond (decide ((0 : Int) ≤ IntKind.i64.wrap ((gi (K.getD r2.toNat []) 0) + (gi (B.getD r2.toNat []) 1)))) (cond (decide (IntKind.i64.wrap ((gi (K.getD r2.toNat []) 0) + (gi (B.getD r2.toNat []) 1)) < (bits.length : Int))) (some ((gi (bits.getD ((IntKind.i64.wrap ((gi (K.getD r2.toNat []) 0) + (gi (B.getD r2.toNat []) 1))).toNat) []) 0) == (1 : Int))) none) none) none) none) none) none) (some false)) (fun r => r = b) := by
  obtain ⟨r, hr⟩ := Fst.ex D.length (fun j => Alike true (D.getD j []) x)
  have key : ∀ {g : Nat → Nat → Nat → Option Int}, Tot g (Fst D.length (fun j => Alike true (D.getD j []) x)) → Tot (fun k p q => (g k p q).bind fun r2 => cond (decide (r2 ≥ (0 : Int))) (cond (decide ((0 : Int) ≤ r2)) (cond (decide (r2 < (K.length : Int))) (cond (decide ((0 : Int) ≤ r2)) (cond (decide (r2 < (B.length : Int))) (cond (decide ((0 : Int) ≤ IntKind.i64.wrap ((gi (K.getD r2.toNat []) 0) + (gi (B.getD r2.toNat []) 1)))) (cond (decide (IntKind.i64.wrap ((gi (K.getD r2.toNat []) 0) + (gi (B.getD r2.toNat []) 1)) < (bits.length : Int))) (some ((gi (bits.getD ((IntKind.i64.wrap ((gi (K.getD r2.toNat []) 0) + (gi (B.getD r2.toNat []) 1))).toNat) []) 0) == (1 : Int))) none) none) none) none) none) none) (some false)) (fun r' => r' = (decide (0 ≤ r) && (gi (bits.getD ((gi (K.getD r.toNat []) 0 + gi (B.getD r.toNat []) 1).toNat) []) 0 == (1 : Int)))) := by
    intro g hg
    refine Tot.bind hg fun r' hr' => ?_
    have hrr := hr'.uniq hr
    subst hrr
    refine Tot.cond (fun h0 => ?_) (fun h0 => Tot.ret ?_)
    · have h0 := of_decide_eq_true h0
      obtain ⟨i, rfl, hi⟩ : ∃ i : Nat, r' = i ∧ i < D.length := by
        rcases hr with ⟨e', _⟩ | ⟨i, e', g, _⟩
        · omega
        · exact ⟨i, e', g⟩
      have hat := h.at_ i hi
      have hb := h.bits
      have hbl := h.bl
      have hkl := h.kl
      rw [Int.toNat_natCast, wrap_id (x := gi (K.getD i []) 0 + gi (B.getD i []) 1) (by omega) (by omega)]
      refine Tot.t (decide_eq_true (by omega)) (Tot.t (decide_eq_true (by omega)) (Tot.t (decide_eq_true (by omega)) (Tot.t (decide_eq_true (by omega)) (Tot.t (decide_eq_true (by omega)) (Tot.t (decide_eq_true (by omega)) (Tot.ret ?_))))))
      rw [decide_eq_true (show (0 : Int) ≤ (i : Int) by omega)]
      rfl
    · rw [show decide (0 ≤ r') = false from h0]
      rfl
  refine ⟨_, ?_, key (rfind_tot D B K n s e E T x h.good (by have := h.dl; omega) hx)⟩
  refine strat_node_leads_up _ _ _ _ _ _ _ _ _ _ _ _ _ _ _ _ _ (Tot.congr ?_ (fun k _ _ => strat_node_leads_q (lv k) k D B K n s e E T ek e1 e2 ea et bits (gi x 0) (gr x 1) (gr x 2)))
  exact key (pfind_tot D B K n s e E T x h.good (by have := h.dl; omega) hx)
/-- the first attribute of a name -/
def Af (ea : List (List C)) (n1 n2 : ByteArray) : Int → Prop := Fst ea.length (fun j => gs (ea.getD j []) 0 = n1 ∧ gs (ea.getD j []) 1 = n2)
def av (ea : List (List C)) (r : Int) : ByteArray := if r = -1 then ⟨#[]⟩ else gs (ea.getD r.toNat []) 2
def ab (ek : Int) (r : Int) : Bool := if r = -1 then false else ek == 1
theorem attr2_tot (h : Ctx D B K ea bits) (n1 n2 : ByteArray) {r : Int} (hr : Af ea n1 n2 r) : Tot (fun k _ _ => (lv k).strat_node_attr_2 D B K n s e E T ek e1 e2 ea et bits n1 n2) (fun x => x = (av ea r, ab ek r)) := by
  have hal := h.al
  refine strat_node_attr_2_up _ _ _ _ _ _ _ _ _ _ _ _ _ _ _ _ (Tot.congr ?_ (fun k _ _ => strat_node_attr_2_q (lv k) k D B K n s e E T ek e1 e2 ea et bits n1 n2))
  refine Tot.in0 (Tot.loop (H := fun k p q v (_ : Unit) => strat_node_attr_2_l0 (lv k) k D B K n s e E T ek e1 e2 ea et bits n1 n2 p v) (n := ea.length) (fun i _ => ∀ j, j < i → ¬ (gs (ea.getD j []) 0 = n1 ∧ gs (ea.getD j []) 1 = n2)) (by omega) (fun _ hh => ?_) (fun i _ hi hh next => ?_) _ 0 () rfl (by omega) (fun j hj => by omega))
  · refine Tot.step0 (fun k p_ q_ => strat_node_attr_2_l0_q (lv k) k D B K n s e E T ek e1 e2 ea et bits n1 n2 p_ _) ?_
    have : r = -1 := hr.uniq (.inl ⟨rfl, hh⟩)
    subst this
    exact Tot.f (decide_eq_false (by omega)) (Tot.ret rfl)
  · refine Tot.step0 (fun k p_ q_ => strat_node_attr_2_l0_q (lv k) k D B K n s e E T ek e1 e2 ea et bits n1 n2 p_ _) ?_
    rw [Int.toNat_natCast]
    repeat (refine Tot.t (decide_eq_true (by omega)) ?_)
    refine Tot.cond (fun hc => Tot.ret ?_) (fun hc => next () (fun j hj => ?_))
    · have : r = i := hr.uniq (.inr ⟨i, rfl, hi, name_eq.1 hc, hh⟩)
      subst this
      unfold av ab
      rw [if_neg (by omega), if_neg (by omega), Int.toNat_natCast]
    · rcases Nat.lt_or_ge j i with g | g
      · exact hh j g
      · rw [show j = i by omega]
        intro hb
        rw [name_eq.2 hb] at hc
        cases hc
theorem attr_tot (h : Ctx D B K ea bits) (n1 n2 : ByteArray) {r : Int} (hr : Af ea n1 n2 r) : Tot (fun k _ _ => (lv k).strat_node_attr D B K n s e E T ek e1 e2 ea et bits n1 n2) (fun x => x = (av ea r, ab ek r, D, B, K, n, s, e, E, T, ek, e1, e2, ea, et, bits)) := by
  have hal := h.al
  refine strat_node_attr_up _ _ _ _ _ _ _ _ _ _ _ _ _ _ _ _ (Tot.congr ?_ (fun k _ _ => strat_node_attr_q (lv k) k D B K n s e E T ek e1 e2 ea et bits n1 n2))
  refine Tot.in0 (Tot.loop (H := fun k p q v (_ : Unit) => strat_node_attr_l0 (lv k) k D B K n s e E T ek e1 e2 ea et bits n1 n2 p v) (n := ea.length) (fun i _ => ∀ j, j < i → ¬ (gs (ea.getD j []) 0 = n1 ∧ gs (ea.getD j []) 1 = n2)) (by omega) (fun _ hh => ?_) (fun i _ hi hh next => ?_) _ 0 () rfl (by omega) (fun j hj => by omega))
  · refine Tot.step0 (fun k p_ q_ => strat_node_attr_l0_q (lv k) k D B K n s e E T ek e1 e2 ea et bits n1 n2 p_ _) ?_
    have : r = -1 := hr.uniq (.inl ⟨rfl, hh⟩)
    subst this
    exact Tot.f (decide_eq_false (by omega)) (Tot.ret rfl)
  · refine Tot.step0 (fun k p_ q_ => strat_node_attr_l0_q (lv k) k D B K n s e E T ek e1 e2 ea et bits n1 n2 p_ _) ?_
    rw [Int.toNat_natCast]
    repeat (refine Tot.t (decide_eq_true (by omega)) ?_)
    refine Tot.cond (fun hc => Tot.ret ?_) (fun hc => next () (fun j hj => ?_))
    · have : r = i := hr.uniq (.inr ⟨i, rfl, hi, name_eq.1 hc, hh⟩)
      subst this
      unfold av ab
      rw [if_neg (by omega), if_neg (by omega), Int.toNat_natCast]
    · rcases Nat.lt_or_ge j i with g | g
      · exact hh j g
      · rw [show j = i by omega]
        intro hb
        rw [name_eq.2 hb] at hc
        cases hc
/-- both answer the same -/
structure HH (D B K : List (List C)) (n s e : Int) (E T : List (List C)) (ek : Int) (e1 e2 : ByteArray) (ea : List (List C)) (et : ByteArray) (bits : List (List C)) (f : List C) (b : Bool) : Prop where
  p2 : Tot (fun k _ _ => (lv k).strat_node_holds_2 D B K n s e E T ek e1 e2 ea et bits (gi f 0) (gs f 1) (gs f 2) (gs f 3) (gr f 4) (gr f 5)) (fun r => r = b)
  p1 : Tot (fun k _ _ => (lv k).strat_node_holds D B K n s e E T ek e1 e2 ea et bits (gi f 0) (gs f 1) (gs f 2) (gs f 3) (gr f 4) (gr f 5)) (fun r => r = (b, D, B, K, n, s, e, E, T, ek, e1, e2, ea, et, bits))
  rf : Tot (fun k _ _ => (lv k).orielref18_Holds D B K n s e E T (gi f 0) (gs f 1) (gs f 2) (gs f 3) (gr f 4) (gr f 5) ek e1 e2 ea et bits) (fun r => r = b)
open Classical in
theorem hold : ∀ d, d ≤ 16 → Ctx D B K ea bits → ∀ (f : List C), ok d false f → SmR BB f → ∃ b, HH D B K n s e E T ek e1 e2 ea et bits f b := by
  intro d
  induction d with
  | zero => intro _ _ f h; exact h.elim
  | succ d ih =>
    intro hd hc f hf hs
    have ih := ih (by omega) hc
    obtain ⟨h1, h11, h8, h64, h910, h0, h511, h51, h9, h10⟩ := hf
    have hl4 : (gr f 4).length ≤ 1048576 := (hs.gr 4).1
    have hl5 : (gr f 5).length ≤ 1048576 := (hs.gr 5).1
    obtain ⟨bs, hbs⟩ : ∃ bs : Nat → Bool, ∀ i, i < (gr f 4).length → HH D B K n s e E T ek e1 e2 ea et bits ((gr f 4).getD i []) (bs i) := by
      have : ∀ i, ∃ b, i < (gr f 4).length → HH D B K n s e E T ek e1 e2 ea et bits ((gr f 4).getD i []) b := fun i => by
        by_cases hi : i < (gr f 4).length
        · obtain ⟨b, hb⟩ := ih _ (h9 i hi) ((hs.gr 4).get i)
          exact ⟨b, fun _ => hb⟩
        · exact ⟨false, fun h => absurd h hi⟩
      exact Classical.axiomOfChoice this
    -- the program's searches
    have c2 : Tot (fun k _ _ => (lv k).api_Filter_2 (gr f 4) D B K n s e E T ek e1 e2 ea et bits) (fun r => r = decide (∃ j, j < (gr f 4).length ∧ bs j = false)) := by
      refine api_Filter_2_up _ _ _ _ _ _ _ _ _ _ _ _ _ _ _ (Tot.congr ?_ (fun k _ _ => api_Filter_2_q (lv k) k (gr f 4) D B K n s e E T ek e1 e2 ea et bits))
      refine Tot.bind (R := Fst (gr f 4).length (fun j => bs j = false)) ?_ fun r hr => Tot.ret ?_
      · refine api_Filter_4_up _ _ _ _ _ _ _ _ _ _ _ _ _ _ _ (Tot.congr ?_ (fun k _ _ => api_Filter_4_q (lv k) k (gr f 4) D B K n s e E T ek e1 e2 ea et bits))
        refine Tot.in0 (Tot.first (H := fun k p q v => api_Filter_4_l0 (lv k) k (gr f 4) D B K n s e E T ek e1 e2 ea et bits p v) (n := (gr f 4).length) (by omega) ?_ (fun i Q hi hy hn => ?_))
        · refine Tot.step0 (fun k p_ q_ => api_Filter_4_l0_q (lv k) k (gr f 4) D B K n s e E T ek e1 e2 ea et bits p_ _) ?_
          exact Tot.f (decide_eq_false (by omega)) (Tot.ret rfl)
        · refine Tot.step0 (fun k p_ q_ => api_Filter_4_l0_q (lv k) k (gr f 4) D B K n s e E T ek e1 e2 ea et bits p_ _) ?_
          rw [Int.toNat_natCast]
          repeat (refine Tot.t (decide_eq_true (by omega)) ?_)
          refine Tot.bind (R := fun r => r = !(bs i)) ?_ fun r hr => ?_
          · refine strat_node_fails_up _ _ _ _ _ _ _ _ _ _ _ _ _ _ _ _ _ _ _ _ (Tot.congr ?_ (fun k _ _ => strat_node_fails_q (lv k) k D B K n s e E T ek e1 e2 ea et bits (gi ((gr f 4).getD i []) 0) (gs ((gr f 4).getD i []) 1) (gs ((gr f 4).getD i []) 2) (gs ((gr f 4).getD i []) 3) (gr ((gr f 4).getD i []) 4) (gr ((gr f 4).getD i []) 5)))
            exact Tot.bind (hbs i hi).p2 fun r hr => Tot.ret (by rw [hr])
          · subst hr
            exact Tot.cond (fun h => Tot.ret (hy (by simpa using h))) (fun h => hn (by simpa using h))
      · rcases hr with ⟨rfl, hh⟩ | ⟨i, rfl, g1, g2, g3⟩
        · exact (decide_eq_false (by omega)).trans (decide_eq_false (fun ⟨j, a, b⟩ => hh j a b)).symm
        · exact (decide_eq_true (by omega)).trans (decide_eq_true ⟨i, g1, g2⟩).symm
    have c3 : Tot (fun k _ _ => (lv k).api_Filter_3 (gr f 4) D B K n s e E T ek e1 e2 ea et bits) (fun r => r = decide (∃ j, j < (gr f 4).length ∧ bs j = true)) := by
      refine api_Filter_3_up _ _ _ _ _ _ _ _ _ _ _ _ _ _ _ (Tot.congr ?_ (fun k _ _ => api_Filter_3_q (lv k) k (gr f 4) D B K n s e E T ek e1 e2 ea et bits))
      refine Tot.bind (R := Fst (gr f 4).length (fun j => bs j = true)) ?_ fun r hr => Tot.ret ?_
      · refine api_Filter_5_up _ _ _ _ _ _ _ _ _ _ _ _ _ _ _ (Tot.congr ?_ (fun k _ _ => api_Filter_5_q (lv k) k (gr f 4) D B K n s e E T ek e1 e2 ea et bits))
        refine Tot.in0 (Tot.first (H := fun k p q v => api_Filter_5_l0 (lv k) k (gr f 4) D B K n s e E T ek e1 e2 ea et bits p v) (n := (gr f 4).length) (by omega) ?_ (fun i Q hi hy hn => ?_))
        · refine Tot.step0 (fun k p_ q_ => api_Filter_5_l0_q (lv k) k (gr f 4) D B K n s e E T ek e1 e2 ea et bits p_ _) ?_
          exact Tot.f (decide_eq_false (by omega)) (Tot.ret rfl)
        · refine Tot.step0 (fun k p_ q_ => api_Filter_5_l0_q (lv k) k (gr f 4) D B K n s e E T ek e1 e2 ea et bits p_ _) ?_
          rw [Int.toNat_natCast]
          repeat (refine Tot.t (decide_eq_true (by omega)) ?_)
          refine Tot.bind (hbs i hi).p2 fun r hr => ?_
          subst hr
          exact Tot.cond (fun h => Tot.ret (hy h)) (fun h => hn (by rw [h]; simp))
      · rcases hr with ⟨rfl, hh⟩ | ⟨i, rfl, g1, g2, g3⟩
        · exact (decide_eq_false (by omega)).trans (decide_eq_false (fun ⟨j, a, b⟩ => hh j a b)).symm
        · exact (decide_eq_true (by omega)).trans (decide_eq_true ⟨i, g1, g2⟩).symm
    -- the document's walk over the parts
    have rl : ∀ op : Int, Tot (fun k _ _ => orielref18_Holds_l0 (lv k) k D B K n s e E T op (gs f 1) (gs f 2) (gs f 3) (gr f 4) (gr f 5) ek e1 e2 ea et bits k true false 0) (fun r => r = cond (op == 9) (decide (∀ j, j < (gr f 4).length → bs j = true)) (cond (op == 10) (decide (∃ j, j < (gr f 4).length ∧ bs j = true)) false)) := by
      intro op
      refine Tot.in0 (Tot.loop (H := fun k p q v (w : Bool × Bool) => orielref18_Holds_l0 (lv k) k D B K n s e E T op (gs f 1) (gs f 2) (gs f 3) (gr f 4) (gr f 5) ek e1 e2 ea et bits p w.1 w.2 v) (n := (gr f 4).length) (fun i w => w.1 = decide (∀ j, j < i → bs j = true) ∧ w.2 = decide (∃ j, j < i ∧ bs j = true)) (by omega) (fun w hw => ?_) (fun i w hi hw next => ?_) _ 0 (true, false) rfl (by omega) ⟨(decide_eq_true (fun j hj => by omega)).symm, (decide_eq_false (fun ⟨j, hj, _⟩ => by omega)).symm⟩)
      · refine Tot.step0 (fun k p_ q_ => orielref18_Holds_l0_q (lv k) k D B K n s e E T op (gs f 1) (gs f 2) (gs f 3) (gr f 4) (gr f 5) ek e1 e2 ea et bits p_ _ _ _) ?_
        obtain ⟨w1, w2⟩ := w
        obtain ⟨hw1, hw2⟩ := hw
        simp only at hw1 hw2
        rw [← hw1, ← hw2]
        refine Tot.f (decide_eq_false (by omega)) (Tot.cond (fun g9 => ?_) (fun g9 => ?_))
        · rw [g9]
          refine Tot.cond (fun g => Tot.ret (by have g : w1 = true := g; rw [g]; rfl)) (fun g => ?_)
          have g : w1 = false := g
          have : op = 9 := by simpa using g9
          subst this
          exact Tot.f (by rfl) (Tot.ret (by rw [g]; rfl))
        · rw [g9]
          exact Tot.cond (fun g => Tot.ret (by rw [g]; rfl)) (fun g => Tot.ret (by rw [g]; rfl))
      · refine Tot.step0 (fun k p_ q_ => orielref18_Holds_l0_q (lv k) k D B K n s e E T op (gs f 1) (gs f 2) (gs f 3) (gr f 4) (gr f 5) ek e1 e2 ea et bits p_ _ _ _) ?_
        obtain ⟨w1, w2⟩ := w
        obtain ⟨hw1, hw2⟩ := hw
        simp only at hw1 hw2
        rw [Int.toNat_natCast]
        repeat (refine Tot.t (decide_eq_true (by omega)) ?_)
        refine Tot.bind (hbs i hi).rf fun r hr => ?_
        subst hr
        have e1 : (w1 && bs i) = decide (∀ j, j < i + 1 → bs j = true) := by
          rw [hw1]
          rw [Bool.eq_iff_iff, Bool.and_eq_true, decide_eq_true_eq, decide_eq_true_eq]
          exact ⟨fun h j hj => by
            rcases Nat.lt_or_ge j i with g | g
            · exact h.1 j g
            · rw [show j = i by omega]; exact h.2, fun h => ⟨fun j hj => h j (by omega), h i (by omega)⟩⟩
        have e2 : (w2 || bs i) = decide (∃ j, j < i + 1 ∧ bs j = true) := by
          rw [hw2]
          rw [Bool.eq_iff_iff, Bool.or_eq_true, decide_eq_true_eq, decide_eq_true_eq]
          exact ⟨fun h => by
            rcases h with ⟨j, a, b⟩ | h
            · exact ⟨j, by omega, b⟩
            · exact ⟨i, by omega, h⟩, fun ⟨j, a, b⟩ => by
            rcases Nat.lt_or_ge j i with g | g
            · exact .inl ⟨j, g, b⟩
            · rw [show j = i by omega] at b; exact .inr b⟩
        have nx := next (w1 && bs i, w2 || bs i) ⟨e1, e2⟩
        refine Tot.cond (fun g1 => Tot.cond (fun g2 => ?_) (fun g2 => ?_)) (fun g1 => Tot.cond (fun g2 => ?_) (fun g2 => ?_)) <;> (cases w1 <;> cases w2 <;> first | (cases g1; done) | (cases g2; done) | (simpa using nx))
    have ra : ∀ {r : Int}, Af ea (gs f 1) (gs f 2) r → ∀ op : Int, 5 ≤ op → Tot (fun k _ _ => orielref18_Holds_l1 (lv k) k D B K n s e E T op (gs f 1) (gs f 2) (gs f 3) (gr f 4) (gr f 5) ek e1 e2 ea et bits k 0) (fun x => x = if r = -1 then op == 2 else cond (op == 5) true ((av ea r).toList == (gs f 3).toList)) := by
      intro r hr op hop
      have hal := hc.al
      refine Tot.in0 (Tot.loop (H := fun k p q v (_ : Unit) => orielref18_Holds_l1 (lv k) k D B K n s e E T op (gs f 1) (gs f 2) (gs f 3) (gr f 4) (gr f 5) ek e1 e2 ea et bits p v) (n := ea.length) (fun i _ => ∀ j, j < i → ¬ (gs (ea.getD j []) 0 = gs f 1 ∧ gs (ea.getD j []) 1 = gs f 2)) (by omega) (fun _ hh => ?_) (fun i _ hi hh next => ?_) _ 0 () rfl (by omega) (fun j hj => by omega))
      · refine Tot.step0 (fun k p_ q_ => orielref18_Holds_l1_q (lv k) k D B K n s e E T op (gs f 1) (gs f 2) (gs f 3) (gr f 4) (gr f 5) ek e1 e2 ea et bits p_ _) ?_
        have : r = -1 := hr.uniq (.inl ⟨rfl, hh⟩)
        rw [if_pos this]
        exact Tot.f (decide_eq_false (by omega)) (Tot.ret rfl)
      · refine Tot.step0 (fun k p_ q_ => orielref18_Holds_l1_q (lv k) k D B K n s e E T op (gs f 1) (gs f 2) (gs f 3) (gr f 4) (gr f 5) ek e1 e2 ea et bits p_ _) ?_
        rw [Int.toNat_natCast]
        repeat (refine Tot.t (decide_eq_true (by omega)) ?_)
        refine Tot.cond (fun hcc => ?_) (fun hcc => next () (fun j hj => ?_))
        · have : r = i := hr.uniq (.inr ⟨i, rfl, hi, name_eq.1 hcc, hh⟩)
          subst this
          unfold av
          rw [if_neg (by omega), if_neg (by omega), Int.toNat_natCast]
          refine Tot.cond (fun g => Tot.ret (by rw [g]; rfl)) (fun g => ?_)
          repeat (refine Tot.t (decide_eq_true (by omega)) ?_)
          exact Tot.ret (by rw [g]; rfl)
        · rcases Nat.lt_or_ge j i with g | g
          · exact hh j g
          · rw [show j = i by omega]
            intro hb
            rw [name_eq.2 hb] at hcc
            cases hcc
    have q2 : ∀ {Q}, Tot _ Q → Tot (fun k _ _ => (lv k).strat_node_holds_2 D B K n s e E T ek e1 e2 ea et bits (gi f 0) (gs f 1) (gs f 2) (gs f 3) (gr f 4) (gr f 5)) Q := fun h => strat_node_holds_2_up _ _ _ _ _ _ _ _ _ _ _ _ _ _ _ _ _ _ _ _ (Tot.congr h (fun k _ _ => strat_node_holds_2_q (lv k) k D B K n s e E T ek e1 e2 ea et bits (gi f 0) (gs f 1) (gs f 2) (gs f 3) (gr f 4) (gr f 5)))
    have q1 : ∀ {Q}, Tot _ Q → Tot (fun k _ _ => (lv k).strat_node_holds D B K n s e E T ek e1 e2 ea et bits (gi f 0) (gs f 1) (gs f 2) (gs f 3) (gr f 4) (gr f 5)) Q := fun h => strat_node_holds_up _ _ _ _ _ _ _ _ _ _ _ _ _ _ _ _ _ _ _ _ (Tot.congr h (fun k _ _ => strat_node_holds_q (lv k) k D B K n s e E T ek e1 e2 ea et bits (gi f 0) (gs f 1) (gs f 2) (gs f 3) (gr f 4) (gr f 5)))
    have qr : ∀ {Q}, Tot _ Q → Tot (fun k _ _ => (lv k).orielref18_Holds D B K n s e E T (gi f 0) (gs f 1) (gs f 2) (gs f 3) (gr f 4) (gr f 5) ek e1 e2 ea et bits) Q := fun h => orielref18_Holds_up _ _ _ _ _ _ _ _ _ _ _ _ _ _ _ _ _ _ _ _ (Tot.congr h (fun k _ _ => orielref18_Holds_q (lv k) k D B K n s e E T (gi f 0) (gs f 1) (gs f 2) (gs f 3) (gr f 4) (gr f 5) ek e1 e2 ea et bits))
    have hop : gi f 0 = 1 ∨ gi f 0 = 2 ∨ gi f 0 = 3 ∨ gi f 0 = 4 ∨ gi f 0 = 5 ∨ gi f 0 = 6 ∨ gi f 0 = 7 ∨ gi f 0 = 8 ∨ gi f 0 = 9 ∨ gi f 0 = 10 ∨ gi f 0 = 11 := by omega
    obtain ⟨r, hr⟩ : ∃ r, Af ea (gs f 1) (gs f 2) r := Fst.ex _ _
    have at2 := attr2_tot (n := n) (s := s) (e := e) (E := E) (T := T) (ek := ek) (e1 := e1) (e2 := e2) (et := et) hc _ _ hr
    have at1 := attr_tot (n := n) (s := s) (e := e) (E := E) (T := T) (ek := ek) (e1 := e1) (e2 := e2) (et := et) hc _ _ hr
    rcases hop with e_ | e_ | e_ | e_ | e_ | e_ | e_ | e_ | e_ | e_ | e_
    · refine ⟨true, q2 ?_, q1 ?_, qr ?_⟩ <;> rw [e_]
      · repeat (first | refine Tot.t (by rfl) ?_ | refine Tot.f (by rfl) ?_)
        exact Tot.ret rfl
      · repeat (first | refine Tot.t (by rfl) ?_ | refine Tot.f (by rfl) ?_)
        exact Tot.ret rfl
      · repeat (first | refine Tot.t (by rfl) ?_ | refine Tot.f (by rfl) ?_)
        exact Tot.ret rfl
    · refine ⟨ek == 1, q2 ?_, q1 ?_, qr ?_⟩ <;> rw [e_]
      · repeat (first | refine Tot.t (by rfl) ?_ | refine Tot.f (by rfl) ?_)
        exact Tot.ret rfl
      · repeat (first | refine Tot.t (by rfl) ?_ | refine Tot.f (by rfl) ?_)
        exact Tot.ret rfl
      · repeat (first | refine Tot.t (by rfl) ?_ | refine Tot.f (by rfl) ?_)
        refine Tot.cond (fun g => Tot.ret ?_) (fun g => ?_)
        · have g : (ek == 1) = false := by simpa using g
          exact g.symm
        · have g : (ek == 1) = true := by simpa using g
          rw [g]
          repeat (first | refine Tot.t (by rfl) ?_ | refine Tot.f (by rfl) ?_)
          refine Tot.in0 (g := fun k p_ q_ => orielref18_Holds_l1 (lv k) k D B K n s e E T 2 (gs f 1) (gs f 2) (gs f 3) (gr f 4) (gr f 5) ek e1 e2 ea et bits p_ 0) ?_
          refine Tot.step0 (fun k p_ q_ => orielref18_Holds_l1_q (lv k) k D B K n s e E T 2 (gs f 1) (gs f 2) (gs f 3) (gr f 4) (gr f 5) ek e1 e2 ea et bits p_ _) ?_
          exact Tot.cond (fun _ => Tot.f (by rfl) (Tot.ret rfl)) (fun _ => Tot.ret rfl)
    · refine ⟨!(ek == 1), q2 ?_, q1 ?_, qr ?_⟩ <;> rw [e_]
      · repeat (first | refine Tot.t (by rfl) ?_ | refine Tot.f (by rfl) ?_)
        exact Tot.ret rfl
      · repeat (first | refine Tot.t (by rfl) ?_ | refine Tot.f (by rfl) ?_)
        exact Tot.ret rfl
      · repeat (first | refine Tot.t (by rfl) ?_ | refine Tot.f (by rfl) ?_)
        refine Tot.cond (fun g => ?_) (fun g => Tot.ret g.symm)
        rw [g]
        repeat (first | refine Tot.t (by rfl) ?_ | refine Tot.f (by rfl) ?_)
        exact Tot.ret rfl
    · refine ⟨(ek == 1) && ((e1 == gs f 1) && ((e2 == gs f 2) && true)), q2 ?_, q1 ?_, qr ?_⟩ <;> rw [e_]
      · repeat (first | refine Tot.t (by rfl) ?_ | refine Tot.f (by rfl) ?_)
        exact Tot.cond (fun g => Tot.ret (by rw [g]; rfl)) (fun g => Tot.ret (by rw [g]; rfl))
      · repeat (first | refine Tot.t (by rfl) ?_ | refine Tot.f (by rfl) ?_)
        exact Tot.cond (fun g => Tot.ret (by rw [g]; rfl)) (fun g => Tot.ret (by rw [g]; rfl))
      · repeat (first | refine Tot.t (by rfl) ?_ | refine Tot.f (by rfl) ?_)
        refine Tot.cond (fun g => Tot.ret ?_) (fun g => ?_)
        · have g : (ek == 1) = false := by simpa using g
          rw [g]; rfl
        · have g : (ek == 1) = true := by simpa using g
          rw [g]
          repeat (first | refine Tot.t (by rfl) ?_ | refine Tot.f (by rfl) ?_)
          exact Tot.ret rfl
    · refine ⟨ab ek r, q2 ?_, q1 ?_, qr ?_⟩ <;> rw [e_]
      · repeat (first | refine Tot.t (by rfl) ?_ | refine Tot.f (by rfl) ?_)
        exact Tot.bind at2 fun x hx => Tot.ret (by rw [hx])
      · repeat (first | refine Tot.t (by rfl) ?_ | refine Tot.f (by rfl) ?_)
        exact Tot.bind at1 fun x hx => Tot.ret (by rw [hx])
      · repeat (first | refine Tot.t (by rfl) ?_ | refine Tot.f (by rfl) ?_)
        refine Tot.cond (fun g => Tot.ret ?_) (fun g => ?_)
        · have g : (ek == 1) = false := by simpa using g
          unfold ab
          split
          · rfl
          · exact g.symm
        · have g : (ek == 1) = true := by simpa using g
          repeat (first | refine Tot.t (by rfl) ?_ | refine Tot.f (by rfl) ?_)
          refine (ra hr 5 (by omega)).mono fun x hx => ?_
          rw [hx]
          unfold ab
          rw [g]
          split <;> rfl
    · refine ⟨ab ek r && ((av ea r).toList == (gs f 3).toList), q2 ?_, q1 ?_, qr ?_⟩ <;> rw [e_]
      · repeat (first | refine Tot.t (by rfl) ?_ | refine Tot.f (by rfl) ?_)
        refine Tot.bind at2 fun x hx => ?_
        subst hx
        exact Tot.cond (fun g => Tot.ret (by have g : ab ek r = true := g; rw [g]; rfl)) (fun g => Tot.ret (by have g : ab ek r = false := g; rw [g]; rfl))
      · repeat (first | refine Tot.t (by rfl) ?_ | refine Tot.f (by rfl) ?_)
        refine Tot.bind at1 fun x hx => ?_
        subst hx
        exact Tot.cond (fun g => Tot.ret (by have g : ab ek r = true := g; rw [g]; rfl)) (fun g => Tot.ret (by have g : ab ek r = false := g; rw [g]; rfl))
      · repeat (first | refine Tot.t (by rfl) ?_ | refine Tot.f (by rfl) ?_)
        refine Tot.cond (fun g => Tot.ret ?_) (fun g => ?_)
        · have g : (ek == 1) = false := by simpa using g
          unfold ab
          rw [g]
          split <;> rfl
        · have g : (ek == 1) = true := by simpa using g
          repeat (first | refine Tot.t (by rfl) ?_ | refine Tot.f (by rfl) ?_)
          refine (ra hr 6 (by omega)).mono fun x hx => ?_
          rw [hx]
          unfold ab
          rw [g]
          split <;> rfl
    · refine ⟨!(ek == 1) && (et.toList == (gs f 3).toList), q2 ?_, q1 ?_, qr ?_⟩ <;> rw [e_]
      · repeat (first | refine Tot.t (by rfl) ?_ | refine Tot.f (by rfl) ?_)
        exact Tot.cond (fun g => Tot.ret (by rw [g]; rfl)) (fun g => Tot.ret (by rw [g]; rfl))
      · repeat (first | refine Tot.t (by rfl) ?_ | refine Tot.f (by rfl) ?_)
        exact Tot.cond (fun g => Tot.ret (by rw [g]; rfl)) (fun g => Tot.ret (by rw [g]; rfl))
      · repeat (first | refine Tot.t (by rfl) ?_ | refine Tot.f (by rfl) ?_)
        refine Tot.cond (fun g => ?_) (fun g => Tot.ret (by rw [g]; rfl))
        rw [g]
        repeat (first | refine Tot.t (by rfl) ?_ | refine Tot.f (by rfl) ?_)
        exact Tot.ret rfl
    · have hl := h8 e_
      have e8 : (decide (∃ j, j < (gr f 4).length ∧ bs j = false) == ((8 : Int) == 8)) = !(bs 0) := by
        have : (∃ j, j < (gr f 4).length ∧ bs j = false) ↔ bs 0 = false := ⟨fun ⟨j, a, b⟩ => by rw [show j = 0 by omega] at b; exact b, fun h => ⟨0, by omega, h⟩⟩
        rw [show ((8 : Int) == 8) = true from rfl]
        cases hb : bs 0
        · rw [decide_eq_true (this.2 hb)]; rfl
        · rw [decide_eq_false (fun h => by rw [this.1 h] at hb; cases hb)]; rfl
      refine ⟨!(bs 0), q2 ?_, q1 ?_, qr ?_⟩ <;> rw [e_]
      · repeat (first | refine Tot.t (by rfl) ?_ | refine Tot.f (by rfl) ?_)
        exact Tot.bind c2 fun x hx => Tot.ret (by rw [hx]; exact e8)
      · repeat (first | refine Tot.t (by rfl) ?_ | refine Tot.f (by rfl) ?_)
        exact Tot.bind c2 fun x hx => Tot.ret (by rw [hx, e8])
      · repeat (first | refine Tot.t (by rfl) ?_ | refine Tot.f (by rfl) ?_)
        refine Tot.t (decide_eq_true (by omega)) ?_
        exact Tot.bind (hbs 0 (by omega)).rf fun x hx => Tot.ret (by rw [hx])
    · have e9 : (decide (∃ j, j < (gr f 4).length ∧ bs j = false) == ((9 : Int) == 8)) = decide (∀ j, j < (gr f 4).length → bs j = true) := by
        rw [show ((9 : Int) == 8) = false from rfl]
        by_cases hb : ∃ j, j < (gr f 4).length ∧ bs j = false
        · rw [decide_eq_true hb]
          obtain ⟨j, a, b⟩ := hb
          rw [decide_eq_false (fun h => by rw [h j a] at b; cases b)]
          rfl
        · rw [decide_eq_false hb, decide_eq_true (fun j hj => by
            cases hbj : bs j
            · exact absurd ⟨j, hj, hbj⟩ hb
            · rfl)]
          rfl
      refine ⟨decide (∀ j, j < (gr f 4).length → bs j = true), q2 ?_, q1 ?_, qr ?_⟩ <;> rw [e_]
      · repeat (first | refine Tot.t (by rfl) ?_ | refine Tot.f (by rfl) ?_)
        exact Tot.bind c2 fun x hx => Tot.ret (by rw [hx]; exact e9)
      · repeat (first | refine Tot.t (by rfl) ?_ | refine Tot.f (by rfl) ?_)
        exact Tot.bind c2 fun x hx => Tot.ret (by rw [hx, e9])
      · repeat (first | refine Tot.t (by rfl) ?_ | refine Tot.f (by rfl) ?_)
        exact (rl 9).mono fun x hx => hx
    · refine ⟨decide (∃ j, j < (gr f 4).length ∧ bs j = true), q2 ?_, q1 ?_, qr ?_⟩ <;> rw [e_]
      · repeat (first | refine Tot.t (by rfl) ?_ | refine Tot.f (by rfl) ?_)
        exact Tot.bind c3 fun x hx => Tot.ret hx
      · repeat (first | refine Tot.t (by rfl) ?_ | refine Tot.f (by rfl) ?_)
        exact Tot.bind c3 fun x hx => Tot.ret (by rw [hx])
      · repeat (first | refine Tot.t (by rfl) ?_ | refine Tot.f (by rfl) ?_)
        exact (rl 10).mono fun x hx => hx
    · have hl := h511.1 e_
      obtain ⟨b, hb1, hb2⟩ := leads2 (n := n) (s := s) (e := e) (E := E) (T := T) (ek := ek) (e1 := e1) (e2 := e2) (et := et) hc ((gr f 5).getD 0 []) ((hs.gr 5).get 0)
      have c5 : Tot (fun k _ _ => (lv k).api_Path_5 (gr f 5) D B K n s e E T ek e1 e2 ea et bits) (fun r => r = b) := by
        refine api_Path_5_up _ _ _ _ _ _ _ _ _ _ _ _ _ _ _ (Tot.congr ?_ (fun k _ _ => api_Path_5_q (lv k) k (gr f 5) D B K n s e E T ek e1 e2 ea et bits))
        refine Tot.bind (R := Fst (gr f 5).length (fun j => b = true)) ?_ fun r hr => Tot.ret ?_
        · refine api_Path_6_up _ _ _ _ _ _ _ _ _ _ _ _ _ _ _ (Tot.congr ?_ (fun k _ _ => api_Path_6_q (lv k) k (gr f 5) D B K n s e E T ek e1 e2 ea et bits))
          refine Tot.in0 (Tot.first (H := fun k p q v => api_Path_6_l0 (lv k) k (gr f 5) D B K n s e E T ek e1 e2 ea et bits p v) (n := (gr f 5).length) (by omega) ?_ (fun i Q hi hy hn => ?_))
          · refine Tot.step0 (fun k p_ q_ => api_Path_6_l0_q (lv k) k (gr f 5) D B K n s e E T ek e1 e2 ea et bits p_ _) ?_
            exact Tot.f (decide_eq_false (by omega)) (Tot.ret rfl)
          · refine Tot.step0 (fun k p_ q_ => api_Path_6_l0_q (lv k) k (gr f 5) D B K n s e E T ek e1 e2 ea et bits p_ _) ?_
            rw [Int.toNat_natCast]
            repeat (refine Tot.t (decide_eq_true (by omega)) ?_)
            obtain rfl : i = 0 := by omega
            refine Tot.bind hb1 fun x hx => ?_
            subst hx
            exact Tot.cond (fun h => Tot.ret (hy h)) (fun h => hn (by rw [h]; simp))
        · rcases hr with ⟨rfl, hh⟩ | ⟨i, rfl, g1, g2, g3⟩
          · have := hh 0 (by omega)
            rw [decide_eq_false (by omega)]
            cases b
            · rfl
            · exact absurd rfl this
          · rw [g2]; exact decide_eq_true (by omega)
      refine ⟨b, q2 ?_, q1 ?_, qr ?_⟩ <;> rw [e_]
      · repeat (first | refine Tot.t (by rfl) ?_ | refine Tot.f (by rfl) ?_)
        exact Tot.bind c5 fun x hx => Tot.ret hx
      · repeat (first | refine Tot.t (by rfl) ?_ | refine Tot.f (by rfl) ?_)
        exact Tot.bind c5 fun x hx => Tot.ret (by rw [hx])
      · repeat (first | refine Tot.t (by rfl) ?_ | refine Tot.f (by rfl) ?_)
        exact Tot.t (decide_eq_true (by omega)) hb2
end
end Go.Vm.T
/- StratHolds: the plain law. -/
set_option linter.unusedVariables false
set_option linter.unusedSimpArgs false
namespace Go.Vm.T
open Go Go.Vm Go.Proofs
attribute [local irreducible] lv oriellaw18_StratHolds_b oriellaw18_StratHolds_l0 oriellaw18_StratHolds_l1 oriellaw18_StratOrder_b oriellaw18_StratOrder_l0 oriellaw18_StratOrder_l1 oriellaw18_StratOrder_l2 oriellaw18_StratKeeps_b oriellaw18_StratKeeps_l0 oriellaw18_StratKeeps_l1 oriellaw18_awake_b strat_Make_b strat_Make_l0 strat_Make_l1 strat_maker_path_b strat_maker_path_l0 strat_maker_path_l1 strat_maker_filter_b strat_maker_filter_l0 strat_maker_filter_l1 api_Path_b api_Path_2_b api_Path_2_l0 strat_maker_filter_1_b path_Same_b api_Path_3_b api_Path_3_l0 prog_Compile_b api_Filter_b api_Filter_l0 prog_maker_path_b path_sameFilter_b prog_maker_step_b prog_maker_seq_b prog_maker_seq_l0 prog_maker_alt_b prog_maker_alt_l0 prog_maker_alt_l1 prog_maker_alt_l2 prog_maker_alt_l3 prog_maker_state_b prog_maker_lay_b prog_maker_free_b strat_Items_b strat_Items_l0 orielref12_Right_b strat_Find_b orielref12_Size_b api_Path_4_b api_Path_4_l0 orielref12_size_b orielref12_size_l0 orielref12_size_l1 strat_Find_1_b orielref12_sizeFilter_b orielref12_sizeFilter_l0 orielref12_sizeFilter_l1 strat_Holds_b orielref12_path_b orielref12_path_l0 orielref12_path_l1 strat_node_holds_b orielref12_filter_b orielref12_filter_l0 orielref12_filter_l1 orielref12_filter_l2 orielref12_filter_l3 orielref12_filter_l4 strat_node_attr_b strat_node_attr_l0 api_Filter_2_b api_Filter_3_b api_Path_5_b orielref12_named_b orielref04_Right_b orielref04_Right_l0 api_Filter_4_b api_Filter_4_l0 api_Filter_5_b api_Filter_5_l0 api_Path_6_b api_Path_6_l0 orielref03_Plain_b orielref03_Plain_l0 orielref01_All_b orielref01_All_l0 orielref01_All_l1 strat_node_fails_b strat_node_holds_2_b strat_node_leads_b orielref02_Start_b orielref01_Rune_b orielref01_Rune_l0 strat_node_attr_2_b strat_node_attr_2_l0 orielref01_Put_b orielref01_cut_b orielref01_cut_l0 orielref01_cut_l1 orielref01_cut_l2 orielref01_cut_l3 orielref01_cut_l4 orielref01_value_b orielref01_value_l0 orielref01_value_l1 orielref09_Right_b orielref09_Right_l0 orielref09_Right_l1 orielref09_Right_l2 orielref18_Inner_b orielref18_Inner_l0 orielref18_Inner_l1 orielref18_Inner_l2 orielref18_Inner_l3 orielref18_Make_b orielref18_Make_l0 orielref18_Make_l1 orielref02_Char_b orielref02_Part_b orielref01_begins_b orielref01_begins_l0 orielref09_named_b orielref18_within_b orielref18_within_l0 orielref18_within_l1 orielref17_Compile_b orielref02_Blank_b orielref17_add_b orielref17_add_l0 orielref17_add_l1 orielref17_add_l2 orielref17_add_l3 orielref17_add_l4 orielref17_add_l5 orielref17_add_l6 orielref17_edge_b orielref09_Few_b orielref09_Few_l0 orielref09_Few_l1 strat_Tests_b strat_Tests_l0 strat_Tests_l1 orielref05_Find_b orielref05_Find_l0 orielref18_Find_b orielref18_Find_l0 orielref12_Same_b orielref12_Same_l0 orielref12_Same_l1 orielref12_SameFilter_b orielref12_SameFilter_l0 orielref12_SameFilter_l1 oriellaw18_bits_b oriellaw18_bits_l0 oriellaw18_bits_l1 orielref18_Items_b orielref18_Items_l0 orielref12_Filters_b orielref12_Filters_l0 orielref12_Filters_l1 orielref12_Filters_l2 orielref12_Filters_l3 orielref12_within_b orielref12_within_l0 orielref12_within_l1 orielref18_Holds_b orielref18_Holds_l0 orielref18_Holds_l1
theorem bytes4 : Try.prog.bytesOf 4 ≤ 1024 := of_decide_eq_true (by kernel_rfl)
theorem bytes5 : Try.prog.bytesOf 5 ≤ 1024 := of_decide_eq_true (by kernel_rfl)
structure OkF (f : List C) : Prop where
  ok : ok 16 false f
  sm : SmR BB f
theorem OkF.nf {f : List C} (h : OkF f) : OkF (nf f) := ⟨h.ok, fun c hc => by
  have h1 := h.ok.1
  have h2 := h.ok.2.1
  simp only [Go.Vm.T.nf, List.mem_cons, List.not_mem_nil, or_false] at hc
  rcases hc with rfl | rfl | rfl | rfl | rfl | rfl
  · exact .int _ _ (wf_i64' (by omega) (by omega))
  · exact .str _ (h.sm.gs 1)
  · exact .str _ (h.sm.gs 2)
  · exact .str _ (h.sm.gs 3)
  · exact .row _ _ (h.sm.gr 4).1 (h.sm.gr 4).2
  · exact .row _ _ (h.sm.gr 5).1 (h.sm.gr 5).2⟩
/-! the tests of a machine -/
theorem seqF_T {f : List C → Int → Int → Mk} {p : List C → Prop} {t : Int} : ∀ {l : List (List C)} {m : Mk}, (∀ r, r ∈ l → ∀ n t x, x ∈ (f r n t).T → p x) → (∀ x, x ∈ m.T → p x) → ∀ x, x ∈ (seqF f t l m).T → p x := by
  intro l
  induction l with
  | nil => intro m _ h; exact h
  | cons r l ih =>
    intro m hf hm
    refine ih (fun r hr => hf r (List.mem_cons_of_mem _ hr)) (fun x hx => ?_)
    rcases List.mem_append.1 hx with h | h
    · exact hm x h
    · exact hf r List.mem_cons_self _ _ x h
theorem altF_T {f : List C → Int → Int → Mk} {p : List C → Prop} {t s : Int} : ∀ {l : List (List C)} {m : Al}, (∀ r, r ∈ l → ∀ n t x, x ∈ (f r n t).T → p x) → (∀ x, x ∈ m.T → p x) → ∀ x, x ∈ (altF f t s l m).T → p x := by
  intro l
  induction l with
  | nil => intro m _ h; exact h
  | cons r l ih =>
    intro m hf hm
    refine ih (fun r hr => hf r (List.mem_cons_of_mem _ hr)) (fun x hx => ?_)
    rcases List.mem_append.1 hx with h | h
    · exact hm x h
    · exact hf r List.mem_cons_self _ _ x h
theorem mk_T : ∀ d, d ≤ 16 → ∀ (a : List C), ok d true a → SmR BB a → ∀ (n t : Int) x, x ∈ (mk d (gi a 0) (gr a 1) (gr a 2) n t).T → OkF x := by
  intro d
  induction d with
  | zero => intro _ a h; exact h.elim
  | succ d ih =>
    intro hd a ha hs n t x hx
    obtain ⟨_, _, _, _, _, _, _, _, h9, h10⟩ := ha
    have hsub : ∀ r, r ∈ gr a 1 → ∀ n t x, x ∈ (mk d (gi r 0) (gr r 1) (gr r 2) n t).T → OkF x := fun r hr n t => by
      obtain ⟨i, hi, rfl⟩ := mem_getD hr
      exact ih (by omega) _ (h9 i hi) ((hs.gr 1).get i) n t
    have htest : ∀ x, x ∈ gr a 2 → OkF x := fun x hx => by
      obtain ⟨i, hi, rfl⟩ := mem_getD hx
      exact ⟨ok_le (by omega) (h10 i hi), (hs.gr 2).get i⟩
    unfold mk at hx
    split at hx
    · split at hx
      · cases hx
      · rename_i r l hrl
        exact seqF_T (fun r hr => hsub r (by rw [hrl]; exact List.mem_cons_of_mem _ hr)) (hsub r (by rw [hrl]; exact List.mem_cons_self) _ _) x hx
    · split at hx
      · exact altF_T hsub (fun x hx => by cases hx) x hx
      · split at hx
        · split at hx
          · cases hx
          · rename_i r l hrl
            exact hsub r (by rw [hrl]; exact List.mem_cons_self) _ _ x hx
        · split at hx
          · exact htest x hx
          · cases hx
theorem mach_T {p : List C} (h : Good p) : ∀ x, x ∈ (mach p).T.map nf → OkF x := fun x hx => by
  obtain ⟨y, hy, rfl⟩ := List.mem_map.1 hx
  exact (mk_T 16 (Nat.le_refl _) p h.ok h.sm 0 0 y hy).nf
/-! the filters of a path -/
def fl : Nat → Bool → List C → List (List C)
  | 0, _, _ => []
  | d + 1, true, a => (gr a 1).flatMap (fl d true) ++ (gr a 2).flatMap (fl d false)
  | d + 1, false, a => [nf a] ++ (gr a 4).flatMap (fl d false) ++ (gr a 5).flatMap (fl d true)
theorem fl_len : ∀ (d : Nat) (k : Bool) (a : List C), (fl d k a).length ≤ sz d k a := by
  intro d
  induction d with
  | zero => intro k a; cases k <;> exact Nat.zero_le _
  | succ d ih =>
    intro k a
    cases k with
    | true =>
      have h1 := len_flat (l := gr a 1) (f := fl d true) (g := sz d true) fun x _ => ih true x
      have h2 := len_flat (l := gr a 2) (f := fl d false) (g := sz d false) fun x _ => ih false x
      simp only [fl, List.length_append, sz]
      omega
    | false =>
      have h1 := len_flat (l := gr a 4) (f := fl d false) (g := sz d false) fun x _ => ih false x
      have h2 := len_flat (l := gr a 5) (f := fl d true) (g := sz d true) fun x _ => ih true x
      simp only [fl, List.length_append, List.length_singleton, sz]
      omega
theorem fl_ok : ∀ {d : Nat}, d ≤ 16 → ∀ {k : Bool} {a : List C}, ok d k a → SmR BB a → ∀ x, x ∈ fl d k a → OkF x := by
  intro d
  induction d with
  | zero => intro _ k a h; exact h.elim
  | succ d ih =>
    intro hd k a h hs x hx
    have ih := @ih (by omega)
    cases k with
    | true =>
      obtain ⟨_, _, _, _, _, _, _, _, h9, h10⟩ := h
      rcases List.mem_append.1 hx with hx | hx
      · obtain ⟨y, hy, hxy⟩ := List.mem_flatMap.1 hx
        obtain ⟨i, hi, rfl⟩ := mem_getD hy
        exact ih (h9 i hi) ((hs.gr 1).get i) x hxy
      · obtain ⟨y, hy, hxy⟩ := List.mem_flatMap.1 hx
        obtain ⟨i, hi, rfl⟩ := mem_getD hy
        exact ih (h10 i hi) ((hs.gr 2).get i) x hxy
    | false =>
      have hself : OkF a := ⟨ok_le hd h, hs⟩
      obtain ⟨_, _, _, _, _, _, _, _, h9, h10⟩ := h
      rcases List.mem_append.1 hx with hx | hx
      · rcases List.mem_append.1 hx with hx | hx
        · rw [List.mem_singleton.1 hx]; exact hself.nf
        · obtain ⟨y, hy, hxy⟩ := List.mem_flatMap.1 hx
          obtain ⟨i, hi, rfl⟩ := mem_getD hy
          exact ih (h9 i hi) ((hs.gr 4).get i) x hxy
      · obtain ⟨y, hy, hxy⟩ := List.mem_flatMap.1 hx
        obtain ⟨i, hi, rfl⟩ := mem_getD hy
        exact ih (h10 i hi) ((hs.gr 5).get i) x hxy
def RF (k : Bool) (a : List C) (d : Nat) : Prop := match k with
  | true => Tot (fun k _ _ => (lv k).orielref12_Filters (gi a 0) (gr a 1) (gr a 2)) (fun r => r = fl d true a)
  | false => Tot (fun k _ _ => (lv k).orielref12_within (gi a 0) (gs a 1) (gs a 2) (gs a 3) (gr a 4) (gr a 5)) (fun r => r = fl d false a)
theorem rfilters : ∀ d, d ≤ 16 → ∀ (k : Bool) (a : List C), ok d k a → (∀ e, sz e k a ≤ 64) → SmR BB a → RF k a d := by
  intro d
  induction d with
  | zero => intro _ k a h; exact h.elim
  | succ d ih =>
    intro hd k a ha hz hs
    have ih := @ih (by omega)
    have hlen := fl_len (d + 1) k a
    have hz' := hz (d + 1)
    have ha' := ha
    cases k with
    | true =>
      obtain ⟨_, _, _, _, _, _, _, _, h9, h10⟩ := ha'
      have e0 : fl (d + 1) true a = (gr a 1).flatMap (fl d true) ++ (gr a 2).flatMap (fl d false) := rfl
      show Tot _ _
      rw [e0] at hlen ⊢
      rw [List.length_append] at hlen
      have hl1 : (gr a 1).length ≤ 1048576 := (hs.gr 1).1
      have hl2 : (gr a 2).length ≤ 1048576 := (hs.gr 2).1
      refine orielref12_Filters_up _ _ _ (Tot.congr ?_ (fun k _ _ => orielref12_Filters_q (lv k) k (gi a 0) (gr a 1) (gr a 2)))
      have l3 : ∀ (i : Nat) s, i ≤ (gr a 2).length → s = (gr a 1).flatMap (fl d true) ++ ((gr a 2).take i).flatMap (fl d false) → Tot (fun k p q => orielref12_Filters_l3 (lv k) k (gi a 0) (gr a 1) (gr a 2) p (i : Int) s) (fun r => r = (gr a 1).flatMap (fl d true) ++ (gr a 2).flatMap (fl d false)) := fun i s hi hs' =>
        Tot.loop (H := fun k p q v s => orielref12_Filters_l3 (lv k) k (gi a 0) (gr a 1) (gr a 2) p v s) (n := (gr a 2).length) (fun i s => s = (gr a 1).flatMap (fl d true) ++ ((gr a 2).take i).flatMap (fl d false)) (by omega) (fun s hs' => by
          subst hs'
          refine Tot.step0 (fun k p_ q_ => orielref12_Filters_l3_q (lv k) k (gi a 0) (gr a 1) (gr a 2) p_ _ _) ?_
          rw [List.take_length]
          exact Tot.f (decide_eq_false (by omega)) (Tot.ret rfl)) (fun i s hi hs' next => by
          subst hs'
          refine Tot.step0 (fun k p_ q_ => orielref12_Filters_l3_q (lv k) k (gi a 0) (gr a 1) (gr a 2) p_ _ _) ?_
          rw [Int.toNat_natCast]
          repeat (refine Tot.t (decide_eq_true (by omega)) ?_)
          have q3 := take_flat1 (f := fl d false) hi
          refine Tot.bind (ih false _ (h10 i hi) (sub_sz hz 2 false (by simp) hi) ((hs.gr 2).get i)) fun r hr => ?_
          subst hr
          exact Tot.t (roomy_of bytes50 (by rw [List.length_append]; omega)) (next _ (by rw [flat_take hi, List.append_assoc]))) _ i s rfl hi hs'
      have l2 : ∀ (i : Nat) s, i ≤ (gr a 1).length → s = ((gr a 1).take i).flatMap (fl d true) → Tot (fun k p q => orielref12_Filters_l2 (lv k) k (gi a 0) (gr a 1) (gr a 2) p (i : Int) s) (fun r => r = (gr a 1).flatMap (fl d true) ++ (gr a 2).flatMap (fl d false)) := fun i s hi hs' =>
        Tot.loop (H := fun k p q v s => orielref12_Filters_l2 (lv k) k (gi a 0) (gr a 1) (gr a 2) p v s) (n := (gr a 1).length) (fun i s => s = ((gr a 1).take i).flatMap (fl d true)) (by omega) (fun s hs' => by
          subst hs'
          refine Tot.step0 (fun k p_ q_ => orielref12_Filters_l2_q (lv k) k (gi a 0) (gr a 1) (gr a 2) p_ _ _) ?_
          rw [List.take_length]
          exact Tot.f (decide_eq_false (by omega)) (Tot.in0 (l3 0 _ (by omega) (by simp)))) (fun i s hi hs' next => by
          subst hs'
          refine Tot.step0 (fun k p_ q_ => orielref12_Filters_l2_q (lv k) k (gi a 0) (gr a 1) (gr a 2) p_ _ _) ?_
          rw [Int.toNat_natCast]
          repeat (refine Tot.t (decide_eq_true (by omega)) ?_)
          have q3 := take_flat1 (f := fl d true) hi
          refine Tot.bind (ih true _ (h9 i hi) (sub_sz hz 1 true (by simp) hi) ((hs.gr 1).get i)) fun r hr => ?_
          subst hr
          exact Tot.t (roomy_of bytes50 (by omega)) (next _ (by rw [flat_take hi]))) _ i s rfl hi hs'
      refine Tot.in0 (g := fun k p_ q_ => orielref12_Filters_l0 (lv k) k (gi a 0) (gr a 1) (gr a 2) p_ ) ?_
      refine Tot.step0 (fun k p_ q_ => orielref12_Filters_l0_q (lv k) k (gi a 0) (gr a 1) (gr a 2) p_ ) ?_
      refine Tot.cond (fun h0 => ?_) (fun h0 => ?_)
      · have h0 := of_decide_eq_true h0
        refine Tot.t (decide_eq_true (by omega)) (Tot.bind (ih true _ (h9 0 (by omega)) (sub_sz hz 1 true (by simp) (show 0 < (gr a 1).length by omega)) ((hs.gr 1).get 0)) fun r hr => ?_)
        subst hr
        have q3 := take_flat1 (f := fl d true) (show 0 < (gr a 1).length by omega)
        refine Tot.t (roomy_of bytes50 (by omega)) (l2 1 _ (by omega) ?_)
        rw [flat_take (show 0 < (gr a 1).length by omega)]
        simp
      · have h0 := of_decide_eq_false h0
        have e1 : gr a 1 = [] := List.length_eq_zero_iff.1 (by omega)
        refine Tot.in0 (g := fun k p_ q_ => orielref12_Filters_l1 (lv k) k (gi a 0) (gr a 1) (gr a 2) p_ ) ?_
        refine Tot.step0 (fun k p_ q_ => orielref12_Filters_l1_q (lv k) k (gi a 0) (gr a 1) (gr a 2) p_ ) ?_
        refine Tot.cond (fun h0 => ?_) (fun h0 => ?_)
        · have h0 := of_decide_eq_true h0
          refine Tot.t (decide_eq_true (by omega)) (Tot.bind (ih false _ (h10 0 (by omega)) (sub_sz hz 2 false (by simp) (show 0 < (gr a 2).length by omega)) ((hs.gr 2).get 0)) fun r hr => ?_)
          subst hr
          have q3 := take_flat1 (f := fl d false) (show 0 < (gr a 2).length by omega)
          refine Tot.t (roomy_of bytes50 (by omega)) (l3 1 _ (by omega) ?_)
          rw [flat_take (show 0 < (gr a 2).length by omega)]
          simp [e1]
        · have h0 := of_decide_eq_false h0
          have e2 : gr a 2 = [] := List.length_eq_zero_iff.1 (by omega)
          exact Tot.ret (by simp [e1, e2])
    | false =>
      obtain ⟨_, _, _, _, _, _, h7, h8, h9, h10⟩ := ha'
      have e0 : fl (d + 1) false a = [nf a] ++ (gr a 4).flatMap (fl d false) ++ (gr a 5).flatMap (fl d true) := rfl
      show Tot _ _
      rw [e0] at hlen ⊢
      simp only [List.length_append, List.length_singleton] at hlen
      have hl1 : (gr a 4).length ≤ 1048576 := (hs.gr 4).1
      have hl2 : (gr a 5).length ≤ 1048576 := (hs.gr 5).1
      refine orielref12_within_up _ _ _ _ _ _ (Tot.congr ?_ (fun k _ _ => orielref12_within_q (lv k) k (gi a 0) (gs a 1) (gs a 2) (gs a 3) (gr a 4) (gr a 5)))
      refine Tot.in0 (Tot.loop (H := fun k p q v s => orielref12_within_l0 (lv k) k (gi a 0) (gs a 1) (gs a 2) (gs a 3) (gr a 4) (gr a 5) p v s) (n := (gr a 4).length) (fun i s => s = [nf a] ++ ((gr a 4).take i).flatMap (fl d false)) (by omega) (fun s hs' => ?_) (fun i s hi hs' next => ?_) _ 0 _ rfl (by omega) (by simp [nf]))
      · subst hs'
        refine Tot.step0 (fun k p_ q_ => orielref12_within_l0_q (lv k) k (gi a 0) (gs a 1) (gs a 2) (gs a 3) (gr a 4) (gr a 5) p_ _ _) ?_
        rw [List.take_length]
        refine Tot.f (decide_eq_false (by omega)) (Tot.in0 (Tot.loop (H := fun k p q v s => orielref12_within_l1 (lv k) k (gi a 0) (gs a 1) (gs a 2) (gs a 3) (gr a 4) (gr a 5) p v s) (n := (gr a 5).length) (fun i s => s = [nf a] ++ (gr a 4).flatMap (fl d false) ++ ((gr a 5).take i).flatMap (fl d true)) (by omega) (fun s hs' => ?_) (fun i s hi hs' next => ?_) _ 0 _ rfl (by omega) (by simp)))
        · subst hs'
          refine Tot.step0 (fun k p_ q_ => orielref12_within_l1_q (lv k) k (gi a 0) (gs a 1) (gs a 2) (gs a 3) (gr a 4) (gr a 5) p_ _ _) ?_
          rw [List.take_length]
          exact Tot.f (decide_eq_false (by omega)) (Tot.ret rfl)
        · subst hs'
          refine Tot.step0 (fun k p_ q_ => orielref12_within_l1_q (lv k) k (gi a 0) (gs a 1) (gs a 2) (gs a 3) (gr a 4) (gr a 5) p_ _ _) ?_
          rw [Int.toNat_natCast]
          repeat (refine Tot.t (decide_eq_true (by omega)) ?_)
          have q3 := take_flat1 (f := fl d true) hi
          refine Tot.bind (ih true _ (h10 i hi) (sub_sz hz 5 true (by simp) hi) ((hs.gr 5).get i)) fun r hr => ?_
          subst hr
          exact Tot.t (roomy_of bytes50 (by simp only [List.length_append, List.length_singleton]; omega)) (next _ (by rw [flat_take hi, List.append_assoc]))
      · subst hs'
        refine Tot.step0 (fun k p_ q_ => orielref12_within_l0_q (lv k) k (gi a 0) (gs a 1) (gs a 2) (gs a 3) (gr a 4) (gr a 5) p_ _ _) ?_
        rw [Int.toNat_natCast]
        repeat (refine Tot.t (decide_eq_true (by omega)) ?_)
        have q3 := take_flat1 (f := fl d false) hi
        refine Tot.bind (ih false _ (h9 i hi) (sub_sz hz 4 false (by simp) hi) ((hs.gr 4).get i)) fun r hr => ?_
        subst hr
        exact Tot.t (roomy_of bytes50 (by simp only [List.length_append, List.length_singleton]; omega)) (next _ (by rw [flat_take hi, List.append_assoc]))
theorem rfil_tot {p : List C} (h : Good p) : Tot (fun k _ _ => (lv k).orielref12_Filters (gi p 0) (gr p 1) (gr p 2)) (fun r => r = fl 16 true p) := rfilters 16 (Nat.le_refl _) true p h.ok h.sz h.sm
/-! bits -/
theorem sumn_le {D : List (List C)} (hg : ∀ x, x ∈ D → Good x) {i : Nat} (hi : i < D.length) : sumn (D.take i) + nst (D.getD i []) ≤ sumn D := by
  have e : D = D.take (i + 1) ++ D.drop (i + 1) := (List.take_append_drop _ _).symm
  have h1 : sumn D = sumn (D.take (i + 1)) + sumn (D.drop (i + 1)) := by rw [← sumn_app, ← e]
  have h2 := (sumn_bd (l := D.drop (i + 1)) fun x hx => hg x (List.mem_of_mem_drop hx)).1
  rw [take_succ hi, sumn_app] at h1
  have h3 : sumn [D.getD i []] = nst (D.getD i []) := by simp [sumn]
  omega
theorem bits_tot {p : List C} (h : Good p) (n s e : Int) (E T : List (List C)) (x : Int) : Tot (fun k _ _ => (lv k).oriellaw18_bits (DD p) ((DD p).map rrow) (bases 0 (DD p)) n s e E T x) (fun r => (r.length : Int) = sumn (DD p)) := by
  have hg := h.ded.good
  have hlen : (DD p).length ≤ 63 := Nat.le_trans h.ded.len h.len
  have hb := sumn_bd hg
  have it := ritems_tot (DD p) ((DD p).map rrow) (bases 0 (DD p)) n s e E T (DD p) rrow rfl (fun _ => rfl) hg (by omega)
  refine oriellaw18_bits_up _ _ _ _ _ _ _ _ _ (Tot.congr ?_ (fun k _ _ => oriellaw18_bits_q (lv k) k (DD p) ((DD p).map rrow) (bases 0 (DD p)) n s e E T x))
  refine Tot.in0 (g := fun k p_ q_ => oriellaw18_bits_l0 (lv k) k (DD p) ((DD p).map rrow) (bases 0 (DD p)) n s e E T x p_ ) ?_
  refine Tot.step0 (fun k p_ q_ => oriellaw18_bits_l0_q (lv k) k (DD p) ((DD p).map rrow) (bases 0 (DD p)) n s e E T x p_ ) ?_
  refine Tot.bind it fun r hr => ?_
  subst hr
  refine Tot.cond (fun h0 => ?_) (fun h0 => Tot.ret ?_)
  · have h0 := of_decide_eq_true h0
    refine Tot.f (by rfl) ?_
    have N : ∃ N : Nat, sumn (DD p) = N := ⟨(sumn (DD p)).toNat, by omega⟩
    obtain ⟨N, hN⟩ := N
    refine Tot.loop (H := fun k q r v w => oriellaw18_bits_l1 (lv k) k (DD p) ((DD p).map rrow) (bases 0 (DD p)) n s e E T x q v w) (n := N) (fun i w => w.length = i) (by omega) (fun w hw => ?_) (fun i w hi hw next => ?_) _ 1 _ rfl (by omega) rfl
    · refine Tot.step0 (fun k p_ q_ => oriellaw18_bits_l1_q (lv k) k (DD p) ((DD p).map rrow) (bases 0 (DD p)) n s e E T x p_ _ _) ?_
      refine Tot.bind it fun r hr => ?_
      subst hr
      exact Tot.f (decide_eq_false (by omega)) (Tot.ret (by omega))
    · refine Tot.step0 (fun k p_ q_ => oriellaw18_bits_l1_q (lv k) k (DD p) ((DD p).map rrow) (bases 0 (DD p)) n s e E T x p_ _ _) ?_
      refine Tot.bind it fun r hr => ?_
      subst hr
      refine Tot.t (decide_eq_true (by omega)) (Tot.f (decide_eq_false ?_) (Tot.t (roomy_of bytes5 (by omega)) (next _ (by simp [hw]))))
      have : IntKind.u64.wrap (i : Int) = i := by
        unfold IntKind.wrap
        have h1 : IntKind.u64.signed = false := rfl
        have h2 : IntKind.u64.bits = 64 := rfl
        simp only [h1, h2]
        simp
        omega
      rw [this]
      have := Int.tmod_nonneg (a := (i : Int)) 64 (by omega)
      omega
  · have h0 := of_decide_eq_false h0
    show (0 : Int) = _
    omega
/-! the event -/
theorem named9_tot (s t : ByteArray) (hs : s.size ≤ 1048576) (ht : t.size ≤ 1048576) : Tot (fun k _ _ => (lv k).orielref09_named s t) (fun _ => True) := by
  refine orielref09_named_up _ _ (Tot.congr ?_ (fun k _ _ => orielref09_named_q (lv k) k s t))
  refine Tot.bind (plain_tot t ht) fun _ _ => Tot.cond (fun _ => Tot.bind (right4_tot t ht) fun _ _ => Tot.cond (fun _ => Tot.bind (right4_tot s hs) fun _ _ => Tot.cond (fun _ => Tot.ret trivial) (fun _ => Tot.ret trivial)) (fun _ => Tot.ret trivial)) (fun _ => Tot.ret trivial)
theorem right9_tot (a : List C) (ha : SmR BB a) : Tot (fun k _ _ => (lv k).orielref09_Right (gi a 0) (gs a 1) (gs a 2) (gr a 3) (gs a 4)) (fun _ => True) := by
  have hl : (gr a 3).length ≤ 1048576 := (ha.gr 3).1
  refine orielref09_Right_up _ _ _ _ _ (Tot.congr ?_ (fun k _ _ => orielref09_Right_q (lv k) k (gi a 0) (gs a 1) (gs a 2) (gr a 3) (gs a 4)))
  have l1 : Tot (fun k _ _ => orielref09_Right_l1 (lv k) k (gi a 0) (gs a 1) (gs a 2) (gr a 3) (gs a 4) k 0) (fun _ => True) := by
    refine Tot.in0 (Tot.loop (H := fun k p q v (_ : Unit) => orielref09_Right_l1 (lv k) k (gi a 0) (gs a 1) (gs a 2) (gr a 3) (gs a 4) p v) (n := (gr a 3).length) (fun i _ => True) (by omega) (fun _ _ => ?_) (fun i _ hi _ next => ?_) _ 0 () rfl (by omega) trivial)
    · refine Tot.step0 (fun k p_ q_ => orielref09_Right_l1_q (lv k) k (gi a 0) (gs a 1) (gs a 2) (gr a 3) (gs a 4) p_ _) ?_
      exact Tot.f (decide_eq_false (by omega)) (Tot.ret trivial)
    · have hsi := (ha.gr 3).get i
      refine Tot.step0 (fun k p_ q_ => orielref09_Right_l1_q (lv k) k (gi a 0) (gs a 1) (gs a 2) (gr a 3) (gs a 4) p_ _) ?_
      rw [Int.toNat_natCast]
      repeat (refine Tot.t (decide_eq_true (by omega)) ?_)
      refine Tot.bind (named9_tot _ _ (hsi.gs 0) (hsi.gs 1)) fun _ _ => Tot.cond (fun _ => Tot.ret trivial) (fun _ => ?_)
      repeat (refine Tot.t (decide_eq_true (by omega)) ?_)
      refine Tot.bind (right4_tot _ (hsi.gs 2)) fun _ _ => Tot.cond (fun _ => Tot.ret trivial) (fun _ => ?_)
      refine Tot.in1 (Tot.loop (H := fun k p q v (_ : Unit) => orielref09_Right_l2 (lv k) k (gi a 0) (gs a 1) (gs a 2) (gr a 3) (gs a 4) p q (i : Int) v) (n := i) (fun i _ => True) (by omega) (fun _ _ => ?_) (fun j _ hj _ nx => ?_) _ 0 () rfl (by omega) trivial)
      · refine Tot.step1 (fun k p_ q_ => orielref09_Right_l2_q (lv k) k (gi a 0) (gs a 1) (gs a 2) (gr a 3) (gs a 4) p_ q_ _ _) ?_
        exact Tot.f (decide_eq_false (by omega)) (next () trivial)
      · refine Tot.step1 (fun k p_ q_ => orielref09_Right_l2_q (lv k) k (gi a 0) (gs a 1) (gs a 2) (gr a 3) (gs a 4) p_ q_ _ _) ?_
        repeat (refine Tot.t (decide_eq_true (by omega)) ?_)
        exact Tot.cond (fun _ => Tot.ret trivial) (fun _ => nx () trivial)
  have l0 : ∀ v, Tot (fun k _ _ => orielref09_Right_l0 (lv k) k (gi a 0) (gs a 1) (gs a 2) (gr a 3) (gs a 4) v) (fun _ => True) := fun v => by
    refine Tot.congr ?_ (fun k p_ q_ => orielref09_Right_l0_q (lv k) k (gi a 0) (gs a 1) (gs a 2) (gr a 3) (gs a 4) v )
    repeat' first
      | exact Tot.ret trivial
      | exact l1
      | refine Tot.cond (fun _ => ?_) (fun _ => ?_)
      | refine Tot.bind (right4_tot _ (ha.gs 4)) fun _ _ => ?_
      | refine Tot.bind (named9_tot _ _ (ha.gs 1) (ha.gs 2)) fun _ _ => ?_
  exact Tot.cond (fun _ => l0 _) (fun _ => l0 _)
theorem few_tot (l : List (List C)) (hl : l.length ≤ 1048576) (h3 : ∀ i, (gr (l.getD i []) 3).length ≤ 1048576) : Tot (fun k _ _ => (lv k).orielref09_Few l) (fun _ => True) := by
  refine orielref09_Few_up _ (Tot.congr ?_ (fun k _ _ => orielref09_Few_q (lv k) k l))
  refine Tot.in0 (Tot.loop (H := fun k p q v w => orielref09_Few_l0 (lv k) k l p w v) (n := l.length) (fun i _ => True) (by omega) (fun w _ => ?_) (fun i w hi _ next => ?_) _ 0 _ rfl (by omega) trivial)
  · refine Tot.step0 (fun k p_ q_ => orielref09_Few_l0_q (lv k) k l p_ _ _) ?_
    exact Tot.f (decide_eq_false (by omega)) (Tot.ret trivial)
  · have hli : (gr (l.getD i []) 3).length ≤ 1048576 := h3 i
    refine Tot.step0 (fun k p_ q_ => orielref09_Few_l0_q (lv k) k l p_ _ _) ?_
    rw [Int.toNat_natCast]
    refine Tot.t (decide_eq_true (by omega)) (Tot.cond (fun _ => ?_) (fun _ => Tot.ret trivial))
    repeat (refine Tot.t (decide_eq_true (by omega)) ?_)
    refine Tot.cond (fun _ => Tot.ret trivial) (fun _ => ?_)
    repeat (refine Tot.t (decide_eq_true (by omega)) ?_)
    refine Tot.cond (fun _ => Tot.ret trivial) (fun _ => ?_)
    repeat (refine Tot.t (decide_eq_true (by omega)) ?_)
    refine Tot.cond (fun _ => Tot.ret trivial) (fun _ => ?_)
    generalize IntKind.i64.wrap (w + ((gr (l.getD i []) 3).length : Int)) = w'
    refine Tot.in1 (Tot.loop (H := fun k p q v (_ : Unit) => orielref09_Few_l1 (lv k) k l p q w' (i : Int) v) (n := (gr (l.getD i []) 3).length) (fun i _ => True) (by omega) (fun _ _ => ?_) (fun j _ hj _ nx => ?_) _ 0 () rfl (by omega) trivial)
    · refine Tot.step1 (fun k p_ q_ => orielref09_Few_l1_q (lv k) k l p_ q_ _ _ _) ?_
      rw [Int.toNat_natCast]
      repeat (refine Tot.t (decide_eq_true (by omega)) ?_)
      exact Tot.f (decide_eq_false (by omega)) (next _ trivial)
    · refine Tot.step1 (fun k p_ q_ => orielref09_Few_l1_q (lv k) k l p_ q_ _ _ _) ?_
      rw [Int.toNat_natCast, Int.toNat_natCast]
      repeat (refine Tot.t (decide_eq_true (by omega)) ?_)
      refine Tot.cond (fun _ => ?_) (fun _ => next _ trivial)
      repeat (refine Tot.t (decide_eq_true (by omega)) ?_)
      refine Tot.cond (fun _ => Tot.ret trivial) (fun _ => ?_)
      repeat (refine Tot.t (decide_eq_true (by omega)) ?_)
      refine Tot.cond (fun _ => Tot.ret trivial) (fun _ => ?_)
      repeat (refine Tot.t (decide_eq_true (by omega)) ?_)
      exact Tot.cond (fun _ => Tot.ret trivial) (fun _ => nx () trivial)
/-! the law -/
theorem ctx_of {p ea bits : List (List C)} {q : List C} (h : Good q) (hb : (bits.length : Int) = sumn (DD q)) (hl : ea.length ≤ 1048576) : Ctx (DD q) ((DD q).map rrow) (bases 0 (DD q)) ea bits := by
  have hg := h.ded.good
  have hlen : (DD q).length ≤ 63 := Nat.le_trans h.ded.len h.len
  have hs := sumn_bd hg
  refine ⟨hg, by omega, by simp, bases_len _ _, fun i hi => ?_, by omega, hl⟩
  have hgi := hg _ (getD_mem (d := []) hi)
  have h1 := mk_shp 16 _ _ _ 0 0 hgi.pok
  have h2 := sumn_le hg hi
  have h3 := (sumn_bd (mem_take hg i)).1
  have e1 : ((DD q).map rrow).getD i [] = rrow ((DD q).getD i []) := by simp [List.getD_eq_getElem?_getD, hi]
  rw [bases_get _ _ _ hi, e1, Int.zero_add, hb]
  have h4 := h1.s0
  have h5 := h1.s1
  show 0 ≤ sumn ((DD q).take i) + (mach ((DD q).getD i [])).s ∧ sumn ((DD q).take i) + (mach ((DD q).getD i [])).s < _
  unfold nst at h2
  unfold mach at h2 ⊢
  omega
theorem holds_tot (p ev : List C) (x : Int) (hp : SmR BB p) (hev : SmR BB ev) : Tot (fun k _ _ => (lv k).oriellaw18_StratHolds (gi p 0) (gr p 1) (gr p 2) (gi ev 0) (gs ev 1) (gs ev 2) (gr ev 3) (gs ev 4) x) (fun r => r = true) := by
  have hal : (gr ev 3).length ≤ 1048576 := (hev.gr 3).1
  have aw : Tot (fun n _ _ => ((lv n).oriellaw18_awake).bind fun r => some r) (fun r => r = true) := Tot.bind awake_tot fun r hr => Tot.ret hr
  refine oriellaw18_StratHolds_up _ _ _ _ _ _ _ _ _ (Tot.congr ?_ (fun k _ _ => oriellaw18_StratHolds_q (lv k) k (gi p 0) (gr p 1) (gr p 2) (gi ev 0) (gs ev 1) (gs ev 2) (gr ev 3) (gs ev 4) x))
  refine Tot.bind awake_tot fun r hr => ?_
  subst hr
  refine Tot.f rfl (Tot.bind (right_tot p hp) fun r hr => Tot.cond (fun _ => aw) (fun hb => ?_))
  have hrt : r = true := by simpa using hb
  subst hrt
  have h := to_good hp (hr rfl)
  refine Tot.bind (right9_tot ev hev) fun r _ => Tot.cond (fun _ => aw) (fun _ => Tot.cond (fun _ => aw) (fun _ => ?_))
  refine Tot.bind (few_tot _ (by simp) (fun i => by
    cases i with
    | zero => exact hal
    | succ i => exact Nat.zero_le _)) fun r _ => Tot.cond (fun _ => aw) (fun _ => ?_)
  refine Tot.bind (rmake_tot h) fun r hr => ?_
  subst hr
  refine Tot.bind (bits_tot h _ _ _ _ _ x) fun bits hbits => ?_
  have hc := ctx_of (p := []) (ea := gr ev 3) h hbits hal
  refine Tot.bind (rfil_tot h) fun r hr => ?_
  subst hr
  have hfl : (fl 16 true p).length ≤ 64 := Nat.le_trans (fl_len 16 true p) (h.sz 16)
  have hT := mach_T h
  have hTl : ((mach p).T.map nf).length ≤ 64 := by
    have h1 := (mk_bd 16 _ _ _ 0 0 h.pok).t
    have h2 := h.pc
    rw [List.length_map]
    unfold mach
    omega
  generalize hTT : (mach p).T.map nf = TT at hT hTl
  have hb : ∀ f, OkF f → ∃ b, HH (DD p) ((DD p).map rrow) (bases 0 (DD p)) (mach p).n (mach p).s (mach p).e (mach p).E TT (gi ev 0) (gs ev 1) (gs ev 2) (gr ev 3) (gs ev 4) bits f b := fun f hf => hold 16 (Nat.le_refl _) hc f hf.ok hf.sm
  refine Tot.in0 (Tot.loop (H := fun k q r v (_ : Unit) => oriellaw18_StratHolds_l0 (lv k) k (gi p 0) (gr p 1) (gr p 2) (gi ev 0) (gs ev 1) (gs ev 2) (gr ev 3) (gs ev 4) x q v (mach p).n (mach p).s (mach p).e (mach p).E TT bits (fl 16 true p) (DD p) ((DD p).map rrow) (bases 0 (DD p))) (n := (fl 16 true p).length) (fun i _ => True) (by omega) (fun _ _ => ?_) (fun i _ hi _ next => ?_) _ 0 () rfl (by omega) trivial)
  · refine Tot.step0 (fun k p_ q_ => oriellaw18_StratHolds_l0_q (lv k) k (gi p 0) (gr p 1) (gr p 2) (gi ev 0) (gs ev 1) (gs ev 2) (gr ev 3) (gs ev 4) x p_ _ _ _ _ _ _ _ _ _ _ _) ?_
    refine Tot.f (decide_eq_false (by omega)) ?_
    have tests : Tot (fun k _ _ => (lv k).strat_Tests (DD p) ((DD p).map rrow) (bases 0 (DD p)) (mach p).n (mach p).s (mach p).e (mach p).E TT (mach p).n (mach p).s (mach p).e (mach p).E TT (gi ev 0) (gs ev 1) (gs ev 2) (gr ev 3) (gs ev 4) bits) (fun r => r.length = TT.length ∧ ∀ i, i < TT.length → HH (DD p) ((DD p).map rrow) (bases 0 (DD p)) (mach p).n (mach p).s (mach p).e (mach p).E TT (gi ev 0) (gs ev 1) (gs ev 2) (gr ev 3) (gs ev 4) bits (TT.getD i []) (gb (r.getD i []) 0)) := by
      refine strat_Tests_up _ _ _ _ _ _ _ _ _ _ _ _ _ _ _ _ _ _ _ (Tot.congr ?_ (fun k _ _ => strat_Tests_q (lv k) k (DD p) ((DD p).map rrow) (bases 0 (DD p)) (mach p).n (mach p).s (mach p).e (mach p).E TT (mach p).n (mach p).s (mach p).e (mach p).E TT (gi ev 0) (gs ev 1) (gs ev 2) (gr ev 3) (gs ev 4) bits))
      refine Tot.in0 (g := fun k p_ q_ => strat_Tests_l0 (lv k) k (DD p) ((DD p).map rrow) (bases 0 (DD p)) (mach p).n (mach p).s (mach p).e (mach p).E TT (mach p).n (mach p).s (mach p).e (mach p).E TT (gi ev 0) (gs ev 1) (gs ev 2) (gr ev 3) (gs ev 4) bits p_ ) ?_
      refine Tot.step0 (fun k p_ q_ => strat_Tests_l0_q (lv k) k (DD p) ((DD p).map rrow) (bases 0 (DD p)) (mach p).n (mach p).s (mach p).e (mach p).E TT (mach p).n (mach p).s (mach p).e (mach p).E TT (gi ev 0) (gs ev 1) (gs ev 2) (gr ev 3) (gs ev 4) bits p_ ) ?_
      refine Tot.cond (fun h0 => ?_) (fun h0 => Tot.ret ?_)
      · have h0 := of_decide_eq_true h0
        refine Tot.t (decide_eq_true (by omega)) ?_
        obtain ⟨b0, hb0⟩ := hb _ (hT _ (getD_mem (d := []) (show 0 < TT.length by omega)))
        refine Tot.bind hb0.p1 fun r hr => ?_
        subst hr
        refine Tot.loop (H := fun k q r v w => strat_Tests_l1 (lv k) k (DD p) ((DD p).map rrow) (bases 0 (DD p)) (mach p).n (mach p).s (mach p).e (mach p).E TT (mach p).n (mach p).s (mach p).e (mach p).E TT (gi ev 0) (gs ev 1) (gs ev 2) (gr ev 3) (gs ev 4) bits q v (DD p) ((DD p).map rrow) (bases 0 (DD p)) (mach p).n (mach p).s (mach p).e (mach p).E TT (gi ev 0) (gs ev 1) (gs ev 2) (gr ev 3) (gs ev 4) bits w) (n := TT.length) (fun i w => w.length = i ∧ ∀ j, j < i → HH (DD p) ((DD p).map rrow) (bases 0 (DD p)) (mach p).n (mach p).s (mach p).e (mach p).E TT (gi ev 0) (gs ev 1) (gs ev 2) (gr ev 3) (gs ev 4) bits (TT.getD j []) (gb (w.getD j []) 0)) (by omega) (fun w hw => ?_) (fun i w hi hw next => ?_) _ 1 _ rfl (by omega) ⟨rfl, fun j hj => by rw [show j = 0 by omega]; exact hb0⟩
        · refine Tot.step0 (fun k p_ q_ => strat_Tests_l1_q (lv k) k (DD p) ((DD p).map rrow) (bases 0 (DD p)) (mach p).n (mach p).s (mach p).e (mach p).E TT (mach p).n (mach p).s (mach p).e (mach p).E TT (gi ev 0) (gs ev 1) (gs ev 2) (gr ev 3) (gs ev 4) bits p_ _ _ _ _ _ _ _ _ _ _ _ _ _ _ _ _) ?_
          exact Tot.f (decide_eq_false (by omega)) (Tot.ret hw)
        · obtain ⟨hw1, hw2⟩ := hw
          obtain ⟨bi, hbi⟩ := hb _ (hT _ (getD_mem (d := []) hi))
          refine Tot.step0 (fun k p_ q_ => strat_Tests_l1_q (lv k) k (DD p) ((DD p).map rrow) (bases 0 (DD p)) (mach p).n (mach p).s (mach p).e (mach p).E TT (mach p).n (mach p).s (mach p).e (mach p).E TT (gi ev 0) (gs ev 1) (gs ev 2) (gr ev 3) (gs ev 4) bits p_ _ _ _ _ _ _ _ _ _ _ _ _ _ _ _ _) ?_
          rw [Int.toNat_natCast]
          repeat (refine Tot.t (decide_eq_true (by omega)) ?_)
          refine Tot.bind hbi.p1 fun r hr => ?_
          subst hr
          refine Tot.t (roomy_of bytes4 (by omega)) (next _ ⟨by simp [hw1], fun j hj => ?_⟩)
          rw [getD_app]
          split
          · exact hw2 j (by omega)
          · rw [show j = i by omega, show i - w.length = 0 by omega]
            exact hbi
      · have h0 := of_decide_eq_false h0
        exact ⟨by simp; omega, fun i hi => by omega⟩
    refine Tot.bind tests fun r hr => ?_
    obtain ⟨hr1, hr2⟩ := hr
    refine Tot.f (by simp [hr1]) (Tot.in0 (Tot.loop (H := fun k q u v (_ : Unit) => oriellaw18_StratHolds_l1 (lv k) k (gi p 0) (gr p 1) (gr p 2) (gi ev 0) (gs ev 1) (gs ev 2) (gr ev 3) (gs ev 4) x q v (mach p).n (mach p).s (mach p).e (mach p).E TT bits r (DD p) ((DD p).map rrow) (bases 0 (DD p))) (n := r.length) (fun i _ => True) (by omega) (fun _ _ => ?_) (fun i _ hi _ next => ?_) _ 0 () rfl (by omega) trivial))
    · refine Tot.step0 (fun k p_ q_ => oriellaw18_StratHolds_l1_q (lv k) k (gi p 0) (gr p 1) (gr p 2) (gi ev 0) (gs ev 1) (gs ev 2) (gr ev 3) (gs ev 4) x p_ _ _ _ _ _ _ _ _ _ _ _) ?_
      exact Tot.f (decide_eq_false (by omega)) (Tot.ret rfl)
    · refine Tot.step0 (fun k p_ q_ => oriellaw18_StratHolds_l1_q (lv k) k (gi p 0) (gr p 1) (gr p 2) (gi ev 0) (gs ev 1) (gs ev 2) (gr ev 3) (gs ev 4) x p_ _ _ _ _ _ _ _ _ _ _ _) ?_
      rw [Int.toNat_natCast]
      repeat (refine Tot.t (decide_eq_true (by omega)) ?_)
      refine Tot.bind (hr2 i (by omega)).rf fun b hb => ?_
      subst hb
      exact Tot.f (by simp) (next () trivial)
  · obtain ⟨bi, hbi⟩ := hb _ (fl_ok (Nat.le_refl _) h.ok hp _ (getD_mem (d := []) hi))
    refine Tot.step0 (fun k p_ q_ => oriellaw18_StratHolds_l0_q (lv k) k (gi p 0) (gr p 1) (gr p 2) (gi ev 0) (gs ev 1) (gs ev 2) (gr ev 3) (gs ev 4) x p_ _ _ _ _ _ _ _ _ _ _ _) ?_
    rw [Int.toNat_natCast]
    repeat (refine Tot.t (decide_eq_true (by omega)) ?_)
    refine Tot.bind (R := fun r => r = bi) ?_ fun r hr => ?_
    · refine strat_Holds_up _ _ _ _ _ _ _ _ _ _ _ _ _ _ _ _ _ _ _ _ (Tot.congr ?_ (fun k _ _ => strat_Holds_q (lv k) k (DD p) ((DD p).map rrow) (bases 0 (DD p)) (mach p).n (mach p).s (mach p).e (mach p).E TT (gi ((fl 16 true p).getD i []) 0) (gs ((fl 16 true p).getD i []) 1) (gs ((fl 16 true p).getD i []) 2) (gs ((fl 16 true p).getD i []) 3) (gr ((fl 16 true p).getD i []) 4) (gr ((fl 16 true p).getD i []) 5) (gi ev 0) (gs ev 1) (gs ev 2) (gr ev 3) (gs ev 4) bits))
      exact Tot.bind hbi.p1 fun r hr => Tot.ret (by rw [hr])
    · subst hr
      repeat (refine Tot.t (decide_eq_true (by omega)) ?_)
      refine Tot.bind hbi.rf fun b hb => ?_
      subst hb
      exact Tot.f (by simp) (next () trivial)
end Go.Vm.T
