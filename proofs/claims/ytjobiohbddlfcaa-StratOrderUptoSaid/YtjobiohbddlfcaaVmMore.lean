/- A path's machines, by the program and by the document. -/
import Derived.Test.YtjobiohbddlfcaaVmPure
import Derived.Test.YtjobiohbddlfcaaVmTbb
/- A path's machines: the program's and the document's. -/
set_option linter.unusedVariables false
set_option linter.unusedSimpArgs false
namespace Go.Vm.T
open Go Go.Vm Go.Proofs
attribute [local irreducible] lv oriellaw18_StratHolds_b oriellaw18_StratHolds_l0 oriellaw18_StratHolds_l1 oriellaw18_StratOrder_b oriellaw18_StratOrder_l0 oriellaw18_StratOrder_l1 oriellaw18_StratOrder_l2 oriellaw18_StratKeeps_b oriellaw18_StratKeeps_l0 oriellaw18_StratKeeps_l1 oriellaw18_awake_b strat_Make_b strat_Make_l0 strat_Make_l1 strat_maker_path_b strat_maker_path_l0 strat_maker_path_l1 strat_maker_filter_b strat_maker_filter_l0 strat_maker_filter_l1 api_Path_b api_Path_2_b api_Path_2_l0 strat_maker_filter_1_b path_Same_b api_Path_3_b api_Path_3_l0 prog_Compile_b api_Filter_b api_Filter_l0 prog_maker_path_b path_sameFilter_b prog_maker_step_b prog_maker_seq_b prog_maker_seq_l0 prog_maker_alt_b prog_maker_alt_l0 prog_maker_alt_l1 prog_maker_alt_l2 prog_maker_alt_l3 prog_maker_state_b prog_maker_lay_b prog_maker_free_b strat_Items_b strat_Items_l0 orielref12_Right_b strat_Find_b orielref12_Size_b api_Path_4_b api_Path_4_l0 orielref12_size_b orielref12_size_l0 orielref12_size_l1 strat_Find_1_b orielref12_sizeFilter_b orielref12_sizeFilter_l0 orielref12_sizeFilter_l1 strat_Holds_b orielref12_path_b orielref12_path_l0 orielref12_path_l1 strat_node_holds_b orielref12_filter_b orielref12_filter_l0 orielref12_filter_l1 orielref12_filter_l2 orielref12_filter_l3 orielref12_filter_l4 strat_node_attr_b strat_node_attr_l0 api_Filter_2_b api_Filter_3_b api_Path_5_b orielref12_named_b orielref04_Right_b orielref04_Right_l0 api_Filter_4_b api_Filter_4_l0 api_Filter_5_b api_Filter_5_l0 api_Path_6_b api_Path_6_l0 orielref03_Plain_b orielref03_Plain_l0 orielref01_All_b orielref01_All_l0 orielref01_All_l1 strat_node_fails_b strat_node_holds_2_b strat_node_leads_b orielref02_Start_b orielref01_Rune_b orielref01_Rune_l0 strat_node_attr_2_b strat_node_attr_2_l0 orielref01_Put_b orielref01_cut_b orielref01_cut_l0 orielref01_cut_l1 orielref01_cut_l2 orielref01_cut_l3 orielref01_cut_l4 orielref01_value_b orielref01_value_l0 orielref01_value_l1 orielref09_Right_b orielref09_Right_l0 orielref09_Right_l1 orielref09_Right_l2 orielref18_Inner_b orielref18_Inner_l0 orielref18_Inner_l1 orielref18_Inner_l2 orielref18_Inner_l3 orielref18_Make_b orielref18_Make_l0 orielref18_Make_l1 orielref02_Char_b orielref02_Part_b orielref01_begins_b orielref01_begins_l0 orielref09_named_b orielref18_within_b orielref18_within_l0 orielref18_within_l1 orielref17_Compile_b orielref02_Blank_b orielref17_add_b orielref17_add_l0 orielref17_add_l1 orielref17_add_l2 orielref17_add_l3 orielref17_add_l4 orielref17_add_l5 orielref17_add_l6 orielref17_edge_b orielref09_Few_b orielref09_Few_l0 orielref09_Few_l1 strat_Tests_b strat_Tests_l0 strat_Tests_l1 orielref05_Find_b orielref05_Find_l0 orielref18_Find_b orielref18_Find_l0 orielref12_Same_b orielref12_Same_l0 orielref12_Same_l1 orielref12_SameFilter_b orielref12_SameFilter_l0 orielref12_SameFilter_l1 oriellaw18_bits_b oriellaw18_bits_l0 oriellaw18_bits_l1 orielref18_Items_b orielref18_Items_l0 orielref12_Filters_b orielref12_Filters_l0 orielref12_Filters_l1 orielref12_Filters_l2 orielref12_Filters_l3 orielref12_within_b orielref12_within_l0 orielref12_within_l1 orielref18_Holds_b orielref18_Holds_l0 orielref18_Holds_l1
theorem bytes25 : Try.prog.bytesOf 25 ≤ 1024 := of_decide_eq_true (by kernel_rfl)
theorem bytes41 : Try.prog.bytesOf 41 ≤ 1024 := of_decide_eq_true (by kernel_rfl)
theorem good_get {D : List (List C)} (h : ∀ x, x ∈ D → Good x) (i : Nat) : SmR BB (D.getD i []) := by
  rw [List.getD_eq_getElem?_getD]
  cases hi : D[i]? with
  | none => intro x hx; cases hx
  | some r => exact (h r (List.mem_of_getElem? hi)).sm
/-- is one alike to a path in a list? -/
theorem cont_tot (D : List (List C)) (x : List C) (hD : ∀ y, y ∈ D → Good y) (hl : D.length ≤ 1000000) (hx : SmR BB x) : Tot (fun k _ _ => (lv k).api_Path D (gi x 0) (gr x 1) (gr x 2)) (fun r => r = true ↔ ∃ z, z ∈ D ∧ Alike true z x) := by
  refine api_Path_up _ _ _ _ (Tot.congr ?_ (fun k _ _ => api_Path_q (lv k) k D (gi x 0) (gr x 1) (gr x 2)))
  have h2 : Tot (fun k _ _ => (lv k).api_Path_2 D (gi x 0) (gr x 1) (gr x 2)) (Fst D.length (fun j => Alike true x (D.getD j []))) := by
    refine api_Path_2_up _ _ _ _ (Tot.congr ?_ (fun k _ _ => api_Path_2_q (lv k) k D (gi x 0) (gr x 1) (gr x 2)))
    refine Tot.in0 (Tot.first (H := fun k p q v => api_Path_2_l0 (lv k) k D (gi x 0) (gr x 1) (gr x 2) p v) (n := D.length) (by omega) ?_ (fun i Q hi hy hn => ?_))
    · refine Tot.step0 (fun k p_ q_ => api_Path_2_l0_q (lv k) k D (gi x 0) (gr x 1) (gr x 2) p_ _) ?_
      exact Tot.f (decide_eq_false (by omega)) (Tot.ret rfl)
    · refine Tot.step0 (fun k p_ q_ => api_Path_2_l0_q (lv k) k D (gi x 0) (gr x 1) (gr x 2) p_ _) ?_
      rw [Int.toNat_natCast]
      repeat (refine Tot.t (decide_eq_true (by omega)) ?_)
      refine Tot.bind (R := AlQ true x (D.getD i [])) ?_ fun r hr => Tot.cond (fun h => Tot.ret (hy (hr.1 h))) (fun h => hn (fun ha => by rw [hr.2 ha] at h; cases h))
      refine strat_maker_filter_1_up _ _ _ _ _ _ (Tot.congr ?_ (fun k _ _ => strat_maker_filter_1_q (lv k) k (gi (D.getD i []) 0) (gr (D.getD i []) 1) (gr (D.getD i []) 2) (gi x 0) (gr x 1) (gr x 2)))
      exact Tot.bind (psame_tot x (D.getD i []) hx (good_get hD i)) fun r hr => Tot.ret hr
  refine Tot.bind h2 fun r hr => Tot.ret ?_
  rcases hr with ⟨rfl, h⟩ | ⟨i, rfl, h1, h2, h3⟩
  · constructor
    · intro h; simp at h
    · rintro ⟨z, hz, ha⟩
      obtain ⟨i, hi, rfl⟩ := mem_getD hz
      exact absurd ha.symm (h i hi)
  · exact ⟨fun _ => ⟨_, getD_mem h1, h2.symm⟩, fun _ => decide_eq_true (by omega)⟩
theorem add1_row3 (r : List (List C)) (x : List C) : add1 r (row3 x) = add1 r x := by
  by_cases h : ∃ z, z ∈ r ∧ Alike true z x
  · obtain ⟨z, h1, h2⟩ := h
    rw [add1_old ⟨z, h1, h2⟩, add1_old ⟨z, h1, h2.trans (al3 _).symm⟩]
  · rw [add1_new h, add1_new fun ⟨z, h1, h2⟩ => h ⟨z, h1, h2.trans (al3 _)⟩]
    rfl
theorem set_last {l : List (List C)} {z w : List C} : (l ++ [z]).set l.length w = l ++ [w] := by
  induction l with
  | nil => rfl
  | cons x l ih => simp [ih]
theorem get_last {l : List (List C)} {z : List C} : (l ++ [z]).getD l.length [] = z := by
  rw [getD_app, if_neg (Nat.lt_irrefl _), Nat.sub_self]
  rfl
theorem take_flat {l : List (List C)} {f : List C → List (List C)} {i : Nat} : ((l.take i).flatMap f).length ≤ (l.flatMap f).length := by
  have := List.take_append_drop i l
  have h : (l.flatMap f).length = ((l.take i).flatMap f).length + ((l.drop i).flatMap f).length := by
    rw [← List.length_append, ← List.flatMap_append, this]
  omega
theorem take_flat1 {l : List (List C)} {f : List C → List (List C)} {i : Nat} (hi : i < l.length) : ((l.take i).flatMap f).length + (f (l.getD i [])).length ≤ (l.flatMap f).length := by
  have := take_flat (l := l) (f := f) (i := i + 1)
  rw [flat_take hi, List.length_append] at this
  exact this
/-- what the gathering is to come to -/
def PM (d : Nat) (k : Bool) : Prop := ∀ (a : List C) (D : List (List C)), ok d k a → (∀ e, sz e k a ≤ 64) → SmR BB a → (∀ x, x ∈ D → Good x) → D.length + (inn d k a).length ≤ 1000 →
  match k with
  | true => Tot (fun k _ _ => (lv k).strat_maker_path D (gi a 0) (gr a 1) (gr a 2)) (fun r => r = (inn d true a).foldl add1 D)
  | false => Tot (fun k _ _ => (lv k).strat_maker_filter D (gi a 0) (gs a 1) (gs a 2) (gs a 3) (gr a 4) (gr a 5)) (fun r => r = (inn d false a).foldl add1 D)
theorem sub_sz {a : List C} {k : Bool} (hz : ∀ e, sz e k a ≤ 64) (j : Nat) (k' : Bool) (hj : (k, j, k') = (true, 1, true) ∨ (k, j, k') = (true, 2, false) ∨ (k, j, k') = (false, 4, false) ∨ (k, j, k') = (false, 5, true)) {i : Nat} (hi : i < (gr a j).length) : ∀ e, sz e k' ((gr a j).getD i []) ≤ 64 := by
  intro e
  have h1 := hz (e + 1)
  have h2 := sz_sub (f := sz e k') hi
  rcases hj with hj | hj | hj | hj <;> cases hj <;> simp only [sz] at h1 <;> omega
theorem gather : ∀ d, d ≤ 16 → PM d true ∧ PM d false := by
  intro d
  induction d with
  | zero => intro _; exact ⟨fun a D h => h.elim, fun a D h => h.elim⟩
  | succ d ih =>
    intro hd
    have ih := ih (by omega)
    constructor
    · intro a D ha hz hs hD hl
      have hgood := inn_good hd ha hz hs
      have ha' := ha
      obtain ⟨_, _, _, _, _, _, _, _, h9, h10⟩ := ha'
      have e0 : inn (d + 1) true a = (gr a 1).flatMap (inn d true) ++ (gr a 2).flatMap (inn d false) := rfl
      rw [e0] at hgood hl ⊢
      rw [List.length_append] at hl
      have hl1 : (gr a 1).length ≤ 1048576 := (hs.gr 1).1
      have hl2 : (gr a 2).length ≤ 1048576 := (hs.gr 2).1
      have g1 : ∀ i x, x ∈ ((gr a 1).take i).flatMap (inn d true) → Good x := fun i x hx => hgood x (List.mem_append_left _ (by
        obtain ⟨y, hy, h⟩ := List.mem_flatMap.1 hx
        exact List.mem_flatMap.2 ⟨y, List.mem_of_mem_take hy, h⟩))
      have g2 : ∀ i x, x ∈ ((gr a 2).take i).flatMap (inn d false) → Good x := fun i x hx => hgood x (List.mem_append_right _ (by
        obtain ⟨y, hy, h⟩ := List.mem_flatMap.1 hx
        exact List.mem_flatMap.2 ⟨y, List.mem_of_mem_take hy, h⟩))
      refine strat_maker_path_up _ _ _ _ (Tot.congr ?_ (fun k _ _ => strat_maker_path_q (lv k) k D (gi a 0) (gr a 1) (gr a 2)))
      refine Tot.in0 (Tot.loop (H := fun k p q v s => strat_maker_path_l0 (lv k) k D (gi a 0) (gr a 1) (gr a 2) p v s) (n := (gr a 1).length) (fun i s => s = (((gr a 1).take i).flatMap (inn d true)).foldl add1 D) (by omega) (fun s hs' => ?_) (fun i s hi hs' next => ?_) _ 0 D rfl (by omega) rfl)
      · subst hs'
        refine Tot.step0 (fun k p_ q_ => strat_maker_path_l0_q (lv k) k D (gi a 0) (gr a 1) (gr a 2) p_ _ _) ?_
        refine Tot.f (decide_eq_false (by omega)) ?_
        rw [List.take_length]
        refine Tot.in0 (Tot.loop (H := fun k p q v s => strat_maker_path_l1 (lv k) k D (gi a 0) (gr a 1) (gr a 2) p v s) (n := (gr a 2).length) (fun i s => s = (((gr a 2).take i).flatMap (inn d false)).foldl add1 (((gr a 1).flatMap (inn d true)).foldl add1 D)) (by omega) (fun s hs' => ?_) (fun i s hi hs' next => ?_) _ 0 _ rfl (by omega) rfl)
        · subst hs'
          refine Tot.step0 (fun k p_ q_ => strat_maker_path_l1_q (lv k) k D (gi a 0) (gr a 1) (gr a 2) p_ _ _) ?_
          refine Tot.f (decide_eq_false (by omega)) (Tot.ret ?_)
          rw [List.take_length, List.foldl_append]
        · subst hs'
          refine Tot.step0 (fun k p_ q_ => strat_maker_path_l1_q (lv k) k D (gi a 0) (gr a 1) (gr a 2) p_ _ _) ?_
          rw [Int.toNat_natCast]
          repeat (refine Tot.t (decide_eq_true (by omega)) ?_)
          have q1 := add_len D ((gr a 1).flatMap (inn d true))
          have q2 := add_len (((gr a 1).flatMap (inn d true)).foldl add1 D) (((gr a 2).take i).flatMap (inn d false))
          have q3 := take_flat1 (f := inn d false) hi
          refine Tot.bind (ih.2 _ _ (h10 i hi) (sub_sz hz 2 false (by simp) hi) ((hs.gr 2).get i) (add_good (add_good hD (fun x hx => g1 (gr a 1).length x (by rw [List.take_length]; exact hx))) (g2 i)) (by omega)) fun r hr => next r ?_
          rw [hr, flat_take hi, List.foldl_append]
      · subst hs'
        refine Tot.step0 (fun k p_ q_ => strat_maker_path_l0_q (lv k) k D (gi a 0) (gr a 1) (gr a 2) p_ _ _) ?_
        rw [Int.toNat_natCast]
        repeat (refine Tot.t (decide_eq_true (by omega)) ?_)
        have q2 := add_len D (((gr a 1).take i).flatMap (inn d true))
        have q3 := take_flat1 (f := inn d true) hi
        refine Tot.bind (ih.1 _ _ (h9 i hi) (sub_sz hz 1 true (by simp) hi) ((hs.gr 1).get i) (add_good hD (g1 i)) (by omega)) fun r hr => next r ?_
        rw [hr, flat_take hi, List.foldl_append]
    · intro a D ha hz hs hD hl
      have hgood := inn_good hd ha hz hs
      have ha' := ha
      obtain ⟨_, _, _, _, _, _, _, _, h9, h10⟩ := ha'
      have e0 : inn (d + 1) false a = (gr a 4).flatMap (inn d false) ++ (gr a 5).flatMap (fun x => inn d true x ++ [row3 x]) := rfl
      rw [e0] at hgood hl ⊢
      rw [List.length_append] at hl
      have hl1 : (gr a 4).length ≤ 1048576 := (hs.gr 4).1
      have hl2 : (gr a 5).length ≤ 1048576 := (hs.gr 5).1
      have g1 : ∀ i x, x ∈ ((gr a 4).take i).flatMap (inn d false) → Good x := fun i x hx => hgood x (List.mem_append_left _ (by
        obtain ⟨y, hy, h⟩ := List.mem_flatMap.1 hx
        exact List.mem_flatMap.2 ⟨y, List.mem_of_mem_take hy, h⟩))
      have g2 : ∀ i x, x ∈ ((gr a 5).take i).flatMap (fun x => inn d true x ++ [row3 x]) → Good x := fun i x hx => hgood x (List.mem_append_right _ (by
        obtain ⟨y, hy, h⟩ := List.mem_flatMap.1 hx
        exact List.mem_flatMap.2 ⟨y, List.mem_of_mem_take hy, h⟩))
      refine strat_maker_filter_up _ _ _ _ _ _ _ (Tot.congr ?_ (fun k _ _ => strat_maker_filter_q (lv k) k D (gi a 0) (gs a 1) (gs a 2) (gs a 3) (gr a 4) (gr a 5)))
      refine Tot.in0 (Tot.loop (H := fun k p q v s => strat_maker_filter_l0 (lv k) k D (gi a 0) (gs a 1) (gs a 2) (gs a 3) (gr a 4) (gr a 5) p v s) (n := (gr a 4).length) (fun i s => s = (((gr a 4).take i).flatMap (inn d false)).foldl add1 D) (by omega) (fun s hs' => ?_) (fun i s hi hs' next => ?_) _ 0 D rfl (by omega) rfl)
      · subst hs'
        refine Tot.step0 (fun k p_ q_ => strat_maker_filter_l0_q (lv k) k D (gi a 0) (gs a 1) (gs a 2) (gs a 3) (gr a 4) (gr a 5) p_ _ _) ?_
        refine Tot.f (decide_eq_false (by omega)) ?_
        rw [List.take_length]
        refine Tot.in0 (Tot.loop (H := fun k p q v s => strat_maker_filter_l1 (lv k) k D (gi a 0) (gs a 1) (gs a 2) (gs a 3) (gr a 4) (gr a 5) p v s) (n := (gr a 5).length) (fun i s => s = (((gr a 5).take i).flatMap (fun x => inn d true x ++ [row3 x])).foldl add1 (((gr a 4).flatMap (inn d false)).foldl add1 D)) (by omega) (fun s hs' => ?_) (fun i s hi hs' next => ?_) _ 0 _ rfl (by omega) rfl)
        · subst hs'
          refine Tot.step0 (fun k p_ q_ => strat_maker_filter_l1_q (lv k) k D (gi a 0) (gs a 1) (gs a 2) (gs a 3) (gr a 4) (gr a 5) p_ _ _) ?_
          refine Tot.f (decide_eq_false (by omega)) (Tot.ret ?_)
          rw [List.take_length, List.foldl_append]
        · refine Tot.step0 (fun k p_ q_ => strat_maker_filter_l1_q (lv k) k D (gi a 0) (gs a 1) (gs a 2) (gs a 3) (gr a 4) (gr a 5) p_ _ _) ?_
          rw [Int.toNat_natCast]
          repeat (refine Tot.t (decide_eq_true (by omega)) ?_)
          have q1 := add_len D ((gr a 4).flatMap (inn d false))
          have q2 := add_len (((gr a 4).flatMap (inn d false)).foldl add1 D) (((gr a 5).take i).flatMap (fun x => inn d true x ++ [row3 x]))
          have q3 := take_flat1 (f := fun x => inn d true x ++ [row3 x]) hi
          rw [← hs'] at q2
          simp only [List.length_append, List.length_singleton] at q3
          have gs : ∀ x, x ∈ s → Good x := by
            rw [hs']
            exact add_good (add_good hD (fun x hx => g1 (gr a 4).length x (by rw [List.take_length]; exact hx))) (g2 i)
          have hzi := sub_sz hz 5 true (by simp) hi
          refine Tot.bind (ih.1 _ s (h10 i hi) hzi ((hs.gr 5).get i) gs (by omega)) fun r hr => ?_
          have q4 := add_len s (inn d true ((gr a 5).getD i []))
          rw [← hr] at q4
          have gr' : ∀ x, x ∈ r → Good x := by
            rw [hr]
            exact add_good gs (inn_good (by omega) (h10 i hi) hzi ((hs.gr 5).get i))
          refine Tot.bind (cont_tot r _ gr' (by omega) ((hs.gr 5).get i)) fun r2 hr2 => ?_
          have en : (((gr a 5).take (i + 1)).flatMap (fun x => inn d true x ++ [row3 x])).foldl add1 (((gr a 4).flatMap (inn d false)).foldl add1 D) = add1 r ((gr a 5).getD i []) := by
            rw [flat_take hi, List.foldl_append, ← hs', List.foldl_append, ← hr]
            exact add1_row3 _ _
          refine Tot.cond (fun h2 => ?_) (fun h2 => ?_)
          · have h2 : r2 = false := by simpa using h2
            have hne : ¬ ∃ z, z ∈ r ∧ Alike true z ((gr a 5).getD i []) := fun h => by rw [hr2.2 h] at h2; cases h2
            refine Tot.choice eqLL_rfl (fun n p q => ?_) (Tot.t (roomy_of bytes25 (by omega)) (next _ ?_))
            · rw [Int.toNat_natCast, get_last, decide_eq_true (show (0 : Int) ≤ (r.length : Int) by omega), decide_eq_true (show (r.length : Int) < ((r ++ [[C.int .i64 0, C.nil 25, C.nil 50]]).length : Int) by simp; omega), set_last]
              rfl
            · rw [en, add1_new hne]
              rfl
          · have h2 : r2 = true := by simpa using h2
            exact next _ (by rw [en, add1_old (hr2.1 h2)])
      · subst hs'
        refine Tot.step0 (fun k p_ q_ => strat_maker_filter_l0_q (lv k) k D (gi a 0) (gs a 1) (gs a 2) (gs a 3) (gr a 4) (gr a 5) p_ _ _) ?_
        rw [Int.toNat_natCast]
        repeat (refine Tot.t (decide_eq_true (by omega)) ?_)
        have q2 := add_len D (((gr a 4).take i).flatMap (inn d false))
        have q3 := take_flat1 (f := inn d false) hi
        refine Tot.bind (ih.2 _ _ (h9 i hi) (sub_sz hz 4 false (by simp) hi) ((hs.gr 4).get i) (add_good hD (g1 i)) (by omega)) fun r hr => next r ?_
        rw [hr, flat_take hi, List.foldl_append]
end Go.Vm.T
/- awake. -/
set_option linter.unusedVariables false
namespace Go.Vm.T
open Go Go.Vm Go.Proofs
theorem awake_at (m : Nat) : (lv (m + 40)).oriellaw18_awake = some true := by kernel_rfl
theorem awake_tot : Tot (fun n _ _ => (lv n).oriellaw18_awake) (fun r => r = true) := ⟨true, rfl, 40, fun n a b hn _ _ => by
  obtain ⟨m, rfl⟩ : ∃ m, n = m + 40 := ⟨n - 40, by omega⟩
  exact awake_at m⟩
end Go.Vm.T
/- The machines of a path, by the program and by the document. -/
set_option linter.unusedVariables false
set_option linter.unusedSimpArgs false
namespace Go.Vm.T
open Go Go.Vm Go.Proofs
attribute [local irreducible] lv oriellaw18_StratHolds_b oriellaw18_StratHolds_l0 oriellaw18_StratHolds_l1 oriellaw18_StratOrder_b oriellaw18_StratOrder_l0 oriellaw18_StratOrder_l1 oriellaw18_StratOrder_l2 oriellaw18_StratKeeps_b oriellaw18_StratKeeps_l0 oriellaw18_StratKeeps_l1 oriellaw18_awake_b strat_Make_b strat_Make_l0 strat_Make_l1 strat_maker_path_b strat_maker_path_l0 strat_maker_path_l1 strat_maker_filter_b strat_maker_filter_l0 strat_maker_filter_l1 api_Path_b api_Path_2_b api_Path_2_l0 strat_maker_filter_1_b path_Same_b api_Path_3_b api_Path_3_l0 prog_Compile_b api_Filter_b api_Filter_l0 prog_maker_path_b path_sameFilter_b prog_maker_step_b prog_maker_seq_b prog_maker_seq_l0 prog_maker_alt_b prog_maker_alt_l0 prog_maker_alt_l1 prog_maker_alt_l2 prog_maker_alt_l3 prog_maker_state_b prog_maker_lay_b prog_maker_free_b strat_Items_b strat_Items_l0 orielref12_Right_b strat_Find_b orielref12_Size_b api_Path_4_b api_Path_4_l0 orielref12_size_b orielref12_size_l0 orielref12_size_l1 strat_Find_1_b orielref12_sizeFilter_b orielref12_sizeFilter_l0 orielref12_sizeFilter_l1 strat_Holds_b orielref12_path_b orielref12_path_l0 orielref12_path_l1 strat_node_holds_b orielref12_filter_b orielref12_filter_l0 orielref12_filter_l1 orielref12_filter_l2 orielref12_filter_l3 orielref12_filter_l4 strat_node_attr_b strat_node_attr_l0 api_Filter_2_b api_Filter_3_b api_Path_5_b orielref12_named_b orielref04_Right_b orielref04_Right_l0 api_Filter_4_b api_Filter_4_l0 api_Filter_5_b api_Filter_5_l0 api_Path_6_b api_Path_6_l0 orielref03_Plain_b orielref03_Plain_l0 orielref01_All_b orielref01_All_l0 orielref01_All_l1 strat_node_fails_b strat_node_holds_2_b strat_node_leads_b orielref02_Start_b orielref01_Rune_b orielref01_Rune_l0 strat_node_attr_2_b strat_node_attr_2_l0 orielref01_Put_b orielref01_cut_b orielref01_cut_l0 orielref01_cut_l1 orielref01_cut_l2 orielref01_cut_l3 orielref01_cut_l4 orielref01_value_b orielref01_value_l0 orielref01_value_l1 orielref09_Right_b orielref09_Right_l0 orielref09_Right_l1 orielref09_Right_l2 orielref18_Inner_b orielref18_Inner_l0 orielref18_Inner_l1 orielref18_Inner_l2 orielref18_Inner_l3 orielref18_Make_b orielref18_Make_l0 orielref18_Make_l1 orielref02_Char_b orielref02_Part_b orielref01_begins_b orielref01_begins_l0 orielref09_named_b orielref18_within_b orielref18_within_l0 orielref18_within_l1 orielref17_Compile_b orielref02_Blank_b orielref17_add_b orielref17_add_l0 orielref17_add_l1 orielref17_add_l2 orielref17_add_l3 orielref17_add_l4 orielref17_add_l5 orielref17_add_l6 orielref17_edge_b orielref09_Few_b orielref09_Few_l0 orielref09_Few_l1 strat_Tests_b strat_Tests_l0 strat_Tests_l1 orielref05_Find_b orielref05_Find_l0 orielref18_Find_b orielref18_Find_l0 orielref12_Same_b orielref12_Same_l0 orielref12_Same_l1 orielref12_SameFilter_b orielref12_SameFilter_l0 orielref12_SameFilter_l1 oriellaw18_bits_b oriellaw18_bits_l0 oriellaw18_bits_l1 orielref18_Items_b orielref18_Items_l0 orielref12_Filters_b orielref12_Filters_l0 orielref12_Filters_l1 orielref12_Filters_l2 orielref12_Filters_l3 orielref12_within_b orielref12_within_l0 orielref12_within_l1 orielref18_Holds_b orielref18_Holds_l0 orielref18_Holds_l1
noncomputable def mach (x : List C) : Mk := mk 16 (gi x 0) (gr x 1) (gr x 2) 0 0
noncomputable def nst (x : List C) : Int := (mach x).n
noncomputable def prow (x : List C) : List C := [C.int .i64 (mach x).n, C.int .i64 (mach x).s, C.int .i64 (mach x).e, C.row 125 (mach x).E, C.row 50 (mach x).T]
noncomputable def rrow (x : List C) : List C := [C.int .i64 (mach x).n, C.int .i64 (mach x).s, C.int .i64 (mach x).e, C.row 125 (mach x).E, C.row 50 ((mach x).T.map nf)]
noncomputable def sumn : List (List C) → Int
  | [] => 0
  | x :: l => nst x + sumn l
noncomputable def bases : Int → List (List C) → List (List C)
  | _, [] => []
  | s, x :: l => [C.int .i64 s] :: bases (s + nst x) l
theorem sumn_app (l m : List (List C)) : sumn (l ++ m) = sumn l + sumn m := by
  induction l with
  | nil => simp [sumn]
  | cons x l ih => simp only [List.cons_append, sumn, ih]; omega
theorem bases_app (l m : List (List C)) : ∀ s, bases s (l ++ m) = bases s l ++ bases (s + sumn l) m := by
  induction l with
  | nil => intro s; simp [bases, sumn]
  | cons x l ih => intro s; simp only [List.cons_append, bases, sumn, ih]; rw [show s + nst x + sumn l = s + (nst x + sumn l) by omega]
theorem bases_len (l : List (List C)) : ∀ s, (bases s l).length = l.length := by
  induction l with
  | nil => intro s; rfl
  | cons x l ih => intro s; simp [bases, ih]
theorem bases_get (l : List (List C)) : ∀ (s : Int) (i : Nat), i < l.length → (bases s l).getD i [] = [C.int .i64 (s + sumn (l.take i))] := by
  induction l with
  | nil => intro s i h; simp at h
  | cons x l ih =>
    intro s i h
    cases i with
    | zero => simp [bases, sumn]
    | succ i =>
      have := ih (s + nst x) i (by simpa using h)
      simp only [bases, List.getD_cons_succ, List.take_succ_cons, sumn]
      rw [this, show s + nst x + sumn (l.take i) = s + (nst x + sumn (l.take i)) by omega]
theorem Good.nst {x : List C} (h : Good x) : 0 ≤ nst x ∧ nst x ≤ 128 := by
  have h1 := mk_bd 16 _ _ _ 0 0 h.pok
  have h2 := h.pc
  have h3 := h1.lo
  have h4 := h1.hi
  unfold Go.Vm.T.nst mach
  omega
theorem sumn_bd {l : List (List C)} (h : ∀ x, x ∈ l → Good x) : 0 ≤ sumn l ∧ sumn l ≤ 128 * l.length := by
  induction l with
  | nil => simp [sumn]
  | cons x l ih =>
    have h1 := (h x List.mem_cons_self).nst
    have h2 := ih fun y hy => h y (List.mem_cons_of_mem _ hy)
    simp only [sumn, List.length_cons]
    omega
theorem take_succ {l : List (List C)} {i : Nat} (h : i < l.length) : l.take (i + 1) = l.take i ++ [l.getD i []] := by
  rw [List.take_add_one, List.getElem?_eq_getElem h, List.getD_eq_getElem?_getD, List.getElem?_eq_getElem h]
  rfl
theorem mem_take {l : List (List C)} (h : ∀ x, x ∈ l → Good x) (i : Nat) : ∀ x, x ∈ l.take i → Good x := fun x hx => h x (List.mem_of_mem_take hx)
noncomputable def DD (p : List C) : List (List C) := (inn 16 true p).foldl add1 []
theorem Good.inn {p : List C} (h : Good p) : ∀ x, x ∈ inn 16 true p → Good x := inn_good (by omega) h.ok h.sz h.sm
theorem Good.len {p : List C} (h : Good p) : (Go.Vm.T.inn 16 true p).length ≤ 63 := by
  have := inn_len 16 true p
  have := h.sz 16
  omega
theorem Good.ded {p : List C} (h : Good p) : Ded (Go.Vm.T.inn 16 true p) (DD p) := ded_all (inn_cl (by omega) h.ok) h.inn
theorem comp_tot {x : List C} (h : Good x) : Tot (fun k _ _ => (lv k).prog_Compile (gi x 0) (gr x 1) (gr x 2)) (fun r => r = ((mach x).n, (mach x).s, (mach x).e, (mach x).E, (mach x).T)) := compile_tot _ _ _ h.pok h.pc
theorem rcomp_tot {x : List C} (h : Good x) : Tot (fun k _ _ => (lv k).orielref17_Compile (gi x 0) (gr x 1) (gr x 2)) (fun r => r = ((mach x).n, (mach x).s, (mach x).e, (mach x).E, (mach x).T.map nf)) := rcompile_tot _ _ _ h.pok h.pc
theorem make_tot {p : List C} (h : Good p) : Tot (fun k _ _ => (lv k).strat_Make (gi p 0) (gr p 1) (gr p 2)) (fun r => r = (DD p, (DD p).map prow, bases 0 (DD p), (mach p).n, (mach p).s, (mach p).e, (mach p).E, (mach p).T)) := by
  have hg := h.ded.good
  have hlen : (DD p).length ≤ 63 := Nat.le_trans h.ded.len h.len
  refine strat_Make_up _ _ _ (Tot.congr ?_ (fun k _ _ => strat_Make_q (lv k) k (gi p 0) (gr p 1) (gr p 2)))
  refine Tot.bind ((gather 16 (Nat.le_refl _)).1 p [] h.ok h.sz h.sm (fun x hx => by cases hx) (by have := h.len; simp; omega)) fun r hr => ?_
  have hr : r = DD p := hr
  subst hr
  refine Tot.bind (comp_tot h) fun r hr => ?_
  subst hr
  refine Tot.in0 (g := fun k p_ q_ => strat_Make_l0 (lv k) k (gi p 0) (gr p 1) (gr p 2) p_ ((DD p).length : Int) (mach p).n (mach p).s (mach p).e (DD p) (mach p).E (mach p).T) ?_
  refine Tot.step0 (fun k p_ q_ => strat_Make_l0_q (lv k) k (gi p 0) (gr p 1) (gr p 2) p_ _ _ _ _ _ _ _) ?_
  refine Tot.cond (fun h0 => ?_) (fun h0 => Tot.ret ?_)
  · have h0 := of_decide_eq_true h0
    refine Tot.t (decide_eq_true (by omega)) ?_
    have h1 := hg _ (getD_mem (d := []) (show 0 < (DD p).length by omega))
    refine Tot.bind (comp_tot h1) fun r hr => ?_
    subst hr
    have hn1 := h1.nst
    have loop := Tot.loop (H := fun k q r v s => strat_Make_l1 (lv k) k (gi p 0) (gr p 1) (gr p 2) q s.1 ((DD p).length : Int) v (mach p).n (mach p).s (mach p).e (DD p) s.2.1 s.2.2 (mach p).E (mach p).T) (Q := fun r => r = (DD p, (DD p).map prow, bases 0 (DD p), (mach p).n, (mach p).s, (mach p).e, (mach p).E, (mach p).T)) (n := (DD p).length) (fun i s => s = (sumn ((DD p).take i), ((DD p).take i).map prow, bases 0 ((DD p).take i))) (by omega) (fun s hs => ?_) (fun i s hi hs next => ?_) _ 1 (nst ((DD p).getD 0 []), [prow ((DD p).getD 0 [])], [[C.int .i64 0]]) rfl (by omega) (by
      rw [take_succ (show 0 < (DD p).length by omega)]
      simp [sumn, bases])
    · rw [wrap_id (x := (0 : Int) + (mach ((DD p).getD 0 [])).n) (by have := hn1.1; unfold nst at this; omega) (by have := hn1.2; unfold nst at this; omega), Int.zero_add]
      exact loop
    · subst hs
      refine Tot.step0 (fun k p_ q_ => strat_Make_l1_q (lv k) k (gi p 0) (gr p 1) (gr p 2) p_ _ _ _ _ _ _ _ _ _ _ _) ?_
      rw [List.take_length]
      exact Tot.f (decide_eq_false (by omega)) (Tot.ret rfl)
    · subst hs
      refine Tot.step0 (fun k p_ q_ => strat_Make_l1_q (lv k) k (gi p 0) (gr p 1) (gr p 2) p_ _ _ _ _ _ _ _ _ _ _ _) ?_
      rw [Int.toNat_natCast]
      repeat (refine Tot.t (decide_eq_true (by omega)) ?_)
      have hgi := hg _ (getD_mem (d := []) hi)
      have b1 := sumn_bd (mem_take hg i)
      have b2 := hgi.nst
      have b3 : ((DD p).take i).length ≤ i := by simp; omega
      refine Tot.bind (comp_tot hgi) fun r hr => ?_
      subst hr
      refine Tot.t (roomy_of bytes41 (by simp; omega)) (Tot.t (roomy_of bytes3 (by rw [bases_len]; omega)) ?_)
      have nx := next (sumn ((DD p).take (i + 1)), ((DD p).take (i + 1)).map prow, bases 0 ((DD p).take (i + 1))) rfl
      rw [take_succ hi, sumn_app, bases_app, List.map_append] at nx
      simp only [sumn, bases, List.map_cons, List.map_nil, Int.add_zero, Int.zero_add] at nx ⊢
      rw [wrap_id (x := sumn ((DD p).take i) + (mach ((DD p).getD i [])).n) (by unfold nst at b2; omega) (by unfold nst at b2; omega)]
      exact nx
  · have h0 := of_decide_eq_false h0
    have : DD p = [] := List.length_eq_zero_iff.1 (by omega)
    rw [this]
    rfl
theorem rfind_tot (D B C' : List (List C)) (n s e : Int) (E T : List (List C)) (x : List C) (hD : ∀ y, y ∈ D → Good y) (hl : D.length ≤ 1000000) (hx : SmR BB x) : Tot (fun k _ _ => (lv k).orielref18_Find D B C' n s e E T (gi x 0) (gr x 1) (gr x 2)) (Fst D.length (fun j => Alike true (D.getD j []) x)) := by
  refine orielref18_Find_up _ _ _ _ _ _ _ _ _ _ _ (Tot.congr ?_ (fun k _ _ => orielref18_Find_q (lv k) k D B C' n s e E T (gi x 0) (gr x 1) (gr x 2)))
  refine Tot.in0 (Tot.first (H := fun k p q v => orielref18_Find_l0 (lv k) k D B C' n s e E T (gi x 0) (gr x 1) (gr x 2) p v) (n := D.length) (by omega) ?_ (fun i Q hi hy hn => ?_))
  · refine Tot.step0 (fun k p_ q_ => orielref18_Find_l0_q (lv k) k D B C' n s e E T (gi x 0) (gr x 1) (gr x 2) p_ _) ?_
    exact Tot.f (decide_eq_false (by omega)) (Tot.ret rfl)
  · refine Tot.step0 (fun k p_ q_ => orielref18_Find_l0_q (lv k) k D B C' n s e E T (gi x 0) (gr x 1) (gr x 2) p_ _) ?_
    rw [Int.toNat_natCast]
    repeat (refine Tot.t (decide_eq_true (by omega)) ?_)
    exact Tot.bind (rsame_tot (D.getD i []) x (good_get hD i) hx) fun r hr => Tot.cond (fun h => Tot.ret (hy (hr.1 h))) (fun h => hn (fun ha => by rw [hr.2 ha] at h; cases h))
theorem pfind_tot (D B C' : List (List C)) (n s e : Int) (E T : List (List C)) (x : List C) (hD : ∀ y, y ∈ D → Good y) (hl : D.length ≤ 1000000) (hx : SmR BB x) : Tot (fun k _ _ => (lv k).strat_Find D B C' n s e E T (gi x 0) (gr x 1) (gr x 2)) (Fst D.length (fun j => Alike true (D.getD j []) x)) := by
  refine strat_Find_up _ _ _ _ _ _ _ _ _ _ _ (Tot.congr ?_ (fun k _ _ => strat_Find_q (lv k) k D B C' n s e E T (gi x 0) (gr x 1) (gr x 2)))
  refine Tot.bind (R := Fst D.length (fun j => Alike true (D.getD j []) x)) ?_ fun r hr => Tot.ret hr
  refine api_Path_4_up _ _ _ _ (Tot.congr ?_ (fun k _ _ => api_Path_4_q (lv k) k D (gi x 0) (gr x 1) (gr x 2)))
  refine Tot.in0 (Tot.first (H := fun k p q v => api_Path_4_l0 (lv k) k D (gi x 0) (gr x 1) (gr x 2) p v) (n := D.length) (by omega) ?_ (fun i Q hi hy hn => ?_))
  · refine Tot.step0 (fun k p_ q_ => api_Path_4_l0_q (lv k) k D (gi x 0) (gr x 1) (gr x 2) p_ _) ?_
    exact Tot.f (decide_eq_false (by omega)) (Tot.ret rfl)
  · refine Tot.step0 (fun k p_ q_ => api_Path_4_l0_q (lv k) k D (gi x 0) (gr x 1) (gr x 2) p_ _) ?_
    rw [Int.toNat_natCast]
    repeat (refine Tot.t (decide_eq_true (by omega)) ?_)
    refine Tot.bind (R := AlQ true (D.getD i []) x) ?_ fun r hr => Tot.cond (fun h => Tot.ret (hy (hr.1 h))) (fun h => hn (fun ha => by rw [hr.2 ha] at h; cases h))
    refine strat_Find_1_up _ _ _ _ _ _ (Tot.congr ?_ (fun k _ _ => strat_Find_1_q (lv k) k (gi (D.getD i []) 0) (gr (D.getD i []) 1) (gr (D.getD i []) 2) (gi x 0) (gr x 1) (gr x 2)))
    exact Tot.bind (psame_tot (D.getD i []) x (good_get hD i) hx) fun r hr => Tot.ret hr
/-! the document's -/
theorem Tot.cat {α : Type} {g : Nat → Nat → Nat → Option α} {Q Q' : α → Prop} (h : Tot g Q) (hq : ∀ r, Q r → Q' r) : Tot g Q' := h.mono hq
def RI (k : Bool) (a : List C) (d : Nat) : Prop := match k with
  | true => Tot (fun k _ _ => (lv k).orielref18_Inner (gi a 0) (gr a 1) (gr a 2)) (fun r => r = inn d true a)
  | false => Tot (fun k _ _ => (lv k).orielref18_within (gi a 0) (gs a 1) (gs a 2) (gs a 3) (gr a 4) (gr a 5)) (fun r => r = inn d false a)
theorem rinner : ∀ d, d ≤ 16 → ∀ (k : Bool) (a : List C), ok d k a → (∀ e, sz e k a ≤ 64) → SmR BB a → RI k a d := by
  intro d
  induction d with
  | zero => intro _ k a h; exact h.elim
  | succ d ih =>
    intro hd k a ha hz hs
    have ih := @ih (by omega)
    have hlen := inn_len (d + 1) k a
    have hz' := hz (d + 1)
    have ha' := ha
    cases k with
    | true =>
      obtain ⟨_, _, _, _, _, _, _, _, h9, h10⟩ := ha'
      have e0 : inn (d + 1) true a = (gr a 1).flatMap (inn d true) ++ (gr a 2).flatMap (inn d false) := rfl
      show Tot _ _
      rw [e0] at hlen ⊢
      rw [List.length_append] at hlen
      have hl1 : (gr a 1).length ≤ 1048576 := (hs.gr 1).1
      have hl2 : (gr a 2).length ≤ 1048576 := (hs.gr 2).1
      refine orielref18_Inner_up _ _ _ (Tot.congr ?_ (fun k _ _ => orielref18_Inner_q (lv k) k (gi a 0) (gr a 1) (gr a 2)))
      have l3 : ∀ (i : Nat) s, i ≤ (gr a 2).length → s = (gr a 1).flatMap (inn d true) ++ ((gr a 2).take i).flatMap (inn d false) → Tot (fun k p q => orielref18_Inner_l3 (lv k) k (gi a 0) (gr a 1) (gr a 2) p (i : Int) s) (fun r => r = (gr a 1).flatMap (inn d true) ++ (gr a 2).flatMap (inn d false)) := fun i s hi hs' =>
        Tot.loop (H := fun k p q v s => orielref18_Inner_l3 (lv k) k (gi a 0) (gr a 1) (gr a 2) p v s) (n := (gr a 2).length) (fun i s => s = (gr a 1).flatMap (inn d true) ++ ((gr a 2).take i).flatMap (inn d false)) (by omega) (fun s hs' => by
          subst hs'
          refine Tot.step0 (fun k p_ q_ => orielref18_Inner_l3_q (lv k) k (gi a 0) (gr a 1) (gr a 2) p_ _ _) ?_
          rw [List.take_length]
          exact Tot.f (decide_eq_false (by omega)) (Tot.ret rfl)) (fun i s hi hs' next => by
          subst hs'
          refine Tot.step0 (fun k p_ q_ => orielref18_Inner_l3_q (lv k) k (gi a 0) (gr a 1) (gr a 2) p_ _ _) ?_
          rw [Int.toNat_natCast]
          repeat (refine Tot.t (decide_eq_true (by omega)) ?_)
          have q3 := take_flat1 (f := inn d false) hi
          refine Tot.bind (ih false _ (h10 i hi) (sub_sz hz 2 false (by simp) hi) ((hs.gr 2).get i)) fun r hr => ?_
          subst hr
          exact Tot.t (roomy_of bytes25 (by rw [List.length_append]; omega)) (next _ (by rw [flat_take hi, List.append_assoc]))) _ i s rfl hi hs'
      have l2 : ∀ (i : Nat) s, i ≤ (gr a 1).length → s = ((gr a 1).take i).flatMap (inn d true) → Tot (fun k p q => orielref18_Inner_l2 (lv k) k (gi a 0) (gr a 1) (gr a 2) p (i : Int) s) (fun r => r = (gr a 1).flatMap (inn d true) ++ (gr a 2).flatMap (inn d false)) := fun i s hi hs' =>
        Tot.loop (H := fun k p q v s => orielref18_Inner_l2 (lv k) k (gi a 0) (gr a 1) (gr a 2) p v s) (n := (gr a 1).length) (fun i s => s = ((gr a 1).take i).flatMap (inn d true)) (by omega) (fun s hs' => by
          subst hs'
          refine Tot.step0 (fun k p_ q_ => orielref18_Inner_l2_q (lv k) k (gi a 0) (gr a 1) (gr a 2) p_ _ _) ?_
          rw [List.take_length]
          exact Tot.f (decide_eq_false (by omega)) (Tot.in0 (l3 0 _ (by omega) (by simp)))) (fun i s hi hs' next => by
          subst hs'
          refine Tot.step0 (fun k p_ q_ => orielref18_Inner_l2_q (lv k) k (gi a 0) (gr a 1) (gr a 2) p_ _ _) ?_
          rw [Int.toNat_natCast]
          repeat (refine Tot.t (decide_eq_true (by omega)) ?_)
          have q3 := take_flat1 (f := inn d true) hi
          refine Tot.bind (ih true _ (h9 i hi) (sub_sz hz 1 true (by simp) hi) ((hs.gr 1).get i)) fun r hr => ?_
          subst hr
          exact Tot.t (roomy_of bytes25 (by omega)) (next _ (by rw [flat_take hi]))) _ i s rfl hi hs'
      refine Tot.in0 (g := fun k p_ q_ => orielref18_Inner_l0 (lv k) k (gi a 0) (gr a 1) (gr a 2) p_ ) ?_
      refine Tot.step0 (fun k p_ q_ => orielref18_Inner_l0_q (lv k) k (gi a 0) (gr a 1) (gr a 2) p_ ) ?_
      refine Tot.cond (fun h0 => ?_) (fun h0 => ?_)
      · have h0 := of_decide_eq_true h0
        refine Tot.t (decide_eq_true (by omega)) (Tot.bind (ih true _ (h9 0 (by omega)) (sub_sz hz 1 true (by simp) (show 0 < (gr a 1).length by omega)) ((hs.gr 1).get 0)) fun r hr => ?_)
        subst hr
        have q3 := take_flat1 (f := inn d true) (show 0 < (gr a 1).length by omega)
        refine Tot.t (roomy_of bytes25 (by omega)) (l2 1 _ (by omega) ?_)
        rw [flat_take (show 0 < (gr a 1).length by omega)]
        simp
      · have h0 := of_decide_eq_false h0
        have e1 : gr a 1 = [] := List.length_eq_zero_iff.1 (by omega)
        refine Tot.in0 (g := fun k p_ q_ => orielref18_Inner_l1 (lv k) k (gi a 0) (gr a 1) (gr a 2) p_ ) ?_
        refine Tot.step0 (fun k p_ q_ => orielref18_Inner_l1_q (lv k) k (gi a 0) (gr a 1) (gr a 2) p_ ) ?_
        refine Tot.cond (fun h0 => ?_) (fun h0 => ?_)
        · have h0 := of_decide_eq_true h0
          refine Tot.t (decide_eq_true (by omega)) (Tot.bind (ih false _ (h10 0 (by omega)) (sub_sz hz 2 false (by simp) (show 0 < (gr a 2).length by omega)) ((hs.gr 2).get 0)) fun r hr => ?_)
          subst hr
          have q3 := take_flat1 (f := inn d false) (show 0 < (gr a 2).length by omega)
          refine Tot.t (roomy_of bytes25 (by omega)) (l3 1 _ (by omega) ?_)
          rw [flat_take (show 0 < (gr a 2).length by omega)]
          simp [e1]
        · have h0 := of_decide_eq_false h0
          have e2 : gr a 2 = [] := List.length_eq_zero_iff.1 (by omega)
          exact Tot.ret (by simp [e1, e2])
    | false =>
      obtain ⟨_, _, _, _, _, _, h7, h8, h9, h10⟩ := ha'
      have e0 : inn (d + 1) false a = (gr a 4).flatMap (inn d false) ++ (gr a 5).flatMap (fun x => inn d true x ++ [row3 x]) := rfl
      show Tot _ _
      rw [e0] at hlen ⊢
      rw [List.length_append] at hlen
      have hl1 : (gr a 4).length ≤ 1048576 := (hs.gr 4).1
      have hl2 : (gr a 5).length ≤ 1048576 := (hs.gr 5).1
      have e5 : ∀ h : 0 < (gr a 5).length, (gr a 5).flatMap (fun x => inn d true x ++ [row3 x]) = inn d true ((gr a 5).getD 0 []) ++ [row3 ((gr a 5).getD 0 [])] := fun h => by
        have := flat_take (f := fun x => inn d true x ++ [row3 x]) h
        rw [List.take_of_length_le (by omega)] at this
        simpa using this
      refine orielref18_within_up _ _ _ _ _ _ (Tot.congr ?_ (fun k _ _ => orielref18_within_q (lv k) k (gi a 0) (gs a 1) (gs a 2) (gs a 3) (gr a 4) (gr a 5)))
      have l1 : ∀ (i : Nat) s, i ≤ (gr a 4).length → s = ((gr a 4).take i).flatMap (inn d false) → Tot (fun k p q => orielref18_within_l1 (lv k) k (gi a 0) (gs a 1) (gs a 2) (gs a 3) (gr a 4) (gr a 5) p (i : Int) s) (fun r => r = (gr a 4).flatMap (inn d false) ++ (gr a 5).flatMap (fun x => inn d true x ++ [row3 x])) := fun i s hi hs' =>
        Tot.loop (H := fun k p q v s => orielref18_within_l1 (lv k) k (gi a 0) (gs a 1) (gs a 2) (gs a 3) (gr a 4) (gr a 5) p v s) (n := (gr a 4).length) (fun i s => s = ((gr a 4).take i).flatMap (inn d false)) (by omega) (fun s hs' => by
          subst hs'
          refine Tot.step0 (fun k p_ q_ => orielref18_within_l1_q (lv k) k (gi a 0) (gs a 1) (gs a 2) (gs a 3) (gr a 4) (gr a 5) p_ _ _) ?_
          rw [List.take_length]
          refine Tot.f (decide_eq_false (by omega)) (Tot.cond (fun h11 => ?_) (fun h11 => Tot.ret ?_))
          · have h11 := h7.1 (eq_of_beq h11)
            have h05 : 0 < (gr a 5).length := by omega
            rw [e5 h05] at hlen ⊢
            rw [List.length_append, List.length_singleton] at hlen
            refine Tot.t (decide_eq_true (by omega)) (Tot.bind (ih true _ (h10 0 h05) (sub_sz hz 5 true (by simp) h05) ((hs.gr 5).get 0)) fun r hr => ?_)
            subst hr
            refine Tot.t (roomy_of bytes25 (by omega)) (Tot.t (decide_eq_true (by omega)) (Tot.t (roomy_of bytes25 (by rw [List.length_append]; omega)) (Tot.ret ?_)))
            rw [List.append_assoc]
            rfl
          · have h11 : gi a 0 ≠ 11 := by simpa using h11
            have e2 : gr a 5 = [] := List.length_eq_zero_iff.1 (by
              rcases Nat.lt_or_ge 0 (gr a 5).length with h | h
              · exact absurd (h7.2 (by omega)) h11
              · omega)
            simp [e2]) (fun i s hi hs' next => by
          subst hs'
          refine Tot.step0 (fun k p_ q_ => orielref18_within_l1_q (lv k) k (gi a 0) (gs a 1) (gs a 2) (gs a 3) (gr a 4) (gr a 5) p_ _ _) ?_
          rw [Int.toNat_natCast]
          repeat (refine Tot.t (decide_eq_true (by omega)) ?_)
          have q3 := take_flat1 (f := inn d false) hi
          refine Tot.bind (ih false _ (h9 i hi) (sub_sz hz 4 false (by simp) hi) ((hs.gr 4).get i)) fun r hr => ?_
          subst hr
          exact Tot.t (roomy_of bytes25 (by omega)) (next _ (by rw [flat_take hi]))) _ i s rfl hi hs'
      refine Tot.in0 (g := fun k p_ q_ => orielref18_within_l0 (lv k) k (gi a 0) (gs a 1) (gs a 2) (gs a 3) (gr a 4) (gr a 5) p_ ) ?_
      refine Tot.step0 (fun k p_ q_ => orielref18_within_l0_q (lv k) k (gi a 0) (gs a 1) (gs a 2) (gs a 3) (gr a 4) (gr a 5) p_ ) ?_
      refine Tot.cond (fun h0 => ?_) (fun h0 => ?_)
      · have h0 := of_decide_eq_true h0
        refine Tot.t (decide_eq_true (by omega)) (Tot.bind (ih false _ (h9 0 (by omega)) (sub_sz hz 4 false (by simp) (show 0 < (gr a 4).length by omega)) ((hs.gr 4).get 0)) fun r hr => ?_)
        subst hr
        have q3 := take_flat1 (f := inn d false) (show 0 < (gr a 4).length by omega)
        refine Tot.t (roomy_of bytes25 (by omega)) (l1 1 _ (by omega) ?_)
        rw [flat_take (show 0 < (gr a 4).length by omega)]
        simp
      · have h0 := of_decide_eq_false h0
        have e1 : gr a 4 = [] := List.length_eq_zero_iff.1 (by omega)
        refine Tot.cond (fun h11 => ?_) (fun h11 => Tot.ret ?_)
        · have h11 := h7.1 (eq_of_beq h11)
          have h05 : 0 < (gr a 5).length := by omega
          rw [e5 h05] at hlen ⊢
          rw [List.length_append, List.length_singleton] at hlen
          refine Tot.t (decide_eq_true (by omega)) (Tot.bind (ih true _ (h10 0 h05) (sub_sz hz 5 true (by simp) h05) ((hs.gr 5).get 0)) fun r hr => ?_)
          subst hr
          refine Tot.t (roomy_of bytes25 (by omega)) (Tot.t (decide_eq_true (by omega)) (Tot.t (roomy_of bytes25 (by omega)) (Tot.ret ?_)))
          rw [e1]
          rfl
        · have h11 : gi a 0 ≠ 11 := by simpa using h11
          have e2 : gr a 5 = [] := List.length_eq_zero_iff.1 (by
            rcases Nat.lt_or_ge 0 (gr a 5).length with h | h
            · exact absurd (h7.2 (by omega)) h11
            · omega)
          simp [e1, e2]
end Go.Vm.T
/- The document's machines; what is new memory; the order of a path's machines. -/
set_option linter.unusedVariables false
set_option linter.unusedSimpArgs false
namespace Go.Vm.T
open Go Go.Vm Go.Proofs
attribute [local irreducible] lv oriellaw18_StratHolds_b oriellaw18_StratHolds_l0 oriellaw18_StratHolds_l1 oriellaw18_StratOrder_b oriellaw18_StratOrder_l0 oriellaw18_StratOrder_l1 oriellaw18_StratOrder_l2 oriellaw18_StratKeeps_b oriellaw18_StratKeeps_l0 oriellaw18_StratKeeps_l1 oriellaw18_awake_b strat_Make_b strat_Make_l0 strat_Make_l1 strat_maker_path_b strat_maker_path_l0 strat_maker_path_l1 strat_maker_filter_b strat_maker_filter_l0 strat_maker_filter_l1 api_Path_b api_Path_2_b api_Path_2_l0 strat_maker_filter_1_b path_Same_b api_Path_3_b api_Path_3_l0 prog_Compile_b api_Filter_b api_Filter_l0 prog_maker_path_b path_sameFilter_b prog_maker_step_b prog_maker_seq_b prog_maker_seq_l0 prog_maker_alt_b prog_maker_alt_l0 prog_maker_alt_l1 prog_maker_alt_l2 prog_maker_alt_l3 prog_maker_state_b prog_maker_lay_b prog_maker_free_b strat_Items_b strat_Items_l0 orielref12_Right_b strat_Find_b orielref12_Size_b api_Path_4_b api_Path_4_l0 orielref12_size_b orielref12_size_l0 orielref12_size_l1 strat_Find_1_b orielref12_sizeFilter_b orielref12_sizeFilter_l0 orielref12_sizeFilter_l1 strat_Holds_b orielref12_path_b orielref12_path_l0 orielref12_path_l1 strat_node_holds_b orielref12_filter_b orielref12_filter_l0 orielref12_filter_l1 orielref12_filter_l2 orielref12_filter_l3 orielref12_filter_l4 strat_node_attr_b strat_node_attr_l0 api_Filter_2_b api_Filter_3_b api_Path_5_b orielref12_named_b orielref04_Right_b orielref04_Right_l0 api_Filter_4_b api_Filter_4_l0 api_Filter_5_b api_Filter_5_l0 api_Path_6_b api_Path_6_l0 orielref03_Plain_b orielref03_Plain_l0 orielref01_All_b orielref01_All_l0 orielref01_All_l1 strat_node_fails_b strat_node_holds_2_b strat_node_leads_b orielref02_Start_b orielref01_Rune_b orielref01_Rune_l0 strat_node_attr_2_b strat_node_attr_2_l0 orielref01_Put_b orielref01_cut_b orielref01_cut_l0 orielref01_cut_l1 orielref01_cut_l2 orielref01_cut_l3 orielref01_cut_l4 orielref01_value_b orielref01_value_l0 orielref01_value_l1 orielref09_Right_b orielref09_Right_l0 orielref09_Right_l1 orielref09_Right_l2 orielref18_Inner_b orielref18_Inner_l0 orielref18_Inner_l1 orielref18_Inner_l2 orielref18_Inner_l3 orielref18_Make_b orielref18_Make_l0 orielref18_Make_l1 orielref02_Char_b orielref02_Part_b orielref01_begins_b orielref01_begins_l0 orielref09_named_b orielref18_within_b orielref18_within_l0 orielref18_within_l1 orielref17_Compile_b orielref02_Blank_b orielref17_add_b orielref17_add_l0 orielref17_add_l1 orielref17_add_l2 orielref17_add_l3 orielref17_add_l4 orielref17_add_l5 orielref17_add_l6 orielref17_edge_b orielref09_Few_b orielref09_Few_l0 orielref09_Few_l1 strat_Tests_b strat_Tests_l0 strat_Tests_l1 orielref05_Find_b orielref05_Find_l0 orielref18_Find_b orielref18_Find_l0 orielref12_Same_b orielref12_Same_l0 orielref12_Same_l1 orielref12_SameFilter_b orielref12_SameFilter_l0 orielref12_SameFilter_l1 oriellaw18_bits_b oriellaw18_bits_l0 oriellaw18_bits_l1 orielref18_Items_b orielref18_Items_l0 orielref12_Filters_b orielref12_Filters_l0 orielref12_Filters_l1 orielref12_Filters_l2 orielref12_Filters_l3 orielref12_within_b orielref12_within_l0 orielref12_within_l1 orielref18_Holds_b orielref18_Holds_l0 orielref18_Holds_l1
theorem rinn_tot {p : List C} (h : Good p) : Tot (fun k _ _ => (lv k).orielref18_Inner (gi p 0) (gr p 1) (gr p 2)) (fun r => r = inn 16 true p) := rinner 16 (Nat.le_refl _) true p h.ok h.sz h.sm
theorem ded_take {p : List C} (h : Good p) (i : Nat) (hi : i ≤ (inn 16 true p).length) : Ded ((inn 16 true p).take i) (((inn 16 true p).take i).foldl add1 []) := ded_of (inn_cl (by omega) h.ok) h.inn i hi
theorem rmake_tot {p : List C} (h : Good p) : Tot (fun k _ _ => (lv k).orielref18_Make (gi p 0) (gr p 1) (gr p 2)) (fun r => r = (DD p, (DD p).map rrow, bases 0 (DD p), (mach p).n, (mach p).s, (mach p).e, (mach p).E, (mach p).T.map nf)) := by
  have hlen := h.len
  refine orielref18_Make_up _ _ _ (Tot.congr ?_ (fun k _ _ => orielref18_Make_q (lv k) k (gi p 0) (gr p 1) (gr p 2)))
  refine Tot.bind (rcomp_tot h) fun r hr => ?_
  subst hr
  refine Tot.bind (rinn_tot h) fun r hr => ?_
  subst hr
  refine Tot.in0 (g := fun k p_ q_ => orielref18_Make_l0 (lv k) k (gi p 0) (gr p 1) (gr p 2) p_ 0 (mach p).n (mach p).s (mach p).e (mach p).E ((mach p).T.map nf) (inn 16 true p)) ?_
  refine Tot.step0 (fun k p_ q_ => orielref18_Make_l0_q (lv k) k (gi p 0) (gr p 1) (gr p 2) p_ _ _ _ _ _ _ _) ?_
  rw [show Int.toNat 0 = 0 from rfl, show IntKind.i64.wrap ((0 : Int) + 1) = 1 from rfl]
  refine Tot.cond (fun h0 => ?_) (fun h0 => Tot.ret ?_)
  · have h0 := of_decide_eq_true h0
    have h0' : 0 < (inn 16 true p).length := by omega
    refine Tot.t (by rfl) (Tot.t (decide_eq_true (by omega)) ?_)
    have h1 := h.inn _ (getD_mem (d := []) h0')
    refine Tot.bind (rfind_tot [] [] [] _ _ _ _ _ _ (fun y hy => by cases hy) (by simp) h1.sm) fun r hr => ?_
    have hr : r = -1 := by
      rcases hr with ⟨e, _⟩ | ⟨i, _, e, _⟩
      · exact e
      · simp at e
    subst hr
    refine Tot.f (by rfl) (Tot.t (by rfl) (Tot.t (decide_eq_true (by omega)) ?_))
    refine Tot.bind (rcomp_tot h1) fun r hr => ?_
    subst hr
    refine Tot.t (by rfl) (Tot.t (decide_eq_true (by omega)) ?_)
    have hn1 := h1.nst
    have e1 : ((inn 16 true p).take 1).foldl add1 [] = [row3 ((inn 16 true p).getD 0 [])] := by
      rw [take_succ h0']
      show add1 [] ((inn 16 true p).getD 0 []) = _
      rw [add1_new (by rintro ⟨z, hz, _⟩; cases hz)]
      rfl
    have loop := Tot.loop (H := fun k q r v s => orielref18_Make_l1 (lv k) k (gi p 0) (gr p 1) (gr p 2) q s.1 v (mach p).n (mach p).s (mach p).e (mach p).E ((mach p).T.map nf) (inn 16 true p) s.2.1 s.2.2.1 s.2.2.2) (Q := fun r => r = (DD p, (DD p).map rrow, bases 0 (DD p), (mach p).n, (mach p).s, (mach p).e, (mach p).E, (mach p).T.map nf)) (n := (inn 16 true p).length) (fun i s => s = (sumn (((inn 16 true p).take i).foldl add1 []), ((inn 16 true p).take i).foldl add1 [], (((inn 16 true p).take i).foldl add1 []).map rrow, bases 0 (((inn 16 true p).take i).foldl add1 []))) (by omega) (fun s hs => ?_) (fun i s hi hs next => ?_) _ 1 (nst ((inn 16 true p).getD 0 []), [row3 ((inn 16 true p).getD 0 [])], [rrow ((inn 16 true p).getD 0 [])], [[C.int .i64 0]]) rfl (by omega) (by
      rw [e1]
      simp only [sumn, bases, List.map_cons, List.map_nil, Int.add_zero]
      rfl)
    · rw [wrap_id (x := (0 : Int) + (mach ((inn 16 true p).getD 0 [])).n) (by have := hn1.1; unfold nst at this; omega) (by have := hn1.2; unfold nst at this; omega), Int.zero_add]
      exact loop
    · subst hs
      refine Tot.step0 (fun k p_ q_ => orielref18_Make_l1_q (lv k) k (gi p 0) (gr p 1) (gr p 2) p_ _ _ _ _ _ _ _ _ _ _ _) ?_
      rw [List.take_length]
      exact Tot.f (decide_eq_false (by omega)) (Tot.ret rfl)
    · have hd := ded_take h i (by omega)
      have hti : ((inn 16 true p).take (i + 1)).foldl add1 [] = add1 (((inn 16 true p).take i).foldl add1 []) ((inn 16 true p).getD i []) := by
        rw [take_succ hi, List.foldl_append]
        rfl
      rw [hti] at next
      generalize ((inn 16 true p).take i).foldl add1 [] = D at hs hd next
      subst hs
      have hgi := h.inn _ (getD_mem (d := []) hi)
      have b0 : D.length ≤ 63 := by have := hd.len; rw [List.length_take] at this; omega
      refine Tot.step0 (fun k p_ q_ => orielref18_Make_l1_q (lv k) k (gi p 0) (gr p 1) (gr p 2) p_ _ _ _ _ _ _ _ _ _ _ _) ?_
      rw [Int.toNat_natCast]
      repeat (refine Tot.t (decide_eq_true (by omega)) ?_)
      refine Tot.bind (rfind_tot D _ _ _ _ _ _ _ _ hd.good (by omega) hgi.sm) fun r hr => Tot.cond (fun hc => ?_) (fun hc => ?_)
      · have hc := of_decide_eq_true hc
        have hex : ∃ z, z ∈ D ∧ Alike true z ((inn 16 true p).getD i []) := by
          rcases hr with ⟨e, _⟩ | ⟨j, _, e1, e2, _⟩
          · omega
          · exact ⟨_, getD_mem e1, e2⟩
        rw [add1_old hex] at next
        exact next _ rfl
      · have hc := of_decide_eq_false hc
        have hex : ¬ ∃ z, z ∈ D ∧ Alike true z ((inn 16 true p).getD i []) := by
          rintro ⟨z, hz, ha⟩
          obtain ⟨j, hj, rfl⟩ := mem_getD hz
          rcases hr with ⟨e, e1⟩ | ⟨j, e, _⟩
          · exact e1 j hj ha
          · omega
        rw [add1_new hex] at next
        repeat (refine Tot.t (decide_eq_true (by omega)) ?_)
        refine Tot.bind (rcomp_tot hgi) fun r hr => ?_
        subst hr
        repeat (refine Tot.t (decide_eq_true (by omega)) ?_)
        have b1 := sumn_bd hd.good
        have b2 := hgi.nst
        refine Tot.t (roomy_of bytes25 (by show D.length + 1 ≤ _; omega)) (Tot.t (roomy_of bytes41 (by simp; omega)) (Tot.t (roomy_of bytes3 (by rw [bases_len]; omega)) ?_))
        have nx := next _ rfl
        rw [sumn_app, bases_app, List.map_append] at nx
        simp only [sumn, bases, List.map_cons, List.map_nil, Int.add_zero, Int.zero_add] at nx ⊢
        rw [wrap_id (x := sumn D + (mach ((inn 16 true p).getD i [])).n) (by unfold nst at b2; omega) (by unfold nst at b2; omega)]
        exact nx
  · have h0 := of_decide_eq_false h0
    have : inn 16 true p = [] := List.length_eq_zero_iff.1 (by omega)
    unfold DD
    rw [this]
    rfl
theorem items_tot (A B C' : List (List C)) (n s e : Int) (E T D : List (List C)) (f : List C → List C) (hB : B = D.map f) (hf : ∀ x, gi (f x) 0 = nst x) (hD : ∀ x, x ∈ D → Good x) (hl : D.length ≤ 1000000) : Tot (fun k _ _ => (lv k).strat_Items A B C' n s e E T) (fun r => r = sumn D) := by
  subst hB
  refine strat_Items_up _ _ _ _ _ _ _ _ (Tot.congr ?_ (fun k _ _ => strat_Items_q (lv k) k A (D.map f) C' n s e E T))
  refine Tot.in0 (Tot.loop (H := fun k p q v w => strat_Items_l0 (lv k) k A (D.map f) C' n s e E T p w v) (n := D.length) (fun i w => w = sumn (D.take i)) (by omega) (fun w hw => ?_) (fun i w hi hw next => ?_) _ 0 0 rfl (by omega) rfl)
  · subst hw
    refine Tot.step0 (fun k p_ q_ => strat_Items_l0_q (lv k) k A (D.map f) C' n s e E T p_ _ _) ?_
    rw [List.length_map, List.take_length]
    exact Tot.f (decide_eq_false (by omega)) (Tot.ret rfl)
  · subst hw
    refine Tot.step0 (fun k p_ q_ => strat_Items_l0_q (lv k) k A (D.map f) C' n s e E T p_ _ _) ?_
    rw [Int.toNat_natCast, List.length_map]
    repeat (refine Tot.t (decide_eq_true (by omega)) ?_)
    have e1 : (D.map f).getD i [] = f (D.getD i []) := by simp [List.getD_eq_getElem?_getD, hi]
    have b1 := sumn_bd (mem_take hD i)
    have b2 := (hD _ (getD_mem (d := []) hi)).nst
    have b3 : (D.take i).length ≤ i := by simp; omega
    rw [e1, hf]
    refine next _ ?_
    rw [wrap_id (by omega) (by omega), take_succ hi, sumn_app]
    simp [sumn]
theorem ritems_tot (A B C' : List (List C)) (n s e : Int) (E T D : List (List C)) (f : List C → List C) (hB : B = D.map f) (hf : ∀ x, gi (f x) 0 = nst x) (hD : ∀ x, x ∈ D → Good x) (hl : D.length ≤ 1000000) : Tot (fun k _ _ => (lv k).orielref18_Items A B C' n s e E T) (fun r => r = sumn D) := by
  subst hB
  refine orielref18_Items_up _ _ _ _ _ _ _ _ (Tot.congr ?_ (fun k _ _ => orielref18_Items_q (lv k) k A (D.map f) C' n s e E T))
  refine Tot.in0 (Tot.loop (H := fun k p q v w => orielref18_Items_l0 (lv k) k A (D.map f) C' n s e E T p w v) (n := D.length) (fun i w => w = sumn (D.take i)) (by omega) (fun w hw => ?_) (fun i w hi hw next => ?_) _ 0 0 rfl (by omega) rfl)
  · subst hw
    refine Tot.step0 (fun k p_ q_ => orielref18_Items_l0_q (lv k) k A (D.map f) C' n s e E T p_ _ _) ?_
    rw [List.length_map, List.take_length]
    exact Tot.f (decide_eq_false (by omega)) (Tot.ret rfl)
  · subst hw
    refine Tot.step0 (fun k p_ q_ => orielref18_Items_l0_q (lv k) k A (D.map f) C' n s e E T p_ _ _) ?_
    rw [Int.toNat_natCast, List.length_map]
    repeat (refine Tot.t (decide_eq_true (by omega)) ?_)
    have e1 : (D.map f).getD i [] = f (D.getD i []) := by simp [List.getD_eq_getElem?_getD, hi]
    have b1 := sumn_bd (mem_take hD i)
    have b2 := (hD _ (getD_mem (d := []) hi)).nst
    have b3 : (D.take i).length ≤ i := by simp; omega
    rw [e1, hf]
    refine next _ ?_
    rw [wrap_id (by omega) (by omega), take_succ hi, sumn_app]
    simp [sumn]
/-! the laws -/
theorem to_good {p : List C} (hp : SmR BB p) (h : ok 16 true p ∧ ∀ d, sz d true p ≤ 64) : Good p := ⟨h.1, h.2, hp⟩
theorem keeps_tot (p : List C) (hp : SmR BB p) : Tot (fun k _ _ => (lv k).oriellaw18_StratKeeps (gi p 0) (gr p 1) (gr p 2)) (fun r => r = true) := by
  refine oriellaw18_StratKeeps_up _ _ _ (Tot.congr ?_ (fun k _ _ => oriellaw18_StratKeeps_q (lv k) k (gi p 0) (gr p 1) (gr p 2)))
  refine Tot.bind awake_tot fun r hr => ?_
  subst hr
  refine Tot.f rfl (Tot.bind2 (right_tot p hp) fun r hr hr2 => Tot.cond (fun _ => Tot.bind awake_tot fun r hr => Tot.ret hr) (fun hb => ?_))
  have hrt : r = true := by simpa using hb
  subst hrt
  have h := to_good hp (hr rfl)
  have hlen : (DD p).length ≤ 63 := Nat.le_trans h.ded.len h.len
  have hg := h.ded.good
  refine Tot.bind (make_tot h) fun r hr => ?_
  subst hr
  refine Tot.in0 (Tot.loop (H := fun k q r v (w : List (List C)) => oriellaw18_StratKeeps_l0 (lv k) k (gi p 0) (gr p 1) (gr p 2) q v (mach p).n (mach p).s (mach p).e (DD p) ((DD p).map prow) w (mach p).E (mach p).T) (n := (DD p).length) (fun i w => w.length = (DD p).length) (by omega) (fun w hw => ?_) (fun i w hi hw next => ?_) _ 0 (bases 0 (DD p)) rfl (by omega) (bases_len _ _))
  · refine Tot.step0 (fun k p_ q_ => oriellaw18_StratKeeps_l0_q (lv k) k (gi p 0) (gr p 1) (gr p 2) p_ _ _ _ _ _ _ _ _ _) ?_
    refine Tot.f (decide_eq_false (by omega)) ?_
    refine Tot.in0 (Tot.loop (H := fun k q r v (u : List (List C)) => oriellaw18_StratKeeps_l1 (lv k) k (gi p 0) (gr p 1) (gr p 2) q v (mach p).n (mach p).s (mach p).e (DD p) u w (mach p).E (mach p).T) (n := (DD p).length) (fun i u => u.length = (DD p).length) (by omega) (fun u hu => ?_) (fun i u hi hu next => ?_) _ 0 ((DD p).map prow) rfl (by omega) (by simp))
    · refine Tot.step0 (fun k p_ q_ => oriellaw18_StratKeeps_l1_q (lv k) k (gi p 0) (gr p 1) (gr p 2) p_ _ _ _ _ _ _ _ _ _) ?_
      refine Tot.f (decide_eq_false (by omega)) ?_
      refine Tot.bind (make_tot h) fun r hr => ?_
      subst hr
      refine Tot.bind (items_tot _ _ _ _ _ _ _ _ (DD p) prow rfl (fun _ => rfl) hg (by omega)) fun r hr => ?_
      subst hr
      refine Tot.bind (rmake_tot h) fun r hr => ?_
      subst hr
      refine Tot.bind (ritems_tot _ _ _ _ _ _ _ _ (DD p) rrow rfl (fun _ => rfl) hg (by omega)) fun r hr => ?_
      subst hr
      exact Tot.t (by simp) (Tot.bind hr2 fun r hr => Tot.ret hr)
    · refine Tot.step0 (fun k p_ q_ => oriellaw18_StratKeeps_l1_q (lv k) k (gi p 0) (gr p 1) (gr p 2) p_ _ _ _ _ _ _ _ _ _) ?_
      repeat (refine Tot.t (decide_eq_true (by omega)) ?_)
      exact next _ (by simpa using hu)
  · refine Tot.step0 (fun k p_ q_ => oriellaw18_StratKeeps_l0_q (lv k) k (gi p 0) (gr p 1) (gr p 2) p_ _ _ _ _ _ _ _ _ _) ?_
    repeat (refine Tot.t (decide_eq_true (by omega)) ?_)
    exact next _ (by simpa using hw)
theorem fst_at {D : List (List C)} (hd : ∀ i j, i < j → j < D.length → ¬ Alike true (D.getD i []) (D.getD j [])) {i : Nat} (hi : i < D.length) {r : Int} (h : Fst D.length (fun j => Alike true (D.getD j []) (D.getD i [])) r) : r = i :=
  h.uniq (.inr ⟨i, rfl, hi, Alike.refl _ _, fun j hj => hd j i hj hi⟩)
theorem order_tot (p : List C) (hp : SmR BB p) : Tot (fun k _ _ => (lv k).oriellaw18_StratOrder (gi p 0) (gr p 1) (gr p 2)) (fun r => r = true) := by
  refine oriellaw18_StratOrder_up _ _ _ (Tot.congr ?_ (fun k _ _ => oriellaw18_StratOrder_q (lv k) k (gi p 0) (gr p 1) (gr p 2)))
  refine Tot.bind awake_tot fun r hr => ?_
  subst hr
  refine Tot.f rfl (Tot.bind (right_tot p hp) fun r hr => Tot.cond (fun _ => Tot.bind awake_tot fun r hr => Tot.ret hr) (fun hb => ?_))
  have hrt : r = true := by simpa using hb
  subst hrt
  have h := to_good hp (hr rfl)
  have hd := h.ded
  have hg := hd.good
  have hll := h.len
  have hlen : (DD p).length ≤ 63 := Nat.le_trans hd.len h.len
  refine Tot.bind (make_tot h) fun r hr => ?_
  subst hr
  refine Tot.in0 (Tot.loop (H := fun k q r v (w : Int) => oriellaw18_StratOrder_l0 (lv k) k (gi p 0) (gr p 1) (gr p 2) q w v (mach p).n (mach p).s (mach p).e (DD p) ((DD p).map prow) (bases 0 (DD p)) (mach p).E (mach p).T) (n := (DD p).length) (fun i w => w = sumn ((DD p).take i)) (by omega) (fun w hw => ?_) (fun i w hi hw next => ?_) _ 0 0 rfl (by omega) rfl)
  · refine Tot.step0 (fun k p_ q_ => oriellaw18_StratOrder_l0_q (lv k) k (gi p 0) (gr p 1) (gr p 2) p_ _ _ _ _ _ _ _ _ _ _) ?_
    rw [List.length_map]
    refine Tot.f (decide_eq_false (by omega)) (Tot.bind (rinn_tot h) fun r hr => ?_)
    subst hr
    refine Tot.in0 (Tot.loop (H := fun k q r v (_ : Unit) => oriellaw18_StratOrder_l2 (lv k) k (gi p 0) (gr p 1) (gr p 2) q w v (mach p).n (mach p).s (mach p).e (inn 16 true p) (DD p) ((DD p).map prow) (bases 0 (DD p)) (mach p).E (mach p).T) (n := (inn 16 true p).length) (fun i _ => True) (by omega) (fun _ _ => ?_) (fun i _ hi _ next => ?_) _ 0 () rfl (by omega) trivial)
    · refine Tot.step0 (fun k p_ q_ => oriellaw18_StratOrder_l2_q (lv k) k (gi p 0) (gr p 1) (gr p 2) p_ _ _ _ _ _ _ _ _ _ _ _) ?_
      refine Tot.f (decide_eq_false (by omega)) (Tot.bind (items_tot _ _ _ _ _ _ _ _ (DD p) prow rfl (fun _ => rfl) hg (by omega)) fun r hr => ?_)
      subst hr
      rw [List.take_length] at hw
      subst hw
      refine Tot.t (by simp) (Tot.ret (decide_eq_true ?_))
      have := hd.len
      omega
    · refine Tot.step0 (fun k p_ q_ => oriellaw18_StratOrder_l2_q (lv k) k (gi p 0) (gr p 1) (gr p 2) p_ _ _ _ _ _ _ _ _ _ _ _) ?_
      rw [Int.toNat_natCast]
      repeat (refine Tot.t (decide_eq_true (by omega)) ?_)
      have hx : (inn 16 true p).getD i [] ∈ inn 16 true p := getD_mem hi
      refine Tot.bind (pfind_tot (DD p) _ _ _ _ _ _ _ _ hg (by omega) (h.inn _ hx).sm) fun r hr => Tot.f (decide_eq_false ?_) (next () trivial)
      obtain ⟨z, hz, ha⟩ := hd.al _ hx
      obtain ⟨j, hj, rfl⟩ := mem_getD hz
      rcases hr with ⟨_, e1⟩ | ⟨m, e, _⟩
      · exact absurd ha (e1 j hj)
      · omega
  · subst hw
    refine Tot.step0 (fun k p_ q_ => oriellaw18_StratOrder_l0_q (lv k) k (gi p 0) (gr p 1) (gr p 2) p_ _ _ _ _ _ _ _ _ _ _) ?_
    have e1 : ((DD p).map prow).getD i [] = prow ((DD p).getD i []) := by simp [List.getD_eq_getElem?_getD, hi]
    have hgi := hg _ (getD_mem (d := []) hi)
    have b1 := sumn_bd (mem_take hg i)
    have b2 := hgi.nst
    have b3 : ((DD p).take i).length ≤ i := by simp; omega
    rw [Int.toNat_natCast, List.length_map, bases_len, bases_get _ _ _ hi, e1, Int.zero_add]
    repeat (refine Tot.t (decide_eq_true (by omega)) ?_)
    refine Tot.f (by show (!(sumn ((DD p).take i) == sumn ((DD p).take i))) = false; simp) ?_
    repeat (refine Tot.t (decide_eq_true (by omega)) ?_)
    refine Tot.bind (pfind_tot (DD p) _ _ _ _ _ _ _ _ hg (by omega) hgi.sm) fun r hr => ?_
    have hr := fst_at hd.dif hi hr
    subst hr
    refine Tot.f (by simp) ?_
    repeat (refine Tot.t (decide_eq_true (by omega)) ?_)
    refine Tot.bind (rinn_tot hgi) fun r hr => ?_
    subst hr
    rw [show gi (prow ((DD p).getD i [])) 0 = nst ((DD p).getD i []) from rfl, wrap_id (x := sumn ((DD p).take i) + nst ((DD p).getD i [])) (by omega) (by omega)]
    have hll2 := hgi.len
    refine Tot.in1 (Tot.loop (H := fun k q r v (_ : Unit) => oriellaw18_StratOrder_l1 (lv k) k (gi p 0) (gr p 1) (gr p 2) q r (sumn ((DD p).take i) + nst ((DD p).getD i [])) (i : Int) v (mach p).n (mach p).s (mach p).e (inn 16 true ((DD p).getD i [])) (DD p) ((DD p).map prow) (bases 0 (DD p)) (mach p).E (mach p).T) (n := (inn 16 true ((DD p).getD i [])).length) (fun i _ => True) (by omega) (fun _ _ => ?_) (fun j _ hj _ nx => ?_) _ 0 () rfl (by omega) trivial)
    · refine Tot.step1 (fun k p_ q_ => oriellaw18_StratOrder_l1_q (lv k) k (gi p 0) (gr p 1) (gr p 2) p_ q_ _ _ _ _ _ _ _ _ _ _ _ _) ?_
      refine Tot.f (decide_eq_false (by omega)) (next _ ?_)
      rw [take_succ hi, sumn_app]
      simp [sumn]
    · refine Tot.step1 (fun k p_ q_ => oriellaw18_StratOrder_l1_q (lv k) k (gi p 0) (gr p 1) (gr p 2) p_ q_ _ _ _ _ _ _ _ _ _ _ _ _) ?_
      rw [Int.toNat_natCast]
      repeat (refine Tot.t (decide_eq_true (by omega)) ?_)
      have hx : (inn 16 true ((DD p).getD i [])).getD j [] ∈ inn 16 true ((DD p).getD i []) := getD_mem hj
      refine Tot.bind (pfind_tot (DD p) _ _ _ _ _ _ _ _ hg (by omega) (hgi.inn _ hx).sm) fun r hr => ?_
      obtain ⟨m, hm, ha⟩ := hd.ahead i hi _ hx
      have hr' : 0 ≤ r ∧ r < i := by
        rcases hr with ⟨_, e1⟩ | ⟨m', e, g1, g2, g3⟩
        · exact absurd ha (e1 m (by omega))
        · refine ⟨by omega, ?_⟩
          rcases Nat.lt_or_ge m m' with g | g
          · exact absurd ha (g3 m g)
          · omega
      exact Tot.f (decide_eq_false (by omega)) (Tot.f (decide_eq_false (by omega)) (nx () trivial))
end Go.Vm.T
