/- The plain law. -/
import Derived.Test.YtjobiohbddlfcaaVmTbb
import Derived.Test.YtjobiohbddlfcaaVmPure
/- awake. -/
set_option linter.unusedVariables false
namespace Go.Vm.T
open Go Go.Vm Go.Proofs
theorem awake_at (m : Nat) : (lv (m + 40)).oriellaw18_awake = some true := by kernel_rfl
theorem awake_tot : Tot (fun n _ _ => (lv n).oriellaw18_awake) (fun r => r = true) := ⟨true, rfl, 40, fun n a b hn _ _ => by
  obtain ⟨m, rfl⟩ : ∃ m, n = m + 40 := ⟨n - 40, by omega⟩
  exact awake_at m⟩
end Go.Vm.T
/- A path's machines: the program's and the document's. -/
set_option linter.unusedVariables false
set_option linter.unusedSimpArgs false
namespace Go.Vm.T
open Go Go.Vm Go.Proofs
attribute [local irreducible] lv oriellaw18_StratJudges_b oriellaw18_StratJudges_l0 oriellaw18_StratJudges_l1 orielref18_Holds_b orielref18_Holds_l0 orielref18_Holds_l1 oriellaw18_awake_b orielref18_Find_b orielref18_Find_l0 strat_Make_b strat_Make_l0 strat_Make_l1 orielref12_Same_b orielref12_Same_l0 orielref12_Same_l1 strat_maker_path_b strat_maker_path_l0 strat_maker_path_l1 orielref12_SameFilter_b orielref12_SameFilter_l0 orielref12_SameFilter_l1 strat_maker_filter_b strat_maker_filter_l0 strat_maker_filter_l1 api_Path_b api_Path_2_b api_Path_2_l0 strat_maker_filter_1_b path_Same_b api_Path_3_b api_Path_3_l0 prog_Compile_b api_Filter_b api_Filter_l0 prog_maker_path_b path_sameFilter_b prog_maker_step_b prog_maker_seq_b prog_maker_seq_l0 prog_maker_alt_b prog_maker_alt_l0 prog_maker_alt_l1 prog_maker_alt_l2 prog_maker_alt_l3 prog_maker_state_b prog_maker_lay_b prog_maker_free_b strat_Items_b strat_Items_l0 orielref12_Right_b strat_Find_b orielref12_Size_b api_Path_4_b api_Path_4_l0 orielref12_size_b orielref12_size_l0 orielref12_size_l1 strat_Find_1_b orielref12_sizeFilter_b orielref12_sizeFilter_l0 orielref12_sizeFilter_l1 strat_Holds_b orielref12_path_b orielref12_path_l0 orielref12_path_l1 strat_node_holds_b orielref12_filter_b orielref12_filter_l0 orielref12_filter_l1 orielref12_filter_l2 orielref12_filter_l3 orielref12_filter_l4 strat_node_attr_b strat_node_attr_l0 api_Filter_2_b api_Filter_3_b api_Path_5_b orielref12_named_b orielref04_Right_b orielref04_Right_l0 api_Filter_4_b api_Filter_4_l0 api_Filter_5_b api_Filter_5_l0 api_Path_6_b api_Path_6_l0 orielref03_Plain_b orielref03_Plain_l0 orielref01_All_b orielref01_All_l0 orielref01_All_l1 strat_node_fails_b strat_node_holds_2_b strat_node_leads_b orielref02_Start_b orielref01_Rune_b orielref01_Rune_l0 strat_node_attr_2_b strat_node_attr_2_l0 orielref01_Put_b orielref01_cut_b orielref01_cut_l0 orielref01_cut_l1 orielref01_cut_l2 orielref01_cut_l3 orielref01_cut_l4 orielref01_value_b orielref01_value_l0 orielref01_value_l1 orielref09_Few_b orielref09_Few_l0 orielref09_Few_l1 orielref02_Char_b orielref02_Part_b orielref01_begins_b orielref01_begins_l0 orielref02_Blank_b orielref10_Whole_b strat_Tests_b strat_Tests_l0 strat_Tests_l1 orielref05_Find_b orielref05_Find_l0 orielref09_Depth_b orielref09_Depth_l0 orielref09_Depth_l1 orielref09_Depth_l2 orielref09_Right_b orielref09_Right_l0 orielref09_Right_l1 orielref09_Right_l2 orielref09_named_b orielref16_Make_b orielref16_Make_l0 orielref16_Make_l1 orielref16_From_b orielref16_From_l0 orielref16_From_l1 orielref12_Filters_b orielref12_Filters_l0 orielref12_Filters_l1 orielref12_Filters_l2 orielref12_Filters_l3 orielref16_leads_b orielref16_leads_l0 orielref16_leads_l1 orielref16_leads_l2 orielref16_leads_l3 orielref16_leads_l4 orielref16_leads_l5 orielref16_leads_l6 orielref16_leads_l7 orielref16_leads_l8 orielref16_leads_l9 orielref16_leads_l10 orielref16_leads_l11 orielref16_leads_l12 orielref16_leads_l13 orielref12_within_b orielref12_within_l0 orielref12_within_l1 orielref16_first_b orielref16_has_b orielref16_has_l0 orielref16_next_b orielref16_Holds_b orielref16_Holds_l0 orielref16_Holds_l1 orielref16_number_b orielref16_number_l0 orielref10_End_b orielref10_End_l0
theorem bytes25 : Try.prog.bytesOf 25 ≤ 1024 := of_decide_eq_true (by kernel_rfl)
theorem bytes41 : Try.prog.bytesOf 41 ≤ 1024 := of_decide_eq_true (by kernel_rfl)
theorem good_get {D : List (List C)} (h : ∀ x, x ∈ D → Good x) (i : Nat) : SmR BB (D.getD i []) := by
  rw [List.getD_eq_getElem?_getD]
  cases hi : D[i]? with
  | none => intro x hx; cases hx
  | some r => exact (h r (List.mem_of_getElem? hi)).sm
/-- is one alike to a path in a list? -/
theorem cont_tot (D : List (List C)) (x : List C) (hD : ∀ y, y ∈ D → Good y) (hl : D.length ≤ 1000000) (hx : SmR BB x) : Tot (fun k _ _ => (lv k).api_Path D (gi x 0) (gr x 1) (gr x 2)) (fun r => r = true ↔ ∃ z, z ∈ D ∧ Alike true z x) := by
  refine api_Path_up _ _ _ _ (Tot.congr ?_ (fun k _ _ => api_Path_q (lv k) k D (gi x 0) (gr x 1) (gr x 2)))
  have h2 : Tot (fun k _ _ => (lv k).api_Path_2 D (gi x 0) (gr x 1) (gr x 2)) (Fst D.length (fun j => Alike true x (D.getD j []))) := by
    refine api_Path_2_up _ _ _ _ (Tot.congr ?_ (fun k _ _ => api_Path_2_q (lv k) k D (gi x 0) (gr x 1) (gr x 2)))
    refine Tot.in0 (Tot.first (H := fun k p q v => api_Path_2_l0 (lv k) k D (gi x 0) (gr x 1) (gr x 2) p v) (n := D.length) (by omega) ?_ (fun i Q hi hy hn => ?_))
    · refine Tot.step0 (fun k p_ q_ => api_Path_2_l0_q (lv k) k D (gi x 0) (gr x 1) (gr x 2) p_ _) ?_
      exact Tot.f (decide_eq_false (by omega)) (Tot.ret rfl)
    · refine Tot.step0 (fun k p_ q_ => api_Path_2_l0_q (lv k) k D (gi x 0) (gr x 1) (gr x 2) p_ _) ?_
      rw [Int.toNat_natCast]
      repeat (refine Tot.t (decide_eq_true (by omega)) ?_)
      refine Tot.bind (R := AlQ true x (D.getD i [])) ?_ fun r hr => Tot.cond (fun h => Tot.ret (hy (hr.1 h))) (fun h => hn (fun ha => by rw [hr.2 ha] at h; cases h))
      refine strat_maker_filter_1_up _ _ _ _ _ _ (Tot.congr ?_ (fun k _ _ => strat_maker_filter_1_q (lv k) k (gi (D.getD i []) 0) (gr (D.getD i []) 1) (gr (D.getD i []) 2) (gi x 0) (gr x 1) (gr x 2)))
      exact Tot.bind (psame_tot x (D.getD i []) hx (good_get hD i)) fun r hr => Tot.ret hr
  refine Tot.bind h2 fun r hr => Tot.ret ?_
  rcases hr with ⟨rfl, h⟩ | ⟨i, rfl, h1, h2, h3⟩
  · constructor
    · intro h; simp at h
    · rintro ⟨z, hz, ha⟩
      obtain ⟨i, hi, rfl⟩ := mem_getD hz
      exact absurd ha.symm (h i hi)
  · exact ⟨fun _ => ⟨_, getD_mem h1, h2.symm⟩, fun _ => decide_eq_true (by omega)⟩
theorem add1_row3 (r : List (List C)) (x : List C) : add1 r (row3 x) = add1 r x := by
  by_cases h : ∃ z, z ∈ r ∧ Alike true z x
  · obtain ⟨z, h1, h2⟩ := h
    rw [add1_old ⟨z, h1, h2⟩, add1_old ⟨z, h1, h2.trans (al3 _).symm⟩]
  · rw [add1_new h, add1_new fun ⟨z, h1, h2⟩ => h ⟨z, h1, h2.trans (al3 _)⟩]
    rfl
theorem set_last {l : List (List C)} {z w : List C} : (l ++ [z]).set l.length w = l ++ [w] := by
  induction l with
  | nil => rfl
  | cons x l ih => simp [ih]
theorem get_last {l : List (List C)} {z : List C} : (l ++ [z]).getD l.length [] = z := by
  rw [getD_app, if_neg (Nat.lt_irrefl _), Nat.sub_self]
  rfl
theorem take_flat {l : List (List C)} {f : List C → List (List C)} {i : Nat} : ((l.take i).flatMap f).length ≤ (l.flatMap f).length := by
  have := List.take_append_drop i l
  have h : (l.flatMap f).length = ((l.take i).flatMap f).length + ((l.drop i).flatMap f).length := by
    rw [← List.length_append, ← List.flatMap_append, this]
  omega
theorem take_flat1 {l : List (List C)} {f : List C → List (List C)} {i : Nat} (hi : i < l.length) : ((l.take i).flatMap f).length + (f (l.getD i [])).length ≤ (l.flatMap f).length := by
  have := take_flat (l := l) (f := f) (i := i + 1)
  rw [flat_take hi, List.length_append] at this
  exact this
/-- what the gathering is to come to -/
def PM (d : Nat) (k : Bool) : Prop := ∀ (a : List C) (D : List (List C)), ok d k a → (∀ e, sz e k a ≤ 64) → SmR BB a → (∀ x, x ∈ D → Good x) → D.length + (inn d k a).length ≤ 1000 →
  match k with
  | true => Tot (fun k _ _ => (lv k).strat_maker_path D (gi a 0) (gr a 1) (gr a 2)) (fun r => r = (inn d true a).foldl add1 D)
  | false => Tot (fun k _ _ => (lv k).strat_maker_filter D (gi a 0) (gs a 1) (gs a 2) (gs a 3) (gr a 4) (gr a 5)) (fun r => r = (inn d false a).foldl add1 D)
theorem sub_sz {a : List C} {k : Bool} (hz : ∀ e, sz e k a ≤ 64) (j : Nat) (k' : Bool) (hj : (k, j, k') = (true, 1, true) ∨ (k, j, k') = (true, 2, false) ∨ (k, j, k') = (false, 4, false) ∨ (k, j, k') = (false, 5, true)) {i : Nat} (hi : i < (gr a j).length) : ∀ e, sz e k' ((gr a j).getD i []) ≤ 64 := by
  intro e
  have h1 := hz (e + 1)
  have h2 := sz_sub (f := sz e k') hi
  rcases hj with hj | hj | hj | hj <;> cases hj <;> simp only [sz] at h1 <;> omega
theorem gather : ∀ d, d ≤ 16 → PM d true ∧ PM d false := by
  intro d
  induction d with
  | zero => intro _; exact ⟨fun a D h => h.elim, fun a D h => h.elim⟩
  | succ d ih =>
    intro hd
    have ih := ih (by omega)
    constructor
    · intro a D ha hz hs hD hl
      have hgood := inn_good hd ha hz hs
      have ha' := ha
      obtain ⟨_, _, _, _, _, _, _, _, h9, h10⟩ := ha'
      have e0 : inn (d + 1) true a = (gr a 1).flatMap (inn d true) ++ (gr a 2).flatMap (inn d false) := rfl
      rw [e0] at hgood hl ⊢
      rw [List.length_append] at hl
      have hl1 : (gr a 1).length ≤ 1048576 := (hs.gr 1).1
      have hl2 : (gr a 2).length ≤ 1048576 := (hs.gr 2).1
      have g1 : ∀ i x, x ∈ ((gr a 1).take i).flatMap (inn d true) → Good x := fun i x hx => hgood x (List.mem_append_left _ (by
        obtain ⟨y, hy, h⟩ := List.mem_flatMap.1 hx
        exact List.mem_flatMap.2 ⟨y, List.mem_of_mem_take hy, h⟩))
      have g2 : ∀ i x, x ∈ ((gr a 2).take i).flatMap (inn d false) → Good x := fun i x hx => hgood x (List.mem_append_right _ (by
        obtain ⟨y, hy, h⟩ := List.mem_flatMap.1 hx
        exact List.mem_flatMap.2 ⟨y, List.mem_of_mem_take hy, h⟩))
      refine strat_maker_path_up _ _ _ _ (Tot.congr ?_ (fun k _ _ => strat_maker_path_q (lv k) k D (gi a 0) (gr a 1) (gr a 2)))
      refine Tot.in0 (Tot.loop (H := fun k p q v s => strat_maker_path_l0 (lv k) k D (gi a 0) (gr a 1) (gr a 2) p v s) (n := (gr a 1).length) (fun i s => s = (((gr a 1).take i).flatMap (inn d true)).foldl add1 D) (by omega) (fun s hs' => ?_) (fun i s hi hs' next => ?_) _ 0 D rfl (by omega) rfl)
      · subst hs'
        refine Tot.step0 (fun k p_ q_ => strat_maker_path_l0_q (lv k) k D (gi a 0) (gr a 1) (gr a 2) p_ _ _) ?_
        refine Tot.f (decide_eq_false (by omega)) ?_
        rw [List.take_length]
        refine Tot.in0 (Tot.loop (H := fun k p q v s => strat_maker_path_l1 (lv k) k D (gi a 0) (gr a 1) (gr a 2) p v s) (n := (gr a 2).length) (fun i s => s = (((gr a 2).take i).flatMap (inn d false)).foldl add1 (((gr a 1).flatMap (inn d true)).foldl add1 D)) (by omega) (fun s hs' => ?_) (fun i s hi hs' next => ?_) _ 0 _ rfl (by omega) rfl)
        · subst hs'
          refine Tot.step0 (fun k p_ q_ => strat_maker_path_l1_q (lv k) k D (gi a 0) (gr a 1) (gr a 2) p_ _ _) ?_
          refine Tot.f (decide_eq_false (by omega)) (Tot.ret ?_)
          rw [List.take_length, List.foldl_append]
        · subst hs'
          refine Tot.step0 (fun k p_ q_ => strat_maker_path_l1_q (lv k) k D (gi a 0) (gr a 1) (gr a 2) p_ _ _) ?_
          rw [Int.toNat_natCast]
          repeat (refine Tot.t (decide_eq_true (by omega)) ?_)
          have q1 := add_len D ((gr a 1).flatMap (inn d true))
          have q2 := add_len (((gr a 1).flatMap (inn d true)).foldl add1 D) (((gr a 2).take i).flatMap (inn d false))
          have q3 := take_flat1 (f := inn d false) hi
          refine Tot.bind (ih.2 _ _ (h10 i hi) (sub_sz hz 2 false (by simp) hi) ((hs.gr 2).get i) (add_good (add_good hD (fun x hx => g1 (gr a 1).length x (by rw [List.take_length]; exact hx))) (g2 i)) (by omega)) fun r hr => next r ?_
          rw [hr, flat_take hi, List.foldl_append]
      · subst hs'
        refine Tot.step0 (fun k p_ q_ => strat_maker_path_l0_q (lv k) k D (gi a 0) (gr a 1) (gr a 2) p_ _ _) ?_
        rw [Int.toNat_natCast]
        repeat (refine Tot.t (decide_eq_true (by omega)) ?_)
        have q2 := add_len D (((gr a 1).take i).flatMap (inn d true))
        have q3 := take_flat1 (f := inn d true) hi
        refine Tot.bind (ih.1 _ _ (h9 i hi) (sub_sz hz 1 true (by simp) hi) ((hs.gr 1).get i) (add_good hD (g1 i)) (by omega)) fun r hr => next r ?_
        rw [hr, flat_take hi, List.foldl_append]
    · intro a D ha hz hs hD hl
      have hgood := inn_good hd ha hz hs
      have ha' := ha
      obtain ⟨_, _, _, _, _, _, _, _, h9, h10⟩ := ha'
      have e0 : inn (d + 1) false a = (gr a 4).flatMap (inn d false) ++ (gr a 5).flatMap (fun x => inn d true x ++ [row3 x]) := rfl
      rw [e0] at hgood hl ⊢
      rw [List.length_append] at hl
      have hl1 : (gr a 4).length ≤ 1048576 := (hs.gr 4).1
      have hl2 : (gr a 5).length ≤ 1048576 := (hs.gr 5).1
      have g1 : ∀ i x, x ∈ ((gr a 4).take i).flatMap (inn d false) → Good x := fun i x hx => hgood x (List.mem_append_left _ (by
        obtain ⟨y, hy, h⟩ := List.mem_flatMap.1 hx
        exact List.mem_flatMap.2 ⟨y, List.mem_of_mem_take hy, h⟩))
      have g2 : ∀ i x, x ∈ ((gr a 5).take i).flatMap (fun x => inn d true x ++ [row3 x]) → Good x := fun i x hx => hgood x (List.mem_append_right _ (by
        obtain ⟨y, hy, h⟩ := List.mem_flatMap.1 hx
        exact List.mem_flatMap.2 ⟨y, List.mem_of_mem_take hy, h⟩))
      refine strat_maker_filter_up _ _ _ _ _ _ _ (Tot.congr ?_ (fun k _ _ => strat_maker_filter_q (lv k) k D (gi a 0) (gs a 1) (gs a 2) (gs a 3) (gr a 4) (gr a 5)))
      refine Tot.in0 (Tot.loop (H := fun k p q v s => strat_maker_filter_l0 (lv k) k D (gi a 0) (gs a 1) (gs a 2) (gs a 3) (gr a 4) (gr a 5) p v s) (n := (gr a 4).length) (fun i s => s = (((gr a 4).take i).flatMap (inn d false)).foldl add1 D) (by omega) (fun s hs' => ?_) (fun i s hi hs' next => ?_) _ 0 D rfl (by omega) rfl)
      · subst hs'
        refine Tot.step0 (fun k p_ q_ => strat_maker_filter_l0_q (lv k) k D (gi a 0) (gs a 1) (gs a 2) (gs a 3) (gr a 4) (gr a 5) p_ _ _) ?_
        refine Tot.f (decide_eq_false (by omega)) ?_
        rw [List.take_length]
        refine Tot.in0 (Tot.loop (H := fun k p q v s => strat_maker_filter_l1 (lv k) k D (gi a 0) (gs a 1) (gs a 2) (gs a 3) (gr a 4) (gr a 5) p v s) (n := (gr a 5).length) (fun i s => s = (((gr a 5).take i).flatMap (fun x => inn d true x ++ [row3 x])).foldl add1 (((gr a 4).flatMap (inn d false)).foldl add1 D)) (by omega) (fun s hs' => ?_) (fun i s hi hs' next => ?_) _ 0 _ rfl (by omega) rfl)
        · subst hs'
          refine Tot.step0 (fun k p_ q_ => strat_maker_filter_l1_q (lv k) k D (gi a 0) (gs a 1) (gs a 2) (gs a 3) (gr a 4) (gr a 5) p_ _ _) ?_
          refine Tot.f (decide_eq_false (by omega)) (Tot.ret ?_)
          rw [List.take_length, List.foldl_append]
        · refine Tot.step0 (fun k p_ q_ => strat_maker_filter_l1_q (lv k) k D (gi a 0) (gs a 1) (gs a 2) (gs a 3) (gr a 4) (gr a 5) p_ _ _) ?_
          rw [Int.toNat_natCast]
          repeat (refine Tot.t (decide_eq_true (by omega)) ?_)
          have q1 := add_len D ((gr a 4).flatMap (inn d false))
          have q2 := add_len (((gr a 4).flatMap (inn d false)).foldl add1 D) (((gr a 5).take i).flatMap (fun x => inn d true x ++ [row3 x]))
          have q3 := take_flat1 (f := fun x => inn d true x ++ [row3 x]) hi
          rw [← hs'] at q2
          simp only [List.length_append, List.length_singleton] at q3
          have gs : ∀ x, x ∈ s → Good x := by
            rw [hs']
            exact add_good (add_good hD (fun x hx => g1 (gr a 4).length x (by rw [List.take_length]; exact hx))) (g2 i)
          have hzi := sub_sz hz 5 true (by simp) hi
          refine Tot.bind (ih.1 _ s (h10 i hi) hzi ((hs.gr 5).get i) gs (by omega)) fun r hr => ?_
          have q4 := add_len s (inn d true ((gr a 5).getD i []))
          rw [← hr] at q4
          have gr' : ∀ x, x ∈ r → Good x := by
            rw [hr]
            exact add_good gs (inn_good (by omega) (h10 i hi) hzi ((hs.gr 5).get i))
          refine Tot.bind (cont_tot r _ gr' (by omega) ((hs.gr 5).get i)) fun r2 hr2 => ?_
          have en : (((gr a 5).take (i + 1)).flatMap (fun x => inn d true x ++ [row3 x])).foldl add1 (((gr a 4).flatMap (inn d false)).foldl add1 D) = add1 r ((gr a 5).getD i []) := by
            rw [flat_take hi, List.foldl_append, ← hs', List.foldl_append, ← hr]
            exact add1_row3 _ _
          refine Tot.cond (fun h2 => ?_) (fun h2 => ?_)
          · have h2 : r2 = false := by simpa using h2
            have hne : ¬ ∃ z, z ∈ r ∧ Alike true z ((gr a 5).getD i []) := fun h => by rw [hr2.2 h] at h2; cases h2
            refine Tot.choice eqLL_rfl (fun n p q => ?_) (Tot.t (roomy_of bytes25 (by omega)) (next _ ?_))
            · rw [Int.toNat_natCast, get_last, decide_eq_true (show (0 : Int) ≤ (r.length : Int) by omega), decide_eq_true (show (r.length : Int) < ((r ++ [[C.int .i64 0, C.nil 25, C.nil 50]]).length : Int) by simp; omega), set_last]
              rfl
            · rw [en, add1_new hne]
              rfl
          · have h2 : r2 = true := by simpa using h2
            exact next _ (by rw [en, add1_old (hr2.1 h2)])
      · subst hs'
        refine Tot.step0 (fun k p_ q_ => strat_maker_filter_l0_q (lv k) k D (gi a 0) (gs a 1) (gs a 2) (gs a 3) (gr a 4) (gr a 5) p_ _ _) ?_
        rw [Int.toNat_natCast]
        repeat (refine Tot.t (decide_eq_true (by omega)) ?_)
        have q2 := add_len D (((gr a 4).take i).flatMap (inn d false))
        have q3 := take_flat1 (f := inn d false) hi
        refine Tot.bind (ih.2 _ _ (h9 i hi) (sub_sz hz 4 false (by simp) hi) ((hs.gr 4).get i) (add_good hD (g1 i)) (by omega)) fun r hr => next r ?_
        rw [hr, flat_take hi, List.foldl_append]
-- Strat
noncomputable def mach (x : List C) : Mk := mk 16 (gi x 0) (gr x 1) (gr x 2) 0 0
noncomputable def nst (x : List C) : Int := (mach x).n
noncomputable def prow (x : List C) : List C := [C.int .i64 (mach x).n, C.int .i64 (mach x).s, C.int .i64 (mach x).e, C.row 125 (mach x).E, C.row 50 (mach x).T]
noncomputable def sumn : List (List C) → Int
  | [] => 0
  | x :: l => nst x + sumn l
noncomputable def bases : Int → List (List C) → List (List C)
  | _, [] => []
  | s, x :: l => [C.int .i64 s] :: bases (s + nst x) l
theorem sumn_app (l m : List (List C)) : sumn (l ++ m) = sumn l + sumn m := by
  induction l with
  | nil => simp [sumn]
  | cons x l ih => simp only [List.cons_append, sumn, ih]; omega
theorem bases_app (l m : List (List C)) : ∀ s, bases s (l ++ m) = bases s l ++ bases (s + sumn l) m := by
  induction l with
  | nil => intro s; simp [bases, sumn]
  | cons x l ih => intro s; simp only [List.cons_append, bases, sumn, ih]; rw [show s + nst x + sumn l = s + (nst x + sumn l) by omega]
theorem bases_len (l : List (List C)) : ∀ s, (bases s l).length = l.length := by
  induction l with
  | nil => intro s; rfl
  | cons x l ih => intro s; simp [bases, ih]
theorem bases_get (l : List (List C)) : ∀ (s : Int) (i : Nat), i < l.length → (bases s l).getD i [] = [C.int .i64 (s + sumn (l.take i))] := by
  induction l with
  | nil => intro s i h; simp at h
  | cons x l ih =>
    intro s i h
    cases i with
    | zero => simp [bases, sumn]
    | succ i =>
      have := ih (s + nst x) i (by simpa using h)
      simp only [bases, List.getD_cons_succ, List.take_succ_cons, sumn]
      rw [this, show s + nst x + sumn (l.take i) = s + (nst x + sumn (l.take i)) by omega]
theorem Good.nst {x : List C} (h : Good x) : 0 ≤ nst x ∧ nst x ≤ 128 := by
  have h1 := mk_bd 16 _ _ _ 0 0 h.pok
  have h2 := h.pc
  have h3 := h1.lo
  have h4 := h1.hi
  unfold Go.Vm.T.nst mach
  omega
theorem sumn_bd {l : List (List C)} (h : ∀ x, x ∈ l → Good x) : 0 ≤ sumn l ∧ sumn l ≤ 128 * l.length := by
  induction l with
  | nil => simp [sumn]
  | cons x l ih =>
    have h1 := (h x List.mem_cons_self).nst
    have h2 := ih fun y hy => h y (List.mem_cons_of_mem _ hy)
    simp only [sumn, List.length_cons]
    omega
theorem take_succ {l : List (List C)} {i : Nat} (h : i < l.length) : l.take (i + 1) = l.take i ++ [l.getD i []] := by
  rw [List.take_add_one, List.getElem?_eq_getElem h, List.getD_eq_getElem?_getD, List.getElem?_eq_getElem h]
  rfl
theorem mem_take {l : List (List C)} (h : ∀ x, x ∈ l → Good x) (i : Nat) : ∀ x, x ∈ l.take i → Good x := fun x hx => h x (List.mem_of_mem_take hx)
noncomputable def DD (p : List C) : List (List C) := (inn 16 true p).foldl add1 []
theorem Good.inn {p : List C} (h : Good p) : ∀ x, x ∈ inn 16 true p → Good x := inn_good (by omega) h.ok h.sz h.sm
theorem Good.len {p : List C} (h : Good p) : (Go.Vm.T.inn 16 true p).length ≤ 63 := by
  have := inn_len 16 true p
  have := h.sz 16
  omega
theorem Good.ded {p : List C} (h : Good p) : Ded (Go.Vm.T.inn 16 true p) (DD p) := ded_all (inn_cl (by omega) h.ok) h.inn
theorem comp_tot {x : List C} (h : Good x) : Tot (fun k _ _ => (lv k).prog_Compile (gi x 0) (gr x 1) (gr x 2)) (fun r => r = ((mach x).n, (mach x).s, (mach x).e, (mach x).E, (mach x).T)) := compile_tot _ _ _ h.pok h.pc
theorem make_tot {p : List C} (h : Good p) : Tot (fun k _ _ => (lv k).strat_Make (gi p 0) (gr p 1) (gr p 2)) (fun r => r = (DD p, (DD p).map prow, bases 0 (DD p), (mach p).n, (mach p).s, (mach p).e, (mach p).E, (mach p).T)) := by
  have hg := h.ded.good
  have hlen : (DD p).length ≤ 63 := Nat.le_trans h.ded.len h.len
  refine strat_Make_up _ _ _ (Tot.congr ?_ (fun k _ _ => strat_Make_q (lv k) k (gi p 0) (gr p 1) (gr p 2)))
  refine Tot.bind ((gather 16 (Nat.le_refl _)).1 p [] h.ok h.sz h.sm (fun x hx => by cases hx) (by have := h.len; simp; omega)) fun r hr => ?_
  have hr : r = DD p := hr
  subst hr
  refine Tot.bind (comp_tot h) fun r hr => ?_
  subst hr
  refine Tot.in0 (g := fun k p_ q_ => strat_Make_l0 (lv k) k (gi p 0) (gr p 1) (gr p 2) p_ ((DD p).length : Int) (mach p).n (mach p).s (mach p).e (DD p) (mach p).E (mach p).T) ?_
  refine Tot.step0 (fun k p_ q_ => strat_Make_l0_q (lv k) k (gi p 0) (gr p 1) (gr p 2) p_ _ _ _ _ _ _ _) ?_
  refine Tot.cond (fun h0 => ?_) (fun h0 => Tot.ret ?_)
  · have h0 := of_decide_eq_true h0
    refine Tot.t (decide_eq_true (by omega)) ?_
    have h1 := hg _ (getD_mem (d := []) (show 0 < (DD p).length by omega))
    refine Tot.bind (comp_tot h1) fun r hr => ?_
    subst hr
    have hn1 := h1.nst
    have loop := Tot.loop (H := fun k q r v s => strat_Make_l1 (lv k) k (gi p 0) (gr p 1) (gr p 2) q s.1 ((DD p).length : Int) v (mach p).n (mach p).s (mach p).e (DD p) s.2.1 s.2.2 (mach p).E (mach p).T) (Q := fun r => r = (DD p, (DD p).map prow, bases 0 (DD p), (mach p).n, (mach p).s, (mach p).e, (mach p).E, (mach p).T)) (n := (DD p).length) (fun i s => s = (sumn ((DD p).take i), ((DD p).take i).map prow, bases 0 ((DD p).take i))) (by omega) (fun s hs => ?_) (fun i s hi hs next => ?_) _ 1 (nst ((DD p).getD 0 []), [prow ((DD p).getD 0 [])], [[C.int .i64 0]]) rfl (by omega) (by
      rw [take_succ (show 0 < (DD p).length by omega)]
      simp [sumn, bases])
    · rw [wrap_id (x := (0 : Int) + (mach ((DD p).getD 0 [])).n) (by have := hn1.1; unfold nst at this; omega) (by have := hn1.2; unfold nst at this; omega), Int.zero_add]
      exact loop
    · subst hs
      refine Tot.step0 (fun k p_ q_ => strat_Make_l1_q (lv k) k (gi p 0) (gr p 1) (gr p 2) p_ _ _ _ _ _ _ _ _ _ _ _) ?_
      rw [List.take_length]
      exact Tot.f (decide_eq_false (by omega)) (Tot.ret rfl)
    · subst hs
      refine Tot.step0 (fun k p_ q_ => strat_Make_l1_q (lv k) k (gi p 0) (gr p 1) (gr p 2) p_ _ _ _ _ _ _ _ _ _ _ _) ?_
      rw [Int.toNat_natCast]
      repeat (refine Tot.t (decide_eq_true (by omega)) ?_)
      have hgi := hg _ (getD_mem (d := []) hi)
      have b1 := sumn_bd (mem_take hg i)
      have b2 := hgi.nst
      have b3 : ((DD p).take i).length ≤ i := by simp; omega
      refine Tot.bind (comp_tot hgi) fun r hr => ?_
      subst hr
      refine Tot.t (roomy_of bytes41 (by simp; omega)) (Tot.t (roomy_of bytes3 (by rw [bases_len]; omega)) ?_)
      have nx := next (sumn ((DD p).take (i + 1)), ((DD p).take (i + 1)).map prow, bases 0 ((DD p).take (i + 1))) rfl
      rw [take_succ hi, sumn_app, bases_app, List.map_append] at nx
      simp only [sumn, bases, List.map_cons, List.map_nil, Int.add_zero, Int.zero_add] at nx ⊢
      rw [wrap_id (x := sumn ((DD p).take i) + (mach ((DD p).getD i [])).n) (by unfold nst at b2; omega) (by unfold nst at b2; omega)]
      exact nx
  · have h0 := of_decide_eq_false h0
    have : DD p = [] := List.length_eq_zero_iff.1 (by omega)
    rw [this]
    rfl
theorem rfind_tot (D B C' : List (List C)) (n s e : Int) (E T : List (List C)) (x : List C) (hD : ∀ y, y ∈ D → Good y) (hl : D.length ≤ 1000000) (hx : SmR BB x) : Tot (fun k _ _ => (lv k).orielref18_Find D B C' n s e E T (gi x 0) (gr x 1) (gr x 2)) (Fst D.length (fun j => Alike true (D.getD j []) x)) := by
  refine orielref18_Find_up _ _ _ _ _ _ _ _ _ _ _ (Tot.congr ?_ (fun k _ _ => orielref18_Find_q (lv k) k D B C' n s e E T (gi x 0) (gr x 1) (gr x 2)))
  refine Tot.in0 (Tot.first (H := fun k p q v => orielref18_Find_l0 (lv k) k D B C' n s e E T (gi x 0) (gr x 1) (gr x 2) p v) (n := D.length) (by omega) ?_ (fun i Q hi hy hn => ?_))
  · refine Tot.step0 (fun k p_ q_ => orielref18_Find_l0_q (lv k) k D B C' n s e E T (gi x 0) (gr x 1) (gr x 2) p_ _) ?_
    exact Tot.f (decide_eq_false (by omega)) (Tot.ret rfl)
  · refine Tot.step0 (fun k p_ q_ => orielref18_Find_l0_q (lv k) k D B C' n s e E T (gi x 0) (gr x 1) (gr x 2) p_ _) ?_
    rw [Int.toNat_natCast]
    repeat (refine Tot.t (decide_eq_true (by omega)) ?_)
    exact Tot.bind (rsame_tot (D.getD i []) x (good_get hD i) hx) fun r hr => Tot.cond (fun h => Tot.ret (hy (hr.1 h))) (fun h => hn (fun ha => by rw [hr.2 ha] at h; cases h))
theorem pfind_tot (D B C' : List (List C)) (n s e : Int) (E T : List (List C)) (x : List C) (hD : ∀ y, y ∈ D → Good y) (hl : D.length ≤ 1000000) (hx : SmR BB x) : Tot (fun k _ _ => (lv k).strat_Find D B C' n s e E T (gi x 0) (gr x 1) (gr x 2)) (Fst D.length (fun j => Alike true (D.getD j []) x)) := by
  refine strat_Find_up _ _ _ _ _ _ _ _ _ _ _ (Tot.congr ?_ (fun k _ _ => strat_Find_q (lv k) k D B C' n s e E T (gi x 0) (gr x 1) (gr x 2)))
  refine Tot.bind (R := Fst D.length (fun j => Alike true (D.getD j []) x)) ?_ fun r hr => Tot.ret hr
  refine api_Path_4_up _ _ _ _ (Tot.congr ?_ (fun k _ _ => api_Path_4_q (lv k) k D (gi x 0) (gr x 1) (gr x 2)))
  refine Tot.in0 (Tot.first (H := fun k p q v => api_Path_4_l0 (lv k) k D (gi x 0) (gr x 1) (gr x 2) p v) (n := D.length) (by omega) ?_ (fun i Q hi hy hn => ?_))
  · refine Tot.step0 (fun k p_ q_ => api_Path_4_l0_q (lv k) k D (gi x 0) (gr x 1) (gr x 2) p_ _) ?_
    exact Tot.f (decide_eq_false (by omega)) (Tot.ret rfl)
  · refine Tot.step0 (fun k p_ q_ => api_Path_4_l0_q (lv k) k D (gi x 0) (gr x 1) (gr x 2) p_ _) ?_
    rw [Int.toNat_natCast]
    repeat (refine Tot.t (decide_eq_true (by omega)) ?_)
    refine Tot.bind (R := AlQ true (D.getD i []) x) ?_ fun r hr => Tot.cond (fun h => Tot.ret (hy (hr.1 h))) (fun h => hn (fun ha => by rw [hr.2 ha] at h; cases h))
    refine strat_Find_1_up _ _ _ _ _ _ (Tot.congr ?_ (fun k _ _ => strat_Find_1_q (lv k) k (gi (D.getD i []) 0) (gr (D.getD i []) 1) (gr (D.getD i []) 2) (gi x 0) (gr x 1) (gr x 2)))
    exact Tot.bind (psame_tot (D.getD i []) x (good_get hD i) hx) fun r hr => Tot.ret hr
/-! the document's -/
-- Rmake
theorem items_tot (A B C' : List (List C)) (n s e : Int) (E T D : List (List C)) (f : List C → List C) (hB : B = D.map f) (hf : ∀ x, gi (f x) 0 = nst x) (hD : ∀ x, x ∈ D → Good x) (hl : D.length ≤ 1000000) : Tot (fun k _ _ => (lv k).strat_Items A B C' n s e E T) (fun r => r = sumn D) := by
  subst hB
  refine strat_Items_up _ _ _ _ _ _ _ _ (Tot.congr ?_ (fun k _ _ => strat_Items_q (lv k) k A (D.map f) C' n s e E T))
  refine Tot.in0 (Tot.loop (H := fun k p q v w => strat_Items_l0 (lv k) k A (D.map f) C' n s e E T p w v) (n := D.length) (fun i w => w = sumn (D.take i)) (by omega) (fun w hw => ?_) (fun i w hi hw next => ?_) _ 0 0 rfl (by omega) rfl)
  · subst hw
    refine Tot.step0 (fun k p_ q_ => strat_Items_l0_q (lv k) k A (D.map f) C' n s e E T p_ _ _) ?_
    rw [List.length_map, List.take_length]
    exact Tot.f (decide_eq_false (by omega)) (Tot.ret rfl)
  · subst hw
    refine Tot.step0 (fun k p_ q_ => strat_Items_l0_q (lv k) k A (D.map f) C' n s e E T p_ _ _) ?_
    rw [Int.toNat_natCast, List.length_map]
    repeat (refine Tot.t (decide_eq_true (by omega)) ?_)
    have e1 : (D.map f).getD i [] = f (D.getD i []) := by simp [List.getD_eq_getElem?_getD, hi]
    have b1 := sumn_bd (mem_take hD i)
    have b2 := (hD _ (getD_mem (d := []) hi)).nst
    have b3 : (D.take i).length ≤ i := by simp; omega
    rw [e1, hf]
    refine next _ ?_
    rw [wrap_id (by omega) (by omega), take_succ hi, sumn_app]
    simp [sumn]
/-! the laws -/
theorem to_good {p : List C} (hp : SmR BB p) (h : ok 16 true p ∧ ∀ d, sz d true p ≤ 64) : Good p := ⟨h.1, h.2, hp⟩
-- Shp
def EdI (lo hi tl th : Int) (r : List C) : Prop := lo ≤ gi r 0 ∧ gi r 0 < hi ∧ lo ≤ gi r 1 ∧ gi r 1 < hi ∧ (gi r 2 = 3 → tl ≤ gi r 3 ∧ gi r 3 < th)
theorem EdI.mono {lo hi tl th lo' hi' tl' th' : Int} {r : List C} (h : EdI lo hi tl th r) (h1 : lo' ≤ lo) (h2 : hi ≤ hi') (h3 : tl' ≤ tl) (h4 : th ≤ th') : EdI lo' hi' tl' th' r := by
  obtain ⟨a, b, c, d, e⟩ := h
  exact ⟨by omega, by omega, by omega, by omega, fun h => by have := e h; omega⟩
theorem edI_st4 {lo hi tl th a b k t : Int} (h1 : lo ≤ a) (h2 : a < hi) (h3 : lo ≤ b) (h4 : b < hi) (h5 : k = 3 → tl ≤ t ∧ t < th) : EdI lo hi tl th (st4 a b k t) := ⟨h1, h2, h3, h4, h5⟩
structure Shp (n t : Int) (m : Mk) : Prop where
  ed : ∀ r, r ∈ m.E → EdI n m.n t (t + m.T.length) r
  s0 : n ≤ m.s
  s1 : m.s < m.n
  e0 : n ≤ m.e
  e1 : m.e < m.n
structure ShA (n t s : Int) (m : Al) : Prop where
  ed : ∀ r, r ∈ m.E → EdI n m.n t (t + m.T.length) r
  es : ∀ b, b ∈ m.es → n ≤ b ∧ b < m.n
  s0 : n ≤ s
  s1 : s < m.n
theorem seqF_shp {f : List C → Int → Int → Mk} {n t : Int} : ∀ {l : List (List C)} {m : Mk}, (∀ r, r ∈ l → ∀ n t, Shp n t (f r n t)) → Shp n t m → Shp n t (seqF f t l m) := by
  intro l
  induction l with
  | nil => intro m _ h; exact h
  | cons r l ih =>
    intro m hf hm
    have y := hf r List.mem_cons_self m.n (t + m.T.length)
    have h1 := hm.s0
    have h2 := hm.s1
    have h3 := hm.e0
    have h4 := hm.e1
    have h5 := y.s0
    have h6 := y.s1
    have h7 := y.e0
    have h8 := y.e1
    refine ih (fun r hr => hf r (List.mem_cons_of_mem _ hr)) ⟨fun x hx => ?_, h1, by show m.s < (f r m.n (t + m.T.length)).n; omega, by show n ≤ (f r m.n (t + m.T.length)).e; omega, h8⟩
    have hT : ((m.T ++ (f r m.n (t + m.T.length)).T).length : Int) = m.T.length + (f r m.n (t + m.T.length)).T.length := by simp
    show EdI n (f r m.n (t + m.T.length)).n t (t + ((m.T ++ (f r m.n (t + m.T.length)).T).length : Int)) x
    rw [hT]
    rcases List.mem_append.1 hx with hx | hx
    · exact (hm.ed x hx).mono (by omega) (by omega) (by omega) (by omega)
    · rcases List.mem_append.1 hx with hx | hx
      · exact (y.ed x hx).mono (by omega) (by omega) (by omega) (by omega)
      · rw [List.mem_singleton.1 hx]
        exact edI_st4 (by omega) (by omega) (by omega) (by omega) (fun h => by cases h)
theorem altF_shp {f : List C → Int → Int → Mk} {n t s : Int} : ∀ {l : List (List C)} {m : Al}, (∀ r, r ∈ l → ∀ n t, Shp n t (f r n t)) → ShA n t s m → ShA n t s (altF f t s l m) := by
  intro l
  induction l with
  | nil => intro m _ h; exact h
  | cons r l ih =>
    intro m hf hm
    have y := hf r List.mem_cons_self m.n (t + m.T.length)
    have h1 := hm.s0
    have h2 := hm.s1
    have h5 := y.s0
    have h6 := y.s1
    have h7 := y.e0
    have h8 := y.e1
    refine ih (fun r hr => hf r (List.mem_cons_of_mem _ hr)) ⟨fun x hx => ?_, fun b hb => ?_, h1, by show s < (f r m.n (t + m.T.length)).n; omega⟩
    · have hT : ((m.T ++ (f r m.n (t + m.T.length)).T).length : Int) = m.T.length + (f r m.n (t + m.T.length)).T.length := by simp
      show EdI n (f r m.n (t + m.T.length)).n t (t + ((m.T ++ (f r m.n (t + m.T.length)).T).length : Int)) x
      rw [hT]
      rcases List.mem_append.1 hx with hx | hx
      · exact (hm.ed x hx).mono (by omega) (by omega) (by omega) (by omega)
      · rcases List.mem_append.1 hx with hx | hx
        · exact (y.ed x hx).mono (by omega) (by omega) (by omega) (by omega)
        · rw [List.mem_singleton.1 hx]
          exact edI_st4 (by omega) (by omega) (by omega) (by omega) (fun h => by cases h)
    · show n ≤ b ∧ b < (f r m.n (t + m.T.length)).n
      rcases List.mem_append.1 hb with hb | hb
      · have := hm.es b hb; omega
      · rw [List.mem_singleton.1 hb]; omega
theorem mk_shp : ∀ (d : Nat) (op : Int) (subs tests : List (List C)) (n t : Int), POk d op subs tests → Shp n t (mk d op subs tests n t) := by
  intro d
  induction d with
  | zero => intro op subs tests n t h; exact h.elim
  | succ d ih =>
    intro op subs tests n t h
    obtain ⟨h1, h7, h45, h6, h77, ht, hl, h0, hsub⟩ := h
    have hf : ∀ r, r ∈ subs → ∀ n t, Shp n t (fr d r n t) := fun r hr n t => ih _ _ _ n t (hsub r hr)
    by_cases e4 : op = 4
    · cases subs with
      | nil => have := h45 (.inl e4); simp at this
      | cons r l => rw [mk_4 e4]; exact seqF_shp (fun r hr => hf r (List.mem_cons_of_mem _ hr)) (hf r List.mem_cons_self n t)
    · by_cases e5 : op = 5
      · rw [mk_5 e5]
        have a := altF_shp (l := subs) (n := n) (t := t) (s := n) (m := ⟨n + 1, [], [], []⟩) hf ⟨fun r hr => (by cases hr), fun b hb => (by cases hb), Int.le_refl _, by show n < n + 1; omega⟩
        have g1 := a.s1
        refine ⟨fun x hx => ?_, Int.le_refl _, by show n < (altF _ _ _ _ _).n + 1; omega, by show n ≤ (altF _ _ _ _ _).n; omega, by show (altF _ _ _ _ _).n < (altF _ _ _ _ _).n + 1; omega⟩
        rcases List.mem_append.1 hx with hx | hx
        · exact (a.ed x hx).mono (Int.le_refl _) (by show _ ≤ (altF _ _ _ _ _).n + 1; omega) (Int.le_refl _) (Int.le_refl _)
        · obtain ⟨b, hb, rfl⟩ := List.mem_map.1 hx
          have := a.es b hb
          exact edI_st4 (by omega) (by show b < (altF _ _ _ _ _).n + 1; omega) (by omega) (by show (altF _ _ _ _ _).n < (altF _ _ _ _ _).n + 1; omega) (fun h => by cases h)
      · by_cases e6 : op = 6
        · cases subs with
          | nil => have := h6 e6; simp at this
          | cons r l =>
            rw [mk_6 e6]
            have y := hf r List.mem_cons_self (n + 1) t
            have g1 := y.s0
            have g2 := y.s1
            have g3 := y.e0
            have g4 := y.e1
            refine ⟨fun x hx => ?_, Int.le_refl _, by show n < (fr d r (n + 1) t).n; omega, Int.le_refl _, by show n < (fr d r (n + 1) t).n; omega⟩
            rcases List.mem_append.1 hx with hx | hx
            · rcases List.mem_append.1 hx with hx | hx
              · exact (y.ed x hx).mono (by omega) (Int.le_refl _) (Int.le_refl _) (Int.le_refl _)
              · rw [List.mem_singleton.1 hx]
                exact edI_st4 (Int.le_refl _) (by show n < (fr d r (n + 1) t).n; omega) (by omega) g2 (fun h => by cases h)
            · rw [List.mem_singleton.1 hx]
              exact edI_st4 (by omega) g4 (Int.le_refl _) (by show n < (fr d r (n + 1) t).n; omega) (fun h => by cases h)
        · by_cases e7 : op = 7
          · rw [mk_7 e7]
            have htl := h77.1 e7
            refine ⟨fun x hx => ?_, Int.le_refl _, by show n < n + 2; omega, by show n ≤ n + 1; omega, by show n + 1 < n + 2; omega⟩
            rw [List.mem_singleton.1 hx]
            exact edI_st4 (Int.le_refl _) (by show n < n + 2; omega) (by omega) (by show n + 1 < n + 2; omega) (fun _ => ⟨Int.le_refl _, by show t < t + (tests.length : Int); omega⟩)
          · rw [mk_0 e4 e5 e6 e7]
            refine ⟨fun x hx => ?_, Int.le_refl _, by show n < n + 2; omega, by show n ≤ n + 1; omega, by show n + 1 < n + 2; omega⟩
            rw [List.mem_singleton.1 hx]
            refine edI_st4 (Int.le_refl _) (by show n < n + 2; omega) (by omega) (by show n + 1 < n + 2; omega) (fun h => ?_)
            unfold kindOf at h
            split at h
            · cases h
            · split at h <;> cases h
-- Holds
structure Ctx (D B K ea bits : List (List C)) : Prop where
  good : ∀ x, x ∈ D → Good x
  dl : D.length ≤ 1000
  bl : B.length = D.length
  kl : K.length = D.length
  at_ : ∀ i, i < D.length → 0 ≤ gi (K.getD i []) 0 + gi (B.getD i []) 1 ∧ gi (K.getD i []) 0 + gi (B.getD i []) 1 < bits.length
  bits : bits.length ≤ 1000000
  al : ea.length ≤ 1048576
theorem Fst.ex (n : Nat) (p : Nat → Prop) : ∃ r, Fst n p r := by
  induction n with
  | zero => exact ⟨-1, .inl ⟨rfl, fun j h => by omega⟩⟩
  | succ n ih =>
    obtain ⟨r, hr⟩ := ih
    rcases hr with ⟨e, h⟩ | ⟨i, e, h1, h2, h3⟩
    · by_cases hp : p n
      · exact ⟨n, .inr ⟨n, rfl, by omega, hp, h⟩⟩
      · exact ⟨-1, .inl ⟨rfl, fun j hj => by
          rcases Nat.lt_or_ge j n with g | g
          · exact h j g
          · rw [show j = n by omega]; exact hp⟩⟩
    · exact ⟨r, .inr ⟨i, e, by omega, h2, h3⟩⟩
section
variable {D B K E T ea bits : List (List C)} {n s e ek : Int} {e1 e2 et : ByteArray}
/-- an inner path's bit -/
def lb (B K bits : List (List C)) (r : Int) : Bool := decide (0 ≤ r) && (gi (bits.getD ((gi (K.getD r.toNat []) 0 + gi (B.getD r.toNat []) 1).toNat) []) 0 == (1 : Int))
theorem leads2 (h : Ctx D B K ea bits) (x : List C) (hx : SmR BB x) {r : Int} (hr : Fst D.length (fun j => Alike true (D.getD j []) x) r) : ∃ b, b = lb B K bits r ∧ Tot (fun k _ _ => (lv k).strat_node_leads D B K n s e E T ek e1 e2 ea et bits (gi x 0) (gr x 1) (gr x 2)) (fun r => r = b) ∧
    Tot (fun k _ _ => ((lv k).orielref18_Find D B K n s e E T (gi x 0) (gr x 1) (gr x 2)).bind fun r2 => cond (decide (r2 ≥ (0 : Int))) (cond (decide ((0 : Int) ≤ r2)) (cond (decide (r2 < (K.length : Int))) (cond (decide ((0 : Int) ≤ r2)) (cond (decide (r2 < (B.length : Int))) (cond (decide ((0 : Int) ≤ IntKind.i64.wrap ((gi (K.getD r2.toNat []) 0) + (gi (B.getD r2.toNat []) 1)))) (cond (decide (IntKind.i64.wrap ((gi (K.getD r2.toNat []) 0) + (gi (B.getD r2.toNat []) 1)) < (bits.length : Int))) (some ((gi (bits.getD ((IntKind.i64.wrap ((gi (K.getD r2.toNat []) 0) + (gi (B.getD r2.toNat []) 1))).toNat) []) 0) == (1 : Int))) none) none) none) none) none) none) (some false)) (fun r => r = b) := by
  have key : ∀ {g : Nat → Nat → Nat → Option Int}, Tot g (Fst D.length (fun j => Alike true (D.getD j []) x)) → Tot (fun k p q => (g k p q).bind fun r2 => cond (decide (r2 ≥ (0 : Int))) (cond (decide ((0 : Int) ≤ r2)) (cond (decide (r2 < (K.length : Int))) (cond (decide ((0 : Int) ≤ r2)) (cond (decide (r2 < (B.length : Int))) (cond (decide ((0 : Int) ≤ IntKind.i64.wrap ((gi (K.getD r2.toNat []) 0) + (gi (B.getD r2.toNat []) 1)))) (cond (decide (IntKind.i64.wrap ((gi (K.getD r2.toNat []) 0) + (gi (B.getD r2.toNat []) 1)) < (bits.length : Int))) (some ((gi (bits.getD ((IntKind.i64.wrap ((gi (K.getD r2.toNat []) 0) + (gi (B.getD r2.toNat []) 1))).toNat) []) 0) == (1 : Int))) none) none) none) none) none) none) (some false)) (fun r' => r' = (decide (0 ≤ r) && (gi (bits.getD ((gi (K.getD r.toNat []) 0 + gi (B.getD r.toNat []) 1).toNat) []) 0 == (1 : Int)))) := by
    intro g hg
    refine Tot.bind hg fun r' hr' => ?_
    have hrr := hr'.uniq hr
    subst hrr
    refine Tot.cond (fun h0 => ?_) (fun h0 => Tot.ret ?_)
    · have h0 := of_decide_eq_true h0
      obtain ⟨i, rfl, hi⟩ : ∃ i : Nat, r' = i ∧ i < D.length := by
        rcases hr with ⟨e', _⟩ | ⟨i, e', g, _⟩
        · omega
        · exact ⟨i, e', g⟩
      have hat := h.at_ i hi
      have hb := h.bits
      have hbl := h.bl
      have hkl := h.kl
      rw [Int.toNat_natCast, wrap_id (x := gi (K.getD i []) 0 + gi (B.getD i []) 1) (by omega) (by omega)]
      refine Tot.t (decide_eq_true (by omega)) (Tot.t (decide_eq_true (by omega)) (Tot.t (decide_eq_true (by omega)) (Tot.t (decide_eq_true (by omega)) (Tot.t (decide_eq_true (by omega)) (Tot.t (decide_eq_true (by omega)) (Tot.ret ?_))))))
      rw [decide_eq_true (show (0 : Int) ≤ (i : Int) by omega)]
      rfl
    · rw [show decide (0 ≤ r') = false from h0]
      rfl
  refine ⟨lb B K bits r, rfl, ?_, key (rfind_tot D B K n s e E T x h.good (by have := h.dl; omega) hx)⟩
  refine strat_node_leads_up _ _ _ _ _ _ _ _ _ _ _ _ _ _ _ _ _ (Tot.congr ?_ (fun k _ _ => strat_node_leads_q (lv k) k D B K n s e E T ek e1 e2 ea et bits (gi x 0) (gr x 1) (gr x 2)))
  exact key (pfind_tot D B K n s e E T x h.good (by have := h.dl; omega) hx)
/-- the first attribute of a name -/
def Af (ea : List (List C)) (n1 n2 : ByteArray) : Int → Prop := Fst ea.length (fun j => gs (ea.getD j []) 0 = n1 ∧ gs (ea.getD j []) 1 = n2)
def av (ea : List (List C)) (r : Int) : ByteArray := if r = -1 then ⟨#[]⟩ else gs (ea.getD r.toNat []) 2
def ab (ek : Int) (r : Int) : Bool := if r = -1 then false else ek == 1
theorem attr2_tot (h : Ctx D B K ea bits) (n1 n2 : ByteArray) {r : Int} (hr : Af ea n1 n2 r) : Tot (fun k _ _ => (lv k).strat_node_attr_2 D B K n s e E T ek e1 e2 ea et bits n1 n2) (fun x => x = (av ea r, ab ek r)) := by
  have hal := h.al
  refine strat_node_attr_2_up _ _ _ _ _ _ _ _ _ _ _ _ _ _ _ _ (Tot.congr ?_ (fun k _ _ => strat_node_attr_2_q (lv k) k D B K n s e E T ek e1 e2 ea et bits n1 n2))
  refine Tot.in0 (Tot.loop (H := fun k p q v (_ : Unit) => strat_node_attr_2_l0 (lv k) k D B K n s e E T ek e1 e2 ea et bits n1 n2 p v) (n := ea.length) (fun i _ => ∀ j, j < i → ¬ (gs (ea.getD j []) 0 = n1 ∧ gs (ea.getD j []) 1 = n2)) (by omega) (fun _ hh => ?_) (fun i _ hi hh next => ?_) _ 0 () rfl (by omega) (fun j hj => by omega))
  · refine Tot.step0 (fun k p_ q_ => strat_node_attr_2_l0_q (lv k) k D B K n s e E T ek e1 e2 ea et bits n1 n2 p_ _) ?_
    have : r = -1 := hr.uniq (.inl ⟨rfl, hh⟩)
    subst this
    exact Tot.f (decide_eq_false (by omega)) (Tot.ret rfl)
  · refine Tot.step0 (fun k p_ q_ => strat_node_attr_2_l0_q (lv k) k D B K n s e E T ek e1 e2 ea et bits n1 n2 p_ _) ?_
    rw [Int.toNat_natCast]
    repeat (refine Tot.t (decide_eq_true (by omega)) ?_)
    refine Tot.cond (fun hc => Tot.ret ?_) (fun hc => next () (fun j hj => ?_))
    · have : r = i := hr.uniq (.inr ⟨i, rfl, hi, name_eq.1 hc, hh⟩)
      subst this
      unfold av ab
      rw [if_neg (by omega), if_neg (by omega), Int.toNat_natCast]
    · rcases Nat.lt_or_ge j i with g | g
      · exact hh j g
      · rw [show j = i by omega]
        intro hb
        rw [name_eq.2 hb] at hc
        cases hc
theorem attr_tot (h : Ctx D B K ea bits) (n1 n2 : ByteArray) {r : Int} (hr : Af ea n1 n2 r) : Tot (fun k _ _ => (lv k).strat_node_attr D B K n s e E T ek e1 e2 ea et bits n1 n2) (fun x => x = (av ea r, ab ek r, D, B, K, n, s, e, E, T, ek, e1, e2, ea, et, bits)) := by
  have hal := h.al
  refine strat_node_attr_up _ _ _ _ _ _ _ _ _ _ _ _ _ _ _ _ (Tot.congr ?_ (fun k _ _ => strat_node_attr_q (lv k) k D B K n s e E T ek e1 e2 ea et bits n1 n2))
  refine Tot.in0 (Tot.loop (H := fun k p q v (_ : Unit) => strat_node_attr_l0 (lv k) k D B K n s e E T ek e1 e2 ea et bits n1 n2 p v) (n := ea.length) (fun i _ => ∀ j, j < i → ¬ (gs (ea.getD j []) 0 = n1 ∧ gs (ea.getD j []) 1 = n2)) (by omega) (fun _ hh => ?_) (fun i _ hi hh next => ?_) _ 0 () rfl (by omega) (fun j hj => by omega))
  · refine Tot.step0 (fun k p_ q_ => strat_node_attr_l0_q (lv k) k D B K n s e E T ek e1 e2 ea et bits n1 n2 p_ _) ?_
    have : r = -1 := hr.uniq (.inl ⟨rfl, hh⟩)
    subst this
    exact Tot.f (decide_eq_false (by omega)) (Tot.ret rfl)
  · refine Tot.step0 (fun k p_ q_ => strat_node_attr_l0_q (lv k) k D B K n s e E T ek e1 e2 ea et bits n1 n2 p_ _) ?_
    rw [Int.toNat_natCast]
    repeat (refine Tot.t (decide_eq_true (by omega)) ?_)
    refine Tot.cond (fun hc => Tot.ret ?_) (fun hc => next () (fun j hj => ?_))
    · have : r = i := hr.uniq (.inr ⟨i, rfl, hi, name_eq.1 hc, hh⟩)
      subst this
      unfold av ab
      rw [if_neg (by omega), if_neg (by omega), Int.toNat_natCast]
    · rcases Nat.lt_or_ge j i with g | g
      · exact hh j g
      · rw [show j = i by omega]
        intro hb
        rw [name_eq.2 hb] at hc
        cases hc
/-- both answer the same -/
structure HH (D B K : List (List C)) (n s e : Int) (E T : List (List C)) (ek : Int) (e1 e2 : ByteArray) (ea : List (List C)) (et : ByteArray) (bits : List (List C)) (f : List C) (b : Bool) : Prop where
  p2 : Tot (fun k _ _ => (lv k).strat_node_holds_2 D B K n s e E T ek e1 e2 ea et bits (gi f 0) (gs f 1) (gs f 2) (gs f 3) (gr f 4) (gr f 5)) (fun r => r = b)
  p1 : Tot (fun k _ _ => (lv k).strat_node_holds D B K n s e E T ek e1 e2 ea et bits (gi f 0) (gs f 1) (gs f 2) (gs f 3) (gr f 4) (gr f 5)) (fun r => r = (b, D, B, K, n, s, e, E, T, ek, e1, e2, ea, et, bits))
  rf : Tot (fun k _ _ => (lv k).orielref18_Holds D B K n s e E T (gi f 0) (gs f 1) (gs f 2) (gs f 3) (gr f 4) (gr f 5) ek e1 e2 ea et bits) (fun r => r = b)
/-- what a filter comes to: by its parts bs, its path pb, its attribute ax -/
noncomputable def fval (ek : Int) (e1 e2 et : ByteArray) (f : List C) (bs : Nat → Bool) (pb ax : Bool) : Bool := open Classical in
  if gi f 0 = 1 then true else if gi f 0 = 2 then ek == 1 else if gi f 0 = 3 then !(ek == 1) else if gi f 0 = 4 then (ek == 1) && ((e1 == gs f 1) && ((e2 == gs f 2) && true))
  else if gi f 0 = 5 ∨ gi f 0 = 6 then ax else if gi f 0 = 7 then !(ek == 1) && (et.toList == (gs f 3).toList) else if gi f 0 = 8 then !(bs 0)
  else if gi f 0 = 9 then decide (∀ j, j < (gr f 4).length → bs j = true) else if gi f 0 = 10 then decide (∃ j, j < (gr f 4).length ∧ bs j = true) else pb
def aval (ek : Int) (ea : List (List C)) (f : List C) (r : Int) : Bool := if gi f 0 = 5 then ab ek r else ab ek r && ((av ea r).toList == (gs f 3).toList)
open Classical in
theorem hold_step {d : Nat} (hc : Ctx D B K ea bits) {f : List C} (hf : ok (d + 1) false f) (hs : SmR BB f) {bs : Nat → Bool} (hbs : ∀ i, i < (gr f 4).length → HH D B K n s e E T ek e1 e2 ea et bits ((gr f 4).getD i []) (bs i))
    {r : Int} (hr : Af ea (gs f 1) (gs f 2) r) {rp : Int} (hrp : Fst D.length (fun j => Alike true (D.getD j []) ((gr f 5).getD 0 [])) rp) : HH D B K n s e E T ek e1 e2 ea et bits f (fval ek e1 e2 et f bs (lb B K bits rp) (aval ek ea f r)) := by
    obtain ⟨h1, h11, h8, h64, h910, h0, h511, h51, h9, h10⟩ := hf
    have hl4 : (gr f 4).length ≤ 1048576 := (hs.gr 4).1
    have hl5 : (gr f 5).length ≤ 1048576 := (hs.gr 5).1
    -- the program's searches
    have c2 : Tot (fun k _ _ => (lv k).api_Filter_2 (gr f 4) D B K n s e E T ek e1 e2 ea et bits) (fun r => r = decide (∃ j, j < (gr f 4).length ∧ bs j = false)) := by
      refine api_Filter_2_up _ _ _ _ _ _ _ _ _ _ _ _ _ _ _ (Tot.congr ?_ (fun k _ _ => api_Filter_2_q (lv k) k (gr f 4) D B K n s e E T ek e1 e2 ea et bits))
      refine Tot.bind (R := Fst (gr f 4).length (fun j => bs j = false)) ?_ fun r hr => Tot.ret ?_
      · refine api_Filter_4_up _ _ _ _ _ _ _ _ _ _ _ _ _ _ _ (Tot.congr ?_ (fun k _ _ => api_Filter_4_q (lv k) k (gr f 4) D B K n s e E T ek e1 e2 ea et bits))
        refine Tot.in0 (Tot.first (H := fun k p q v => api_Filter_4_l0 (lv k) k (gr f 4) D B K n s e E T ek e1 e2 ea et bits p v) (n := (gr f 4).length) (by omega) ?_ (fun i Q hi hy hn => ?_))
        · refine Tot.step0 (fun k p_ q_ => api_Filter_4_l0_q (lv k) k (gr f 4) D B K n s e E T ek e1 e2 ea et bits p_ _) ?_
          exact Tot.f (decide_eq_false (by omega)) (Tot.ret rfl)
        · refine Tot.step0 (fun k p_ q_ => api_Filter_4_l0_q (lv k) k (gr f 4) D B K n s e E T ek e1 e2 ea et bits p_ _) ?_
          rw [Int.toNat_natCast]
          repeat (refine Tot.t (decide_eq_true (by omega)) ?_)
          refine Tot.bind (R := fun r => r = !(bs i)) ?_ fun r hr => ?_
          · refine strat_node_fails_up _ _ _ _ _ _ _ _ _ _ _ _ _ _ _ _ _ _ _ _ (Tot.congr ?_ (fun k _ _ => strat_node_fails_q (lv k) k D B K n s e E T ek e1 e2 ea et bits (gi ((gr f 4).getD i []) 0) (gs ((gr f 4).getD i []) 1) (gs ((gr f 4).getD i []) 2) (gs ((gr f 4).getD i []) 3) (gr ((gr f 4).getD i []) 4) (gr ((gr f 4).getD i []) 5)))
            exact Tot.bind (hbs i hi).p2 fun r hr => Tot.ret (by rw [hr])
          · subst hr
            exact Tot.cond (fun h => Tot.ret (hy (by simpa using h))) (fun h => hn (by simpa using h))
      · rcases hr with ⟨rfl, hh⟩ | ⟨i, rfl, g1, g2, g3⟩
        · exact (decide_eq_false (by omega)).trans (decide_eq_false (fun ⟨j, a, b⟩ => hh j a b)).symm
        · exact (decide_eq_true (by omega)).trans (decide_eq_true ⟨i, g1, g2⟩).symm
    have c3 : Tot (fun k _ _ => (lv k).api_Filter_3 (gr f 4) D B K n s e E T ek e1 e2 ea et bits) (fun r => r = decide (∃ j, j < (gr f 4).length ∧ bs j = true)) := by
      refine api_Filter_3_up _ _ _ _ _ _ _ _ _ _ _ _ _ _ _ (Tot.congr ?_ (fun k _ _ => api_Filter_3_q (lv k) k (gr f 4) D B K n s e E T ek e1 e2 ea et bits))
      refine Tot.bind (R := Fst (gr f 4).length (fun j => bs j = true)) ?_ fun r hr => Tot.ret ?_
      · refine api_Filter_5_up _ _ _ _ _ _ _ _ _ _ _ _ _ _ _ (Tot.congr ?_ (fun k _ _ => api_Filter_5_q (lv k) k (gr f 4) D B K n s e E T ek e1 e2 ea et bits))
        refine Tot.in0 (Tot.first (H := fun k p q v => api_Filter_5_l0 (lv k) k (gr f 4) D B K n s e E T ek e1 e2 ea et bits p v) (n := (gr f 4).length) (by omega) ?_ (fun i Q hi hy hn => ?_))
        · refine Tot.step0 (fun k p_ q_ => api_Filter_5_l0_q (lv k) k (gr f 4) D B K n s e E T ek e1 e2 ea et bits p_ _) ?_
          exact Tot.f (decide_eq_false (by omega)) (Tot.ret rfl)
        · refine Tot.step0 (fun k p_ q_ => api_Filter_5_l0_q (lv k) k (gr f 4) D B K n s e E T ek e1 e2 ea et bits p_ _) ?_
          rw [Int.toNat_natCast]
          repeat (refine Tot.t (decide_eq_true (by omega)) ?_)
          refine Tot.bind (hbs i hi).p2 fun r hr => ?_
          subst hr
          exact Tot.cond (fun h => Tot.ret (hy h)) (fun h => hn (by rw [h]; simp))
      · rcases hr with ⟨rfl, hh⟩ | ⟨i, rfl, g1, g2, g3⟩
        · exact (decide_eq_false (by omega)).trans (decide_eq_false (fun ⟨j, a, b⟩ => hh j a b)).symm
        · exact (decide_eq_true (by omega)).trans (decide_eq_true ⟨i, g1, g2⟩).symm
    -- the document's walk over the parts
    have rl : ∀ op : Int, Tot (fun k _ _ => orielref18_Holds_l0 (lv k) k D B K n s e E T op (gs f 1) (gs f 2) (gs f 3) (gr f 4) (gr f 5) ek e1 e2 ea et bits k true false 0) (fun r => r = cond (op == 9) (decide (∀ j, j < (gr f 4).length → bs j = true)) (cond (op == 10) (decide (∃ j, j < (gr f 4).length ∧ bs j = true)) false)) := by
      intro op
      refine Tot.in0 (Tot.loop (H := fun k p q v (w : Bool × Bool) => orielref18_Holds_l0 (lv k) k D B K n s e E T op (gs f 1) (gs f 2) (gs f 3) (gr f 4) (gr f 5) ek e1 e2 ea et bits p w.1 w.2 v) (n := (gr f 4).length) (fun i w => w.1 = decide (∀ j, j < i → bs j = true) ∧ w.2 = decide (∃ j, j < i ∧ bs j = true)) (by omega) (fun w hw => ?_) (fun i w hi hw next => ?_) _ 0 (true, false) rfl (by omega) ⟨(decide_eq_true (fun j hj => by omega)).symm, (decide_eq_false (fun ⟨j, hj, _⟩ => by omega)).symm⟩)
      · refine Tot.step0 (fun k p_ q_ => orielref18_Holds_l0_q (lv k) k D B K n s e E T op (gs f 1) (gs f 2) (gs f 3) (gr f 4) (gr f 5) ek e1 e2 ea et bits p_ _ _ _) ?_
        obtain ⟨w1, w2⟩ := w
        obtain ⟨hw1, hw2⟩ := hw
        simp only at hw1 hw2
        rw [← hw1, ← hw2]
        refine Tot.f (decide_eq_false (by omega)) (Tot.cond (fun g9 => ?_) (fun g9 => ?_))
        · rw [g9]
          refine Tot.cond (fun g => Tot.ret (by have g : w1 = true := g; rw [g]; rfl)) (fun g => ?_)
          have g : w1 = false := g
          have : op = 9 := by simpa using g9
          subst this
          exact Tot.f (by rfl) (Tot.ret (by rw [g]; rfl))
        · rw [g9]
          exact Tot.cond (fun g => Tot.ret (by rw [g]; rfl)) (fun g => Tot.ret (by rw [g]; rfl))
      · refine Tot.step0 (fun k p_ q_ => orielref18_Holds_l0_q (lv k) k D B K n s e E T op (gs f 1) (gs f 2) (gs f 3) (gr f 4) (gr f 5) ek e1 e2 ea et bits p_ _ _ _) ?_
        obtain ⟨w1, w2⟩ := w
        obtain ⟨hw1, hw2⟩ := hw
        simp only at hw1 hw2
        rw [Int.toNat_natCast]
        repeat (refine Tot.t (decide_eq_true (by omega)) ?_)
        refine Tot.bind (hbs i hi).rf fun r hr => ?_
        subst hr
        have e1 : (w1 && bs i) = decide (∀ j, j < i + 1 → bs j = true) := by
          rw [hw1]
          rw [Bool.eq_iff_iff, Bool.and_eq_true, decide_eq_true_eq, decide_eq_true_eq]
          exact ⟨fun h j hj => by
            rcases Nat.lt_or_ge j i with g | g
            · exact h.1 j g
            · rw [show j = i by omega]; exact h.2, fun h => ⟨fun j hj => h j (by omega), h i (by omega)⟩⟩
        have e2 : (w2 || bs i) = decide (∃ j, j < i + 1 ∧ bs j = true) := by
          rw [hw2]
          rw [Bool.eq_iff_iff, Bool.or_eq_true, decide_eq_true_eq, decide_eq_true_eq]
          exact ⟨fun h => by
            rcases h with ⟨j, a, b⟩ | h
            · exact ⟨j, by omega, b⟩
            · exact ⟨i, by omega, h⟩, fun ⟨j, a, b⟩ => by
            rcases Nat.lt_or_ge j i with g | g
            · exact .inl ⟨j, g, b⟩
            · rw [show j = i by omega] at b; exact .inr b⟩
        have nx := next (w1 && bs i, w2 || bs i) ⟨e1, e2⟩
        refine Tot.cond (fun g1 => Tot.cond (fun g2 => ?_) (fun g2 => ?_)) (fun g1 => Tot.cond (fun g2 => ?_) (fun g2 => ?_)) <;> (cases w1 <;> cases w2 <;> first | (cases g1; done) | (cases g2; done) | (simpa using nx))
    have ra : ∀ {r : Int}, Af ea (gs f 1) (gs f 2) r → ∀ op : Int, 5 ≤ op → Tot (fun k _ _ => orielref18_Holds_l1 (lv k) k D B K n s e E T op (gs f 1) (gs f 2) (gs f 3) (gr f 4) (gr f 5) ek e1 e2 ea et bits k 0) (fun x => x = if r = -1 then op == 2 else cond (op == 5) true ((av ea r).toList == (gs f 3).toList)) := by
      intro r hr op hop
      have hal := hc.al
      refine Tot.in0 (Tot.loop (H := fun k p q v (_ : Unit) => orielref18_Holds_l1 (lv k) k D B K n s e E T op (gs f 1) (gs f 2) (gs f 3) (gr f 4) (gr f 5) ek e1 e2 ea et bits p v) (n := ea.length) (fun i _ => ∀ j, j < i → ¬ (gs (ea.getD j []) 0 = gs f 1 ∧ gs (ea.getD j []) 1 = gs f 2)) (by omega) (fun _ hh => ?_) (fun i _ hi hh next => ?_) _ 0 () rfl (by omega) (fun j hj => by omega))
      · refine Tot.step0 (fun k p_ q_ => orielref18_Holds_l1_q (lv k) k D B K n s e E T op (gs f 1) (gs f 2) (gs f 3) (gr f 4) (gr f 5) ek e1 e2 ea et bits p_ _) ?_
        have : r = -1 := hr.uniq (.inl ⟨rfl, hh⟩)
        rw [if_pos this]
        exact Tot.f (decide_eq_false (by omega)) (Tot.ret rfl)
      · refine Tot.step0 (fun k p_ q_ => orielref18_Holds_l1_q (lv k) k D B K n s e E T op (gs f 1) (gs f 2) (gs f 3) (gr f 4) (gr f 5) ek e1 e2 ea et bits p_ _) ?_
        rw [Int.toNat_natCast]
        repeat (refine Tot.t (decide_eq_true (by omega)) ?_)
        refine Tot.cond (fun hcc => ?_) (fun hcc => next () (fun j hj => ?_))
        · have : r = i := hr.uniq (.inr ⟨i, rfl, hi, name_eq.1 hcc, hh⟩)
          subst this
          unfold av
          rw [if_neg (by omega), if_neg (by omega), Int.toNat_natCast]
          refine Tot.cond (fun g => Tot.ret (by rw [g]; rfl)) (fun g => ?_)
          repeat (refine Tot.t (decide_eq_true (by omega)) ?_)
          exact Tot.ret (by rw [g]; rfl)
        · rcases Nat.lt_or_ge j i with g | g
          · exact hh j g
          · rw [show j = i by omega]
            intro hb
            rw [name_eq.2 hb] at hcc
            cases hcc
    have q2 : ∀ {Q}, Tot _ Q → Tot (fun k _ _ => (lv k).strat_node_holds_2 D B K n s e E T ek e1 e2 ea et bits (gi f 0) (gs f 1) (gs f 2) (gs f 3) (gr f 4) (gr f 5)) Q := fun h => strat_node_holds_2_up _ _ _ _ _ _ _ _ _ _ _ _ _ _ _ _ _ _ _ _ (Tot.congr h (fun k _ _ => strat_node_holds_2_q (lv k) k D B K n s e E T ek e1 e2 ea et bits (gi f 0) (gs f 1) (gs f 2) (gs f 3) (gr f 4) (gr f 5)))
    have q1 : ∀ {Q}, Tot _ Q → Tot (fun k _ _ => (lv k).strat_node_holds D B K n s e E T ek e1 e2 ea et bits (gi f 0) (gs f 1) (gs f 2) (gs f 3) (gr f 4) (gr f 5)) Q := fun h => strat_node_holds_up _ _ _ _ _ _ _ _ _ _ _ _ _ _ _ _ _ _ _ _ (Tot.congr h (fun k _ _ => strat_node_holds_q (lv k) k D B K n s e E T ek e1 e2 ea et bits (gi f 0) (gs f 1) (gs f 2) (gs f 3) (gr f 4) (gr f 5)))
    have qr : ∀ {Q}, Tot _ Q → Tot (fun k _ _ => (lv k).orielref18_Holds D B K n s e E T (gi f 0) (gs f 1) (gs f 2) (gs f 3) (gr f 4) (gr f 5) ek e1 e2 ea et bits) Q := fun h => orielref18_Holds_up _ _ _ _ _ _ _ _ _ _ _ _ _ _ _ _ _ _ _ _ (Tot.congr h (fun k _ _ => orielref18_Holds_q (lv k) k D B K n s e E T (gi f 0) (gs f 1) (gs f 2) (gs f 3) (gr f 4) (gr f 5) ek e1 e2 ea et bits))
    have hop : gi f 0 = 1 ∨ gi f 0 = 2 ∨ gi f 0 = 3 ∨ gi f 0 = 4 ∨ gi f 0 = 5 ∨ gi f 0 = 6 ∨ gi f 0 = 7 ∨ gi f 0 = 8 ∨ gi f 0 = 9 ∨ gi f 0 = 10 ∨ gi f 0 = 11 := by omega
    have at2 := attr2_tot (n := n) (s := s) (e := e) (E := E) (T := T) (ek := ek) (e1 := e1) (e2 := e2) (et := et) hc _ _ hr
    have at1 := attr_tot (n := n) (s := s) (e := e) (E := E) (T := T) (ek := ek) (e1 := e1) (e2 := e2) (et := et) hc _ _ hr
    rcases hop with e_ | e_ | e_ | e_ | e_ | e_ | e_ | e_ | e_ | e_ | e_
    · rw [show fval ek e1 e2 et f bs (lb B K bits rp) (aval ek ea f r) = (true) from by unfold fval aval; rw [e_]; rfl]
      refine ⟨q2 ?_, q1 ?_, qr ?_⟩ <;> rw [e_]
      · repeat (first | refine Tot.t (by rfl) ?_ | refine Tot.f (by rfl) ?_)
        exact Tot.ret rfl
      · repeat (first | refine Tot.t (by rfl) ?_ | refine Tot.f (by rfl) ?_)
        exact Tot.ret rfl
      · repeat (first | refine Tot.t (by rfl) ?_ | refine Tot.f (by rfl) ?_)
        exact Tot.ret rfl
    · rw [show fval ek e1 e2 et f bs (lb B K bits rp) (aval ek ea f r) = (ek == 1) from by unfold fval aval; rw [e_]; rfl]
      refine ⟨q2 ?_, q1 ?_, qr ?_⟩ <;> rw [e_]
      · repeat (first | refine Tot.t (by rfl) ?_ | refine Tot.f (by rfl) ?_)
        exact Tot.ret rfl
      · repeat (first | refine Tot.t (by rfl) ?_ | refine Tot.f (by rfl) ?_)
        exact Tot.ret rfl
      · repeat (first | refine Tot.t (by rfl) ?_ | refine Tot.f (by rfl) ?_)
        refine Tot.cond (fun g => Tot.ret ?_) (fun g => ?_)
        · have g : (ek == 1) = false := by simpa using g
          exact g.symm
        · have g : (ek == 1) = true := by simpa using g
          rw [g]
          repeat (first | refine Tot.t (by rfl) ?_ | refine Tot.f (by rfl) ?_)
          refine Tot.in0 (g := fun k p_ q_ => orielref18_Holds_l1 (lv k) k D B K n s e E T 2 (gs f 1) (gs f 2) (gs f 3) (gr f 4) (gr f 5) ek e1 e2 ea et bits p_ 0) ?_
          refine Tot.step0 (fun k p_ q_ => orielref18_Holds_l1_q (lv k) k D B K n s e E T 2 (gs f 1) (gs f 2) (gs f 3) (gr f 4) (gr f 5) ek e1 e2 ea et bits p_ _) ?_
          exact Tot.cond (fun _ => Tot.f (by rfl) (Tot.ret rfl)) (fun _ => Tot.ret rfl)
    · rw [show fval ek e1 e2 et f bs (lb B K bits rp) (aval ek ea f r) = (!(ek == 1)) from by unfold fval aval; rw [e_]; rfl]
      refine ⟨q2 ?_, q1 ?_, qr ?_⟩ <;> rw [e_]
      · repeat (first | refine Tot.t (by rfl) ?_ | refine Tot.f (by rfl) ?_)
        exact Tot.ret rfl
      · repeat (first | refine Tot.t (by rfl) ?_ | refine Tot.f (by rfl) ?_)
        exact Tot.ret rfl
      · repeat (first | refine Tot.t (by rfl) ?_ | refine Tot.f (by rfl) ?_)
        refine Tot.cond (fun g => ?_) (fun g => Tot.ret g.symm)
        rw [g]
        repeat (first | refine Tot.t (by rfl) ?_ | refine Tot.f (by rfl) ?_)
        exact Tot.ret rfl
    · rw [show fval ek e1 e2 et f bs (lb B K bits rp) (aval ek ea f r) = ((ek == 1) && ((e1 == gs f 1) && ((e2 == gs f 2) && true))) from by unfold fval aval; rw [e_]; rfl]
      refine ⟨q2 ?_, q1 ?_, qr ?_⟩ <;> rw [e_]
      · repeat (first | refine Tot.t (by rfl) ?_ | refine Tot.f (by rfl) ?_)
        exact Tot.cond (fun g => Tot.ret (by rw [g]; rfl)) (fun g => Tot.ret (by rw [g]; rfl))
      · repeat (first | refine Tot.t (by rfl) ?_ | refine Tot.f (by rfl) ?_)
        exact Tot.cond (fun g => Tot.ret (by rw [g]; rfl)) (fun g => Tot.ret (by rw [g]; rfl))
      · repeat (first | refine Tot.t (by rfl) ?_ | refine Tot.f (by rfl) ?_)
        refine Tot.cond (fun g => Tot.ret ?_) (fun g => ?_)
        · have g : (ek == 1) = false := by simpa using g
          rw [g]; rfl
        · have g : (ek == 1) = true := by simpa using g
          rw [g]
          repeat (first | refine Tot.t (by rfl) ?_ | refine Tot.f (by rfl) ?_)
          exact Tot.ret rfl
    · rw [show fval ek e1 e2 et f bs (lb B K bits rp) (aval ek ea f r) = (ab ek r) from by unfold fval aval; rw [e_]; rfl]
      refine ⟨q2 ?_, q1 ?_, qr ?_⟩ <;> rw [e_]
      · repeat (first | refine Tot.t (by rfl) ?_ | refine Tot.f (by rfl) ?_)
        exact Tot.bind at2 fun x hx => Tot.ret (by rw [hx])
      · repeat (first | refine Tot.t (by rfl) ?_ | refine Tot.f (by rfl) ?_)
        exact Tot.bind at1 fun x hx => Tot.ret (by rw [hx])
      · repeat (first | refine Tot.t (by rfl) ?_ | refine Tot.f (by rfl) ?_)
        refine Tot.cond (fun g => Tot.ret ?_) (fun g => ?_)
        · have g : (ek == 1) = false := by simpa using g
          unfold ab
          split
          · rfl
          · exact g.symm
        · have g : (ek == 1) = true := by simpa using g
          repeat (first | refine Tot.t (by rfl) ?_ | refine Tot.f (by rfl) ?_)
          refine (ra hr 5 (by omega)).mono fun x hx => ?_
          rw [hx]
          unfold ab
          rw [g]
          split <;> rfl
    · rw [show fval ek e1 e2 et f bs (lb B K bits rp) (aval ek ea f r) = (ab ek r && ((av ea r).toList == (gs f 3).toList)) from by unfold fval aval; rw [e_]; rfl]
      refine ⟨q2 ?_, q1 ?_, qr ?_⟩ <;> rw [e_]
      · repeat (first | refine Tot.t (by rfl) ?_ | refine Tot.f (by rfl) ?_)
        refine Tot.bind at2 fun x hx => ?_
        subst hx
        exact Tot.cond (fun g => Tot.ret (by have g : ab ek r = true := g; rw [g]; rfl)) (fun g => Tot.ret (by have g : ab ek r = false := g; rw [g]; rfl))
      · repeat (first | refine Tot.t (by rfl) ?_ | refine Tot.f (by rfl) ?_)
        refine Tot.bind at1 fun x hx => ?_
        subst hx
        exact Tot.cond (fun g => Tot.ret (by have g : ab ek r = true := g; rw [g]; rfl)) (fun g => Tot.ret (by have g : ab ek r = false := g; rw [g]; rfl))
      · repeat (first | refine Tot.t (by rfl) ?_ | refine Tot.f (by rfl) ?_)
        refine Tot.cond (fun g => Tot.ret ?_) (fun g => ?_)
        · have g : (ek == 1) = false := by simpa using g
          unfold ab
          rw [g]
          split <;> rfl
        · have g : (ek == 1) = true := by simpa using g
          repeat (first | refine Tot.t (by rfl) ?_ | refine Tot.f (by rfl) ?_)
          refine (ra hr 6 (by omega)).mono fun x hx => ?_
          rw [hx]
          unfold ab
          rw [g]
          split <;> rfl
    · rw [show fval ek e1 e2 et f bs (lb B K bits rp) (aval ek ea f r) = (!(ek == 1) && (et.toList == (gs f 3).toList)) from by unfold fval aval; rw [e_]; rfl]
      refine ⟨q2 ?_, q1 ?_, qr ?_⟩ <;> rw [e_]
      · repeat (first | refine Tot.t (by rfl) ?_ | refine Tot.f (by rfl) ?_)
        exact Tot.cond (fun g => Tot.ret (by rw [g]; rfl)) (fun g => Tot.ret (by rw [g]; rfl))
      · repeat (first | refine Tot.t (by rfl) ?_ | refine Tot.f (by rfl) ?_)
        exact Tot.cond (fun g => Tot.ret (by rw [g]; rfl)) (fun g => Tot.ret (by rw [g]; rfl))
      · repeat (first | refine Tot.t (by rfl) ?_ | refine Tot.f (by rfl) ?_)
        refine Tot.cond (fun g => ?_) (fun g => Tot.ret (by rw [g]; rfl))
        rw [g]
        repeat (first | refine Tot.t (by rfl) ?_ | refine Tot.f (by rfl) ?_)
        exact Tot.ret rfl
    · have hl := h8 e_
      have e8 : (decide (∃ j, j < (gr f 4).length ∧ bs j = false) == ((8 : Int) == 8)) = !(bs 0) := by
        have : (∃ j, j < (gr f 4).length ∧ bs j = false) ↔ bs 0 = false := ⟨fun ⟨j, a, b⟩ => by rw [show j = 0 by omega] at b; exact b, fun h => ⟨0, by omega, h⟩⟩
        rw [show ((8 : Int) == 8) = true from rfl]
        cases hb : bs 0
        · rw [decide_eq_true (this.2 hb)]; rfl
        · rw [decide_eq_false (fun h => by rw [this.1 h] at hb; cases hb)]; rfl
      rw [show fval ek e1 e2 et f bs (lb B K bits rp) (aval ek ea f r) = (!(bs 0)) from by unfold fval aval; rw [e_]; rfl]
      refine ⟨q2 ?_, q1 ?_, qr ?_⟩ <;> rw [e_]
      · repeat (first | refine Tot.t (by rfl) ?_ | refine Tot.f (by rfl) ?_)
        exact Tot.bind c2 fun x hx => Tot.ret (by rw [hx]; exact e8)
      · repeat (first | refine Tot.t (by rfl) ?_ | refine Tot.f (by rfl) ?_)
        exact Tot.bind c2 fun x hx => Tot.ret (by rw [hx, e8])
      · repeat (first | refine Tot.t (by rfl) ?_ | refine Tot.f (by rfl) ?_)
        refine Tot.t (decide_eq_true (by omega)) ?_
        exact Tot.bind (hbs 0 (by omega)).rf fun x hx => Tot.ret (by rw [hx])
    · have e9 : (decide (∃ j, j < (gr f 4).length ∧ bs j = false) == ((9 : Int) == 8)) = decide (∀ j, j < (gr f 4).length → bs j = true) := by
        rw [show ((9 : Int) == 8) = false from rfl]
        by_cases hb : ∃ j, j < (gr f 4).length ∧ bs j = false
        · rw [decide_eq_true hb]
          obtain ⟨j, a, b⟩ := hb
          rw [decide_eq_false (fun h => by rw [h j a] at b; cases b)]
          rfl
        · rw [decide_eq_false hb, decide_eq_true (fun j hj => by
            cases hbj : bs j
            · exact absurd ⟨j, hj, hbj⟩ hb
            · rfl)]
          rfl
      rw [show fval ek e1 e2 et f bs (lb B K bits rp) (aval ek ea f r) = (decide (∀ j, j < (gr f 4).length → bs j = true)) from by unfold fval aval; rw [e_]; rfl]
      refine ⟨q2 ?_, q1 ?_, qr ?_⟩ <;> rw [e_]
      · repeat (first | refine Tot.t (by rfl) ?_ | refine Tot.f (by rfl) ?_)
        exact Tot.bind c2 fun x hx => Tot.ret (by rw [hx]; exact e9)
      · repeat (first | refine Tot.t (by rfl) ?_ | refine Tot.f (by rfl) ?_)
        exact Tot.bind c2 fun x hx => Tot.ret (by rw [hx, e9])
      · repeat (first | refine Tot.t (by rfl) ?_ | refine Tot.f (by rfl) ?_)
        exact (rl 9).mono fun x hx => hx
    · rw [show fval ek e1 e2 et f bs (lb B K bits rp) (aval ek ea f r) = (decide (∃ j, j < (gr f 4).length ∧ bs j = true)) from by unfold fval aval; rw [e_]; rfl]
      refine ⟨q2 ?_, q1 ?_, qr ?_⟩ <;> rw [e_]
      · repeat (first | refine Tot.t (by rfl) ?_ | refine Tot.f (by rfl) ?_)
        exact Tot.bind c3 fun x hx => Tot.ret hx
      · repeat (first | refine Tot.t (by rfl) ?_ | refine Tot.f (by rfl) ?_)
        exact Tot.bind c3 fun x hx => Tot.ret (by rw [hx])
      · repeat (first | refine Tot.t (by rfl) ?_ | refine Tot.f (by rfl) ?_)
        exact (rl 10).mono fun x hx => hx
    · have hl := h511.1 e_
      obtain ⟨b, hb0, hb1, hb2⟩ := leads2 (n := n) (s := s) (e := e) (E := E) (T := T) (ek := ek) (e1 := e1) (e2 := e2) (et := et) hc ((gr f 5).getD 0 []) ((hs.gr 5).get 0) hrp
      rw [show fval ek e1 e2 et f bs (lb B K bits rp) (aval ek ea f r) = b from by unfold fval; rw [e_]; exact hb0.symm]
      have c5 : Tot (fun k _ _ => (lv k).api_Path_5 (gr f 5) D B K n s e E T ek e1 e2 ea et bits) (fun r => r = b) := by
        refine api_Path_5_up _ _ _ _ _ _ _ _ _ _ _ _ _ _ _ (Tot.congr ?_ (fun k _ _ => api_Path_5_q (lv k) k (gr f 5) D B K n s e E T ek e1 e2 ea et bits))
        refine Tot.bind (R := Fst (gr f 5).length (fun j => b = true)) ?_ fun r hr => Tot.ret ?_
        · refine api_Path_6_up _ _ _ _ _ _ _ _ _ _ _ _ _ _ _ (Tot.congr ?_ (fun k _ _ => api_Path_6_q (lv k) k (gr f 5) D B K n s e E T ek e1 e2 ea et bits))
          refine Tot.in0 (Tot.first (H := fun k p q v => api_Path_6_l0 (lv k) k (gr f 5) D B K n s e E T ek e1 e2 ea et bits p v) (n := (gr f 5).length) (by omega) ?_ (fun i Q hi hy hn => ?_))
          · refine Tot.step0 (fun k p_ q_ => api_Path_6_l0_q (lv k) k (gr f 5) D B K n s e E T ek e1 e2 ea et bits p_ _) ?_
            exact Tot.f (decide_eq_false (by omega)) (Tot.ret rfl)
          · refine Tot.step0 (fun k p_ q_ => api_Path_6_l0_q (lv k) k (gr f 5) D B K n s e E T ek e1 e2 ea et bits p_ _) ?_
            rw [Int.toNat_natCast]
            repeat (refine Tot.t (decide_eq_true (by omega)) ?_)
            obtain rfl : i = 0 := by omega
            refine Tot.bind hb1 fun x hx => ?_
            subst hx
            exact Tot.cond (fun h => Tot.ret (hy h)) (fun h => hn (by rw [h]; simp))
        · rcases hr with ⟨rfl, hh⟩ | ⟨i, rfl, g1, g2, g3⟩
          · have := hh 0 (by omega)
            rw [decide_eq_false (by omega)]
            cases b
            · rfl
            · exact absurd rfl this
          · rw [g2]; exact decide_eq_true (by omega)
      refine ⟨q2 ?_, q1 ?_, qr ?_⟩ <;> rw [e_]
      · repeat (first | refine Tot.t (by rfl) ?_ | refine Tot.f (by rfl) ?_)
        exact Tot.bind c5 fun x hx => Tot.ret hx
      · repeat (first | refine Tot.t (by rfl) ?_ | refine Tot.f (by rfl) ?_)
        exact Tot.bind c5 fun x hx => Tot.ret (by rw [hx])
      · repeat (first | refine Tot.t (by rfl) ?_ | refine Tot.f (by rfl) ?_)
        exact Tot.t (decide_eq_true (by omega)) hb2
end
-- World
structure WOk (L N : List (List C)) : Prop where
  ll : L.length ≤ 40
  nl : N.length ≤ 40
  pl : ∀ i, i < N.length → 0 ≤ gi (N.getD i []) 0 ∧ gi (N.getD i []) 0 < L.length
section
variable {L N : List (List C)}
theorem end_tot (h : WOk L N) (at_ : Int) (h0 : 0 ≤ at_) (h1 : at_ ≤ 40) : Tot (fun k _ _ => (lv k).orielref10_End L at_) (fun _ => True) := by
  have hl := h.ll
  refine orielref10_End_up _ _ (Tot.congr ?_ (fun k _ _ => orielref10_End_q (lv k) k L at_))
  obtain ⟨n, rfl⟩ : ∃ n : Nat, at_ = n := ⟨at_.toNat, by omega⟩
  have loop : ∀ (d i : Nat) (v : Int), 100 - i = d → i ≤ 100 → Tot (fun k p q => orielref10_End_l0 (lv k) k L (n : Int) p v (i : Int)) (fun _ => True) := by
    intro d
    induction d with
    | zero =>
      intro i v hd hi
      refine Tot.step0 (fun k p_ q_ => orielref10_End_l0_q (lv k) k L (n : Int) p_ v _) ?_
      exact Tot.f (decide_eq_false (by omega)) (Tot.ret trivial)
    | succ d ih =>
      intro i v hd hi
      have nx : ∀ v, Tot (fun k p q => orielref10_End_l0 (lv k) k L (n : Int) p v (IntKind.i64.wrap ((i : Int) + 1))) (fun _ => True) := fun v => by
        rw [wrap_id (x := (i : Int) + 1) (by omega) (by omega), show (i : Int) + 1 = ((i + 1 : Nat) : Int) by omega]
        exact ih (i + 1) v (by omega) (by omega)
      refine Tot.step0 (fun k p_ q_ => orielref10_End_l0_q (lv k) k L (n : Int) p_ v _) ?_
      refine Tot.cond (fun hc => ?_) (fun _ => Tot.ret trivial)
      have hc := of_decide_eq_true hc
      repeat (refine Tot.t (decide_eq_true (by omega)) ?_)
      refine Tot.cond (fun _ => ?_) (fun _ => ?_)
      · repeat (refine Tot.t (decide_eq_true (by omega)) ?_)
        exact Tot.cond (fun _ => Tot.cond (fun _ => Tot.ret trivial) (fun _ => nx _)) (fun _ => Tot.cond (fun _ => Tot.ret trivial) (fun _ => nx _))
      · repeat (refine Tot.t (decide_eq_true (by omega)) ?_)
        exact Tot.cond (fun _ => Tot.cond (fun _ => Tot.ret trivial) (fun _ => nx _)) (fun _ => Tot.cond (fun _ => Tot.ret trivial) (fun _ => nx _))
  exact Tot.in0 (loop _ n 0 rfl (by omega))
/-- a node, or none -/
def Nd (N : List (List C)) (r : Int) : Prop := r = -1 ∨ (0 ≤ r ∧ r < N.length)
theorem number_tot (h : WOk L N) (x : Int) : Tot (fun k _ _ => (lv k).orielref16_number L N x) (Nd N) := by
  have hl := h.nl
  refine orielref16_number_up _ _ _ (Tot.congr ?_ (fun k _ _ => orielref16_number_q (lv k) k L N x))
  refine Tot.in0 (Tot.loop (H := fun k p q v (_ : Unit) => orielref16_number_l0 (lv k) k L N x p v) (n := N.length) (fun _ _ => True) (by omega) (fun _ _ => ?_) (fun i _ hi _ next => ?_) _ 0 () rfl (by omega) trivial)
  · refine Tot.step0 (fun k p_ q_ => orielref16_number_l0_q (lv k) k L N x p_ _) ?_
    exact Tot.f (decide_eq_false (by omega)) (Tot.ret (.inl rfl))
  · refine Tot.step0 (fun k p_ q_ => orielref16_number_l0_q (lv k) k L N x p_ _) ?_
    repeat (refine Tot.t (decide_eq_true (by omega)) ?_)
    exact Tot.cond (fun _ => Tot.ret (.inr ⟨by omega, by omega⟩)) (fun _ => next () trivial)
theorem first_tot (h : WOk L N) {n : Int} (h0 : 0 ≤ n) (h1 : n < N.length) : Tot (fun k _ _ => (lv k).orielref16_first L N n) (Nd N) := by
  have hp := h.pl n.toNat (by omega)
  refine orielref16_first_up _ _ _ (Tot.congr ?_ (fun k _ _ => orielref16_first_q (lv k) k L N n))
  repeat (refine Tot.t (decide_eq_true (by omega)) ?_)
  refine Tot.cond (fun _ => Tot.ret (.inl rfl)) (fun _ => ?_)
  repeat (refine Tot.t (decide_eq_true (by omega)) ?_)
  exact Tot.bind (number_tot h _) fun r hr => Tot.ret hr
theorem next_tot (h : WOk L N) {n : Int} (h0 : 0 ≤ n) (h1 : n < N.length) : Tot (fun k _ _ => (lv k).orielref16_next L N n) (Nd N) := by
  have hp := h.pl n.toNat (by omega)
  have hl := h.ll
  refine orielref16_next_up _ _ _ (Tot.congr ?_ (fun k _ _ => orielref16_next_q (lv k) k L N n))
  refine Tot.cond (fun _ => Tot.ret (.inl rfl)) (fun _ => ?_)
  repeat (refine Tot.t (decide_eq_true (by omega)) ?_)
  exact Tot.bind (end_tot h _ hp.1 (by omega)) fun r _ => Tot.bind (number_tot h _) fun r hr => Tot.ret hr
/-- both are functions of the node -/
theorem first_fun (h : WOk L N) : ∃ f : Int → Int, ∀ n : Int, 0 ≤ n → n < N.length → Tot (fun k _ _ => (lv k).orielref16_first L N n) (fun r => r = f n) ∧ Nd N (f n) := by
  have : ∀ n : Int, ∃ r : Int, 0 ≤ n → n < N.length → Tot (fun k _ _ => (lv k).orielref16_first L N n) (fun x => x = r) ∧ Nd N r := fun n => by
    by_cases hn : 0 ≤ n ∧ n < N.length
    · obtain ⟨r, h1, M, h2⟩ := first_tot h hn.1 hn.2
      exact ⟨r, fun _ _ => ⟨⟨r, rfl, M, h2⟩, h1⟩⟩
    · exact ⟨0, fun a b => absurd ⟨a, b⟩ hn⟩
  exact Classical.axiomOfChoice this
theorem next_fun (h : WOk L N) : ∃ f : Int → Int, ∀ n : Int, 0 ≤ n → n < N.length → Tot (fun k _ _ => (lv k).orielref16_next L N n) (fun r => r = f n) ∧ Nd N (f n) := by
  have : ∀ n : Int, ∃ r : Int, 0 ≤ n → n < N.length → Tot (fun k _ _ => (lv k).orielref16_next L N n) (fun x => x = r) ∧ Nd N r := fun n => by
    by_cases hn : 0 ≤ n ∧ n < N.length
    · obtain ⟨r, h1, M, h2⟩ := next_tot h hn.1 hn.2
      exact ⟨r, fun _ _ => ⟨⟨r, rfl, M, h2⟩, h1⟩⟩
    · exact ⟨0, fun a b => absurd ⟨a, b⟩ hn⟩
  exact Classical.axiomOfChoice this
def isI (l : List (List C)) (x : Int) : Prop := ∃ j, j < l.length ∧ gi (l.getD j []) 0 = x
theorem has16_tot (l : List (List C)) (x : Int) (hl : l.length ≤ 1000000) : Tot (fun k _ _ => (lv k).orielref16_has l x) (fun r => r = true ↔ isI l x) := by
  refine orielref16_has_up _ _ (Tot.congr ?_ (fun k _ _ => orielref16_has_q (lv k) k l x))
  refine Tot.in0 (Tot.loop (H := fun k p q v (_ : Unit) => orielref16_has_l0 (lv k) k l x p v) (n := l.length) (fun i _ => ∀ j, j < i → gi (l.getD j []) 0 ≠ x) (by omega) (fun _ hh => ?_) (fun i _ hi hh next => ?_) _ 0 () rfl (by omega) (fun j hj => by omega))
  · refine Tot.step0 (fun k p_ q_ => orielref16_has_l0_q (lv k) k l x p_ _) ?_
    exact Tot.f (decide_eq_false (by omega)) (Tot.ret ⟨fun e => (by cases e), fun ⟨j, a, b⟩ => absurd b (hh j a)⟩)
  · refine Tot.step0 (fun k p_ q_ => orielref16_has_l0_q (lv k) k l x p_ _) ?_
    rw [Int.toNat_natCast]
    repeat (refine Tot.t (decide_eq_true (by omega)) ?_)
    refine Tot.cond (fun hc => Tot.ret ⟨fun _ => ⟨i, hi, eq_of_beq hc⟩, fun _ => rfl⟩) (fun hc => next () fun j hj => ?_)
    rcases Nat.lt_or_ge j i with g | g
    · exact hh j g
    · rw [show j = i by omega]
      exact ne_of_beq_false hc
/-- rows of numbers, of which all are nodes -/
def Nds (N l : List (List C)) : Prop := ∀ r, r ∈ l → ∃ x : Int, r = [C.int .i64 x] ∧ 0 ≤ x ∧ x < N.length
open Classical in
/-- what is new is laid behind -/
noncomputable def ext1 (w : List (List C)) (r : List C) : List (List C) := if isI w (gi r 0) then w else w ++ [[C.int .i64 (gi r 0)]]
theorem ext1_nds {w : List (List C)} {r : List C} (hw : Nds N w) (hr : 0 ≤ gi r 0 ∧ gi r 0 < N.length) : Nds N (ext1 w r) := by
  unfold ext1
  split
  · exact hw
  · intro q hq
    rcases List.mem_append.1 hq with hq | hq
    · exact hw q hq
    · rw [List.mem_singleton.1 hq]; exact ⟨_, rfl, hr⟩
theorem ext1_len {w : List (List C)} {r : List C} : (ext1 w r).length ≤ w.length + 1 := by
  unfold ext1
  split <;> simp
end
-- Lead
section
variable {L N : List (List C)} {a : List C} {l : List (List C)}
theorem foldl_take {w m : List (List C)} {j : Nat} (hj : j < m.length) : (m.take (j + 1)).foldl ext1 w = ext1 ((m.take j).foldl ext1 w) (m.getD j []) := by
  rw [take_succ hj, List.foldl_append]
  rfl
theorem foldl_len {m : List (List C)} : ∀ {w : List (List C)}, (m.foldl ext1 w).length ≤ w.length + m.length := by
  induction m with
  | nil => intro w; exact Nat.le_refl _
  | cons x m ih =>
    intro w
    have h1 := ih (w := ext1 w x)
    have h2 := ext1_len (w := w) (r := x)
    simp only [List.foldl_cons, List.length_cons]
    omega
theorem nds_get {m : List (List C)} (hm : Nds N m) {j : Nat} (hj : j < m.length) : 0 ≤ gi (m.getD j []) 0 ∧ gi (m.getD j []) 0 < N.length := by
  obtain ⟨x, h1, h2, h3⟩ := hm _ (getD_mem (d := []) hj)
  rw [h1]
  exact ⟨h2, h3⟩
theorem foldl_nds {m : List (List C)} : ∀ {w : List (List C)}, Nds N w → Nds N m → Nds N (m.foldl ext1 w) := by
  induction m with
  | nil => intro w hw _; exact hw
  | cons x m ih =>
    intro w hw hm
    refine ih (ext1_nds hw ?_) fun r hr => hm r (List.mem_cons_of_mem _ hr)
    have := nds_get hm (j := 0) (by simp)
    simpa using this
theorem ext1_nil (x : List C) : ext1 [] x = [[C.int .i64 (gi x 0)]] := by
  unfold ext1
  rw [if_neg (fun ⟨j, hj, _⟩ => by simp at hj)]
  rfl
/-- members that are new are laid behind: the alternatives' loop -/
theorem l12_tot {Q : List (List C) → Prop} {m w : List (List C)} {i : Nat} (hl : w.length + m.length ≤ 100000) (hend : Tot (fun k p q => orielref16_leads_l13 (lv k) k L N (gi a 0) (gr a 1) (gr a 2) l p (IntKind.i64.wrap ((i : Int) + 1)) (m.foldl ext1 w)) Q) : ∀ (d j : Nat) (o : List (List C)), m.length - j = d → j ≤ m.length → o = (m.take j).foldl ext1 w → Tot (fun k p q => orielref16_leads_l12 (lv k) k L N (gi a 0) (gr a 1) (gr a 2) l p q (i : Int) m (j : Int) o) Q := by
  refine Tot.loop (H := fun k p q v o => orielref16_leads_l12 (lv k) k L N (gi a 0) (gr a 1) (gr a 2) l p q (i : Int) m v o) (fun j o => o = (m.take j).foldl ext1 w) (by omega) (fun o ho => ?_) (fun j o hj ho next => ?_)
  · rw [List.take_length] at ho
    subst ho
    refine Tot.step1 (fun k p_ q_ => orielref16_leads_l12_q (lv k) k L N (gi a 0) (gr a 1) (gr a 2) l p_ q_ _ _ _ _) ?_
    exact Tot.f (decide_eq_false (by omega)) hend
  · have hlo : o.length ≤ 100000 := by
      have := foldl_len (m := m.take j) (w := w)
      rw [ho]
      rw [List.length_take] at this
      omega
    refine Tot.step1 (fun k p_ q_ => orielref16_leads_l12_q (lv k) k L N (gi a 0) (gr a 1) (gr a 2) l p_ q_ _ _ _ _) ?_
    rw [Int.toNat_natCast]
    repeat (refine Tot.t (decide_eq_true (by omega)) ?_)
    refine Tot.bind (has16_tot o _ (by omega)) fun r hr => Tot.cond (fun hb => ?_) (fun hb => next o ?_)
    · have hb : r = false := by simpa using hb
      repeat (refine Tot.t (decide_eq_true (by omega)) ?_)
      refine Tot.t (roomy_of bytes3 (by omega)) (next _ ?_)
      rw [foldl_take hj, ← ho]
      unfold ext1
      rw [if_neg (fun h => by rw [hr.2 h] at hb; cases hb)]
    · have hb : r = true := by simpa using hb
      rw [foldl_take hj, ← ho]
      unfold ext1
      rw [if_pos (hr.1 hb)]
/-- as far as the first so many parts -/
noncomputable def altR (fs : Nat → List (List C)) (w : List (List C)) : Nat → List (List C)
  | 0 => w
  | i + 1 => (fs i).foldl ext1 (altR fs w i)
theorem l13_tot {fs : Nat → List (List C)} {w : List (List C)} (hn : (gr a 1).length ≤ 64) (hf : ∀ i, i < (gr a 1).length → Tot (fun k _ _ => (lv k).orielref16_leads L N (gi ((gr a 1).getD i []) 0) (gr ((gr a 1).getD i []) 1) (gr ((gr a 1).getD i []) 2) l) (fun r => r = fs i))
    (hl : ∀ i, i < (gr a 1).length → (altR fs w i).length + (fs i).length ≤ 100000) : ∀ (d i : Nat) (o : List (List C)), (gr a 1).length - i = d → i ≤ (gr a 1).length → o = altR fs w i → Tot (fun k p q => orielref16_leads_l13 (lv k) k L N (gi a 0) (gr a 1) (gr a 2) l p (i : Int) o) (fun r => r = altR fs w (gr a 1).length) := by
  refine Tot.loop (H := fun k p q v o => orielref16_leads_l13 (lv k) k L N (gi a 0) (gr a 1) (gr a 2) l p v o) (fun i o => o = altR fs w i) (by omega) (fun o ho => ?_) (fun i o hi ho next => ?_)
  · refine Tot.step0 (fun k p_ q_ => orielref16_leads_l13_q (lv k) k L N (gi a 0) (gr a 1) (gr a 2) l p_ _ _) ?_
    exact Tot.f (decide_eq_false (by omega)) (Tot.ret ho)
  · subst ho
    refine Tot.step0 (fun k p_ q_ => orielref16_leads_l13_q (lv k) k L N (gi a 0) (gr a 1) (gr a 2) l p_ _ _) ?_
    rw [Int.toNat_natCast]
    repeat (refine Tot.t (decide_eq_true (by omega)) ?_)
    refine Tot.bind (hf i hi) fun r hr => ?_
    subst hr
    exact Tot.in1 (l12_tot (hl i hi) (next _ rfl) _ 0 _ rfl (Nat.zero_le _) rfl)
/-- the alternatives' loop as long as nothing is there -/
theorem l5_tot {fs : Nat → List (List C)} (hn : (gr a 1).length ≤ 64) (hf : ∀ i, i < (gr a 1).length → Tot (fun k _ _ => (lv k).orielref16_leads L N (gi ((gr a 1).getD i []) 0) (gr ((gr a 1).getD i []) 1) (gr ((gr a 1).getD i []) 2) l) (fun r => r = fs i))
    (hl : ∀ i, i < (gr a 1).length → (altR fs [] i).length + (fs i).length ≤ 100000) : ∀ (d i : Nat) (_ : Unit), (gr a 1).length - i = d → i ≤ (gr a 1).length → altR fs [] i = [] → Tot (fun k p q => orielref16_leads_l5 (lv k) k L N (gi a 0) (gr a 1) (gr a 2) l p (i : Int)) (fun r => r = altR fs [] (gr a 1).length) := by
  refine Tot.loop (H := fun k p q v (_ : Unit) => orielref16_leads_l5 (lv k) k L N (gi a 0) (gr a 1) (gr a 2) l p v) (fun i _ => altR fs [] i = []) (by omega) (fun _ ho => ?_) (fun i _ hi ho next => ?_)
  · refine Tot.step0 (fun k p_ q_ => orielref16_leads_l5_q (lv k) k L N (gi a 0) (gr a 1) (gr a 2) l p_ _) ?_
    exact Tot.f (decide_eq_false (by omega)) (Tot.ret ho.symm)
  · refine Tot.step0 (fun k p_ q_ => orielref16_leads_l5_q (lv k) k L N (gi a 0) (gr a 1) (gr a 2) l p_ _) ?_
    rw [Int.toNat_natCast]
    repeat (refine Tot.t (decide_eq_true (by omega)) ?_)
    refine Tot.bind (hf i hi) fun r hr => ?_
    subst hr
    have hli := hl i hi
    rw [ho] at hli
    have hend : Tot (fun k p q => orielref16_leads_l13 (lv k) k L N (gi a 0) (gr a 1) (gr a 2) l p (IntKind.i64.wrap ((i : Int) + 1)) ((fs i).foldl ext1 [])) (fun r => r = altR fs [] (gr a 1).length) := by
      rw [wrap_id (x := (i : Int) + 1) (by omega) (by omega), show (i : Int) + 1 = ((i + 1 : Nat) : Int) by omega]
      exact l13_tot hn hf hl _ (i + 1) _ rfl (by omega) (by show _ = (fs i).foldl ext1 (altR fs [] i); rw [ho])
    refine Tot.in1 (g := fun k p_ q_ => orielref16_leads_l8 (lv k) k L N (gi a 0) (gr a 1) (gr a 2) l p_ q_ (i : Int) (fs i) 0) ?_
    refine Tot.step1 (fun k p_ q_ => orielref16_leads_l8_q (lv k) k L N (gi a 0) (gr a 1) (gr a 2) l p_ q_ _ _ _) ?_
    refine Tot.cond (fun h0 => ?_) (fun h0 => next () ?_)
    · have h0 := of_decide_eq_true h0
      have h0' : 0 < (fs i).length := by omega
      repeat (refine Tot.t (decide_eq_true (by omega)) ?_)
      refine Tot.bind (has16_tot [] _ (by simp)) fun r hr => Tot.t ?_ ?_
      · cases hrr : r with
        | false => rfl
        | true =>
          obtain ⟨j, hj, _⟩ := hr.1 hrr
          simp at hj
      · repeat (refine Tot.t (decide_eq_true (by omega)) ?_)
        rw [show Int.toNat 0 = 0 from rfl, wrap_id (x := (0 : Int) + 1) (by omega) (by omega), show (0 : Int) + 1 = ((1 : Nat) : Int) from rfl]
        refine l12_tot (w := []) (by simpa using hli) hend _ 1 _ rfl (by omega) ?_
        have := foldl_take (w := []) h0'
        rw [Nat.zero_add] at this
        rw [this, List.take_zero, List.foldl_nil, ext1_nil]
    · have h0 := of_decide_eq_false h0
      have : fs i = [] := List.length_eq_zero_iff.1 (by omega)
      show (fs i).foldl ext1 (altR fs [] i) = []
      rw [ho, this]
      rfl
end
-- Step
section
variable {L N : List (List C)} {a : List C} {l : List (List C)} {ff nf : Int → Int} {ht : Int → Bool}
def gst (op : Int) (ff nf : Int → Int) (ht : Int → Bool) (r : List C) : List (List C) :=
  if op = 2 then (if 0 ≤ ff (gi r 0) then [[C.int .i64 (ff (gi r 0))]] else []) else if op = 3 then (if 0 ≤ nf (gi r 0) then [[C.int .i64 (nf (gi r 0))]] else []) else if op = 7 then (if ht (gi r 0) = true then [[C.int .i64 (gi r 0)]] else []) else []
theorem gst_len {op : Int} {r : List C} : (gst op ff nf ht r).length ≤ 1 := by
  unfold gst
  repeat' split
  all_goals simp
theorem gsts_len {op : Int} : ∀ {m : List (List C)}, (m.flatMap (gst op ff nf ht)).length ≤ m.length := by
  intro m
  induction m with
  | nil => exact Nat.le_refl _
  | cons x m ih =>
    have := gst_len (op := op) (r := x) (ff := ff) (nf := nf) (ht := ht)
    simp only [List.flatMap_cons, List.length_append, List.length_cons]
    omega
structure St1 (L N : List (List C)) (a : List C) (ff nf : Int → Int) (ht : Int → Bool) : Prop where
  f : ∀ n : Int, 0 ≤ n → n < N.length → Tot (fun k _ _ => (lv k).orielref16_first L N n) (fun r => r = ff n)
  n : ∀ n : Int, 0 ≤ n → n < N.length → Tot (fun k _ _ => (lv k).orielref16_next L N n) (fun r => r = nf n)
  h : gi a 0 = 7 → 0 < (gr a 2).length ∧ ∀ n : Int, 0 ≤ n → n < N.length → Tot (fun k _ _ => (lv k).orielref16_Holds L N (gi ((gr a 2).getD 0 []) 0) (gs ((gr a 2).getD 0 []) 1) (gs ((gr a 2).getD 0 []) 2) (gs ((gr a 2).getD 0 []) 3) (gr ((gr a 2).getD 0 []) 4) (gr ((gr a 2).getD 0 []) 5) n) (fun r => r = ht n)
theorem l11_tot {Q : List (List C) → Prop} {w : List (List C)} (h : St1 L N a ff nf ht) (hl : Nds N l) (hlen : w.length + l.length ≤ 100000) (hend : Tot (fun k p q => orielref16_leads_l13 (lv k) k L N (gi a 0) (gr a 1) (gr a 2) l p 0 (w ++ l.flatMap (gst (gi a 0) ff nf ht))) Q) : ∀ (d i : Nat) (o : List (List C)), l.length - i = d → i ≤ l.length → o = w ++ (l.take i).flatMap (gst (gi a 0) ff nf ht) → Tot (fun k p q => orielref16_leads_l11 (lv k) k L N (gi a 0) (gr a 1) (gr a 2) l p (i : Int) o) Q := by
  refine Tot.loop (H := fun k p q v o => orielref16_leads_l11 (lv k) k L N (gi a 0) (gr a 1) (gr a 2) l p v o) (fun i o => o = w ++ (l.take i).flatMap (gst (gi a 0) ff nf ht)) (by omega) (fun o ho => ?_) (fun i o hi ho next => ?_)
  · rw [List.take_length] at ho
    subst ho
    refine Tot.step0 (fun k p_ q_ => orielref16_leads_l11_q (lv k) k L N (gi a 0) (gr a 1) (gr a 2) l p_ _ _) ?_
    exact Tot.f (decide_eq_false (by omega)) (Tot.in0 hend)
  · obtain ⟨n0, n1⟩ := nds_get hl hi
    have hlo : o.length ≤ 99999 := by
      have := gsts_len (op := gi a 0) (ff := ff) (nf := nf) (ht := ht) (m := l.take i)
      rw [ho, List.length_append]
      rw [List.length_take] at this
      omega
    have nx : ∀ o', o' = o ++ gst (gi a 0) ff nf ht (l.getD i []) → Tot (fun k p q => orielref16_leads_l11 (lv k) k L N (gi a 0) (gr a 1) (gr a 2) l p (IntKind.i64.wrap ((i : Int) + 1)) o') Q := fun o' h => next o' (by rw [h, ho, flat_take hi, List.append_assoc])
    have n10 : gi a 0 ≠ 7 → ∀ o', o' = o ++ gst (gi a 0) ff nf ht (l.getD i []) → Tot (fun k p q => orielref16_leads_l10 (lv k) k L N (gi a 0) (gr a 1) (gr a 2) l p (i : Int) o') Q := fun h7 o' ho' => by
      refine Tot.congr ?_ (fun k p_ q_ => orielref16_leads_l10_q (lv k) k L N (gi a 0) (gr a 1) (gr a 2) l p_ (i : Int) o')
      exact Tot.f (beq_false_of_ne h7) (nx o' ho')
    have n9 : gi a 0 ≠ 3 → gi a 0 ≠ 7 → ∀ o', o' = o ++ gst (gi a 0) ff nf ht (l.getD i []) → Tot (fun k p q => orielref16_leads_l9 (lv k) k L N (gi a 0) (gr a 1) (gr a 2) l p (i : Int) o') Q := fun h3 h7 o' ho' => by
      refine Tot.congr ?_ (fun k p_ q_ => orielref16_leads_l9_q (lv k) k L N (gi a 0) (gr a 1) (gr a 2) l p_ (i : Int) o')
      exact Tot.f (beq_false_of_ne h3) (n10 h7 o' ho')
    refine Tot.step0 (fun k p_ q_ => orielref16_leads_l11_q (lv k) k L N (gi a 0) (gr a 1) (gr a 2) l p_ _ _) ?_
    rw [Int.toNat_natCast]
    repeat (refine Tot.t (decide_eq_true (by omega)) ?_)
    refine Tot.cond (fun k2 => ?_) (fun k2 => ?_)
    · have k2 : gi a 0 = 2 := eq_of_beq k2
      have hg : gst (gi a 0) ff nf ht (l.getD i []) = if 0 ≤ ff (gi (l.getD i []) 0) then [[C.int .i64 (ff (gi (l.getD i []) 0))]] else [] := by unfold gst; rw [if_pos k2]
      repeat (refine Tot.t (decide_eq_true (by omega)) ?_)
      refine Tot.bind (h.f _ n0 n1) fun r hr => ?_
      subst hr
      refine Tot.cond (fun g => ?_) (fun g => n9 (by omega) (by omega) _ ?_)
      · repeat (refine Tot.t (decide_eq_true (by omega)) ?_)
        refine Tot.bind (h.f _ n0 n1) fun r hr => ?_
        subst hr
        refine Tot.t (roomy_of bytes3 (by omega)) (n9 (by omega) (by omega) _ ?_)
        rw [hg, if_pos (of_decide_eq_true g)]
      · rw [hg, if_neg (of_decide_eq_false g), List.append_nil]
    · have k2 := ne_of_beq_false k2
      refine Tot.congr ?_ (fun k p_ q_ => orielref16_leads_l9_q (lv k) k L N (gi a 0) (gr a 1) (gr a 2) l p_ (i : Int) o)
      rw [Int.toNat_natCast]
      refine Tot.cond (fun k3 => ?_) (fun k3 => ?_)
      · have k3 : gi a 0 = 3 := eq_of_beq k3
        have hg : gst (gi a 0) ff nf ht (l.getD i []) = if 0 ≤ nf (gi (l.getD i []) 0) then [[C.int .i64 (nf (gi (l.getD i []) 0))]] else [] := by unfold gst; rw [if_neg k2, if_pos k3]
        repeat (refine Tot.t (decide_eq_true (by omega)) ?_)
        refine Tot.bind (h.n _ n0 n1) fun r hr => ?_
        subst hr
        refine Tot.cond (fun g => ?_) (fun g => n10 (by omega) _ ?_)
        · repeat (refine Tot.t (decide_eq_true (by omega)) ?_)
          refine Tot.bind (h.n _ n0 n1) fun r hr => ?_
          subst hr
          refine Tot.t (roomy_of bytes3 (by omega)) (n10 (by omega) _ ?_)
          rw [hg, if_pos (of_decide_eq_true g)]
        · rw [hg, if_neg (of_decide_eq_false g), List.append_nil]
      · have k3 := ne_of_beq_false k3
        refine Tot.congr ?_ (fun k p_ q_ => orielref16_leads_l10_q (lv k) k L N (gi a 0) (gr a 1) (gr a 2) l p_ (i : Int) o)
        rw [Int.toNat_natCast]
        refine Tot.cond (fun k7 => ?_) (fun k7 => nx _ ?_)
        · have k7 : gi a 0 = 7 := eq_of_beq k7
          obtain ⟨t0, hh⟩ := h.h k7
          have hg : gst (gi a 0) ff nf ht (l.getD i []) = if ht (gi (l.getD i []) 0) = true then [[C.int .i64 (gi (l.getD i []) 0)]] else [] := by unfold gst; rw [if_neg k2, if_neg k3, if_pos k7]
          repeat (refine Tot.t (decide_eq_true (by omega)) ?_)
          refine Tot.bind (hh _ n0 n1) fun r hr => ?_
          subst hr
          refine Tot.cond (fun g => ?_) (fun g => nx _ ?_)
          · repeat (refine Tot.t (decide_eq_true (by omega)) ?_)
            refine Tot.t (roomy_of bytes3 (by omega)) (nx _ ?_)
            rw [hg, if_pos g]
          · rw [hg, if_neg (by rw [g]; simp), List.append_nil]
        · have k7 := ne_of_beq_false k7
          unfold gst
          rw [if_neg k2, if_neg k3, if_neg k7, List.append_nil]
/-- as long as nothing is there -/
theorem l2_tot {Q : List (List C) → Prop} (h : St1 L N a ff nf ht) (hl : Nds N l) (hlen : l.length ≤ 99999) (hend : Tot (fun k p q => orielref16_leads_l13 (lv k) k L N (gi a 0) (gr a 1) (gr a 2) l p 0 (l.flatMap (gst (gi a 0) ff nf ht))) Q) (hend0 : l.flatMap (gst (gi a 0) ff nf ht) = [] → Tot (fun k p q => orielref16_leads_l5 (lv k) k L N (gi a 0) (gr a 1) (gr a 2) l p 0) Q) : ∀ (d i : Nat) (_ : Unit), l.length - i = d → i ≤ l.length → (l.take i).flatMap (gst (gi a 0) ff nf ht) = [] → Tot (fun k p q => orielref16_leads_l2 (lv k) k L N (gi a 0) (gr a 1) (gr a 2) l p (i : Int)) Q := by
  refine Tot.loop (H := fun k p q v (_ : Unit) => orielref16_leads_l2 (lv k) k L N (gi a 0) (gr a 1) (gr a 2) l p v) (fun i _ => (l.take i).flatMap (gst (gi a 0) ff nf ht) = []) (by omega) (fun _ ho => ?_) (fun i _ hi ho next => ?_)
  · rw [List.take_length] at ho
    refine Tot.step0 (fun k p_ q_ => orielref16_leads_l2_q (lv k) k L N (gi a 0) (gr a 1) (gr a 2) l p_ _) ?_
    exact Tot.f (decide_eq_false (by omega)) (Tot.in0 (hend0 ho))
  · obtain ⟨n0, n1⟩ := nds_get hl hi
    have go := l11_tot (w := []) h hl (by simpa using Nat.le_succ_of_le hlen) (by rw [List.nil_append]; exact hend)
    have nx : gst (gi a 0) ff nf ht (l.getD i []) = [] → Tot (fun k p q => orielref16_leads_l2 (lv k) k L N (gi a 0) (gr a 1) (gr a 2) l p (IntKind.i64.wrap ((i : Int) + 1))) Q := fun e => next () (by rw [flat_take hi, ho, e]; rfl)
    have n11 : ∀ o, o = gst (gi a 0) ff nf ht (l.getD i []) → Tot (fun k p q => orielref16_leads_l11 (lv k) k L N (gi a 0) (gr a 1) (gr a 2) l p (IntKind.i64.wrap ((i : Int) + 1)) o) Q := fun o e => by
      rw [wrap_id (x := (i : Int) + 1) (by omega) (by omega), show (i : Int) + 1 = ((i + 1 : Nat) : Int) by omega]
      exact go _ (i + 1) o rfl (by omega) (by rw [e, flat_take hi, ho]; rfl)
    have n10 : gi a 0 ≠ 7 → ∀ o, o = gst (gi a 0) ff nf ht (l.getD i []) → Tot (fun k p q => orielref16_leads_l10 (lv k) k L N (gi a 0) (gr a 1) (gr a 2) l p (i : Int) o) Q := fun h7 o e => by
      refine Tot.congr ?_ (fun k p_ q_ => orielref16_leads_l10_q (lv k) k L N (gi a 0) (gr a 1) (gr a 2) l p_ (i : Int) o)
      exact Tot.f (beq_false_of_ne h7) (n11 o e)
    have n9 : gi a 0 ≠ 3 → gi a 0 ≠ 7 → ∀ o, o = gst (gi a 0) ff nf ht (l.getD i []) → Tot (fun k p q => orielref16_leads_l9 (lv k) k L N (gi a 0) (gr a 1) (gr a 2) l p (i : Int) o) Q := fun h3 h7 o e => by
      refine Tot.congr ?_ (fun k p_ q_ => orielref16_leads_l9_q (lv k) k L N (gi a 0) (gr a 1) (gr a 2) l p_ (i : Int) o)
      exact Tot.f (beq_false_of_ne h3) (n10 h7 o e)
    have n7 : gi a 0 ≠ 7 → gst (gi a 0) ff nf ht (l.getD i []) = [] → Tot (fun k p q => orielref16_leads_l7 (lv k) k L N (gi a 0) (gr a 1) (gr a 2) l p (i : Int)) Q := fun h7 e => by
      refine Tot.congr ?_ (fun k p_ q_ => orielref16_leads_l7_q (lv k) k L N (gi a 0) (gr a 1) (gr a 2) l p_ (i : Int))
      exact Tot.f (beq_false_of_ne h7) (nx e)
    have n4 : gi a 0 ≠ 3 → gi a 0 ≠ 7 → gst (gi a 0) ff nf ht (l.getD i []) = [] → Tot (fun k p q => orielref16_leads_l4 (lv k) k L N (gi a 0) (gr a 1) (gr a 2) l p (i : Int)) Q := fun h3 h7 e => by
      refine Tot.congr ?_ (fun k p_ q_ => orielref16_leads_l4_q (lv k) k L N (gi a 0) (gr a 1) (gr a 2) l p_ (i : Int))
      exact Tot.f (beq_false_of_ne h3) (n7 h7 e)
    refine Tot.step0 (fun k p_ q_ => orielref16_leads_l2_q (lv k) k L N (gi a 0) (gr a 1) (gr a 2) l p_ _) ?_
    rw [Int.toNat_natCast]
    repeat (refine Tot.t (decide_eq_true (by omega)) ?_)
    refine Tot.cond (fun k2 => ?_) (fun k2 => ?_)
    · have k2 : gi a 0 = 2 := eq_of_beq k2
      have hg : gst (gi a 0) ff nf ht (l.getD i []) = if 0 ≤ ff (gi (l.getD i []) 0) then [[C.int .i64 (ff (gi (l.getD i []) 0))]] else [] := by unfold gst; rw [if_pos k2]
      repeat (refine Tot.t (decide_eq_true (by omega)) ?_)
      refine Tot.bind (h.f _ n0 n1) fun r hr => ?_
      subst hr
      refine Tot.cond (fun g => ?_) (fun g => n4 (by omega) (by omega) ?_)
      · repeat (refine Tot.t (decide_eq_true (by omega)) ?_)
        refine Tot.bind (h.f _ n0 n1) fun r hr => ?_
        subst hr
        refine n9 (by omega) (by omega) _ ?_
        rw [hg, if_pos (of_decide_eq_true g)]
      · rw [hg, if_neg (of_decide_eq_false g)]
    · have k2 := ne_of_beq_false k2
      refine Tot.congr ?_ (fun k p_ q_ => orielref16_leads_l4_q (lv k) k L N (gi a 0) (gr a 1) (gr a 2) l p_ (i : Int))
      rw [Int.toNat_natCast]
      refine Tot.cond (fun k3 => ?_) (fun k3 => ?_)
      · have k3 : gi a 0 = 3 := eq_of_beq k3
        have hg : gst (gi a 0) ff nf ht (l.getD i []) = if 0 ≤ nf (gi (l.getD i []) 0) then [[C.int .i64 (nf (gi (l.getD i []) 0))]] else [] := by unfold gst; rw [if_neg k2, if_pos k3]
        repeat (refine Tot.t (decide_eq_true (by omega)) ?_)
        refine Tot.bind (h.n _ n0 n1) fun r hr => ?_
        subst hr
        refine Tot.cond (fun g => ?_) (fun g => n7 (by omega) ?_)
        · repeat (refine Tot.t (decide_eq_true (by omega)) ?_)
          refine Tot.bind (h.n _ n0 n1) fun r hr => ?_
          subst hr
          refine n10 (by omega) _ ?_
          rw [hg, if_pos (of_decide_eq_true g)]
        · rw [hg, if_neg (of_decide_eq_false g)]
      · have k3 := ne_of_beq_false k3
        refine Tot.congr ?_ (fun k p_ q_ => orielref16_leads_l7_q (lv k) k L N (gi a 0) (gr a 1) (gr a 2) l p_ (i : Int))
        rw [Int.toNat_natCast]
        refine Tot.cond (fun k7 => ?_) (fun k7 => nx ?_)
        · have k7 : gi a 0 = 7 := eq_of_beq k7
          obtain ⟨t0, hh⟩ := h.h k7
          have hg : gst (gi a 0) ff nf ht (l.getD i []) = if ht (gi (l.getD i []) 0) = true then [[C.int .i64 (gi (l.getD i []) 0)]] else [] := by unfold gst; rw [if_neg k2, if_neg k3, if_pos k7]
          repeat (refine Tot.t (decide_eq_true (by omega)) ?_)
          refine Tot.bind (hh _ n0 n1) fun r hr => ?_
          subst hr
          refine Tot.cond (fun g => ?_) (fun g => nx ?_)
          · repeat (refine Tot.t (decide_eq_true (by omega)) ?_)
            refine n11 _ ?_
            rw [hg, if_pos g]
          · rw [hg, if_neg (by rw [g]; simp)]
        · have k7 := ne_of_beq_false k7
          unfold gst
          rw [if_neg k2, if_neg k3, if_neg k7]
end
-- Star
open Classical in
noncomputable def miss (w : List (List C)) : Nat → Nat
  | 0 => 0
  | n + 1 => miss w n + (if isI w (n : Int) then 0 else 1)
theorem miss_n (w : List (List C)) : ∀ n, miss w n ≤ n := by
  intro n
  induction n with
  | zero => exact Nat.le_refl _
  | succ n ih => unfold miss; split <;> omega
theorem isI_app {w : List (List C)} {x y : Int} (h : isI w x) : isI (w ++ [[C.int .i64 y]]) x := by
  obtain ⟨j, a, b⟩ := h
  exact ⟨j, by simp; omega, by rw [getD_app, if_pos a]; exact b⟩
theorem isI_new (w : List (List C)) (y : Int) : isI (w ++ [[C.int .i64 y]]) y := ⟨w.length, by simp, by rw [get_last]; rfl⟩
theorem miss_le (w : List (List C)) (y : Int) : ∀ n, miss (w ++ [[C.int .i64 y]]) n ≤ miss w n := by
  intro n
  induction n with
  | zero => exact Nat.le_refl _
  | succ n ih =>
    unfold miss
    by_cases h : isI w (n : Int)
    · rw [if_pos h, if_pos (isI_app h)]; exact ih
    · rw [if_neg h]; split <;> omega
theorem miss_lt {w : List (List C)} {y : Int} (h0 : 0 ≤ y) (hn : ¬ isI w y) : ∀ n : Nat, y < n → miss (w ++ [[C.int .i64 y]]) n < miss w n := by
  intro n
  induction n with
  | zero => intro h; omega
  | succ n ih =>
    intro h
    have hle := miss_le w y n
    unfold miss
    by_cases e : y = n
    · subst e
      rw [if_neg hn, if_pos (isI_new w _)]
      omega
    · have := ih (by omega)
      by_cases h : isI w (n : Int)
      · rw [if_pos h, if_pos (isI_app h)]; omega
      · rw [if_neg h]; split <;> omega
section
variable {L N : List (List C)} {a : List C} {l : List (List C)}
theorem mu_ext1 {w : List (List C)} {r : List C} (h : 0 ≤ gi r 0 ∧ gi r 0 < N.length) : (ext1 w r).length + miss (ext1 w r) N.length ≤ w.length + miss w N.length := by
  unfold ext1
  split
  · exact Nat.le_refl _
  · rename_i hn
    have := miss_lt h.1 hn N.length h.2
    simp only [List.length_append, List.length_singleton]
    omega
theorem mu_foldl : ∀ {m w : List (List C)}, Nds N m → (m.foldl ext1 w).length + miss (m.foldl ext1 w) N.length ≤ w.length + miss w N.length := by
  intro m
  induction m with
  | nil => intro w _; exact Nat.le_refl _
  | cons x m ih =>
    intro w hm
    have h1 := ih (w := ext1 w x) fun r hr => hm r (List.mem_cons_of_mem _ hr)
    have h2 := mu_ext1 (N := N) (w := w) (r := x) (by simpa using nds_get hm (j := 0) (by simp))
    exact Nat.le_trans h1 h2
theorem l3_tot {Q : List (List C) → Prop} {m w : List (List C)} {i : Nat} (hl : w.length + m.length ≤ 100000) (hend : Tot (fun k p q => orielref16_leads_l6 (lv k) k L N (gi a 0) (gr a 1) (gr a 2) l p (IntKind.i64.wrap ((i : Int) + 1)) (m.foldl ext1 w)) Q) : ∀ (d j : Nat) (o : List (List C)), m.length - j = d → j ≤ m.length → o = (m.take j).foldl ext1 w → Tot (fun k p q => orielref16_leads_l3 (lv k) k L N (gi a 0) (gr a 1) (gr a 2) l p q (i : Int) m (j : Int) o) Q := by
  refine Tot.loop (H := fun k p q v o => orielref16_leads_l3 (lv k) k L N (gi a 0) (gr a 1) (gr a 2) l p q (i : Int) m v o) (fun j o => o = (m.take j).foldl ext1 w) (by omega) (fun o ho => ?_) (fun j o hj ho next => ?_)
  · rw [List.take_length] at ho
    subst ho
    refine Tot.step1 (fun k p_ q_ => orielref16_leads_l3_q (lv k) k L N (gi a 0) (gr a 1) (gr a 2) l p_ q_ _ _ _ _) ?_
    exact Tot.f (decide_eq_false (by omega)) hend
  · have hlo : o.length ≤ 100000 := by
      have := foldl_len (m := m.take j) (w := w)
      rw [ho]
      rw [List.length_take] at this
      omega
    refine Tot.step1 (fun k p_ q_ => orielref16_leads_l3_q (lv k) k L N (gi a 0) (gr a 1) (gr a 2) l p_ q_ _ _ _ _) ?_
    rw [Int.toNat_natCast]
    repeat (refine Tot.t (decide_eq_true (by omega)) ?_)
    refine Tot.bind (has16_tot o _ (by omega)) fun r hr => Tot.cond (fun hb => ?_) (fun hb => next o ?_)
    · have hb : r = false := by simpa using hb
      repeat (refine Tot.t (decide_eq_true (by omega)) ?_)
      refine Tot.t (roomy_of bytes3 (by omega)) (next _ ?_)
      rw [foldl_take hj, ← ho]
      unfold ext1
      rw [if_neg (fun h => by rw [hr.2 h] at hb; cases hb)]
    · have hb : r = true := by simpa using hb
      rw [foldl_take hj, ← ho]
      unfold ext1
      rw [if_pos (hr.1 hb)]
noncomputable def stR (f0 : List (List C) → List (List C)) : Nat → Nat → List (List C) → List (List C)
  | 0, _, o => o
  | k + 1, i, o => if i < o.length then stR f0 k (i + 1) ((f0 [o.getD i []]).foldl ext1 o) else o
theorem drop_one {o : List (List C)} {i : Nat} (h : i < o.length) : (o.drop i).take 1 = [o.getD i []] := by
  rw [List.drop_eq_getElem_cons h, List.getD_eq_getElem?_getD, List.getElem?_eq_getElem h]
  rfl
structure Sub0 (L N : List (List C)) (a : List C) (f0 : List (List C) → List (List C)) : Prop where
  s : 0 < (gr a 1).length
  f : ∀ x : List C, Nds N [x] → Tot (fun k _ _ => (lv k).orielref16_leads L N (gi ((gr a 1).getD 0 []) 0) (gr ((gr a 1).getD 0 []) 1) (gr ((gr a 1).getD 0 []) 2) [x]) (fun r => r = f0 [x])
  v : ∀ x : List C, Nds N [x] → Nds N (f0 [x]) ∧ (f0 [x]).length ≤ 20000
theorem nds_one {o : List (List C)} (ho : Nds N o) {i : Nat} (hi : i < o.length) : Nds N [o.getD i []] := fun r hr => by
  rw [List.mem_singleton.1 hr]
  exact ho _ (getD_mem hi)
theorem l6_tot {f0 : List (List C) → List (List C)} (h : Sub0 L N a f0) {M : Nat} (hM : M ≤ 50000) : ∀ (k i : Nat) (o : List (List C)), Nds N o → o.length + miss o N.length ≤ M → i ≤ M → M - i ≤ k → Tot (fun n p q => orielref16_leads_l6 (lv n) n L N (gi a 0) (gr a 1) (gr a 2) l p (i : Int) o) (fun r => r = stR f0 k i o) := by
  have hs := h.s
  intro k
  induction k with
  | zero =>
    intro i o ho hmu hi hk
    refine Tot.step0 (fun k p_ q_ => orielref16_leads_l6_q (lv k) k L N (gi a 0) (gr a 1) (gr a 2) l p_ _ _) ?_
    exact Tot.f (decide_eq_false (by omega)) (Tot.ret rfl)
  | succ k ih =>
    intro i o ho hmu hi hk
    refine Tot.step0 (fun k p_ q_ => orielref16_leads_l6_q (lv k) k L N (gi a 0) (gr a 1) (gr a 2) l p_ _ _) ?_
    unfold stR
    refine Tot.cond (fun hc => ?_) (fun hc => Tot.ret ?_)
    · have hc := of_decide_eq_true hc
      have hc' : i < o.length := by omega
      obtain ⟨v1, v2⟩ := h.v _ (nds_one ho hc')
      rw [if_pos hc']
      have hw : IntKind.i64.wrap ((i : Int) + 1) = ((i + 1 : Nat) : Int) := by rw [wrap_id (x := (i : Int) + 1) (by omega) (by omega)]; omega
      rw [hw, Int.toNat_natCast, Int.toNat_natCast, show i + 1 - i = 1 by omega, drop_one hc']
      repeat (refine Tot.t (decide_eq_true (by omega)) ?_)
      refine Tot.bind (h.f _ (nds_one ho hc')) fun r hr => ?_
      subst hr
      refine Tot.in1 (l3_tot (w := o) (m := f0 [o.getD i []]) (i := i) (by omega) ?_ _ 0 _ rfl (Nat.zero_le _) rfl)
      rw [hw]
      exact ih (i + 1) _ (foldl_nds ho v1) (Nat.le_trans (mu_foldl v1) hmu) (by omega) (by omega)
    · have hc := of_decide_eq_false hc
      rw [if_neg (by omega)]
theorem l1_tot {f0 : List (List C) → List (List C)} (h : Sub0 L N a f0) {M : Nat} (hM : M ≤ 50000) (hM1 : 1 ≤ M) (hl : Nds N l) (hmu : l.length + miss l N.length ≤ M) : Tot (fun n p q => orielref16_leads_l1 (lv n) n L N (gi a 0) (gr a 1) (gr a 2) l p) (fun r => r = stR f0 (M + 1) 0 l) := by
  have hs := h.s
  refine Tot.step0 (fun k p_ q_ => orielref16_leads_l1_q (lv k) k L N (gi a 0) (gr a 1) (gr a 2) l p_ ) ?_
  unfold stR
  refine Tot.cond (fun hc => ?_) (fun hc => Tot.ret ?_)
  · have hc := of_decide_eq_true hc
    have hc' : 0 < l.length := by omega
    obtain ⟨v1, v2⟩ := h.v _ (nds_one hl hc')
    rw [if_pos hc', drop_one hc']
    repeat (refine Tot.t (decide_eq_true (by omega)) ?_)
    refine Tot.bind (h.f _ (nds_one hl hc')) fun r hr => ?_
    subst hr
    refine Tot.in1 (l3_tot (w := l) (m := f0 [l.getD 0 []]) (i := 0) (by omega) ?_ _ 0 _ rfl (Nat.zero_le _) rfl)
    rw [wrap_id (x := ((0 : Nat) : Int) + 1) (by omega) (by omega), show ((0 : Nat) : Int) + 1 = ((1 : Nat) : Int) from rfl]
    exact l6_tot h hM M 1 _ (foldl_nds hl v1) (Nat.le_trans (mu_foldl v1) hmu) hM1 (by omega)
  · have hc := of_decide_eq_false hc
    rw [if_neg (by omega)]
end
-- Class
section
variable {L N : List (List C)}
def LD (L N : List (List C)) (a : List C) (l r : List (List C)) : Prop := ∀ a', Alike true a a' → Tot (fun k _ _ => (lv k).orielref16_leads L N (gi a' 0) (gr a' 1) (gr a' 2) l) (fun x => x = r)
def HD (L N : List (List C)) (f : List C) (n : Int) (b : Bool) : Prop := ∀ f', Alike false f f' → Tot (fun k _ _ => (lv k).orielref16_Holds L N (gi f' 0) (gs f' 1) (gs f' 2) (gs f' 3) (gr f' 4) (gr f' 5) n) (fun x => x = b)
def LQ (L N : List (List C)) (d : Nat) (a : List C) (l r : List (List C)) : Prop := LD L N a l r ∧ Nds N r ∧ r.length ≤ l.length + 41 * sz d true a
theorem miss_mu {l : List (List C)} (h : WOk L N) : l.length + miss l N.length ≤ l.length + 40 := by
  have := miss_n l N.length
  have := h.nl
  omega
theorem stR_nds {f0 : List (List C) → List (List C)} (hv : ∀ x : List C, Nds N [x] → Nds N (f0 [x])) : ∀ (k i : Nat) (o : List (List C)), Nds N o → Nds N (stR f0 k i o) := by
  intro k
  induction k with
  | zero => intro i o ho; exact ho
  | succ k ih =>
    intro i o ho
    unfold stR
    split
    · rename_i hi
      exact ih _ _ (foldl_nds ho (hv _ (nds_one ho hi)))
    · exact ho
theorem stR_mu {f0 : List (List C) → List (List C)} (hv : ∀ x : List C, Nds N [x] → Nds N (f0 [x])) : ∀ (k i : Nat) (o : List (List C)), Nds N o → (stR f0 k i o).length + miss (stR f0 k i o) N.length ≤ o.length + miss o N.length := by
  intro k
  induction k with
  | zero => intro i o ho; exact Nat.le_refl _
  | succ k ih =>
    intro i o ho
    unfold stR
    split
    · rename_i hi
      have h1 := hv _ (nds_one ho hi)
      exact Nat.le_trans (ih _ _ (foldl_nds ho h1)) (mu_foldl h1)
    · exact Nat.le_refl _
theorem altR_nds {fs : Nat → List (List C)} {w : List (List C)} (hw : Nds N w) : ∀ n, (∀ i, i < n → Nds N (fs i)) → Nds N (altR fs w n) := by
  intro n
  induction n with
  | zero => intro _; exact hw
  | succ n ih => intro hf; exact foldl_nds (ih fun i hi => hf i (by omega)) (hf n (by omega))
theorem altR_mu {fs : Nat → List (List C)} {w : List (List C)} : ∀ n, (∀ i, i < n → Nds N (fs i)) → (altR fs w n).length + miss (altR fs w n) N.length ≤ w.length + miss w N.length := by
  intro n
  induction n with
  | zero => intro _; exact Nat.le_refl _
  | succ n ih => intro hf; exact Nat.le_trans (mu_foldl (hf n (by omega))) (ih fun i hi => hf i (by omega))
theorem gst_nds {op : Int} {ff nf : Int → Int} {ht : Int → Bool} (hf : ∀ n : Int, 0 ≤ n → n < N.length → Nd N (ff n)) (hn : ∀ n : Int, 0 ≤ n → n < N.length → Nd N (nf n)) {l : List (List C)} (hl : Nds N l) : Nds N (l.flatMap (gst op ff nf ht)) := by
  intro r hr
  obtain ⟨x, hx, hrx⟩ := List.mem_flatMap.1 hr
  obtain ⟨y, rfl, y0, y1⟩ := hl x hx
  have e : gi [C.int .i64 y] 0 = y := rfl
  unfold gst at hrx
  rw [e] at hrx
  split at hrx
  · split at hrx
    · rename_i h0
      rcases hf y y0 y1 with h | h
      · omega
      · rw [List.mem_singleton.1 hrx]; exact ⟨_, rfl, h⟩
    · cases hrx
  · split at hrx
    · split at hrx
      · rename_i h0
        rcases hn y y0 y1 with h | h
        · omega
        · rw [List.mem_singleton.1 hrx]; exact ⟨_, rfl, h⟩
      · cases hrx
    · split at hrx
      · split at hrx
        · rw [List.mem_singleton.1 hrx]; exact ⟨_, rfl, y0, y1⟩
        · cases hrx
      · cases hrx
/-- what the parts lead to gives what the path leads to -/
theorem class_path (h : WOk L N) {d : Nat} (hd : d + 1 ≤ 16) {a : List C} (ha : ok (d + 1) true a)
    (ihp : ∀ i, i < (gr a 1).length → ∀ l, Nds N l → l.length + 41 * sz d true ((gr a 1).getD i []) ≤ 10000 → ∃ r, LQ L N d ((gr a 1).getD i []) l r)
    (ihf : ∀ i, i < (gr a 2).length → ∀ n : Int, 0 ≤ n → n < N.length → ∃ b, HD L N ((gr a 2).getD i []) n b)
    {l : List (List C)} (hl : Nds N l) (hb : l.length + 41 * sz (d + 1) true a ≤ 10000) : ∃ r, LQ L N (d + 1) a l r := by
  obtain ⟨h1, h7, h45, h6, h77, ht1, h64, h0, h9, h10⟩ := ha
  have esz : sz (d + 1) true a = 1 + ((gr a 1).map (sz d true)).sum + ((gr a 2).map (sz d false)).sum := rfl
  have hsz : 1 ≤ sz (d + 1) true a := by omega
  have hsub : ∀ i, i < (gr a 1).length → sz d true ((gr a 1).getD i []) + 1 ≤ sz (d + 1) true a := fun i hi => by
    have := sz_sub (f := sz d true) hi
    omega
  have hN := h.nl
  have hmu := miss_mu (l := l) h
  -- the parts as functions
  obtain ⟨fs, hfs⟩ : ∃ fs : Nat → List (List C) → List (List C), ∀ i, i < (gr a 1).length → ∀ l, Nds N l → l.length + 41 * sz d true ((gr a 1).getD i []) ≤ 10000 → LQ L N d ((gr a 1).getD i []) l (fs i l) := by
    have : ∀ i : Nat, ∃ f : List (List C) → List (List C), i < (gr a 1).length → ∀ l, Nds N l → l.length + 41 * sz d true ((gr a 1).getD i []) ≤ 10000 → LQ L N d ((gr a 1).getD i []) l (f l) := fun i => by
      by_cases hi : i < (gr a 1).length
      · have : ∀ l, ∃ r, Nds N l → l.length + 41 * sz d true ((gr a 1).getD i []) ≤ 10000 → LQ L N d ((gr a 1).getD i []) l r := fun l => by
          by_cases hq : Nds N l ∧ l.length + 41 * sz d true ((gr a 1).getD i []) ≤ 10000
          · obtain ⟨r, hr⟩ := ihp i hi l hq.1 hq.2
            exact ⟨r, fun _ _ => hr⟩
          · exact ⟨[], fun x y => absurd ⟨x, y⟩ hq⟩
        obtain ⟨f, hf⟩ := Classical.axiomOfChoice this
        exact ⟨f, fun _ => hf⟩
      · exact ⟨fun _ => [], fun e => absurd e hi⟩
    exact Classical.axiomOfChoice this
  have al : ∀ {a'}, Alike true a a' → gi a' 0 = gi a 0 ∧ (gr a' 1).length = (gr a 1).length ∧ (gr a' 2).length = (gr a 2).length ∧ (∀ i, i < (gr a 1).length → Alike true ((gr a 1).getD i []) ((gr a' 1).getD i [])) ∧ (∀ i, i < (gr a 2).length → Alike false ((gr a 2).getD i []) ((gr a' 2).getD i [])) := fun hA => by
    cases hA with
    | path e1 e2 e3 e4 e5 => exact ⟨e1.symm, e2.symm, e3.symm, e4, e5⟩
  by_cases e1 : gi a 0 = 1
  · refine ⟨l, fun a' hA => ?_, hl, by omega⟩
    obtain ⟨k1, _⟩ := al hA
    refine orielref16_leads_up _ _ _ _ _ _ (Tot.congr ?_ (fun k _ _ => orielref16_leads_q (lv k) k L N (gi a' 0) (gr a' 1) (gr a' 2) l))
    exact Tot.t (by rw [k1, e1]; rfl) (Tot.ret rfl)
  by_cases e4 : gi a 0 = 4
  · -- one behind the other
    let st : Nat → List (List C) := fun i => Nat.rec l (fun i w => fs i w) i
    have hst : ∀ i, i ≤ (gr a 1).length → Nds N (st i) ∧ (st i).length ≤ l.length + 41 * (((gr a 1).take i).map (sz d true)).sum := by
      intro i
      induction i with
      | zero => intro _; exact ⟨hl, by show l.length ≤ _; omega⟩
      | succ i ih =>
        intro hi
        obtain ⟨q1, q2⟩ := ih (by omega)
        have hs1 := sum_take (gr a 1) (sz d true) i [] (by omega)
        have hs2 : (((gr a 1).take (i + 1)).map (sz d true)).sum ≤ ((gr a 1).map (sz d true)).sum := by
          have := List.take_append_drop (i + 1) ((gr a 1).map (sz d true))
          have h2 : ((gr a 1).map (sz d true)).sum = (((gr a 1).map (sz d true)).take (i + 1)).sum + (((gr a 1).map (sz d true)).drop (i + 1)).sum := by rw [← List.sum_append, this]
          rw [List.map_take]
          omega
        have hs3 : ((gr a 1).map (sz d true)).sum + 1 ≤ sz (d + 1) true a := by omega
        obtain ⟨_, p2, p3⟩ := hfs i (by omega) (st i) q1 (by omega)
        exact ⟨p2, by show (fs i (st i)).length ≤ _; rw [hs1]; omega⟩
    refine ⟨st (gr a 1).length, fun a' hA => ?_, (hst _ (Nat.le_refl _)).1, ?_⟩
    · obtain ⟨k1, k2, k3, k4, k5⟩ := al hA
      refine orielref16_leads_up _ _ _ _ _ _ (Tot.congr ?_ (fun k _ _ => orielref16_leads_q (lv k) k L N (gi a' 0) (gr a' 1) (gr a' 2) l))
      refine Tot.f (by rw [k1]; exact beq_false_of_ne e1) (Tot.t (by rw [k1, e4]; rfl) ?_)
      refine Tot.in0 (Tot.loop (H := fun k p q v w => orielref16_leads_l0 (lv k) k L N (gi a' 0) (gr a' 1) (gr a' 2) l p w v) (n := (gr a 1).length) (fun i w => w = st i) (by omega) (fun w hw => ?_) (fun i w hi hw next => ?_) _ 0 l rfl (Nat.zero_le _) rfl)
      · refine Tot.step0 (fun k p_ q_ => orielref16_leads_l0_q (lv k) k L N (gi a' 0) (gr a' 1) (gr a' 2) l p_ _ _) ?_
        exact Tot.f (decide_eq_false (by omega)) (Tot.ret hw)
      · subst hw
        have hs1 := sum_take (gr a 1) (sz d true) i [] hi
        obtain ⟨q1, q2⟩ := hst i (by omega)
        have hs2 : (((gr a 1).take (i + 1)).map (sz d true)).sum ≤ ((gr a 1).map (sz d true)).sum := by
          have := List.take_append_drop (i + 1) ((gr a 1).map (sz d true))
          have h2 : ((gr a 1).map (sz d true)).sum = (((gr a 1).map (sz d true)).take (i + 1)).sum + (((gr a 1).map (sz d true)).drop (i + 1)).sum := by rw [← List.sum_append, this]
          rw [List.map_take]
          omega
        have hs3 : ((gr a 1).map (sz d true)).sum + 1 ≤ sz (d + 1) true a := by omega
        obtain ⟨p1, _, _⟩ := hfs i hi (st i) q1 (by omega)
        refine Tot.step0 (fun k p_ q_ => orielref16_leads_l0_q (lv k) k L N (gi a' 0) (gr a' 1) (gr a' 2) l p_ _ _) ?_
        rw [Int.toNat_natCast]
        repeat (refine Tot.t (decide_eq_true (by omega)) ?_)
        refine Tot.bind (p1 _ (k4 i hi)) fun r hr => ?_
        subst hr
        exact next _ rfl
    · have := (hst _ (Nat.le_refl _)).2
      rw [List.take_length] at this
      omega
  by_cases e6 : gi a 0 = 6
  · have hs := h6 e6
    have h0s := hsub 0 (by omega)
    have hv : ∀ x : List C, Nds N [x] → Nds N (fs 0 [x]) := fun x hx => (hfs 0 (by omega) [x] hx (by rw [List.length_singleton]; omega)).2.1
    refine ⟨stR (fs 0) (l.length + 40 + 1) 0 l, fun a' hA => ?_, stR_nds hv _ _ _ hl, ?_⟩
    · obtain ⟨k1, k2, k3, k4, k5⟩ := al hA
      have S : Sub0 L N a' (fs 0) := ⟨by omega, fun x hx => (hfs 0 (by omega) [x] hx (by rw [List.length_singleton]; omega)).1 _ (k4 0 (by omega)), fun x hx => ⟨hv x hx, by
        have := (hfs 0 (by omega) [x] hx (by rw [List.length_singleton]; omega)).2.2
        rw [List.length_singleton] at this
        omega⟩⟩
      refine orielref16_leads_up _ _ _ _ _ _ (Tot.congr ?_ (fun k _ _ => orielref16_leads_q (lv k) k L N (gi a' 0) (gr a' 1) (gr a' 2) l))
      refine Tot.f (by rw [k1]; exact beq_false_of_ne e1) (Tot.f (by rw [k1]; exact beq_false_of_ne e4) (Tot.t (by rw [k1, e6]; rfl) (Tot.t (roomy_of bytes3 (by omega)) ?_)))
      exact Tot.in0 (l1_tot S (M := l.length + 40) (by omega) (by omega) hl hmu)
    · have := stR_mu hv (l.length + 40 + 1) 0 l hl
      omega
  -- a step, or alternatives
  obtain ⟨ff, hff⟩ := first_fun h
  obtain ⟨nf, hnf⟩ := next_fun h
  obtain ⟨ht, hht⟩ : ∃ ht : Int → Bool, gi a 0 = 7 → ∀ n : Int, 0 ≤ n → n < N.length → HD L N ((gr a 2).getD 0 []) n (ht n) := by
    by_cases e7 : gi a 0 = 7
    · have hl2 := h77.1 e7
      have : ∀ n : Int, ∃ b : Bool, 0 ≤ n → n < N.length → HD L N ((gr a 2).getD 0 []) n b := fun n => by
        by_cases hn : 0 ≤ n ∧ n < N.length
        · obtain ⟨b, hb⟩ := ihf 0 (by omega) n hn.1 hn.2
          exact ⟨b, fun _ _ => hb⟩
        · exact ⟨false, fun x y => absurd ⟨x, y⟩ hn⟩
      obtain ⟨f, hf⟩ := Classical.axiomOfChoice this
      exact ⟨f, fun _ => hf⟩
    · exact ⟨fun _ => false, fun e => absurd e e7⟩
  have hg := gst_nds (op := gi a 0) (ht := ht) (fun n x y => (hff n x y).2) (fun n x y => (hnf n x y).2) hl
  have hgl := gsts_len (op := gi a 0) (ff := ff) (nf := nf) (ht := ht) (m := l)
  have hfl : ∀ i, i < (gr a 1).length → Nds N (fs i l) ∧ (fs i l).length ≤ 20000 := fun i hi => by
    have := hsub i hi
    obtain ⟨_, p2, p3⟩ := hfs i hi l hl (by omega)
    exact ⟨p2, by omega⟩
  have hal : ∀ w : List (List C), Nds N w → w.length ≤ l.length → ∀ i, i ≤ (gr a 1).length → (altR (fun i => fs i l) w i).length ≤ l.length + 40 := fun w _ hw i hi => by
    have h1 := altR_mu (N := N) (fs := fun i => fs i l) (w := w) i (fun j hj => (hfl j (by omega)).1)
    have h2 := miss_n w N.length
    omega
  refine ⟨altR (fun i => fs i l) (l.flatMap (gst (gi a 0) ff nf ht)) (gr a 1).length, fun a' hA => ?_, altR_nds hg _ (fun i hi => (hfl i hi).1), ?_⟩
  · obtain ⟨k1, k2, k3, k4, k5⟩ := al hA
    have S : St1 L N a' ff nf ht := ⟨fun n x y => (hff n x y).1, fun n x y => (hnf n x y).1, fun e7 => by
      rw [k1] at e7
      have hl2 := h77.1 e7
      exact ⟨by omega, fun n x y => hht e7 n x y _ (k5 0 (by omega))⟩⟩
    have hf' : ∀ i, i < (gr a' 1).length → Tot (fun k _ _ => (lv k).orielref16_leads L N (gi ((gr a' 1).getD i []) 0) (gr ((gr a' 1).getD i []) 1) (gr ((gr a' 1).getD i []) 2) l) (fun r => r = fs i l) := fun i hi => by
      have := hsub i (by omega)
      exact (hfs i (by omega) l hl (by omega)).1 _ (k4 i (by omega))
    have hlen' : ∀ w : List (List C), Nds N w → w.length ≤ l.length → ∀ i, i < (gr a' 1).length → (altR (fun i => fs i l) w i).length + (fs i l).length ≤ 100000 := fun w hw hwl i hi => by
      have := hal w hw hwl i (by omega)
      have := (hfl i (by omega)).2
      omega
    refine orielref16_leads_up _ _ _ _ _ _ (Tot.congr ?_ (fun k _ _ => orielref16_leads_q (lv k) k L N (gi a' 0) (gr a' 1) (gr a' 2) l))
    refine Tot.f (by rw [k1]; exact beq_false_of_ne e1) (Tot.f (by rw [k1]; exact beq_false_of_ne e4) (Tot.f (by rw [k1]; exact beq_false_of_ne e6) ?_))
    rw [← k1, ← k2]
    rw [← k1] at hg hgl
    exact Tot.in0 (l2_tot S hl (by omega) (l13_tot (fs := fun i => fs i l) (by omega) hf' (hlen' _ hg hgl) _ 0 _ rfl (Nat.zero_le _) rfl)
      (fun e => by
        rw [e]
        exact l5_tot (fs := fun i => fs i l) (by omega) hf' (hlen' _ (fun r hr => by cases hr) (Nat.zero_le _)) _ 0 () rfl (Nat.zero_le _) rfl) _ 0 () rfl (Nat.zero_le _) rfl)
  · have := hal _ hg hgl _ (Nat.le_refl _)
    omega
end
-- ClsF
section
variable {L N : List (List C)}
/-- an attribute that does -/
def Aok (ea : List (List C)) (op : Int) (n1 n2 v : ByteArray) (j : Nat) : Prop := (gs (ea.getD j []) 0 = n1 ∧ gs (ea.getD j []) 1 = n2) ∧ (op = 5 ∨ gs (ea.getD j []) 2 = v)
open Classical in
theorem class_step (h : WOk L N) (hA : ∀ i, (gr (L.getD i []) 3).length ≤ 1048576) {d : Nat} {f : List C} (hf : ok (d + 1) false f) {n : Int} (n0 : 0 ≤ n) (n1 : n < N.length) {bs : Nat → Bool}
    (hbs : ∀ i, i < (gr f 4).length → HD L N ((gr f 4).getD i []) n (bs i)) {rr : Nat → List (List C)} (hrr : ∀ i, i < (gr f 5).length → LD L N ((gr f 5).getD i []) [[C.int .i64 n]] (rr i))
    {ev : List C} (hE : L.getD (gi (N.getD n.toNat []) 0).toNat [] = ev) : HD L N f n (fval (gi ev 0) (gs ev 1) (gs ev 2) (gs ev 4) f bs (decide (((rr 0).length : Int) > 0)) (decide (gi ev 0 = 1 ∧ ∃ j, j < (gr ev 3).length ∧ Aok (gr ev 3) (gi f 0) (gs f 1) (gs f 2) (gs f 3) j))) := by
  obtain ⟨h1, h11, h8, h64, h910, h0, h511, h51, h9, h10⟩ := hf
  have hp := h.pl n.toNat (by omega)
  have al : ∀ {f'}, Alike false f f' → gi f' 0 = gi f 0 ∧ gs f' 1 = gs f 1 ∧ gs f' 2 = gs f 2 ∧ gs f' 3 = gs f 3 ∧ (gr f' 4).length = (gr f 4).length ∧ (gr f' 5).length = (gr f 5).length ∧ (∀ i, i < (gr f 4).length → Alike false ((gr f 4).getD i []) ((gr f' 4).getD i [])) ∧ (∀ i, i < (gr f 5).length → Alike true ((gr f 5).getD i []) ((gr f' 5).getD i [])) := fun hA => by
    cases hA with
    | filter e1 e2 e3 e4 e5 e6 e7 e8 => exact ⟨e1.symm, e2.symm, e3.symm, e4.symm, e5.symm, e6.symm, e7, e8⟩
  have hAe := hA (gi (N.getD n.toNat []) 0).toNat
  rw [hE] at hAe
  have up : ∀ {f'} {Q}, Tot _ Q → Tot (fun k _ _ => (lv k).orielref16_Holds L N (gi f' 0) (gs f' 1) (gs f' 2) (gs f' 3) (gr f' 4) (gr f' 5) n) Q := fun {f'} {Q} hq => orielref16_Holds_up _ _ _ _ _ _ _ _ _ (Tot.congr hq (fun k _ _ => orielref16_Holds_q (lv k) k L N (gi f' 0) (gs f' 1) (gs f' 2) (gs f' 3) (gr f' 4) (gr f' 5) n))
  have hop : gi f 0 = 1 ∨ gi f 0 = 2 ∨ gi f 0 = 3 ∨ gi f 0 = 4 ∨ (gi f 0 = 5 ∨ gi f 0 = 6) ∨ gi f 0 = 7 ∨ gi f 0 = 8 ∨ (gi f 0 = 9 ∨ gi f 0 = 10) ∨ gi f 0 = 11 := by omega
  rcases hop with e_ | e_ | e_ | e_ | e_ | e_ | e_ | e_ | e_
  · rw [show fval (gi ev 0) (gs ev 1) (gs ev 2) (gs ev 4) f bs (decide (((rr 0).length : Int) > 0)) (decide (gi ev 0 = 1 ∧ ∃ j, j < (gr ev 3).length ∧ Aok (gr ev 3) (gi f 0) (gs f 1) (gs f 2) (gs f 3) j)) = (true) from by unfold fval; rw [e_]; rfl]
    refine fun f' hA => up ?_
    rw [hE, (al hA).1, e_]
    repeat (refine Tot.t (decide_eq_true (by omega)) ?_)
    repeat (first | refine Tot.t (by rfl) ?_ | refine Tot.f (by rfl) ?_)
    exact Tot.ret rfl
  · rw [show fval (gi ev 0) (gs ev 1) (gs ev 2) (gs ev 4) f bs (decide (((rr 0).length : Int) > 0)) (decide (gi ev 0 = 1 ∧ ∃ j, j < (gr ev 3).length ∧ Aok (gr ev 3) (gi f 0) (gs f 1) (gs f 2) (gs f 3) j)) = (gi ev 0 == 1) from by unfold fval; rw [e_]; rfl]
    refine fun f' hA => up ?_
    rw [hE, (al hA).1, e_]
    repeat (refine Tot.t (decide_eq_true (by omega)) ?_)
    repeat (first | refine Tot.t (by rfl) ?_ | refine Tot.f (by rfl) ?_)
    exact Tot.ret rfl
  · rw [show fval (gi ev 0) (gs ev 1) (gs ev 2) (gs ev 4) f bs (decide (((rr 0).length : Int) > 0)) (decide (gi ev 0 = 1 ∧ ∃ j, j < (gr ev 3).length ∧ Aok (gr ev 3) (gi f 0) (gs f 1) (gs f 2) (gs f 3) j)) = (!(gi ev 0 == 1)) from by unfold fval; rw [e_]; rfl]
    refine fun f' hA => up ?_
    rw [hE, (al hA).1, e_]
    repeat (refine Tot.t (decide_eq_true (by omega)) ?_)
    repeat (first | refine Tot.t (by rfl) ?_ | refine Tot.f (by rfl) ?_)
    exact Tot.ret rfl
  · rw [show fval (gi ev 0) (gs ev 1) (gs ev 2) (gs ev 4) f bs (decide (((rr 0).length : Int) > 0)) (decide (gi ev 0 = 1 ∧ ∃ j, j < (gr ev 3).length ∧ Aok (gr ev 3) (gi f 0) (gs f 1) (gs f 2) (gs f 3) j)) = ((gi ev 0 == 1) && ((gs ev 1 == gs f 1) && ((gs ev 2 == gs f 2) && true))) from by unfold fval; rw [e_]; rfl]
    refine fun f' hA => up ?_
    obtain ⟨k1, k2, k3, _⟩ := al hA
    rw [hE, k1, e_, k2, k3]
    repeat (refine Tot.t (decide_eq_true (by omega)) ?_)
    repeat (first | refine Tot.t (by rfl) ?_ | refine Tot.f (by rfl) ?_)
    exact Tot.cond (fun g => Tot.ret (by rw [g]; rfl)) (fun g => Tot.ret (by rw [g]; rfl))
  · have loop : ∀ f', Alike false f f' → Tot (fun k p q => orielref16_Holds_l0 (lv k) k L N (gi f' 0) (gs f' 1) (gs f' 2) (gs f' 3) (gr f' 4) (gr f' 5) n k 0) (fun r => r = decide (gi ev 0 = 1 ∧ ∃ j, j < (gr ev 3).length ∧ Aok (gr ev 3) (gi f 0) (gs f 1) (gs f 2) (gs f 3) j)) := fun f' hAl => by
      obtain ⟨k1, k2, k3, k4, _⟩ := al hAl
      rw [k1, k2, k3, k4]
      refine Tot.in0 (Tot.loop (H := fun k p q v (_ : Unit) => orielref16_Holds_l0 (lv k) k L N (gi f 0) (gs f 1) (gs f 2) (gs f 3) (gr f' 4) (gr f' 5) n p v) (n := (gr ev 3).length) (fun i _ => ¬ (gi ev 0 = 1 ∧ ∃ j, j < i ∧ Aok (gr ev 3) (gi f 0) (gs f 1) (gs f 2) (gs f 3) j)) (by omega) (fun _ hh => ?_) (fun i _ hi hh next => ?_) _ 0 () rfl (by omega) (fun ⟨_, j, hj, _⟩ => by omega))
      · refine Tot.step0 (fun k p_ q_ => orielref16_Holds_l0_q (lv k) k L N (gi f 0) (gs f 1) (gs f 2) (gs f 3) (gr f' 4) (gr f' 5) n p_ _) ?_
        rw [hE]
        exact Tot.f (decide_eq_false (by omega)) (Tot.ret (decide_eq_false hh).symm)
      · have no : ¬ (gi ev 0 = 1 ∧ Aok (gr ev 3) (gi f 0) (gs f 1) (gs f 2) (gs f 3) i) → Tot (fun k p q => orielref16_Holds_l0 (lv k) k L N (gi f 0) (gs f 1) (gs f 2) (gs f 3) (gr f' 4) (gr f' 5) n p (IntKind.i64.wrap ((i : Int) + 1))) (fun r => r = decide (gi ev 0 = 1 ∧ ∃ j, j < (gr ev 3).length ∧ Aok (gr ev 3) (gi f 0) (gs f 1) (gs f 2) (gs f 3) j)) := fun hn => next () fun ⟨g1, j, hj, g2⟩ => by
          rcases Nat.lt_or_ge j i with g | g
          · exact hh ⟨g1, j, g, g2⟩
          · rw [show j = i by omega] at g2
            exact hn ⟨g1, g2⟩
        have yes : gi ev 0 = 1 → Aok (gr ev 3) (gi f 0) (gs f 1) (gs f 2) (gs f 3) i → true = decide (gi ev 0 = 1 ∧ ∃ j, j < (gr ev 3).length ∧ Aok (gr ev 3) (gi f 0) (gs f 1) (gs f 2) (gs f 3) j) := fun g1 g2 => (decide_eq_true ⟨g1, i, hi, g2⟩).symm
        refine Tot.step0 (fun k p_ q_ => orielref16_Holds_l0_q (lv k) k L N (gi f 0) (gs f 1) (gs f 2) (gs f 3) (gr f' 4) (gr f' 5) n p_ _) ?_
        rw [hE, Int.toNat_natCast]
        repeat (refine Tot.t (decide_eq_true (by omega)) ?_)
        refine Tot.cond (fun c1 => ?_) (fun c1 => no fun g => ne_of_beq_false c1 g.1)
        have c1 : gi ev 0 = 1 := eq_of_beq c1
        repeat (refine Tot.t (decide_eq_true (by omega)) ?_)
        refine Tot.cond (fun c2 => ?_) (fun c2 => no fun g => by rw [name_eq.2 g.2.1] at c2; cases c2)
        have c2 := name_eq.1 c2
        refine Tot.cond (fun c3 => Tot.ret (yes c1 ⟨c2, .inl (eq_of_beq c3)⟩)) (fun c3 => ?_)
        have c3 := ne_of_beq_false c3
        repeat (refine Tot.t (decide_eq_true (by omega)) ?_)
        refine Tot.cond (fun c4 => Tot.ret (yes c1 ⟨c2, .inr (str_eq.1 c4)⟩)) (fun c4 => no fun g => ?_)
        rcases g.2.2 with g | g
        · exact c3 g
        · rw [str_eq.2 g] at c4; cases c4
    rw [show fval (gi ev 0) (gs ev 1) (gs ev 2) (gs ev 4) f bs (decide (((rr 0).length : Int) > 0)) (decide (gi ev 0 = 1 ∧ ∃ j, j < (gr ev 3).length ∧ Aok (gr ev 3) (gi f 0) (gs f 1) (gs f 2) (gs f 3) j)) = (decide (gi ev 0 = 1 ∧ ∃ j, j < (gr ev 3).length ∧ Aok (gr ev 3) (gi f 0) (gs f 1) (gs f 2) (gs f 3) j)) from by unfold fval; rcases e_ with e_ | e_ <;> rw [e_] <;> rfl]
    refine fun f' hAl => up ?_
    obtain ⟨k1, _⟩ := al hAl
    have lp := loop f' hAl
    rw [k1] at lp ⊢
    repeat (refine Tot.t (decide_eq_true (by omega)) ?_)
    rcases e_ with e_ | e_
    · rw [e_] at lp ⊢
      repeat (first | refine Tot.t (by rfl) ?_ | refine Tot.f (by rfl) ?_)
      exact lp
    · rw [e_] at lp ⊢
      repeat (first | refine Tot.t (by rfl) ?_ | refine Tot.f (by rfl) ?_)
      exact lp
  · rw [show fval (gi ev 0) (gs ev 1) (gs ev 2) (gs ev 4) f bs (decide (((rr 0).length : Int) > 0)) (decide (gi ev 0 = 1 ∧ ∃ j, j < (gr ev 3).length ∧ Aok (gr ev 3) (gi f 0) (gs f 1) (gs f 2) (gs f 3) j)) = (!(gi ev 0 == 1) && ((gs ev 4).toList == (gs f 3).toList)) from by unfold fval; rw [e_]; rfl]
    refine fun f' hA => up ?_
    obtain ⟨k1, k2, k3, k4, _⟩ := al hA
    rw [hE, k1, e_, k4]
    repeat (refine Tot.t (decide_eq_true (by omega)) ?_)
    repeat (first | refine Tot.t (by rfl) ?_ | refine Tot.f (by rfl) ?_)
    exact Tot.cond (fun g => Tot.ret (by rw [g]; rfl)) (fun g => Tot.ret (by rw [g]; rfl))
  · have hl := h8 e_
    rw [show fval (gi ev 0) (gs ev 1) (gs ev 2) (gs ev 4) f bs (decide (((rr 0).length : Int) > 0)) (decide (gi ev 0 = 1 ∧ ∃ j, j < (gr ev 3).length ∧ Aok (gr ev 3) (gi f 0) (gs f 1) (gs f 2) (gs f 3) j)) = (!(bs 0)) from by unfold fval; rw [e_]; rfl]
    refine fun f' hA => up ?_
    obtain ⟨k1, k2, k3, k4, k5, k6, k7, k8⟩ := al hA
    rw [k1, e_]
    repeat (refine Tot.t (decide_eq_true (by omega)) ?_)
    repeat (first | refine Tot.t (by rfl) ?_ | refine Tot.f (by rfl) ?_)
    repeat (refine Tot.t (decide_eq_true (by omega)) ?_)
    exact Tot.bind (hbs 0 (by omega) _ (k7 0 (by omega))) fun r hr => Tot.ret (by rw [hr])
  · rw [show fval (gi ev 0) (gs ev 1) (gs ev 2) (gs ev 4) f bs (decide (((rr 0).length : Int) > 0)) (decide (gi ev 0 = 1 ∧ ∃ j, j < (gr ev 3).length ∧ Aok (gr ev 3) (gi f 0) (gs f 1) (gs f 2) (gs f 3) j)) = (if gi f 0 = 10 then decide (∃ j, j < (gr f 4).length ∧ bs j = true) else decide (∀ j, j < (gr f 4).length → bs j = true)) from by unfold fval; rcases e_ with e_ | e_ <;> rw [e_] <;> rfl]
    refine fun f' hA => up ?_
    obtain ⟨k1, k2, k3, k4, k5, k6, k7, k8⟩ := al hA
    have lp : Tot (fun k p q => orielref16_Holds_l1 (lv k) k L N (gi f 0) (gs f' 1) (gs f' 2) (gs f' 3) (gr f' 4) (gr f' 5) n k 0) (fun r => r = if gi f 0 = 10 then decide (∃ j, j < (gr f 4).length ∧ bs j = true) else decide (∀ j, j < (gr f 4).length → bs j = true)) := by
      refine Tot.in0 (Tot.loop (H := fun k p q v (_ : Unit) => orielref16_Holds_l1 (lv k) k L N (gi f 0) (gs f' 1) (gs f' 2) (gs f' 3) (gr f' 4) (gr f' 5) n p v) (n := (gr f 4).length) (fun i _ => ∀ j, j < i → bs j = !(gi f 0 == 10)) (by omega) (fun _ hh => ?_) (fun i _ hi hh next => ?_) _ 0 () rfl (by omega) (fun j hj => by omega))
      · refine Tot.step0 (fun k p_ q_ => orielref16_Holds_l1_q (lv k) k L N (gi f 0) (gs f' 1) (gs f' 2) (gs f' 3) (gr f' 4) (gr f' 5) n p_ _) ?_
        refine Tot.f (decide_eq_false (by omega)) (Tot.ret ?_)
        rcases e_ with e_ | e_
        · rw [if_neg (by omega), e_]
          rw [e_] at hh
          exact (decide_eq_true fun j hj => hh j hj).symm
        · rw [if_pos e_, e_]
          rw [e_] at hh
          exact (decide_eq_false fun ⟨j, hj, g⟩ => by rw [hh j hj] at g; cases g).symm
      · refine Tot.step0 (fun k p_ q_ => orielref16_Holds_l1_q (lv k) k L N (gi f 0) (gs f' 1) (gs f' 2) (gs f' 3) (gr f' 4) (gr f' 5) n p_ _) ?_
        rw [Int.toNat_natCast]
        repeat (refine Tot.t (decide_eq_true (by omega)) ?_)
        refine Tot.bind (hbs i hi _ (k7 i hi)) fun r hr => ?_
        subst hr
        refine Tot.cond (fun c => Tot.ret ?_) (fun c => next () fun j hj => ?_)
        · have c := eq_of_beq c
          rcases e_ with e_ | e_
          · rw [if_neg (by omega), e_]
            rw [e_] at c
            exact (decide_eq_false fun g => by rw [g i hi] at c; cases c).symm
          · rw [if_pos e_, e_]
            rw [e_] at c
            exact (decide_eq_true ⟨i, hi, c⟩).symm
        · rcases Nat.lt_or_ge j i with g | g
          · exact hh j g
          · rw [show j = i by omega]
            revert c
            cases bs i <;> cases (gi f 0 == 10) <;> simp
    rw [k1]
    repeat (refine Tot.t (decide_eq_true (by omega)) ?_)
    rcases e_ with e_ | e_
    · rw [e_] at lp ⊢
      repeat (first | refine Tot.t (by rfl) ?_ | refine Tot.f (by rfl) ?_)
      exact lp
    · rw [e_] at lp ⊢
      repeat (first | refine Tot.t (by rfl) ?_ | refine Tot.f (by rfl) ?_)
      exact lp
  · have hl := h511.1 e_
    have hr := hrr 0 (by omega)
    rw [show fval (gi ev 0) (gs ev 1) (gs ev 2) (gs ev 4) f bs (decide (((rr 0).length : Int) > 0)) (decide (gi ev 0 = 1 ∧ ∃ j, j < (gr ev 3).length ∧ Aok (gr ev 3) (gi f 0) (gs f 1) (gs f 2) (gs f 3) j)) = (decide (((rr 0).length : Int) > 0)) from by unfold fval; rw [e_]; rfl]
    refine fun f' hA => up ?_
    obtain ⟨k1, k2, k3, k4, k5, k6, k7, k8⟩ := al hA
    rw [k1, e_]
    repeat (refine Tot.t (decide_eq_true (by omega)) ?_)
    repeat (first | refine Tot.t (by rfl) ?_ | refine Tot.f (by rfl) ?_)
    repeat (refine Tot.t (decide_eq_true (by omega)) ?_)
    exact Tot.bind (hr _ (k8 0 (by omega))) fun x hx => Tot.ret (by rw [hx])
theorem class_filter (h : WOk L N) (hA : ∀ i, (gr (L.getD i []) 3).length ≤ 1048576) {d : Nat} {f : List C} (hf : ok (d + 1) false f)
    (ihf : ∀ i, i < (gr f 4).length → ∀ n : Int, 0 ≤ n → n < N.length → ∃ b, HD L N ((gr f 4).getD i []) n b)
    (ihp : ∀ i, i < (gr f 5).length → ∀ n : Int, 0 ≤ n → n < N.length → ∃ r, LD L N ((gr f 5).getD i []) [[C.int .i64 n]] r)
    {n : Int} (n0 : 0 ≤ n) (n1 : n < N.length) : ∃ b, HD L N f n b := by
  obtain ⟨bs, hbs⟩ : ∃ bs : Nat → Bool, ∀ i, i < (gr f 4).length → HD L N ((gr f 4).getD i []) n (bs i) := by
    have : ∀ i, ∃ b, i < (gr f 4).length → HD L N ((gr f 4).getD i []) n b := fun i => by
      by_cases hi : i < (gr f 4).length
      · obtain ⟨b, hb⟩ := ihf i hi n n0 n1
        exact ⟨b, fun _ => hb⟩
      · exact ⟨false, fun h => absurd h hi⟩
    exact Classical.axiomOfChoice this
  obtain ⟨rr, hrr⟩ : ∃ rr : Nat → List (List C), ∀ i, i < (gr f 5).length → LD L N ((gr f 5).getD i []) [[C.int .i64 n]] (rr i) := by
    have : ∀ i, ∃ r, i < (gr f 5).length → LD L N ((gr f 5).getD i []) [[C.int .i64 n]] r := fun i => by
      by_cases hi : i < (gr f 5).length
      · obtain ⟨b, hb⟩ := ihp i hi n n0 n1
        exact ⟨b, fun _ => hb⟩
      · exact ⟨[], fun h => absurd h hi⟩
    exact Classical.axiomOfChoice this
  exact ⟨_, class_step h hA hf n0 n1 hbs hrr rfl⟩
end
-- ClsA
theorem class_all {L N : List (List C)} (h : WOk L N) (hA : ∀ i, (gr (L.getD i []) 3).length ≤ 1048576) : ∀ d, d ≤ 16 →
    (∀ a, ok d true a → ∀ l, Nds N l → l.length + 41 * sz d true a ≤ 10000 → ∃ r, LQ L N d a l r) ∧
    (∀ f, ok d false f → 1 + 41 * sz d false f ≤ 10000 → ∀ n : Int, 0 ≤ n → n < N.length → ∃ b, HD L N f n b) := by
  intro d
  induction d with
  | zero => intro _; exact ⟨fun a h => h.elim, fun f h => h.elim⟩
  | succ d ih =>
    intro hd
    have ih := ih (by omega)
    constructor
    · intro a ha l hl hb
      have ha' := ha
      obtain ⟨_, _, _, _, _, _, _, _, h9, h10⟩ := ha'
      have esz : sz (d + 1) true a = 1 + ((gr a 1).map (sz d true)).sum + ((gr a 2).map (sz d false)).sum := rfl
      exact class_path h hd ha (fun i hi l hl hb => ih.1 _ (h9 i hi) l hl hb) (fun i hi n n0 n1 => by
        have := sz_sub (f := sz d false) hi
        exact ih.2 _ (h10 i hi) (by omega) n n0 n1) hl hb
    · intro f hf hb n n0 n1
      have hf' := hf
      obtain ⟨_, _, _, _, _, _, _, _, h9, h10⟩ := hf'
      have esz : sz (d + 1) false f = 1 + ((gr f 4).map (sz d false)).sum + ((gr f 5).map (sz d true)).sum := rfl
      exact class_filter h hA hf (fun i hi n n0 n1 => by
        have := sz_sub (f := sz d false) hi
        exact ih.2 _ (h9 i hi) (by omega) n n0 n1) (fun i hi n n0 n1 => by
        have := sz_sub (f := sz d true) hi
        obtain ⟨r, hr⟩ := ih.1 _ (h10 i hi) [[C.int .i64 n]] (fun q hq => ⟨n, List.mem_singleton.1 hq, n0, n1⟩) (by rw [List.length_singleton]; omega)
        exact ⟨r, hr.1⟩) n0 n1
-- From
structure WI (L : List (List C)) (i : Nat) (w : List (List C)) : Prop where
  le : w.length ≤ i
  pl : ∀ j, j < w.length → 0 ≤ gi (w.getD j []) 0 ∧ gi (w.getD j []) 0 < i
  ne : ∀ m, m < i → gi (L.getD m []) 0 ≠ 3 → w ≠ []
theorem WI.skip {L w : List (List C)} {i : Nat} (h : WI L i w) (hk : gi (L.getD i []) 0 ≠ 3 → w ≠ []) : WI L (i + 1) w := ⟨by have := h.le; omega, fun j hj => by have := h.pl j hj; omega, fun m hm hm3 => by
  rcases Nat.lt_or_ge m i with g | g
  · exact h.ne m g hm3
  · rw [show m = i by omega] at hm3; exact hk hm3⟩
theorem WI.add {L w : List (List C)} {i : Nat} (h : WI L i w) : WI L (i + 1) (w ++ [[C.int .i64 (i : Int)]]) := ⟨by have := h.le; simp; omega, fun j hj => by
  rw [getD_app]
  split
  · rename_i hj'
    have := h.pl j hj'
    omega
  · have : j - w.length = 0 := by simp at hj; omega
    rw [this]
    show 0 ≤ (i : Int) ∧ (i : Int) < _
    omega, fun m _ _ => by simp⟩
theorem make16_tot (L : List (List C)) (hl : L.length ≤ 40) : Tot (fun k _ _ => (lv k).orielref16_Make L) (fun r => r.1 = L ∧ WI L L.length r.2) := by
  refine orielref16_Make_up _ (Tot.congr ?_ (fun k _ _ => orielref16_Make_q (lv k) k L))
  have l1 := Tot.loop (H := fun k p q v w => orielref16_Make_l1 (lv k) k L p v w) (Q := fun r => r.1 = L ∧ WI L L.length r.2) (n := L.length) (WI L) (by omega) (fun w h => by
    refine Tot.step0 (fun k p_ q_ => orielref16_Make_l1_q (lv k) k L p_ _ _) ?_
    exact Tot.f (decide_eq_false (by omega)) (Tot.ret ⟨rfl, h⟩)) (fun i w hi h next => by
    have hw := h.le
    refine Tot.step0 (fun k p_ q_ => orielref16_Make_l1_q (lv k) k L p_ _ _) ?_
    rw [Int.toNat_natCast]
    repeat (refine Tot.t (decide_eq_true (by omega)) ?_)
    refine Tot.cond (fun c => Tot.t (roomy_of bytes3 (by omega)) (next _ h.add)) (fun c => next _ (h.skip fun g => absurd (by simpa using c) g)))
  refine Tot.in0 (Tot.loop (H := fun k p q v (_ : Unit) => orielref16_Make_l0 (lv k) k L p v) (n := L.length) (fun i _ => WI L i []) (by omega) (fun _ h => ?_) (fun i _ hi h next => ?_) _ 0 () rfl (by omega) ⟨Nat.le_refl _, fun j hj => by simp at hj, fun m hm => by omega⟩)
  · refine Tot.step0 (fun k p_ q_ => orielref16_Make_l0_q (lv k) k L p_ _) ?_
    exact Tot.f (decide_eq_false (by omega)) (Tot.ret ⟨rfl, h⟩)
  · refine Tot.step0 (fun k p_ q_ => orielref16_Make_l0_q (lv k) k L p_ _) ?_
    rw [Int.toNat_natCast]
    repeat (refine Tot.t (decide_eq_true (by omega)) ?_)
    refine Tot.cond (fun c => ?_) (fun c => next () (h.skip fun g => absurd (by simpa using c) g))
    have := l1 _ (i + 1) _ rfl (by omega) h.add
    rw [wrap_id (x := (i : Int) + 1) (by omega) (by omega), show ((i : Int) + 1) = ((i + 1 : Nat) : Int) by omega]
    exact this
theorem WI.wok {L N : List (List C)} (hl : L.length ≤ 40) (h : WI L L.length N) : WOk L N := ⟨hl, by have := h.le; omega, fun i hi => h.pl i hi⟩
theorem from_tot {L N : List (List C)} (h : WOk L N) {a r : List (List C)} {p : List C} {n : Int} (hr : Tot (fun k _ _ => (lv k).orielref16_leads L N (gi p 0) (gr p 1) (gr p 2) [[C.int .i64 n]]) (fun x => x = r)) (hn : Nds N r) (hrl : r.length ≤ 100000) : Tot (fun k _ _ => (lv k).orielref16_From L N (gi p 0) (gr p 1) (gr p 2) n) (fun x => 0 < x.length ↔ 0 < r.length) := by
  have hN := h.nl
  refine orielref16_From_up _ _ _ _ _ _ (Tot.congr ?_ (fun k _ _ => orielref16_From_q (lv k) k L N (gi p 0) (gr p 1) (gr p 2) n))
  refine Tot.bind hr fun x hx => ?_
  subst hx
  have l1 := Tot.loop (H := fun k u q v w => orielref16_From_l1 (lv k) k L N (gi p 0) (gr p 1) (gr p 2) n u x v w) (Q := fun y => 0 < y.length ↔ 0 < x.length) (n := N.length) (fun i w => 0 < w.length ∧ w.length ≤ i ∧ 0 < x.length) (by omega) (fun w hw => by
    refine Tot.step0 (fun k p_ q_ => orielref16_From_l1_q (lv k) k L N (gi p 0) (gr p 1) (gr p 2) n p_ _ _ _) ?_
    exact Tot.f (decide_eq_false (by omega)) (Tot.ret ⟨fun _ => hw.2.2, fun _ => hw.1⟩)) (fun i w hi hw next => by
    refine Tot.step0 (fun k p_ q_ => orielref16_From_l1_q (lv k) k L N (gi p 0) (gr p 1) (gr p 2) n p_ _ _ _) ?_
    repeat (refine Tot.t (decide_eq_true (by omega)) ?_)
    refine Tot.bind (has16_tot x _ (by omega)) fun b hb => Tot.cond (fun c => Tot.t (roomy_of bytes3 (by omega)) (next _ ⟨by simp, by simp; omega, hw.2.2⟩)) (fun c => next _ ⟨hw.1, by omega, hw.2.2⟩))
  refine Tot.in0 (Tot.loop (H := fun k u q v (_ : Unit) => orielref16_From_l0 (lv k) k L N (gi p 0) (gr p 1) (gr p 2) n u x v) (n := N.length) (fun i _ => ∀ j : Nat, j < i → ¬ isI x j) (by omega) (fun _ hh => ?_) (fun i _ hi hh next => ?_) _ 0 () rfl (by omega) (fun j hj => by omega))
  · refine Tot.step0 (fun k p_ q_ => orielref16_From_l0_q (lv k) k L N (gi p 0) (gr p 1) (gr p 2) n p_ _ _) ?_
    refine Tot.f (decide_eq_false (by omega)) (Tot.ret ⟨fun e => by simp at e, fun e => ?_⟩)
    obtain ⟨q0, q1⟩ := nds_get hn e
    exact absurd ⟨0, e, by omega⟩ (hh (gi (x.getD 0 []) 0).toNat (by omega))
  · refine Tot.step0 (fun k p_ q_ => orielref16_From_l0_q (lv k) k L N (gi p 0) (gr p 1) (gr p 2) n p_ _ _) ?_
    repeat (refine Tot.t (decide_eq_true (by omega)) ?_)
    refine Tot.bind (has16_tot x _ (by omega)) fun b hb => Tot.cond (fun c => ?_) (fun c => next () fun j hj => ?_)
    · obtain ⟨j, hj, _⟩ := hb.1 c
      have := l1 _ (i + 1) [[C.int .i64 (i : Int)]] rfl (by omega) ⟨by simp, by simp, by omega⟩
      rw [wrap_id (x := (i : Int) + 1) (by omega) (by omega), show ((i : Int) + 1) = ((i + 1 : Nat) : Int) by omega]
      exact this
    · rcases Nat.lt_or_ge j i with g | g
      · exact hh j g
      · rw [show j = i by omega]
        intro hi'
        rw [hb.2 hi'] at c
        cases c
-- Law
theorem bytes5 : Try.prog.bytesOf 5 ≤ 1024 := of_decide_eq_true (by kernel_rfl)
structure OkF (f : List C) : Prop where
  ok : ok 16 false f
  sm : SmR BB f
theorem OkF.nf {f : List C} (h : OkF f) : OkF (nf f) := ⟨h.ok, fun c hc => by
  have h1 := h.ok.1
  have h2 := h.ok.2.1
  simp only [Go.Vm.T.nf, List.mem_cons, List.not_mem_nil, or_false] at hc
  rcases hc with rfl | rfl | rfl | rfl | rfl | rfl
  · exact .int _ _ (wf_i64' (by omega) (by omega))
  · exact .str _ (h.sm.gs 1)
  · exact .str _ (h.sm.gs 2)
  · exact .str _ (h.sm.gs 3)
  · exact .row _ _ (h.sm.gr 4).1 (h.sm.gr 4).2
  · exact .row _ _ (h.sm.gr 5).1 (h.sm.gr 5).2⟩
/-! the tests of a machine -/
/-! the filters of a path -/
def fl : Nat → Bool → List C → List (List C)
  | 0, _, _ => []
  | d + 1, true, a => (gr a 1).flatMap (fl d true) ++ (gr a 2).flatMap (fl d false)
  | d + 1, false, a => [nf a] ++ (gr a 4).flatMap (fl d false) ++ (gr a 5).flatMap (fl d true)
theorem fl_len : ∀ (d : Nat) (k : Bool) (a : List C), (fl d k a).length ≤ sz d k a := by
  intro d
  induction d with
  | zero => intro k a; cases k <;> exact Nat.zero_le _
  | succ d ih =>
    intro k a
    cases k with
    | true =>
      have h1 := len_flat (l := gr a 1) (f := fl d true) (g := sz d true) fun x _ => ih true x
      have h2 := len_flat (l := gr a 2) (f := fl d false) (g := sz d false) fun x _ => ih false x
      simp only [fl, List.length_append, sz]
      omega
    | false =>
      have h1 := len_flat (l := gr a 4) (f := fl d false) (g := sz d false) fun x _ => ih false x
      have h2 := len_flat (l := gr a 5) (f := fl d true) (g := sz d true) fun x _ => ih true x
      simp only [fl, List.length_append, List.length_singleton, sz]
      omega
theorem fl_ok : ∀ {d : Nat}, d ≤ 16 → ∀ {k : Bool} {a : List C}, ok d k a → SmR BB a → ∀ x, x ∈ fl d k a → OkF x := by
  intro d
  induction d with
  | zero => intro _ k a h; exact h.elim
  | succ d ih =>
    intro hd k a h hs x hx
    have ih := @ih (by omega)
    cases k with
    | true =>
      obtain ⟨_, _, _, _, _, _, _, _, h9, h10⟩ := h
      rcases List.mem_append.1 hx with hx | hx
      · obtain ⟨y, hy, hxy⟩ := List.mem_flatMap.1 hx
        obtain ⟨i, hi, rfl⟩ := mem_getD hy
        exact ih (h9 i hi) ((hs.gr 1).get i) x hxy
      · obtain ⟨y, hy, hxy⟩ := List.mem_flatMap.1 hx
        obtain ⟨i, hi, rfl⟩ := mem_getD hy
        exact ih (h10 i hi) ((hs.gr 2).get i) x hxy
    | false =>
      have hself : OkF a := ⟨ok_le hd h, hs⟩
      obtain ⟨_, _, _, _, _, _, _, _, h9, h10⟩ := h
      rcases List.mem_append.1 hx with hx | hx
      · rcases List.mem_append.1 hx with hx | hx
        · rw [List.mem_singleton.1 hx]; exact hself.nf
        · obtain ⟨y, hy, hxy⟩ := List.mem_flatMap.1 hx
          obtain ⟨i, hi, rfl⟩ := mem_getD hy
          exact ih (h9 i hi) ((hs.gr 4).get i) x hxy
      · obtain ⟨y, hy, hxy⟩ := List.mem_flatMap.1 hx
        obtain ⟨i, hi, rfl⟩ := mem_getD hy
        exact ih (h10 i hi) ((hs.gr 5).get i) x hxy
def RF (k : Bool) (a : List C) (d : Nat) : Prop := match k with
  | true => Tot (fun k _ _ => (lv k).orielref12_Filters (gi a 0) (gr a 1) (gr a 2)) (fun r => r = fl d true a)
  | false => Tot (fun k _ _ => (lv k).orielref12_within (gi a 0) (gs a 1) (gs a 2) (gs a 3) (gr a 4) (gr a 5)) (fun r => r = fl d false a)
theorem rfilters : ∀ d, d ≤ 16 → ∀ (k : Bool) (a : List C), ok d k a → (∀ e, sz e k a ≤ 64) → SmR BB a → RF k a d := by
  intro d
  induction d with
  | zero => intro _ k a h; exact h.elim
  | succ d ih =>
    intro hd k a ha hz hs
    have ih := @ih (by omega)
    have hlen := fl_len (d + 1) k a
    have hz' := hz (d + 1)
    have ha' := ha
    cases k with
    | true =>
      obtain ⟨_, _, _, _, _, _, _, _, h9, h10⟩ := ha'
      have e0 : fl (d + 1) true a = (gr a 1).flatMap (fl d true) ++ (gr a 2).flatMap (fl d false) := rfl
      show Tot _ _
      rw [e0] at hlen ⊢
      rw [List.length_append] at hlen
      have hl1 : (gr a 1).length ≤ 1048576 := (hs.gr 1).1
      have hl2 : (gr a 2).length ≤ 1048576 := (hs.gr 2).1
      refine orielref12_Filters_up _ _ _ (Tot.congr ?_ (fun k _ _ => orielref12_Filters_q (lv k) k (gi a 0) (gr a 1) (gr a 2)))
      have l3 : ∀ (i : Nat) s, i ≤ (gr a 2).length → s = (gr a 1).flatMap (fl d true) ++ ((gr a 2).take i).flatMap (fl d false) → Tot (fun k p q => orielref12_Filters_l3 (lv k) k (gi a 0) (gr a 1) (gr a 2) p (i : Int) s) (fun r => r = (gr a 1).flatMap (fl d true) ++ (gr a 2).flatMap (fl d false)) := fun i s hi hs' =>
        Tot.loop (H := fun k p q v s => orielref12_Filters_l3 (lv k) k (gi a 0) (gr a 1) (gr a 2) p v s) (n := (gr a 2).length) (fun i s => s = (gr a 1).flatMap (fl d true) ++ ((gr a 2).take i).flatMap (fl d false)) (by omega) (fun s hs' => by
          subst hs'
          refine Tot.step0 (fun k p_ q_ => orielref12_Filters_l3_q (lv k) k (gi a 0) (gr a 1) (gr a 2) p_ _ _) ?_
          rw [List.take_length]
          exact Tot.f (decide_eq_false (by omega)) (Tot.ret rfl)) (fun i s hi hs' next => by
          subst hs'
          refine Tot.step0 (fun k p_ q_ => orielref12_Filters_l3_q (lv k) k (gi a 0) (gr a 1) (gr a 2) p_ _ _) ?_
          rw [Int.toNat_natCast]
          repeat (refine Tot.t (decide_eq_true (by omega)) ?_)
          have q3 := take_flat1 (f := fl d false) hi
          refine Tot.bind (ih false _ (h10 i hi) (sub_sz hz 2 false (by simp) hi) ((hs.gr 2).get i)) fun r hr => ?_
          subst hr
          exact Tot.t (roomy_of bytes50 (by rw [List.length_append]; omega)) (next _ (by rw [flat_take hi, List.append_assoc]))) _ i s rfl hi hs'
      have l2 : ∀ (i : Nat) s, i ≤ (gr a 1).length → s = ((gr a 1).take i).flatMap (fl d true) → Tot (fun k p q => orielref12_Filters_l2 (lv k) k (gi a 0) (gr a 1) (gr a 2) p (i : Int) s) (fun r => r = (gr a 1).flatMap (fl d true) ++ (gr a 2).flatMap (fl d false)) := fun i s hi hs' =>
        Tot.loop (H := fun k p q v s => orielref12_Filters_l2 (lv k) k (gi a 0) (gr a 1) (gr a 2) p v s) (n := (gr a 1).length) (fun i s => s = ((gr a 1).take i).flatMap (fl d true)) (by omega) (fun s hs' => by
          subst hs'
          refine Tot.step0 (fun k p_ q_ => orielref12_Filters_l2_q (lv k) k (gi a 0) (gr a 1) (gr a 2) p_ _ _) ?_
          rw [List.take_length]
          exact Tot.f (decide_eq_false (by omega)) (Tot.in0 (l3 0 _ (by omega) (by simp)))) (fun i s hi hs' next => by
          subst hs'
          refine Tot.step0 (fun k p_ q_ => orielref12_Filters_l2_q (lv k) k (gi a 0) (gr a 1) (gr a 2) p_ _ _) ?_
          rw [Int.toNat_natCast]
          repeat (refine Tot.t (decide_eq_true (by omega)) ?_)
          have q3 := take_flat1 (f := fl d true) hi
          refine Tot.bind (ih true _ (h9 i hi) (sub_sz hz 1 true (by simp) hi) ((hs.gr 1).get i)) fun r hr => ?_
          subst hr
          exact Tot.t (roomy_of bytes50 (by omega)) (next _ (by rw [flat_take hi]))) _ i s rfl hi hs'
      refine Tot.in0 (g := fun k p_ q_ => orielref12_Filters_l0 (lv k) k (gi a 0) (gr a 1) (gr a 2) p_ ) ?_
      refine Tot.step0 (fun k p_ q_ => orielref12_Filters_l0_q (lv k) k (gi a 0) (gr a 1) (gr a 2) p_ ) ?_
      refine Tot.cond (fun h0 => ?_) (fun h0 => ?_)
      · have h0 := of_decide_eq_true h0
        refine Tot.t (decide_eq_true (by omega)) (Tot.bind (ih true _ (h9 0 (by omega)) (sub_sz hz 1 true (by simp) (show 0 < (gr a 1).length by omega)) ((hs.gr 1).get 0)) fun r hr => ?_)
        subst hr
        have q3 := take_flat1 (f := fl d true) (show 0 < (gr a 1).length by omega)
        refine Tot.t (roomy_of bytes50 (by omega)) (l2 1 _ (by omega) ?_)
        rw [flat_take (show 0 < (gr a 1).length by omega)]
        simp
      · have h0 := of_decide_eq_false h0
        have e1 : gr a 1 = [] := List.length_eq_zero_iff.1 (by omega)
        refine Tot.in0 (g := fun k p_ q_ => orielref12_Filters_l1 (lv k) k (gi a 0) (gr a 1) (gr a 2) p_ ) ?_
        refine Tot.step0 (fun k p_ q_ => orielref12_Filters_l1_q (lv k) k (gi a 0) (gr a 1) (gr a 2) p_ ) ?_
        refine Tot.cond (fun h0 => ?_) (fun h0 => ?_)
        · have h0 := of_decide_eq_true h0
          refine Tot.t (decide_eq_true (by omega)) (Tot.bind (ih false _ (h10 0 (by omega)) (sub_sz hz 2 false (by simp) (show 0 < (gr a 2).length by omega)) ((hs.gr 2).get 0)) fun r hr => ?_)
          subst hr
          have q3 := take_flat1 (f := fl d false) (show 0 < (gr a 2).length by omega)
          refine Tot.t (roomy_of bytes50 (by omega)) (l3 1 _ (by omega) ?_)
          rw [flat_take (show 0 < (gr a 2).length by omega)]
          simp [e1]
        · have h0 := of_decide_eq_false h0
          have e2 : gr a 2 = [] := List.length_eq_zero_iff.1 (by omega)
          exact Tot.ret (by simp [e1, e2])
    | false =>
      obtain ⟨_, _, _, _, _, _, h7, h8, h9, h10⟩ := ha'
      have e0 : fl (d + 1) false a = [nf a] ++ (gr a 4).flatMap (fl d false) ++ (gr a 5).flatMap (fl d true) := rfl
      show Tot _ _
      rw [e0] at hlen ⊢
      simp only [List.length_append, List.length_singleton] at hlen
      have hl1 : (gr a 4).length ≤ 1048576 := (hs.gr 4).1
      have hl2 : (gr a 5).length ≤ 1048576 := (hs.gr 5).1
      refine orielref12_within_up _ _ _ _ _ _ (Tot.congr ?_ (fun k _ _ => orielref12_within_q (lv k) k (gi a 0) (gs a 1) (gs a 2) (gs a 3) (gr a 4) (gr a 5)))
      refine Tot.in0 (Tot.loop (H := fun k p q v s => orielref12_within_l0 (lv k) k (gi a 0) (gs a 1) (gs a 2) (gs a 3) (gr a 4) (gr a 5) p v s) (n := (gr a 4).length) (fun i s => s = [nf a] ++ ((gr a 4).take i).flatMap (fl d false)) (by omega) (fun s hs' => ?_) (fun i s hi hs' next => ?_) _ 0 _ rfl (by omega) (by simp [nf]))
      · subst hs'
        refine Tot.step0 (fun k p_ q_ => orielref12_within_l0_q (lv k) k (gi a 0) (gs a 1) (gs a 2) (gs a 3) (gr a 4) (gr a 5) p_ _ _) ?_
        rw [List.take_length]
        refine Tot.f (decide_eq_false (by omega)) (Tot.in0 (Tot.loop (H := fun k p q v s => orielref12_within_l1 (lv k) k (gi a 0) (gs a 1) (gs a 2) (gs a 3) (gr a 4) (gr a 5) p v s) (n := (gr a 5).length) (fun i s => s = [nf a] ++ (gr a 4).flatMap (fl d false) ++ ((gr a 5).take i).flatMap (fl d true)) (by omega) (fun s hs' => ?_) (fun i s hi hs' next => ?_) _ 0 _ rfl (by omega) (by simp)))
        · subst hs'
          refine Tot.step0 (fun k p_ q_ => orielref12_within_l1_q (lv k) k (gi a 0) (gs a 1) (gs a 2) (gs a 3) (gr a 4) (gr a 5) p_ _ _) ?_
          rw [List.take_length]
          exact Tot.f (decide_eq_false (by omega)) (Tot.ret rfl)
        · subst hs'
          refine Tot.step0 (fun k p_ q_ => orielref12_within_l1_q (lv k) k (gi a 0) (gs a 1) (gs a 2) (gs a 3) (gr a 4) (gr a 5) p_ _ _) ?_
          rw [Int.toNat_natCast]
          repeat (refine Tot.t (decide_eq_true (by omega)) ?_)
          have q3 := take_flat1 (f := fl d true) hi
          refine Tot.bind (ih true _ (h10 i hi) (sub_sz hz 5 true (by simp) hi) ((hs.gr 5).get i)) fun r hr => ?_
          subst hr
          exact Tot.t (roomy_of bytes50 (by simp only [List.length_append, List.length_singleton]; omega)) (next _ (by rw [flat_take hi, List.append_assoc]))
      · subst hs'
        refine Tot.step0 (fun k p_ q_ => orielref12_within_l0_q (lv k) k (gi a 0) (gs a 1) (gs a 2) (gs a 3) (gr a 4) (gr a 5) p_ _ _) ?_
        rw [Int.toNat_natCast]
        repeat (refine Tot.t (decide_eq_true (by omega)) ?_)
        have q3 := take_flat1 (f := fl d false) hi
        refine Tot.bind (ih false _ (h9 i hi) (sub_sz hz 4 false (by simp) hi) ((hs.gr 4).get i)) fun r hr => ?_
        subst hr
        exact Tot.t (roomy_of bytes50 (by simp only [List.length_append, List.length_singleton]; omega)) (next _ (by rw [flat_take hi, List.append_assoc]))
theorem rfil_tot {p : List C} (h : Good p) : Tot (fun k _ _ => (lv k).orielref12_Filters (gi p 0) (gr p 1) (gr p 2)) (fun r => r = fl 16 true p) := rfilters 16 (Nat.le_refl _) true p h.ok h.sz h.sm
/-! bits -/
theorem sumn_le {D : List (List C)} (hg : ∀ x, x ∈ D → Good x) {i : Nat} (hi : i < D.length) : sumn (D.take i) + nst (D.getD i []) ≤ sumn D := by
  have e : D = D.take (i + 1) ++ D.drop (i + 1) := (List.take_append_drop _ _).symm
  have h1 : sumn D = sumn (D.take (i + 1)) + sumn (D.drop (i + 1)) := by rw [← sumn_app, ← e]
  have h2 := (sumn_bd (l := D.drop (i + 1)) fun x hx => hg x (List.mem_of_mem_drop hx)).1
  rw [take_succ hi, sumn_app] at h1
  have h3 : sumn [D.getD i []] = nst (D.getD i []) := by simp [sumn]
  omega
/-! the event -/
theorem named9_tot (s t : ByteArray) (hs : s.size ≤ 1048576) (ht : t.size ≤ 1048576) : Tot (fun k _ _ => (lv k).orielref09_named s t) (fun _ => True) := by
  refine orielref09_named_up _ _ (Tot.congr ?_ (fun k _ _ => orielref09_named_q (lv k) k s t))
  refine Tot.bind (plain_tot t ht) fun _ _ => Tot.cond (fun _ => Tot.bind (right4_tot t ht) fun _ _ => Tot.cond (fun _ => Tot.bind (right4_tot s hs) fun _ _ => Tot.cond (fun _ => Tot.ret trivial) (fun _ => Tot.ret trivial)) (fun _ => Tot.ret trivial)) (fun _ => Tot.ret trivial)
theorem few_tot (l : List (List C)) (hl : l.length ≤ 1048576) (h3 : ∀ i, (gr (l.getD i []) 3).length ≤ 1048576) : Tot (fun k _ _ => (lv k).orielref09_Few l) (fun _ => True) := by
  refine orielref09_Few_up _ (Tot.congr ?_ (fun k _ _ => orielref09_Few_q (lv k) k l))
  refine Tot.in0 (Tot.loop (H := fun k p q v w => orielref09_Few_l0 (lv k) k l p w v) (n := l.length) (fun i _ => True) (by omega) (fun w _ => ?_) (fun i w hi _ next => ?_) _ 0 _ rfl (by omega) trivial)
  · refine Tot.step0 (fun k p_ q_ => orielref09_Few_l0_q (lv k) k l p_ _ _) ?_
    exact Tot.f (decide_eq_false (by omega)) (Tot.ret trivial)
  · have hli : (gr (l.getD i []) 3).length ≤ 1048576 := h3 i
    refine Tot.step0 (fun k p_ q_ => orielref09_Few_l0_q (lv k) k l p_ _ _) ?_
    rw [Int.toNat_natCast]
    refine Tot.t (decide_eq_true (by omega)) (Tot.cond (fun _ => ?_) (fun _ => Tot.ret trivial))
    repeat (refine Tot.t (decide_eq_true (by omega)) ?_)
    refine Tot.cond (fun _ => Tot.ret trivial) (fun _ => ?_)
    repeat (refine Tot.t (decide_eq_true (by omega)) ?_)
    refine Tot.cond (fun _ => Tot.ret trivial) (fun _ => ?_)
    repeat (refine Tot.t (decide_eq_true (by omega)) ?_)
    refine Tot.cond (fun _ => Tot.ret trivial) (fun _ => ?_)
    generalize IntKind.i64.wrap (w + ((gr (l.getD i []) 3).length : Int)) = w'
    refine Tot.in1 (Tot.loop (H := fun k p q v (_ : Unit) => orielref09_Few_l1 (lv k) k l p q w' (i : Int) v) (n := (gr (l.getD i []) 3).length) (fun i _ => True) (by omega) (fun _ _ => ?_) (fun j _ hj _ nx => ?_) _ 0 () rfl (by omega) trivial)
    · refine Tot.step1 (fun k p_ q_ => orielref09_Few_l1_q (lv k) k l p_ q_ _ _ _) ?_
      rw [Int.toNat_natCast]
      repeat (refine Tot.t (decide_eq_true (by omega)) ?_)
      exact Tot.f (decide_eq_false (by omega)) (next _ trivial)
    · refine Tot.step1 (fun k p_ q_ => orielref09_Few_l1_q (lv k) k l p_ q_ _ _ _) ?_
      rw [Int.toNat_natCast, Int.toNat_natCast]
      repeat (refine Tot.t (decide_eq_true (by omega)) ?_)
      refine Tot.cond (fun _ => ?_) (fun _ => next _ trivial)
      repeat (refine Tot.t (decide_eq_true (by omega)) ?_)
      refine Tot.cond (fun _ => Tot.ret trivial) (fun _ => ?_)
      repeat (refine Tot.t (decide_eq_true (by omega)) ?_)
      refine Tot.cond (fun _ => Tot.ret trivial) (fun _ => ?_)
      repeat (refine Tot.t (decide_eq_true (by omega)) ?_)
      exact Tot.cond (fun _ => Tot.ret trivial) (fun _ => nx () trivial)
/-! the law -/
-- Evt
def same2 (ea : List (List C)) (u v : Nat) : Prop := gs (ea.getD u []) 0 = gs (ea.getD v []) 0 ∧ gs (ea.getD u []) 1 = gs (ea.getD v []) 1
def EvU (a : List C) : Prop := (gi a 0 = 1 ∨ gi a 0 = 2 ∨ gi a 0 = 3) ∧ (gi a 0 = 1 → ∀ u v, u < v → v < (gr a 3).length → ¬ same2 (gr a 3) u v)
theorem right9u_tot (a : List C) (ha : SmR BB a) : Tot (fun k _ _ => (lv k).orielref09_Right (gi a 0) (gs a 1) (gs a 2) (gr a 3) (gs a 4)) (fun r => r = true → EvU a) := by
  have hl : (gr a 3).length ≤ 1048576 := (ha.gr 3).1
  have no : Tot (fun _ _ _ => some false) (fun r => r = true → EvU a) := Tot.ret (fun h => by cases h)
  have l1 : gi a 0 = 1 → Tot (fun k _ _ => orielref09_Right_l1 (lv k) k (gi a 0) (gs a 1) (gs a 2) (gr a 3) (gs a 4) k 0) (fun r => r = true → EvU a) := fun e1 => by
    refine Tot.in0 (Tot.loop (H := fun k p q v (_ : Unit) => orielref09_Right_l1 (lv k) k (gi a 0) (gs a 1) (gs a 2) (gr a 3) (gs a 4) p v) (n := (gr a 3).length) (fun i _ => ∀ u v, u < v → v < i → ¬ same2 (gr a 3) u v) (by omega) (fun _ h => ?_) (fun i _ hi h next => ?_) _ 0 () rfl (by omega) (fun u v _ hv => by omega))
    · refine Tot.step0 (fun k p_ q_ => orielref09_Right_l1_q (lv k) k (gi a 0) (gs a 1) (gs a 2) (gr a 3) (gs a 4) p_ _) ?_
      exact Tot.f (decide_eq_false (by omega)) (Tot.ret fun _ => ⟨.inl e1, fun _ => h⟩)
    · have hsi := (ha.gr 3).get i
      refine Tot.step0 (fun k p_ q_ => orielref09_Right_l1_q (lv k) k (gi a 0) (gs a 1) (gs a 2) (gr a 3) (gs a 4) p_ _) ?_
      rw [Int.toNat_natCast]
      repeat (refine Tot.t (decide_eq_true (by omega)) ?_)
      refine Tot.bind (named9_tot _ _ (hsi.gs 0) (hsi.gs 1)) fun _ _ => Tot.cond (fun _ => no) (fun _ => ?_)
      repeat (refine Tot.t (decide_eq_true (by omega)) ?_)
      refine Tot.bind (right4_tot _ (hsi.gs 2)) fun _ _ => Tot.cond (fun _ => no) (fun _ => ?_)
      refine Tot.in1 (Tot.loop (H := fun k p q v (_ : Unit) => orielref09_Right_l2 (lv k) k (gi a 0) (gs a 1) (gs a 2) (gr a 3) (gs a 4) p q (i : Int) v) (n := i) (fun j _ => ∀ u, u < j → ¬ same2 (gr a 3) u i) (by omega) (fun _ g => ?_) (fun j _ hj g nx => ?_) _ 0 () rfl (by omega) (fun u hu => by omega))
      · refine Tot.step1 (fun k p_ q_ => orielref09_Right_l2_q (lv k) k (gi a 0) (gs a 1) (gs a 2) (gr a 3) (gs a 4) p_ q_ _ _) ?_
        refine Tot.f (decide_eq_false (by omega)) (next () fun u v huv hv => ?_)
        rcases Nat.lt_or_ge v i with q | q
        · exact h u v huv q
        · rw [show v = i by omega]; exact g u (by omega)
      · refine Tot.step1 (fun k p_ q_ => orielref09_Right_l2_q (lv k) k (gi a 0) (gs a 1) (gs a 2) (gr a 3) (gs a 4) p_ q_ _ _) ?_
        rw [Int.toNat_natCast, Int.toNat_natCast]
        repeat (refine Tot.t (decide_eq_true (by omega)) ?_)
        refine Tot.cond (fun _ => no) (fun c => nx () fun u hu => ?_)
        rcases Nat.lt_or_ge u j with q | q
        · exact g u q
        · rw [show u = j by omega]
          intro hs
          rw [name_eq.2 hs] at c
          cases c
  have l0 : ∀ v, Tot (fun k _ _ => orielref09_Right_l0 (lv k) k (gi a 0) (gs a 1) (gs a 2) (gr a 3) (gs a 4) v) (fun r => r = true → EvU a) := fun v => by
    refine Tot.congr ?_ (fun k p_ q_ => orielref09_Right_l0_q (lv k) k (gi a 0) (gs a 1) (gs a 2) (gr a 3) (gs a 4) v )
    refine Tot.cond (fun k2 => ?_) (fun k2 => Tot.cond (fun k3 => ?_) (fun k3 => Tot.cond (fun _ => no) (fun k1 => ?_)))
    · have k2 : gi a 0 = 2 := eq_of_beq k2
      have yes : EvU a := ⟨.inr (.inl k2), fun e => by omega⟩
      exact Tot.cond (fun _ => Tot.cond (fun _ => Tot.bind (right4_tot _ (ha.gs 4)) fun _ _ => Tot.ret fun _ => yes) (fun _ => no)) (fun _ => no)
    · have k3 : gi a 0 = 3 := eq_of_beq k3
      have yes : EvU a := ⟨.inr (.inr k3), fun e => by omega⟩
      exact Tot.cond (fun _ => Tot.ret fun _ => yes) (fun _ => no)
    · have k1 : gi a 0 = 1 := by simpa using k1
      exact Tot.cond (fun _ => no) (fun _ => Tot.bind (named9_tot _ _ (ha.gs 1) (ha.gs 2)) fun _ _ => Tot.cond (fun _ => no) (fun _ => Tot.cond (fun _ => no) (fun _ => l1 k1)))
  refine orielref09_Right_up _ _ _ _ _ (Tot.congr ?_ (fun k _ _ => orielref09_Right_q (lv k) k (gi a 0) (gs a 1) (gs a 2) (gr a 3) (gs a 4)))
  exact Tot.cond (fun _ => l0 _) (fun _ => l0 _)
-- Whole
structure DocE (l : List (List C)) (i : Nat) : Prop where
  ev : ∀ j, j < i → EvU (l.getD j [])
  op : 0 < i → gi (l.getD 0 []) 0 = 1
theorem depth_tot (l : List (List C)) (hl : l.length ≤ 40) (hs : SmL BB l) : Tot (fun k _ _ => (lv k).orielref09_Depth l) (fun r => r ≠ -1 → DocE l l.length) := by
  have no : Tot (fun _ _ _ => some (-1 : Int)) (fun r => r ≠ -1 → DocE l l.length) := Tot.ret fun h => absurd rfl h
  refine orielref09_Depth_up _ (Tot.congr ?_ (fun k _ _ => orielref09_Depth_q (lv k) k l))
  refine Tot.in0 (Tot.loop (H := fun k p q v n => orielref09_Depth_l0 (lv k) k l p n v) (n := l.length) (fun i (_ : Int) => DocE l i) (by omega) (fun n h => ?_) (fun i n hi h next => ?_) _ 0 0 rfl (by omega) ⟨fun j hj => by omega, fun h => by omega⟩)
  · refine Tot.step0 (fun k p_ q_ => orielref09_Depth_l0_q (lv k) k l p_ n _) ?_
    exact Tot.f (decide_eq_false (by omega)) (Tot.ret fun _ => h)
  · refine Tot.step0 (fun k p_ q_ => orielref09_Depth_l0_q (lv k) k l p_ n _) ?_
    rw [Int.toNat_natCast]
    repeat (refine Tot.t (decide_eq_true (by omega)) ?_)
    refine Tot.bind (right9u_tot _ (hs.get i)) fun r hr => Tot.cond (fun _ => no) (fun hb => ?_)
    have hev := hr (by simpa using hb)
    have l2 : DocE l (i + 1) → ∀ n, Tot (fun k p q => orielref09_Depth_l2 (lv k) k l p n (i : Int)) (fun r => r ≠ -1 → DocE l l.length) := fun hd n => by
      refine Tot.congr ?_ (fun k p_ q_ => orielref09_Depth_l2_q (lv k) k l p_ n (i : Int))
      rw [Int.toNat_natCast]
      repeat (refine Tot.t (decide_eq_true (by omega)) ?_)
      refine Tot.cond (fun _ => ?_) (fun _ => ?_)
      · repeat (refine Tot.t (decide_eq_true (by omega)) ?_)
        exact Tot.cond (fun _ => Tot.cond (fun _ => no) (fun _ => next _ hd)) (fun _ => Tot.cond (fun _ => no) (fun _ => next _ hd))
      · repeat (refine Tot.t (decide_eq_true (by omega)) ?_)
        exact Tot.cond (fun _ => Tot.cond (fun _ => no) (fun _ => next _ hd)) (fun _ => Tot.cond (fun _ => no) (fun _ => next _ hd))
    have l1 : DocE l (i + 1) → ∀ n, Tot (fun k p q => orielref09_Depth_l1 (lv k) k l p n (i : Int)) (fun r => r ≠ -1 → DocE l l.length) := fun hd n => by
      refine Tot.congr ?_ (fun k p_ q_ => orielref09_Depth_l1_q (lv k) k l p_ n (i : Int))
      rw [Int.toNat_natCast]
      repeat (refine Tot.t (decide_eq_true (by omega)) ?_)
      refine Tot.cond (fun k2 => ?_) (fun _ => l2 hd n)
      have k2 : gi (l.getD i []) 0 = 2 := eq_of_beq k2
      have hi0 : 0 < i := by
        rcases Nat.eq_zero_or_pos i with e | e
        · rw [e] at k2
          have := hd.op (by omega)
          omega
        · exact e
      rw [wrap_id (x := (i : Int) - 1) (by omega) (by omega)]
      repeat (refine Tot.t (decide_eq_true (by omega)) ?_)
      exact Tot.cond (fun _ => no) (fun _ => l2 hd n)
    have ext : (i = 0 → gi (l.getD 0 []) 0 = 1) → DocE l (i + 1) := fun h0 => ⟨fun j hj => by
      rcases Nat.lt_or_ge j i with g | g
      · exact h.ev j g
      · rw [show j = i by omega]; exact hev, fun _ => by
      rcases Nat.eq_zero_or_pos i with e | e
      · exact h0 e
      · exact h.op e⟩
    refine Tot.cond (fun _ => no) (fun _ => Tot.cond (fun e0 => ?_) (fun e0 => l1 (ext fun e => absurd (show (i : Int) = 0 by omega) (ne_of_beq_false e0)) n))
    have e0 : (i : Int) = 0 := eq_of_beq e0
    repeat (refine Tot.t (decide_eq_true (by omega)) ?_)
    refine Tot.cond (fun _ => no) (fun k1 => l1 (ext fun e => ?_) n)
    have : gi (l.getD i []) 0 = 1 := by simpa using k1
    rw [e] at this
    exact this
theorem whole_tot (l : List (List C)) (hl : l.length ≤ 40) (hs : SmL BB l) : Tot (fun k _ _ => (lv k).orielref10_Whole l) (fun r => r = true → 0 < l.length ∧ DocE l l.length) := by
  refine orielref10_Whole_up _ (Tot.congr ?_ (fun k _ _ => orielref10_Whole_q (lv k) k l))
  refine Tot.cond (fun h0 => ?_) (fun _ => Tot.ret fun h => by cases h)
  have h0 := of_decide_eq_true h0
  exact Tot.bind (depth_tot l hl hs) fun r hr => Tot.ret fun hb => ⟨by omega, hr (by rw [eq_of_beq hb]; decide)⟩
-- Judge
theorem Tot.uniq {α : Type} {g : Nat → Nat → Nat → Option α} {r s : α} (h : Tot g (fun x => x = r)) (h' : Tot g (fun x => x = s)) : r = s := by
  obtain ⟨x, rfl, N, hx⟩ := h
  obtain ⟨y, rfl, M, hy⟩ := h'
  have h1 := hx (max N M) (max N M) (max N M) (by omega) (by omega) (by omega)
  have h2 := hy (max N M) (max N M) (max N M) (by omega) (by omega) (by omega)
  rw [h1] at h2
  exact Option.some.inj h2
theorem fval_congr {ek : Int} {e1 e2 et : ByteArray} {f : List C} {bs : Nat → Bool} {p p' x x' : Bool} (h1 : 1 ≤ gi f 0) (h11 : gi f 0 ≤ 11) (hp : gi f 0 = 11 → p = p') (hx : gi f 0 = 5 ∨ gi f 0 = 6 → x = x') : fval ek e1 e2 et f bs p x = fval ek e1 e2 et f bs p' x' := by
  by_cases h : gi f 0 = 11
  · rw [hp h]; unfold fval; rw [h]; rfl
  · by_cases h' : gi f 0 = 5 ∨ gi f 0 = 6
    · rw [hx h']; unfold fval; rcases h' with h' | h' <;> rw [h'] <;> rfl
    · have : gi f 0 = 1 ∨ gi f 0 = 2 ∨ gi f 0 = 3 ∨ gi f 0 = 4 ∨ gi f 0 = 7 ∨ gi f 0 = 8 ∨ gi f 0 = 9 ∨ gi f 0 = 10 := by omega
      unfold fval
      rcases this with e | e | e | e | e | e | e | e <;> rw [e] <;> rfl
open Classical in
theorem aval_eq {ev f : List C} (hu : EvU ev) (h56 : gi f 0 = 5 ∨ gi f 0 = 6) {r : Int} (hr : Af (gr ev 3) (gs f 1) (gs f 2) r) : aval (gi ev 0) (gr ev 3) f r = decide (gi ev 0 = 1 ∧ ∃ j, j < (gr ev 3).length ∧ Aok (gr ev 3) (gi f 0) (gs f 1) (gs f 2) (gs f 3) j) := by
  rcases hr with ⟨rfl, hn⟩ | ⟨i, rfl, hi, hp, hb⟩
  · rw [decide_eq_false (fun ⟨_, j, hj, hA⟩ => hn j hj hA.1)]
    unfold aval ab
    rcases h56 with e | e <;> rw [e] <;> rfl
  · have ai : ab (gi ev 0) (i : Int) = (gi ev 0 == 1) := by unfold ab; rw [if_neg (by omega)]
    have avi : av (gr ev 3) (i : Int) = gs ((gr ev 3).getD i []) 2 := by unfold av; rw [if_neg (by omega), Int.toNat_natCast]
    unfold aval
    rw [ai, avi]
    rcases h56 with e | e
    · rw [if_pos e]
      by_cases h1 : gi ev 0 = 1
      · rw [h1, decide_eq_true ⟨rfl, i, hi, hp, .inl e⟩]; rfl
      · rw [decide_eq_false (fun h => h1 h.1)]; exact beq_false_of_ne h1
    · rw [if_neg (by omega)]
      by_cases h1 : gi ev 0 = 1
      · by_cases h2 : gs ((gr ev 3).getD i []) 2 = gs f 3
        · rw [h1, decide_eq_true ⟨rfl, i, hi, hp, .inr h2⟩, str_eq.2 h2]; rfl
        · rw [decide_eq_false]
          · rw [show ((gs ((gr ev 3).getD i []) 2).toList == (gs f 3).toList) = false from by
              cases hh : ((gs ((gr ev 3).getD i []) 2).toList == (gs f 3).toList)
              · rfl
              · exact absurd (str_eq.1 hh) h2]
            exact Bool.and_false _
          · rintro ⟨_, j, hj, hA1, hA2⟩
            rcases hA2 with h | h
            · omega
            · rcases Nat.lt_trichotomy i j with g | g | g
              · exact hu.2 h1 i j g hj ⟨hp.1.trans hA1.1.symm, hp.2.trans hA1.2.symm⟩
              · exact h2 (g ▸ h)
              · exact hu.2 h1 j i g hi ⟨hA1.1.trans hp.1.symm, hA1.2.trans hp.2.symm⟩
      · rw [decide_eq_false (fun h => h1 h.1), beq_false_of_ne h1]; rfl
theorem judge {D B K E T L N bits : List (List C)} {nn s e : Int} {ev : List C} (hc : Ctx D B K (gr ev 3) bits) (h : WOk L N) (hA : ∀ i, (gr (L.getD i []) 3).length ≤ 1048576) {n : Int} (n0 : 0 ≤ n) (n1 : n < N.length)
    (hE : L.getD (gi (N.getD n.toNat []) 0).toNat [] = ev) (hu : EvU ev) (hbit : ∀ i : Nat, i < D.length → ∃ r, LD L N (D.getD i []) [[C.int .i64 n]] r ∧ lb B K bits (i : Int) = decide ((r.length : Int) > 0)) :
    ∀ d, d ≤ 16 → ∀ f, ok d false f → SmR BB f → 1 + 41 * sz d false f ≤ 10000 → (∀ x, x ∈ inn d false f → ∃ z, z ∈ D ∧ Alike true z x) →
      ∃ b, HH D B K nn s e E T (gi ev 0) (gs ev 1) (gs ev 2) (gr ev 3) (gs ev 4) bits f b ∧ HD L N f n b := by
  intro d
  induction d with
  | zero => intro _ f h; exact h.elim
  | succ d ih =>
    intro hd f hf hs hz hin
    have ih := ih (by omega)
    have hf' := hf
    obtain ⟨h1, h11, h8, h64, h910, h0, h511, h51, h9, h10⟩ := hf'
    have esz : sz (d + 1) false f = 1 + ((gr f 4).map (sz d false)).sum + ((gr f 5).map (sz d true)).sum := rfl
    have ein : inn (d + 1) false f = (gr f 4).flatMap (inn d false) ++ (gr f 5).flatMap (fun x => inn d true x ++ [row3 x]) := rfl
    obtain ⟨bs, hbs⟩ : ∃ bs : Nat → Bool, ∀ i, i < (gr f 4).length → HH D B K nn s e E T (gi ev 0) (gs ev 1) (gs ev 2) (gr ev 3) (gs ev 4) bits ((gr f 4).getD i []) (bs i) ∧ HD L N ((gr f 4).getD i []) n (bs i) := by
      have : ∀ i, ∃ b, i < (gr f 4).length → HH D B K nn s e E T (gi ev 0) (gs ev 1) (gs ev 2) (gr ev 3) (gs ev 4) bits ((gr f 4).getD i []) b ∧ HD L N ((gr f 4).getD i []) n b := fun i => by
        by_cases hi : i < (gr f 4).length
        · have := sz_sub (f := sz d false) hi
          obtain ⟨b, hb⟩ := ih _ (h9 i hi) ((hs.gr 4).get i) (by omega) (fun x hx => hin x (by
            rw [ein]
            exact List.mem_append_left _ (List.mem_flatMap.2 ⟨_, getD_mem hi, hx⟩)))
          exact ⟨b, fun _ => hb⟩
        · exact ⟨false, fun h => absurd h hi⟩
      exact Classical.axiomOfChoice this
    obtain ⟨rr, hrr⟩ : ∃ rr : Nat → List (List C), ∀ i, i < (gr f 5).length → LD L N ((gr f 5).getD i []) [[C.int .i64 n]] (rr i) := by
      have : ∀ i, ∃ r, i < (gr f 5).length → LD L N ((gr f 5).getD i []) [[C.int .i64 n]] r := fun i => by
        by_cases hi : i < (gr f 5).length
        · have := sz_sub (f := sz d true) hi
          obtain ⟨r, hr⟩ := (class_all h hA d (by omega)).1 _ (h10 i hi) [[C.int .i64 n]] (fun q hq => ⟨n, List.mem_singleton.1 hq, n0, n1⟩) (by rw [List.length_singleton]; omega)
          exact ⟨r, fun _ => hr.1⟩
        · exact ⟨[], fun h => absurd h hi⟩
      exact Classical.axiomOfChoice this
    obtain ⟨r, hr⟩ : ∃ r, Af (gr ev 3) (gs f 1) (gs f 2) r := Fst.ex _ _
    obtain ⟨rp, hrp⟩ := Fst.ex D.length (fun j => Alike true (D.getD j []) ((gr f 5).getD 0 []))
    have s1 := hold_step (n := nn) (s := s) (e := e) (E := E) (T := T) (ek := gi ev 0) (e1 := gs ev 1) (e2 := gs ev 2) (et := gs ev 4) hc hf hs (fun i hi => (hbs i hi).1) hr hrp
    have s2 := class_step h hA hf n0 n1 (fun i hi => (hbs i hi).2) hrr hE
    refine ⟨_, s1, ?_⟩
    rw [fval_congr h1 h11 (fun e11 => ?_) (fun e56 => aval_eq hu e56 hr)]
    · exact s2
    · have hl := h511.1 e11
      obtain ⟨z, hz1, hz2⟩ := hin (row3 ((gr f 5).getD 0 [])) (by
        rw [ein]
        exact List.mem_append_right _ (List.mem_flatMap.2 ⟨_, getD_mem (show 0 < (gr f 5).length by omega), List.mem_append_right _ List.mem_cons_self⟩))
      have hz3 := hz2.trans (al3 _)
      obtain ⟨j, hj, rfl⟩ := mem_getD hz1
      rcases hrp with ⟨_, hn⟩ | ⟨i, rfl, hi, hp, _⟩
      · exact absurd hz3 (hn j hj)
      · obtain ⟨q, hq1, hq2⟩ := hbit i hi
        rw [hq2, Tot.uniq (hq1 _ hp) (hrr 0 (by omega) _ (Alike.refl _ _))]
-- JLaw
theorem fl_in : ∀ {d : Nat}, d ≤ 16 → ∀ {k : Bool} {a : List C}, ok d k a → (∀ e, sz e k a ≤ 64) → ∀ f, f ∈ fl d k a → (∀ e, sz e false f ≤ 64) ∧ ∀ x, x ∈ inn 16 false f → x ∈ inn d k a := by
  intro d
  induction d with
  | zero => intro _ k a h; exact h.elim
  | succ d ih =>
    intro hd k a h hz f hf
    have ih := @ih (by omega)
    cases k with
    | true =>
      obtain ⟨_, _, _, _, _, _, _, _, h9, h10⟩ := h
      rcases List.mem_append.1 hf with hx | hx
      · obtain ⟨y, hy, hxy⟩ := List.mem_flatMap.1 hx
        obtain ⟨i, hi, rfl⟩ := mem_getD hy
        obtain ⟨q1, q2⟩ := ih (h9 i hi) (sub_sz hz 1 true (by simp) hi) f hxy
        exact ⟨q1, fun x hx => List.mem_append_left _ (List.mem_flatMap.2 ⟨_, hy, q2 x hx⟩)⟩
      · obtain ⟨y, hy, hxy⟩ := List.mem_flatMap.1 hx
        obtain ⟨i, hi, rfl⟩ := mem_getD hy
        obtain ⟨q1, q2⟩ := ih (h10 i hi) (sub_sz hz 2 false (by simp) hi) f hxy
        exact ⟨q1, fun x hx => List.mem_append_right _ (List.mem_flatMap.2 ⟨_, hy, q2 x hx⟩)⟩
    | false =>
      have hself := h
      obtain ⟨_, _, _, _, _, _, _, _, h9, h10⟩ := h
      rcases List.mem_append.1 hf with hx | hx
      · rcases List.mem_append.1 hx with hx | hx
        · rw [List.mem_singleton.1 hx]
          refine ⟨fun e => by cases e with
            | zero => exact hz 0
            | succ e => exact hz (e + 1), fun x hx => ?_⟩
          have hx : x ∈ inn 16 false a := hx
          rwa [inn_le hd hself] at hx
        · obtain ⟨y, hy, hxy⟩ := List.mem_flatMap.1 hx
          obtain ⟨i, hi, rfl⟩ := mem_getD hy
          obtain ⟨q1, q2⟩ := ih (h9 i hi) (sub_sz hz 4 false (by simp) hi) f hxy
          exact ⟨q1, fun x hx => List.mem_append_left _ (List.mem_flatMap.2 ⟨_, hy, q2 x hx⟩)⟩
      · obtain ⟨y, hy, hxy⟩ := List.mem_flatMap.1 hx
        obtain ⟨i, hi, rfl⟩ := mem_getD hy
        obtain ⟨q1, q2⟩ := ih (h10 i hi) (sub_sz hz 5 true (by simp) hi) f hxy
        exact ⟨q1, fun x hx => List.mem_append_right _ (List.mem_flatMap.2 ⟨_, hy, List.mem_append_left _ (q2 x hx)⟩)⟩
/-- where a machine's start stands in the bits -/
noncomputable def pos (D : List (List C)) (i : Nat) : Int := sumn (D.take i) + (mach (D.getD i [])).s
section
variable {D : List (List C)} (hg : ∀ x, x ∈ D → Good x)
include hg in
theorem pos_in {i : Nat} (hi : i < D.length) : 0 ≤ (mach (D.getD i [])).s ∧ (mach (D.getD i [])).s < nst (D.getD i []) := by
  have h1 := mk_shp 16 _ _ _ 0 0 (hg _ (getD_mem (d := []) hi)).pok
  have h4 := h1.s0
  have h5 := h1.s1
  unfold nst
  unfold mach
  exact ⟨h4, h5⟩
include hg in
theorem pos_bd {i : Nat} (hi : i < D.length) : 0 ≤ pos D i ∧ pos D i < sumn D := by
  have h1 := pos_in hg hi
  have h2 := sumn_le hg hi
  have h3 := (sumn_bd (mem_take hg i)).1
  unfold pos
  omega
include hg in
theorem pos_lt {i j : Nat} (hij : i < j) (hj : j < D.length) : pos D i < pos D j := by
  have h1 := pos_in hg (show i < D.length by omega)
  have h2 := pos_in hg hj
  have h3 := sumn_le (mem_take hg j) (i := i) (by simp; omega)
  have e1 : (D.take j).take i = D.take i := by rw [List.take_take, Nat.min_eq_left (by omega)]
  have e2 : (D.take j).getD i [] = D.getD i [] := by simp [List.getD_eq_getElem?_getD, List.getElem?_take, hij]
  rw [e1, e2] at h3
  unfold pos
  omega
include hg in
theorem pos_ne {i j : Nat} (hij : i ≠ j) (hi : i < D.length) (hj : j < D.length) : (pos D i).toNat ≠ (pos D j).toNat := by
  have h1 := pos_bd hg hi
  have h2 := pos_bd hg hj
  rcases Nat.lt_or_gt_of_ne hij with g | g
  · have := pos_lt hg g hj; omega
  · have := pos_lt hg g hi; omega
end
theorem pos_is {D : List (List C)} (hg : ∀ x, x ∈ D → Good x) {i : Nat} (hi : i < D.length) : gi ((bases 0 D).getD i []) 0 + gi ((D.map prow).getD i []) 1 = pos D i := by
  have e1 : (D.map prow).getD i [] = prow (D.getD i []) := by simp [List.getD_eq_getElem?_getD, hi]
  rw [bases_get _ _ _ hi, e1, Int.zero_add]
  rfl
theorem ctx_of2 {ea bits : List (List C)} {q : List C} (h : Good q) (hb : (bits.length : Int) = sumn (DD q)) (hl : ea.length ≤ 1048576) : Ctx (DD q) ((DD q).map prow) (bases 0 (DD q)) ea bits := by
  have hg := h.ded.good
  have hlen : (DD q).length ≤ 63 := Nat.le_trans h.ded.len h.len
  have hs := sumn_bd hg
  refine ⟨hg, by omega, by simp, bases_len _ _, fun i hi => ?_, by omega, hl⟩
  rw [pos_is hg hi, hb]
  exact pos_bd hg hi
structure JI (D : List (List C)) (rs : Nat → List (List C)) (N i : Nat) (w : List (List C)) : Prop where
  len : w.length = N
  row : ∀ j, j < N → (w.getD j []).length = 1
  bit : ∀ j, j < D.length → gi (w.getD (pos D j).toNat []) 0 = if j < i ∧ 0 < (rs j).length then 1 else 0
theorem JI.skip {D : List (List C)} {rs : Nat → List (List C)} {N i : Nat} {w : List (List C)} (h : JI D rs N i w) (hn : ¬ 0 < (rs i).length) : JI D rs N (i + 1) w := ⟨h.len, h.row, fun j hj => by
  rw [h.bit j hj]
  by_cases e : j = i
  · subst e
    rw [if_neg (by omega), if_neg (by omega)]
  · by_cases g : j < i ∧ 0 < (rs j).length
    · rw [if_pos g, if_pos ⟨by omega, g.2⟩]
    · rw [if_neg g, if_neg (fun q => g ⟨by omega, q.2⟩)]⟩
theorem JI.set {D : List (List C)} (hg : ∀ x, x ∈ D → Good x) {rs : Nat → List (List C)} {N i : Nat} {w : List (List C)} (h : JI D rs N i w) (hi : i < D.length) (hN : (N : Int) = sumn D) (hn : 0 < (rs i).length) : JI D rs N (i + 1) (w.set (pos D i).toNat ((w.getD (pos D i).toNat []).set 0 (C.int .u8 1))) := by
  have hb := pos_bd hg hi
  have hl := h.len
  have e0 : ∀ m, (w.set (pos D i).toNat ((w.getD (pos D i).toNat []).set 0 (C.int .u8 1))).getD m [] = if (pos D i).toNat = m then (w.getD (pos D i).toNat []).set 0 (C.int .u8 1) else w.getD m [] := fun m => by
    rw [List.getD_eq_getElem?_getD, List.getElem?_set]
    split
    · rw [if_pos (by omega)]; rfl
    · rw [List.getD_eq_getElem?_getD]
  refine ⟨by rw [List.length_set]; exact hl, fun j hj => ?_, fun j hj => ?_⟩
  · rw [e0]
    split
    · rw [List.length_set]; exact h.row _ (by omega)
    · exact h.row j hj
  · rw [e0]
    by_cases e : j = i
    · subst e
      rw [if_pos rfl, if_pos ⟨by omega, hn⟩]
      have := h.row (pos D j).toNat (by omega)
      generalize w.getD (pos D j).toNat [] = r at this
      match r, this with
      | [x], _ => rfl
    · rw [if_neg (pos_ne hg (Ne.symm e) hi hj), h.bit j hj]
      by_cases g : j < i ∧ 0 < (rs j).length
      · rw [if_pos g, if_pos ⟨by omega, g.2⟩]
      · rw [if_neg g, if_neg (fun q => g ⟨by omega, q.2⟩)]
theorem judges_tot (p : List C) (l : List (List C)) (x : Int) (hp : SmR BB p) (hs : SmL BB l) (hx : 0 ≤ x) (hx' : x ≤ 1000) : Tot (fun k _ _ => (lv k).oriellaw18_StratJudges (gi p 0) (gr p 1) (gr p 2) l x) (fun r => r = true) := by
  have aw : Tot (fun n _ _ => ((lv n).oriellaw18_awake).bind fun r => some r) (fun r => r = true) := Tot.bind awake_tot fun r hr => Tot.ret hr
  refine oriellaw18_StratJudges_up _ _ _ _ _ (Tot.congr ?_ (fun k _ _ => oriellaw18_StratJudges_q (lv k) k (gi p 0) (gr p 1) (gr p 2) l x))
  refine Tot.bind awake_tot fun r hr => ?_
  subst hr
  refine Tot.f rfl (Tot.bind (right_tot p hp) fun r hr => Tot.cond (fun _ => aw) (fun hb => ?_))
  have hrt : r = true := by simpa using hb
  subst hrt
  have h := to_good hp (hr rfl)
  refine Tot.cond (fun _ => aw) (fun hl => ?_)
  have hl : l.length ≤ 40 := by have := of_decide_eq_false hl; omega
  refine Tot.bind (few_tot l (by omega) (fun i => ((hs.get i).gr 3).1)) fun r _ => Tot.cond (fun _ => aw) (fun _ => ?_)
  refine Tot.bind (whole_tot l hl hs) fun r hr => Tot.cond (fun _ => aw) (fun hb => ?_)
  obtain ⟨hl0, hdoc⟩ := hr (by simpa using hb)
  refine Tot.bind (make16_tot l hl) fun w hw => ?_
  obtain ⟨L', N⟩ := w
  obtain ⟨e0, hwi⟩ := hw
  have e0 : l = L' := e0.symm
  subst e0
  have hwi : WI l l.length N := hwi
  show Tot (fun n a b => cond (decide ((N.length : Int) = 0)) _ _) _
  have hN0 : 0 < N.length := by
    have := hwi.ne 0 (by omega) (by rw [hdoc.op (by omega)]; decide)
    cases N with
    | nil => exact absurd rfl this
    | cons _ _ => simp
  refine Tot.f (decide_eq_false (by omega)) ?_
  have hw := hwi.wok hl
  have hNl := hw.nl
  refine Tot.bind (make_tot h) fun r hr => ?_
  subst hr
  have hg := h.ded.good
  have hlen : (DD p).length ≤ 63 := Nat.le_trans h.ded.len h.len
  have hsb := sumn_bd hg
  refine Tot.bind (items_tot _ _ _ _ _ _ _ _ (DD p) prow rfl (fun _ => rfl) hg (by omega)) fun r hr => ?_
  subst hr
  obtain ⟨S, hS⟩ : ∃ S : Nat, sumn (DD p) = S := ⟨(sumn (DD p)).toNat, by omega⟩
  rw [hS]
  refine Tot.t (decide_eq_true (by omega)) (Tot.t (decide_eq_true (by omega)) (Tot.both (roomy_of bytes5 (by omega)) (by kernel_rfl) ?_))
  rw [wrap_id (x := x) (by omega) (by omega), Int.toNat_natCast]
  generalize hn : Int.tmod x (N.length : Int) = n
  have n0 : 0 ≤ n := by rw [← hn]; exact Int.tmod_nonneg _ hx
  have n1 : n < N.length := by rw [← hn]; exact Int.tmod_lt_of_pos _ (by omega)
  have hA : ∀ i, (gr (l.getD i []) 3).length ≤ 1048576 := fun i => ((hs.get i).gr 3).1
  obtain ⟨rs, hrs⟩ : ∃ rs : Nat → List (List C), ∀ i, i < (DD p).length → LQ l N 16 ((DD p).getD i []) [[C.int .i64 n]] (rs i) := by
    have : ∀ i, ∃ r, i < (DD p).length → LQ l N 16 ((DD p).getD i []) [[C.int .i64 n]] r := fun i => by
      by_cases hi : i < (DD p).length
      · have hgi := hg _ (getD_mem (d := []) hi)
        have := hgi.sz 16
        obtain ⟨r, hr⟩ := (class_all hw hA 16 (Nat.le_refl _)).1 _ hgi.ok [[C.int .i64 n]] (fun q hq => ⟨n, List.mem_singleton.1 hq, n0, n1⟩) (by rw [List.length_singleton]; omega)
        exact ⟨r, fun _ => hr⟩
      · exact ⟨[], fun h => absurd h hi⟩
    exact Classical.axiomOfChoice this
  have hpl := hw.pl n.toNat (by omega)
  refine Tot.in0 (Tot.loop (H := fun k q r v w => oriellaw18_StratJudges_l0 (lv k) k (gi p 0) (gr p 1) (gr p 2) l x q n v l (mach p).n (mach p).s (mach p).e w N (DD p) ((DD p).map prow) (bases 0 (DD p)) (mach p).E (mach p).T) (n := (DD p).length) (fun i w => JI (DD p) rs S i w) (by omega) (fun w hji => ?_) (fun i w hi hji next => ?_) _ 0 _ rfl (by omega) ⟨by simp, fun j hj => by simp [List.getD_eq_getElem?_getD, hj], fun j hj => ?_⟩)
  · -- the filters
    have hbl := hji.len
    refine Tot.step0 (fun k p_ q_ => oriellaw18_StratJudges_l0_q (lv k) k (gi p 0) (gr p 1) (gr p 2) l x p_ _ _ _ _ _ _ _ _ _ _ _ _ _) ?_
    refine Tot.f (decide_eq_false (by simp)) ?_
    refine Tot.bind (rfil_tot h) fun r hr => ?_
    subst hr
    have hfl : (fl 16 true p).length ≤ 64 := Nat.le_trans (fl_len 16 true p) (h.sz 16)
    generalize hE : l.getD (gi (N.getD n.toNat []) 0).toNat [] = ev
    have hal : (gr ev 3).length ≤ 1048576 := hE ▸ hA _
    have hc : Ctx (DD p) ((DD p).map prow) (bases 0 (DD p)) (gr ev 3) w := ctx_of2 h (by rw [hbl, hS]) hal
    have hu : EvU ev := by
      rw [← hE]
      exact hdoc.ev _ (by omega)
    have hbit : ∀ i : Nat, i < (DD p).length → ∃ r, LD l N ((DD p).getD i []) [[C.int .i64 n]] r ∧ lb ((DD p).map prow) (bases 0 (DD p)) w (i : Int) = decide ((r.length : Int) > 0) := fun i hi => by
      refine ⟨rs i, (hrs i hi).1, ?_⟩
      unfold lb
      rw [Int.toNat_natCast, pos_is hg hi, hji.bit i hi, decide_eq_true (show (0 : Int) ≤ (i : Int) by omega)]
      by_cases g : 0 < (rs i).length
      · rw [if_pos ⟨hi, g⟩, decide_eq_true (by omega)]; rfl
      · rw [if_neg (fun q => g q.2), decide_eq_false (by omega)]; rfl
    refine Tot.in0 (Tot.loop (H := fun k q r v (_ : Unit) => oriellaw18_StratJudges_l1 (lv k) k (gi p 0) (gr p 1) (gr p 2) l x q n v l (mach p).n (mach p).s (mach p).e w (fl 16 true p) N (DD p) ((DD p).map prow) (bases 0 (DD p)) (mach p).E (mach p).T) (n := (fl 16 true p).length) (fun i _ => True) (by omega) (fun _ _ => ?_) (fun i _ hi _ next => ?_) _ 0 () rfl (by omega) trivial)
    · refine Tot.step0 (fun k p_ q_ => oriellaw18_StratJudges_l1_q (lv k) k (gi p 0) (gr p 1) (gr p 2) l x p_ _ _ _ _ _ _ _ _ _ _ _ _ _ _) ?_
      exact Tot.f (decide_eq_false (by omega)) (Tot.ret rfl)
    · refine Tot.step0 (fun k p_ q_ => oriellaw18_StratJudges_l1_q (lv k) k (gi p 0) (gr p 1) (gr p 2) l x p_ _ _ _ _ _ _ _ _ _ _ _ _ _ _) ?_
      rw [Int.toNat_natCast, hE]
      repeat (refine Tot.t (decide_eq_true (by omega)) ?_)
      have hfm := getD_mem (d := []) hi
      have hok := fl_ok (Nat.le_refl _) h.ok hp _ hfm
      obtain ⟨hz, hin⟩ := fl_in (Nat.le_refl _) h.ok h.sz _ hfm
      have := hz 16
      obtain ⟨b, q1, q2⟩ := judge (nn := (mach p).n) (s := (mach p).s) (e := (mach p).e) (E := (mach p).E) (T := (mach p).T) hc hw hA n0 n1 hE hu hbit 16 (Nat.le_refl _) _ hok.ok hok.sm (by omega) (fun x hx => h.ded.al x (hin x hx))
      refine Tot.bind (R := fun r => r = b) ?_ fun r hr => ?_
      · refine strat_Holds_up _ _ _ _ _ _ _ _ _ _ _ _ _ _ _ _ _ _ _ _ (Tot.congr ?_ (fun k _ _ => strat_Holds_q (lv k) k (DD p) ((DD p).map prow) (bases 0 (DD p)) (mach p).n (mach p).s (mach p).e (mach p).E (mach p).T (gi ((fl 16 true p).getD i []) 0) (gs ((fl 16 true p).getD i []) 1) (gs ((fl 16 true p).getD i []) 2) (gs ((fl 16 true p).getD i []) 3) (gr ((fl 16 true p).getD i []) 4) (gr ((fl 16 true p).getD i []) 5) (gi ev 0) (gs ev 1) (gs ev 2) (gr ev 3) (gs ev 4) w))
        exact Tot.bind q1.p1 fun r hr => Tot.ret (by rw [hr])
      · subst hr
        repeat (refine Tot.t (decide_eq_true (by omega)) ?_)
        refine Tot.bind (q2 _ (Alike.refl _ _)) fun b hb => ?_
        subst hb
        exact Tot.f (by simp) (next () trivial)
  · have hbl := hji.len
    have hbd := pos_bd hg hi
    have hbs : (bases 0 (DD p)).length = (DD p).length := bases_len _ _
    have hmp : ((DD p).map prow).length = (DD p).length := by simp
    have hq := hrs i hi
    refine Tot.step0 (fun k p_ q_ => oriellaw18_StratJudges_l0_q (lv k) k (gi p 0) (gr p 1) (gr p 2) l x p_ _ _ _ _ _ _ _ _ _ _ _ _ _) ?_
    rw [Int.toNat_natCast]
    repeat (refine Tot.t (decide_eq_true (by omega)) ?_)
    refine Tot.bind (from_tot (a := l) hw (hq.1 _ (Alike.refl _ _)) hq.2.1 (by have := hq.2.2; have := (hg _ (getD_mem (d := []) hi)).sz 16; rw [List.length_singleton] at *; omega)) fun y hy => ?_
    rw [pos_is hg hi, wrap_id (x := pos (DD p) i) (by omega) (by omega)]
    refine Tot.cond (fun c => ?_) (fun c => next _ (hji.skip fun g => ?_))
    · have c := of_decide_eq_true c
      repeat (refine Tot.t (decide_eq_true (by omega)) ?_)
      exact next _ (hji.set hg hi hS.symm (hy.1 (by omega)))
    · have c := of_decide_eq_false c
      have := hy.2 g
      omega
  · rw [if_neg (by omega)]
    rw [List.getD_eq_getElem?_getD, List.getElem?_replicate]
    split <;> rfl
end Go.Vm.T
