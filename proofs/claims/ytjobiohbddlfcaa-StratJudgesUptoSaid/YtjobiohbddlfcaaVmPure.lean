/- The plain law. -/
import Derived.Test.YtjobiohbddlfcaaVmEq
import Derived.Test.YtjobiohbddlfcaaVmThree
/- The document's runes: each function of them comes to an answer. -/

set_option linter.unusedVariables false
set_option linter.unusedSimpArgs false
namespace Go.Vm.T
open Go Go.Vm Go.Proofs
attribute [local irreducible] lv oriellaw18_StratJudges_b oriellaw18_StratJudges_l0 oriellaw18_StratJudges_l1 orielref18_Holds_b orielref18_Holds_l0 orielref18_Holds_l1 oriellaw18_awake_b orielref18_Find_b orielref18_Find_l0 strat_Make_b strat_Make_l0 strat_Make_l1 orielref12_Same_b orielref12_Same_l0 orielref12_Same_l1 strat_maker_path_b strat_maker_path_l0 strat_maker_path_l1 orielref12_SameFilter_b orielref12_SameFilter_l0 orielref12_SameFilter_l1 strat_maker_filter_b strat_maker_filter_l0 strat_maker_filter_l1 api_Path_b api_Path_2_b api_Path_2_l0 strat_maker_filter_1_b path_Same_b api_Path_3_b api_Path_3_l0 prog_Compile_b api_Filter_b api_Filter_l0 prog_maker_path_b path_sameFilter_b prog_maker_step_b prog_maker_seq_b prog_maker_seq_l0 prog_maker_alt_b prog_maker_alt_l0 prog_maker_alt_l1 prog_maker_alt_l2 prog_maker_alt_l3 prog_maker_state_b prog_maker_lay_b prog_maker_free_b strat_Items_b strat_Items_l0 orielref12_Right_b strat_Find_b orielref12_Size_b api_Path_4_b api_Path_4_l0 orielref12_size_b orielref12_size_l0 orielref12_size_l1 strat_Find_1_b orielref12_sizeFilter_b orielref12_sizeFilter_l0 orielref12_sizeFilter_l1 strat_Holds_b orielref12_path_b orielref12_path_l0 orielref12_path_l1 strat_node_holds_b orielref12_filter_b orielref12_filter_l0 orielref12_filter_l1 orielref12_filter_l2 orielref12_filter_l3 orielref12_filter_l4 strat_node_attr_b strat_node_attr_l0 api_Filter_2_b api_Filter_3_b api_Path_5_b orielref12_named_b orielref04_Right_b orielref04_Right_l0 api_Filter_4_b api_Filter_4_l0 api_Filter_5_b api_Filter_5_l0 api_Path_6_b api_Path_6_l0 orielref03_Plain_b orielref03_Plain_l0 orielref01_All_b orielref01_All_l0 orielref01_All_l1 strat_node_fails_b strat_node_holds_2_b strat_node_leads_b orielref02_Start_b orielref01_Rune_b orielref01_Rune_l0 strat_node_attr_2_b strat_node_attr_2_l0 orielref01_Put_b orielref01_cut_b orielref01_cut_l0 orielref01_cut_l1 orielref01_cut_l2 orielref01_cut_l3 orielref01_cut_l4 orielref01_value_b orielref01_value_l0 orielref01_value_l1 orielref09_Few_b orielref09_Few_l0 orielref09_Few_l1 orielref02_Char_b orielref02_Part_b orielref01_begins_b orielref01_begins_l0 orielref02_Blank_b orielref10_Whole_b strat_Tests_b strat_Tests_l0 strat_Tests_l1 orielref05_Find_b orielref05_Find_l0 orielref09_Depth_b orielref09_Depth_l0 orielref09_Depth_l1 orielref09_Depth_l2 orielref09_Right_b orielref09_Right_l0 orielref09_Right_l1 orielref09_Right_l2 orielref09_named_b orielref16_Make_b orielref16_Make_l0 orielref16_Make_l1 orielref16_From_b orielref16_From_l0 orielref16_From_l1 orielref12_Filters_b orielref12_Filters_l0 orielref12_Filters_l1 orielref12_Filters_l2 orielref12_Filters_l3 orielref16_leads_b orielref16_leads_l0 orielref16_leads_l1 orielref16_leads_l2 orielref16_leads_l3 orielref16_leads_l4 orielref16_leads_l5 orielref16_leads_l6 orielref16_leads_l7 orielref16_leads_l8 orielref16_leads_l9 orielref16_leads_l10 orielref16_leads_l11 orielref16_leads_l12 orielref16_leads_l13 orielref12_within_b orielref12_within_l0 orielref12_within_l1 orielref16_first_b orielref16_has_b orielref16_has_l0 orielref16_next_b orielref16_Holds_b orielref16_Holds_l0 orielref16_Holds_l1 orielref16_number_b orielref16_number_l0 orielref10_End_b orielref10_End_l0
theorem value_tot (s : ByteArray) (at_ n : Int) (h0 : 0 ≤ at_) (h1 : at_ + n ≤ s.size) (h2 : 0 ≤ n) (hn : n ≤ 4) (hs : s.size ≤ 2097152) : Tot (fun k _ _ => (lv k).orielref01_value s at_ n) (fun _ => True) := by
  have hl : ∀ (d : Nat) (v3 v4 : Int), 0 ≤ v4 → (n - v4).toNat = d → Tot (fun k a b => orielref01_value_l0 (lv k) k s at_ n a v3 v4) (fun _ => True) := by
    intro d
    induction d with
    | zero =>
      intro v3 v4 h3 h4
      refine Tot.step0 (fun k a b => orielref01_value_l0_q (lv k) k s at_ n a v3 v4) ?_
      exact Tot.f (decide_eq_false (by omega)) (Tot.ret trivial)
    | succ d ih =>
      intro v3 v4 h3 h4
      have hi : ∀ v, Tot (fun k a b => orielref01_value_l0 (lv k) k s at_ n a v (IntKind.i64.wrap (v4 + 1))) (fun _ => True) := fun v => by
        rw [wrap_id (by omega) (by omega)]
        exact ih v (v4 + 1) (by omega) (by omega)
      have hm : ∀ v5, Tot (fun k a b => orielref01_value_l1 (lv k) k s at_ n a v3 v4 v5) (fun _ => True) := fun v5 => by
        refine Tot.congr ?_ (fun k a b => orielref01_value_l1_q (lv k) k s at_ n a v3 v4 v5)
        repeat' first
          | refine Tot.cond (fun _ => ?_) (fun _ => ?_)
          | exact hi _
      refine Tot.step0 (fun k a b => orielref01_value_l0_q (lv k) k s at_ n a v3 v4) ?_
      have hw : IntKind.i64.wrap (at_ + v4) = at_ + v4 := wrap_id (by omega) (by omega)
      refine Tot.t (decide_eq_true (by omega)) (Tot.t (decide_eq_true (by omega)) (Tot.t (decide_eq_true (by omega)) ?_))
      repeat' first
        | refine Tot.cond (fun _ => ?_) (fun _ => ?_)
        | exact hm _
  exact orielref01_value_up _ _ _ (Tot.congr (Tot.in0 (hl _ 0 0 (by omega) rfl)) (fun k _ _ => orielref01_value_q (lv k) k s at_ n))
theorem put_tot (r : Int) : Tot (fun k _ _ => (lv k).orielref01_Put r) (fun l => l.length ≤ 4) := by
  refine orielref01_Put_up _ (Tot.congr ?_ (fun k _ _ => orielref01_Put_q (lv k) k r))
  repeat' first
    | refine Tot.cond (fun _ => ?_) (fun _ => ?_)
    | exact Tot.ret (by simp)
theorem begins_tot (s : ByteArray) (at_ : Int) (l : List (List C)) (h0 : 0 ≤ at_) (h1 : at_ ≤ s.size) (hl : l.length ≤ 2097152) (hs : s.size ≤ 2097160) : Tot (fun k _ _ => (lv k).orielref01_begins s at_ l) (fun _ => True) := by
  refine orielref01_begins_up _ _ _ (Tot.congr ?_ (fun k _ _ => orielref01_begins_q (lv k) k s at_ l))
  have hw : IntKind.i64.wrap (at_ + (l.length : Int)) = at_ + l.length := wrap_id (by omega) (by omega)
  rw [hw]
  refine Tot.cond (fun _ => Tot.ret trivial) (fun _ => Tot.cond (fun _ => Tot.ret trivial) (fun hc => ?_))
  have hc := of_decide_eq_false hc
  have hl : ∀ (d : Nat) (v3 : Int), 0 ≤ v3 → ((l.length : Int) - v3).toNat = d → Tot (fun k a b => orielref01_begins_l0 (lv k) k s at_ l a v3) (fun _ => True) := by
    intro d
    induction d with
    | zero =>
      intro v3 h3 h4
      refine Tot.step0 (fun k a b => orielref01_begins_l0_q (lv k) k s at_ l a v3) ?_
      exact Tot.f (decide_eq_false (by omega)) (Tot.ret trivial)
    | succ d ih =>
      intro v3 h3 h4
      refine Tot.step0 (fun k a b => orielref01_begins_l0_q (lv k) k s at_ l a v3) ?_
      have hw : IntKind.i64.wrap (at_ + v3) = at_ + v3 := wrap_id (by omega) (by omega)
      rw [hw, wrap_id (x := v3 + 1) (by omega) (by omega)]
      refine Tot.t (decide_eq_true (by omega)) (Tot.t (decide_eq_true (by omega)) (Tot.t (decide_eq_true (by omega)) (Tot.t (decide_eq_true (by omega)) (Tot.t (decide_eq_true (by omega)) ?_))))
      exact Tot.cond (fun _ => Tot.ret trivial) (fun _ => ih _ (by omega) (by omega))
  exact Tot.in0 (hl _ 0 (by omega) rfl)
-- UtfB
theorem size_rowBytes (l : List (List C)) : (rowBytes l).size = l.length := by
  unfold rowBytes
  show (List.toArray _).size = _
  rw [List.size_toArray, List.length_map]
theorem len_bytesRow (s : ByteArray) : (bytesRow s).length = s.size := by
  unfold bytesRow
  rw [List.length_map, Array.length_toList]
  rfl
theorem size_app (a b : ByteArray) : (a ++ b).size = a.size + b.size := by simp
theorem size_extract (s : ByteArray) (a b : Nat) : (s.extract a b).size = min b s.size - a := by simp
set_option maxRecDepth 100000 in
theorem cut_tot (s : ByteArray) (at_ : Int) (h0 : 0 ≤ at_) (h1 : at_ ≤ s.size) (hs : s.size ≤ 1048576) : Tot (fun k _ _ => (lv k).orielref01_cut s at_) (fun _ => True) := by
  have hw : IntKind.i64.wrap ((s.size : Int) - at_) = s.size - at_ := wrap_id (by omega) (by omega)
  refine orielref01_cut_up _ _ (Tot.congr ?_ (fun k _ _ => orielref01_cut_q (lv k) k s at_))
  rw [hw]
  refine Tot.cond (fun _ => Tot.ret trivial) (fun hn => Tot.cond (fun _ => Tot.ret trivial) (fun hn2 => ?_))
  have hn := of_decide_eq_false hn
  have hn2 := of_decide_eq_false hn2
  rw [wrap_id (x := (s.size : Int) - at_ + 1) (by omega) (by omega)]
  have hx : (s.extract at_.toNat ((s.size : Int).toNat)).size = s.size - at_.toNat := by rw [size_extract]; omega
  have key : ∀ (d : Nat) (v3 : Int), (s.size : Int) - at_ + 1 ≤ v3 → (5 - v3).toNat = d → Tot (fun k a b => orielref01_cut_l0 (lv k) k s at_ a v3) (fun _ => True) := by
    intro d
    induction d with
    | zero =>
      intro v3 h3 h4
      refine Tot.step0 (fun k a b => orielref01_cut_l0_q (lv k) k s at_ a v3) ?_
      exact Tot.f (decide_eq_false (by omega)) (Tot.ret trivial)
    | succ d ih =>
      intro v3 h3 h4
      have hnext : Tot (fun k a b => orielref01_cut_l0 (lv k) k s at_ a (IntKind.i64.wrap (v3 + 1))) (fun _ => True) := by
        rw [wrap_id (by omega) (by omega)]
        exact ih _ (by omega) (by omega)
      have h4l : ∀ (d : Nat) (v5 v6 v7 : Int), 0 ≤ v7 → (64 - v7).toNat = d → Tot (fun k a b => orielref01_cut_l4 (lv k) k s at_ a b v3 v5 v6 v7) (fun _ => True) := by
        intro d
        induction d with
        | zero =>
          intro v5 v6 v7 h5 h6
          refine Tot.step1 (fun k a b => orielref01_cut_l4_q (lv k) k s at_ a b v3 v5 v6 v7) ?_
          exact Tot.f (decide_eq_false (by omega)) hnext
        | succ d ihd =>
          intro v5 v6 v7 h5 h6
          refine Tot.step1 (fun k a b => orielref01_cut_l4_q (lv k) k s at_ a b v3 v5 v6 v7) ?_
          have hi : Tot (fun k a b => orielref01_cut_l4 (lv k) k s at_ a b v3 v5 v6 (IntKind.i64.wrap (v7 + 1))) (fun _ => True) := by
            rw [wrap_id (by omega) (by omega)]
            exact ihd v5 v6 _ (by omega) (by omega)
          have hp : ∀ r, Tot (fun k a b => ((lv k).orielref01_Put r).bind fun r1 => cond ((r1.length : Int) == v3) (cond (decide ((rowBytes r1).size + (⟨#[120]⟩ : ByteArray).size ≤ 4611686018427387904)) (cond (roomy Try.prog 5 ((s.extract at_.toNat ((s.size : Int).toNat)).size)) (((lv k).orielref01_begins ((rowBytes r1) ++ (⟨#[120]⟩ : ByteArray)) 0 (bytesRow (s.extract at_.toNat ((s.size : Int).toNat)))).bind fun r2 => cond r2 (some true) (orielref01_cut_l4 (lv k) k s at_ a b v3 v5 v6 (IntKind.i64.wrap (v7 + 1)))) none) none) (orielref01_cut_l4 (lv k) k s at_ a b v3 v5 v6 (IntKind.i64.wrap (v7 + 1)))) (fun _ => True) := fun r => by
            refine Tot.bind (put_tot r) fun r1 hr1 => Tot.cond (fun _ => ?_) (fun _ => hi)
            have e1 : (⟨#[120]⟩ : ByteArray).size = 1 := rfl
            refine Tot.t (decide_eq_true (by rw [size_rowBytes, e1]; omega)) (Tot.t (roomy_of (by have : Try.prog.bytesOf 5 = 1 := by kernel_rfl
                                                                                                  omega) (by omega)) ?_)
            refine Tot.bind (begins_tot _ 0 _ (by omega) (by omega) (by rw [len_bytesRow]; omega) (by rw [size_app, size_rowBytes, e1]; omega)) fun r2 _ => Tot.cond (fun _ => Tot.ret trivial) (fun _ => hi)
          refine Tot.t (decide_eq_true (by omega)) (Tot.cond (fun _ => hp _) (fun _ => hp _))
      have h3l : ∀ v5 v6 v7 v8, Tot (fun k a b => orielref01_cut_l3 (lv k) k s at_ a v3 v5 v6 v7 v8) (fun _ => True) := fun v5 v6 v7 v8 => by
        refine Tot.congr ?_ (fun k a b => orielref01_cut_l3_q (lv k) k s at_ a v3 v5 v6 v7 v8)
        exact Tot.cond (fun _ => hnext) (fun _ => Tot.cond (fun _ => hnext) (fun _ => Tot.in1 (h4l _ v5 v6 0 (by omega) rfl)))
      have h2l : ∀ (d : Nat) (v5 v6 : Int) (v7 : Bool) (v8 : Int), 1 ≤ v8 → ((s.size : Int) - at_ - v8).toNat = d → Tot (fun k a b => orielref01_cut_l2 (lv k) k s at_ a b v3 v5 v6 v7 v8) (fun _ => True) := by
        intro d
        induction d with
        | zero =>
          intro v5 v6 v7 v8 h5 h6
          refine Tot.step1 (fun k a b => orielref01_cut_l2_q (lv k) k s at_ a b v3 v5 v6 v7 v8) ?_
          rw [hw]
          refine Tot.f (decide_eq_false (by omega)) ?_
          have g1 : decide ((0 : Int) ≤ at_) = true := decide_eq_true h0
          have g2 : decide (at_ < (s.size : Int)) = true := decide_eq_true (by omega)
          repeat' first
            | exact h3l _ _ _ _
            | refine Tot.t g1 ?_
            | refine Tot.t g2 ?_
            | refine Tot.cond (fun _ => ?_) (fun _ => ?_)
        | succ d ihd =>
          intro v5 v6 v7 v8 h5 h6
          refine Tot.step1 (fun k a b => orielref01_cut_l2_q (lv k) k s at_ a b v3 v5 v6 v7 v8) ?_
          rw [hw, wrap_id (x := at_ + v8) (by omega) (by omega), wrap_id (x := v8 + 1) (by omega) (by omega)]
          refine Tot.t (decide_eq_true (by omega)) ?_
          have g1 : decide ((0 : Int) ≤ at_ + v8) = true := decide_eq_true (by omega)
          have g2 : decide (at_ + v8 < (s.size : Int)) = true := decide_eq_true (by omega)
          repeat' first
            | exact ihd _ _ _ _ (by omega) (by omega)
            | refine Tot.t g1 ?_
            | refine Tot.t g2 ?_
            | refine Tot.cond (fun _ => ?_) (fun _ => ?_)
      have h1l : ∀ (d : Nat) (v5 v6 : ByteArray), v5.size = v6.size → v5.size ≤ 2097152 → (v3 - v5.size).toNat = d → Tot (fun k a b => orielref01_cut_l1 (lv k) k s at_ a b v3 v5 v6) (fun _ => True) := by
        intro d
        induction d with
        | zero =>
          intro v5 v6 h5 h6 h7
          refine Tot.step1 (fun k a b => orielref01_cut_l1_q (lv k) k s at_ a b v3 v5 v6) ?_
          refine Tot.f (decide_eq_false (by omega)) ?_
          exact Tot.bind (value_tot v5 0 v3 (by omega) (by omega) (by omega) (by omega) h6) fun r1 _ => Tot.bind (value_tot v6 0 v3 (by omega) (by omega) (by omega) (by omega) (by omega)) fun r2 _ => Tot.in1 (h2l _ r1 r2 true 1 (by omega) rfl)
        | succ d ihd =>
          intro v5 v6 h5 h6 h7
          refine Tot.step1 (fun k a b => orielref01_cut_l1_q (lv k) k s at_ a b v3 v5 v6) ?_
          have e1 : (⟨#[128]⟩ : ByteArray).size = 1 := rfl
          have e2 : (⟨#[191]⟩ : ByteArray).size = 1 := rfl
          refine Tot.t (decide_eq_true (by omega)) (Tot.t (decide_eq_true (by rw [e1]; omega)) (Tot.t (decide_eq_true (by rw [e2]; omega)) ?_))
          exact ihd _ _ (by rw [size_app, size_app, e1, e2]; omega) (by rw [size_app, e1]; omega) (by rw [size_app, e1]; omega)
      refine Tot.step0 (fun k a b => orielref01_cut_l0_q (lv k) k s at_ a v3) ?_
      refine Tot.t (decide_eq_true (by omega)) (Tot.t (decide_eq_true (by omega)) (Tot.t (decide_eq_true (by omega)) (Tot.t (decide_eq_true (by omega)) (Tot.t (decide_eq_true (by omega)) ?_))))
      exact Tot.in1 (h1l _ _ _ rfl (by rw [hx]; omega) rfl)
  exact Tot.in0 (key _ _ (by omega) rfl)
theorem rune_tot (s : ByteArray) (at_ : Int) (h0 : 0 ≤ at_) (hs : s.size ≤ 1048576) : Tot (fun k _ _ => (lv k).orielref01_Rune s at_) (fun r => r.2.2 = 0 → 1 ≤ r.2.1 ∧ r.2.1 ≤ 4 ∧ at_ + r.2.1 ≤ s.size) := by
  refine orielref01_Rune_up _ _ (Tot.congr ?_ (fun k _ _ => orielref01_Rune_q (lv k) k s at_))
  refine Tot.cond (fun _ => Tot.ret (fun h => by cases h)) (fun h1 => Tot.cond (fun _ => Tot.ret (fun h => by cases h)) (fun h2 => ?_))
  have h1 := of_decide_eq_false h1
  have h2 := of_decide_eq_false h2
  have hc : Tot (fun k a b => ((lv k).orielref01_cut s at_).bind fun r7 => cond r7 (some ((0 : Int), (0 : Int), (7 : Int))) (some (0, 0, 2))) (fun r => r.2.2 = 0 → 1 ≤ r.2.1 ∧ r.2.1 ≤ 4 ∧ at_ + r.2.1 ≤ s.size) :=
    Tot.bind (cut_tot s at_ h0 (by omega) hs) fun r _ => Tot.cond (fun _ => Tot.ret (fun h => by cases h)) (fun _ => Tot.ret (fun h => by cases h))
  have key : ∀ (d : Nat) (v2 : Int), 1 ≤ v2 → (5 - v2).toNat = d → Tot (fun k a b => orielref01_Rune_l0 (lv k) k s at_ a v2) (fun r => r.2.2 = 0 → 1 ≤ r.2.1 ∧ r.2.1 ≤ 4 ∧ at_ + r.2.1 ≤ s.size) := by
    intro d
    induction d with
    | zero =>
      intro v2 h3 h4
      refine Tot.step0 (fun k a b => orielref01_Rune_l0_q (lv k) k s at_ a v2) ?_
      exact Tot.f (decide_eq_false (by omega)) hc
    | succ d ih =>
      intro v2 h3 h4
      refine Tot.step0 (fun k a b => orielref01_Rune_l0_q (lv k) k s at_ a v2) ?_
      rw [wrap_id (x := at_ + v2) (by omega) (by omega), wrap_id (x := v2 + 1) (by omega) (by omega)]
      have hi := ih (v2 + 1) (by omega) (by omega)
      refine Tot.t (decide_eq_true (by omega)) (Tot.cond (fun h5 => ?_) (fun _ => hc))
      have h5 := of_decide_eq_true h5
      have hp : ∀ v, Tot (fun k a b => ((lv k).orielref01_Put v).bind fun r2 => cond ((r2.length : Int) == v2) (((lv k).orielref01_begins s at_ r2).bind fun r3 => cond r3 (some (v, v2, 0)) (orielref01_Rune_l0 (lv k) k s at_ a (v2 + 1))) (orielref01_Rune_l0 (lv k) k s at_ a (v2 + 1))) (fun r => r.2.2 = 0 → 1 ≤ r.2.1 ∧ r.2.1 ≤ 4 ∧ at_ + r.2.1 ≤ s.size) := fun v =>
        Tot.bind (put_tot v) fun r2 hr2 => Tot.cond (fun _ => Tot.bind (begins_tot s at_ r2 h0 (by omega) (by omega) (by omega)) fun r3 _ => Tot.cond (fun _ => Tot.ret (fun _ => ⟨h3, by show v2 ≤ 4; omega, h5⟩)) (fun _ => hi)) (fun _ => hi)
      refine Tot.t (decide_eq_true (by omega)) (Tot.t (decide_eq_true (by omega)) (Tot.cond (fun h6 => ?_) (fun _ => hp _)))
      exact Tot.bind (value_tot s at_ v2 h0 (by omega) (by omega) (by omega) (by omega)) fun r1 _ => hp r1
  exact Tot.in0 (key _ 1 (by omega) rfl)
theorem all_tot (s : ByteArray) (hs : s.size ≤ 1048576) : Tot (fun k _ _ => (lv k).orielref01_All s) (fun r => r.1.length ≤ 1048576) := by
  refine orielref01_All_up _ (Tot.congr ?_ (fun k _ _ => orielref01_All_q (lv k) k s))
  have key : ∀ (d : Nat) (v1 : Int) (v2 : List (List C)), 0 ≤ v1 → v1 ≤ s.size → (v2.length : Int) ≤ v1 → ((s.size : Int) - v1).toNat ≤ d → Tot (fun k a b => orielref01_All_l1 (lv k) k s a v1 v2) (fun r => r.1.length ≤ 1048576) := by
    intro d
    induction d with
    | zero =>
      intro v1 v2 h0 h1 h2 h3
      refine Tot.step0 (fun k a b => orielref01_All_l1_q (lv k) k s a v1 v2) ?_
      exact Tot.f (decide_eq_false (by omega)) (Tot.ret (by show v2.length ≤ 1048576; omega))
    | succ d ih =>
      intro v1 v2 h0 h1 h2 h3
      refine Tot.step0 (fun k a b => orielref01_All_l1_q (lv k) k s a v1 v2) ?_
      refine Tot.cond (fun h4 => ?_) (fun _ => Tot.ret (by show v2.length ≤ 1048576; omega))
      refine Tot.bind (rune_tot s v1 h0 hs) fun r hr => Tot.cond (fun _ => Tot.ret (by show v2.length ≤ 1048576; omega)) (fun h5 => ?_)
      have h5 : r.2.2 = 0 := by simpa using h5
      obtain ⟨h6, h7, h8⟩ := hr h5
      rw [wrap_id (by omega) (by omega)]
      refine Tot.t (roomy_of (by have : Try.prog.bytesOf 21 = 4 := by kernel_rfl
                                 omega) (by omega)) (ih _ _ (by omega) (by omega) (by rw [List.length_append]; simp; omega) (by omega))
  refine Tot.in0 (g := fun k a _ => orielref01_All_l0 (lv k) k s a) (Tot.step0 (fun k a b => orielref01_All_l0_q (lv k) k s a) ?_)
  refine Tot.cond (fun h4 => ?_) (fun _ => Tot.ret (by show ([] : List (List C)).length ≤ 1048576; simp))
  refine Tot.bind (rune_tot s 0 (by omega) hs) fun r hr => Tot.cond (fun _ => Tot.ret (by show ([] : List (List C)).length ≤ 1048576; simp)) (fun h5 => ?_)
  have h5 : r.2.2 = 0 := by simpa using h5
  obtain ⟨h6, h7, h8⟩ := hr h5
  rw [wrap_id (by omega) (by omega)]
  exact key _ _ _ (by omega) (by omega) (by simp; omega) (Nat.le_refl _)
theorem blank_tot (r : Int) : Tot (fun k _ _ => (lv k).orielref02_Blank r) (fun _ => True) := by
  refine orielref02_Blank_up _ (Tot.congr ?_ (fun k _ _ => orielref02_Blank_q (lv k) k r))
  repeat' first
    | refine Tot.cond (fun _ => ?_) (fun _ => ?_)
    | exact Tot.ret trivial
theorem char_tot (r : Int) : Tot (fun k _ _ => (lv k).orielref02_Char r) (fun _ => True) := by
  refine orielref02_Char_up _ (Tot.congr ?_ (fun k _ _ => orielref02_Char_q (lv k) k r))
  repeat' first
    | refine Tot.cond (fun _ => ?_) (fun _ => ?_)
    | exact Tot.ret trivial
    | refine Tot.bind (blank_tot _) fun _ _ => ?_
set_option maxRecDepth 100000 in
theorem start_tot (r : Int) : Tot (fun k _ _ => (lv k).orielref02_Start r) (fun _ => True) := by
  refine orielref02_Start_up _ (Tot.congr ?_ (fun k _ _ => orielref02_Start_q (lv k) k r))
  repeat' first
    | refine Tot.cond (fun _ => ?_) (fun _ => ?_)
    | exact Tot.ret trivial
set_option maxRecDepth 100000 in
theorem part_tot (r : Int) : Tot (fun k _ _ => (lv k).orielref02_Part r) (fun _ => True) := by
  refine orielref02_Part_up _ (Tot.congr ?_ (fun k _ _ => orielref02_Part_q (lv k) k r))
  repeat' first
    | refine Tot.cond (fun _ => ?_) (fun _ => ?_)
    | exact Tot.ret trivial
    | refine Tot.bind (start_tot _) fun _ _ => ?_
theorem right4_tot (s : ByteArray) (hs : s.size ≤ 1048576) : Tot (fun k _ _ => (lv k).orielref04_Right s) (fun _ => True) := by
  refine orielref04_Right_up _ (Tot.congr ?_ (fun k _ _ => orielref04_Right_q (lv k) k s))
  refine Tot.bind (all_tot s hs) fun r hr => ?_
  have key : ∀ (d : Nat) (v1 : Int), 0 ≤ v1 → ((r.1.length : Int) - v1).toNat = d → Tot (fun k a b => orielref04_Right_l0 (lv k) k s a r.2.2 v1 r.1) (fun _ => True) := by
    intro d
    induction d with
    | zero =>
      intro v1 h0 h1
      refine Tot.step0 (fun k a b => orielref04_Right_l0_q (lv k) k s a r.2.2 v1 r.1) ?_
      exact Tot.f (decide_eq_false (by omega)) (Tot.ret trivial)
    | succ d ih =>
      intro v1 h0 h1
      refine Tot.step0 (fun k a b => orielref04_Right_l0_q (lv k) k s a r.2.2 v1 r.1) ?_
      rw [wrap_id (x := v1 + 1) (by omega) (by omega)]
      refine Tot.t (decide_eq_true (by omega)) (Tot.t (decide_eq_true (by omega)) (Tot.t (decide_eq_true (by omega)) ?_))
      exact Tot.bind (char_tot _) fun r1 _ => Tot.cond (fun _ => Tot.ret trivial) (fun _ => ih _ (by omega) (by omega))
  exact Tot.in0 (key _ 0 (by omega) rfl)
theorem len_runesRow (s : ByteArray) : (runesRow s).length ≤ s.size := by
  unfold runesRow
  rw [List.length_map]
  exact runesAux_length s s.size 0
theorem plain_tot (s : ByteArray) (hs : s.size ≤ 1048576) : Tot (fun k _ _ => (lv k).orielref03_Plain s) (fun _ => True) := by
  refine orielref03_Plain_up _ (Tot.congr ?_ (fun k _ _ => orielref03_Plain_q (lv k) k s))
  have hl := len_runesRow s
  refine Tot.t (roomy_of (by have : Try.prog.bytesOf 21 = 4 := by kernel_rfl
                             omega) (by omega)) ?_
  refine Tot.cond (fun _ => Tot.ret trivial) (fun h1 => ?_)
  have h1 : (runesRow s).length ≠ 0 := by simpa using h1
  refine Tot.t (decide_eq_true (by omega)) (Tot.bind (start_tot _) fun r _ => Tot.cond (fun _ => Tot.ret trivial) (fun _ => ?_))
  have key : ∀ (d : Nat) (v1 : Int), 0 ≤ v1 → (((runesRow s).length : Int) - v1).toNat = d → Tot (fun k a b => orielref03_Plain_l0 (lv k) k s a v1) (fun _ => True) := by
    intro d
    induction d with
    | zero =>
      intro v1 h0 h1
      refine Tot.step0 (fun k a b => orielref03_Plain_l0_q (lv k) k s a v1) ?_
      exact Tot.f (decide_eq_false (by omega)) (Tot.ret trivial)
    | succ d ih =>
      intro v1 h0 h1
      refine Tot.step0 (fun k a b => orielref03_Plain_l0_q (lv k) k s a v1) ?_
      rw [wrap_id (x := v1 + 1) (by omega) (by omega)]
      refine Tot.t (decide_eq_true (by omega)) (Tot.t (decide_eq_true (by omega)) (Tot.t (decide_eq_true (by omega)) ?_))
      exact Tot.bind (part_tot _) fun r1 _ => Tot.cond (fun _ => Tot.ret trivial) (fun _ => ih _ (by omega) (by omega))
  exact Tot.in0 (key _ 0 (by omega) rfl)
theorem find_tot (s : ByteArray) (x : ByteArray) (hs : s.size ≤ 1048576) (hx : x.size ≤ 1048576) : Tot (fun k _ _ => (lv k).orielref05_Find s 0 x) (fun _ => True) := by
  refine orielref05_Find_up _ _ _ (Tot.congr ?_ (fun k _ _ => orielref05_Find_q (lv k) k s 0 x))
  have key : ∀ (d : Nat) (v2 : Int), 0 ≤ v2 → v2 ≤ 1048577 → ((s.size : Int) + 1 - v2).toNat = d → Tot (fun k a b => orielref05_Find_l0 (lv k) k s 0 x a v2) (fun _ => True) := by
    intro d
    induction d with
    | zero =>
      intro v2 h0 h1 h2
      refine Tot.step0 (fun k a b => orielref05_Find_l0_q (lv k) k s 0 x a v2) ?_
      rw [wrap_id (x := v2 + (x.size : Int)) (by omega) (by omega)]
      exact Tot.f (decide_eq_false (by omega)) (Tot.ret trivial)
    | succ d ih =>
      intro v2 h0 h1 h2
      refine Tot.step0 (fun k a b => orielref05_Find_l0_q (lv k) k s 0 x a v2) ?_
      rw [wrap_id (x := v2 + (x.size : Int)) (by omega) (by omega), wrap_id (x := v2 + 1) (by omega) (by omega)]
      refine Tot.cond (fun h3 => ?_) (fun _ => Tot.ret trivial)
      have h3 := of_decide_eq_true h3
      refine Tot.t (decide_eq_true (by omega)) (Tot.t (decide_eq_true (by omega)) (Tot.t (decide_eq_true (by omega)) (Tot.t (decide_eq_true (by omega)) ?_)))
      exact Tot.cond (fun _ => Tot.ret trivial) (fun _ => ih _ (by omega) (by omega) (by omega))
  exact Tot.in0 (key _ 0 (by omega) (by omega) rfl)
theorem named_tot (s t : ByteArray) (hs : s.size ≤ 1048576) (ht : t.size ≤ 1048576) : Tot (fun k _ _ => (lv k).orielref12_named s t) (fun _ => True) := by
  refine orielref12_named_up _ _ (Tot.congr ?_ (fun k _ _ => orielref12_named_q (lv k) k s t))
  refine Tot.cond (fun _ => Tot.bind (plain_tot t ht) fun r1 _ => Tot.cond (fun _ => Tot.bind (right4_tot t ht) fun r2 _ => Tot.cond (fun _ => Tot.bind (right4_tot s hs) fun r3 _ => Tot.cond (fun _ => Tot.bind (find_tot s _ hs ?_) fun r4 _ => Tot.cond (fun _ => Tot.bind (find_tot s _ hs ?_) fun r5 _ => Tot.ret trivial) (fun _ => Tot.ret trivial)) (fun _ => Tot.ret trivial)) (fun _ => Tot.ret trivial)) (fun _ => Tot.ret trivial)) (fun _ => Tot.ret trivial)
  · have : (⟨#[123]⟩ : ByteArray).size = 1 := rfl
    omega
  · have : (⟨#[125]⟩ : ByteArray).size = 1 := rfl
    omega
-- Right
abbrev BB : Nat := 1048576
/-- a right path (true), a right filter (false), as far as d parts lie within one another -/
def ok : Nat → Bool → List C → Prop
  | 0, _, _ => False
  | d + 1, true, a => 1 ≤ gi a 0 ∧ gi a 0 ≤ 7 ∧ (gi a 0 = 4 ∨ gi a 0 = 5 → 2 ≤ (gr a 1).length) ∧ (gi a 0 = 6 → (gr a 1).length = 1) ∧ (gi a 0 = 7 ↔ (gr a 2).length = 1) ∧ (gr a 2).length ≤ 1 ∧ (gr a 1).length ≤ 64 ∧ (gi a 0 ≠ 4 → gi a 0 ≠ 5 → gi a 0 ≠ 6 → (gr a 1).length = 0) ∧ (∀ i, i < (gr a 1).length → ok d true ((gr a 1).getD i [])) ∧ (∀ i, i < (gr a 2).length → ok d false ((gr a 2).getD i []))
  | d + 1, false, a => 1 ≤ gi a 0 ∧ gi a 0 ≤ 11 ∧ (gi a 0 = 8 → (gr a 4).length = 1) ∧ (gr a 4).length ≤ 64 ∧ (gi a 0 = 9 ∨ gi a 0 = 10 → 2 ≤ (gr a 4).length) ∧ (gi a 0 ≠ 8 → gi a 0 ≠ 9 → gi a 0 ≠ 10 → (gr a 4).length = 0) ∧ (gi a 0 = 11 ↔ (gr a 5).length = 1) ∧ (gr a 5).length ≤ 1 ∧ (∀ i, i < (gr a 4).length → ok d false ((gr a 4).getD i [])) ∧ (∀ i, i < (gr a 5).length → ok d true ((gr a 5).getD i []))
/-- how many parts -/
def sz : Nat → Bool → List C → Nat
  | 0, _, _ => 1
  | d + 1, true, a => 1 + ((gr a 1).map (sz d true)).sum + ((gr a 2).map (sz d false)).sum
  | d + 1, false, a => 1 + ((gr a 4).map (sz d false)).sum + ((gr a 5).map (sz d true)).sum
theorem sum_take {α : Type} (l : List α) (f : α → Nat) (i : Nat) (d : α) (h : i < l.length) : ((l.take (i + 1)).map f).sum = ((l.take i).map f).sum + f (l.getD i d) := by
  rw [List.take_add_one, List.map_append, List.sum_append, List.getElem?_eq_getElem h]
  simp [List.getD, List.getElem?_eq_getElem h]
theorem part_lt {a : List C} {j i M : Nat} (h : SizeOf.sizeOf a < M + 1) (hi : i < (gr a j).length) : SizeOf.sizeOf ((gr a j).getD i []) < M := by
  have h1 := gr_size j a
  have h2 := List.sizeOf_lt_of_mem (getD_mem (d := []) hi)
  omega
def SizeQ (k : Bool) (a : List C) (most r : Int) : Prop := 1 ≤ r ∧ r ≤ most + 1 ∧ (r ≤ most → ∀ d, (sz d k a : Int) ≤ r)
theorem size_tot : ∀ M : Nat,
    (∀ (a : List C) (most : Int), SizeOf.sizeOf a < M → SmR BB a → 0 ≤ most → most ≤ 64 → Tot (fun k _ _ => (lv k).orielref12_size (gi a 0) (gr a 1) (gr a 2) most) (SizeQ true a most)) ∧
    (∀ (a : List C) (most : Int), SizeOf.sizeOf a < M → SmR BB a → 0 ≤ most → most ≤ 64 → Tot (fun k _ _ => (lv k).orielref12_sizeFilter (gi a 0) (gs a 1) (gs a 2) (gs a 3) (gr a 4) (gr a 5) most) (SizeQ false a most)) := by
  intro M
  induction M with
  | zero => exact ⟨fun _ _ h => by omega, fun _ _ h => by omega⟩
  | succ M ih =>
    constructor
    · intro a most hM ha h0 h64
      have hl1 : (gr a 1).length ≤ 1048576 := (ha.gr 1).1
      have hl2 : (gr a 2).length ≤ 1048576 := (ha.gr 2).1
      refine orielref12_size_up _ _ _ _ (Tot.congr ?_ (fun k _ _ => orielref12_size_q (lv k) k (gi a 0) (gr a 1) (gr a 2) most))
      have l1 : ∀ (d i : Nat) (v : Int), (gr a 2).length - i = d → i ≤ (gr a 2).length → 1 ≤ v → v ≤ most + 1 → (v ≤ most → ∀ d, 1 + (((gr a 1).map (sz d true)).sum : Int) + (((gr a 2).take i).map (sz d false)).sum ≤ v) → Tot (fun k x y => orielref12_size_l1 (lv k) k (gi a 0) (gr a 1) (gr a 2) most x v i) (SizeQ true a most) := by
        intro d
        induction d using Nat.strongRecOn with | _ d ihd => ?_
        intro i v hd hi g1 g2 g3
        have hend : i = (gr a 2).length ∨ ¬ v ≤ most → SizeQ true a most v := fun h => ⟨g1, g2, fun hv d => by
          rcases h with h | h
          · have := g3 hv (d - 1)
            rw [h, List.take_length] at this
            cases d with
            | zero => simp only [sz]; omega
            | succ d => simp only [sz]; simp only [Nat.add_sub_cancel] at this; omega
          · exact absurd hv h⟩
        refine Tot.step0 (fun k x y => orielref12_size_l1_q (lv k) k (gi a 0) (gr a 1) (gr a 2) most x v (i : Int)) ?_
        rw [wrap_id (x := most - v) (by omega) (by omega), wrap_id (x := (i : Int) + 1) (by omega) (by omega), Int.toNat_natCast]
        refine Tot.cond (fun hc => Tot.cond (fun hc2 => ?_) (fun hc2 => Tot.ret (hend (.inr (of_decide_eq_false hc2))))) (fun hc => Tot.ret (hend (.inl ?_)))
        · have hc := of_decide_eq_true hc
          have hc2 := of_decide_eq_true hc2
          refine Tot.t (decide_eq_true (by omega)) (Tot.t (decide_eq_true (by omega)) ?_)
          refine Tot.bind (ih.2 _ _ (part_lt hM (by omega : i < (gr a 2).length)) ((ha.gr 2).get i) (by omega) (by omega)) fun r hr => ?_
          obtain ⟨r1, r2, r3⟩ := hr
          rw [wrap_id (x := v + r) (by omega) (by omega)]
          refine ihd _ (by omega) (i + 1) (v + r) rfl (by omega) (by omega) (by omega) (fun hv d => ?_)
          have h1 := g3 (by omega) d
          have h2 := r3 (by omega) d
          rw [sum_take _ _ _ [] (by omega)]
          omega
        · have hc := of_decide_eq_false hc
          omega
      have l0 : ∀ (d i : Nat) (v : Int), (gr a 1).length - i = d → i ≤ (gr a 1).length → 1 ≤ v → v ≤ most + 1 → (v ≤ most → ∀ d, 1 + ((((gr a 1).take i).map (sz d true)).sum : Int) ≤ v) → Tot (fun k x y => orielref12_size_l0 (lv k) k (gi a 0) (gr a 1) (gr a 2) most x v i) (SizeQ true a most) := by
        intro d
        induction d using Nat.strongRecOn with | _ d ihd => ?_
        intro i v hd hi g1 g2 g3
        have hend : i = (gr a 1).length ∨ ¬ v ≤ most → Tot (fun k x y => orielref12_size_l1 (lv k) k (gi a 0) (gr a 1) (gr a 2) most k v 0) (SizeQ true a most) := fun h => Tot.in0 (l1 _ 0 v rfl (by omega) g1 g2 (fun hv d => by
          rcases h with h | h
          · have := g3 hv d
            rw [h, List.take_length] at this
            simpa using this
          · exact absurd hv h))
        refine Tot.step0 (fun k x y => orielref12_size_l0_q (lv k) k (gi a 0) (gr a 1) (gr a 2) most x v (i : Int)) ?_
        rw [wrap_id (x := most - v) (by omega) (by omega), wrap_id (x := (i : Int) + 1) (by omega) (by omega), Int.toNat_natCast]
        refine Tot.cond (fun hc => Tot.cond (fun hc2 => ?_) (fun hc2 => hend (.inr (of_decide_eq_false hc2)))) (fun hc => hend (.inl ?_))
        · have hc := of_decide_eq_true hc
          have hc2 := of_decide_eq_true hc2
          refine Tot.t (decide_eq_true (by omega)) (Tot.t (decide_eq_true (by omega)) ?_)
          refine Tot.bind (ih.1 _ _ (part_lt hM (by omega : i < (gr a 1).length)) ((ha.gr 1).get i) (by omega) (by omega)) fun r hr => ?_
          obtain ⟨r1, r2, r3⟩ := hr
          rw [wrap_id (x := v + r) (by omega) (by omega)]
          refine ihd _ (by omega) (i + 1) (v + r) rfl (by omega) (by omega) (by omega) (fun hv d => ?_)
          have h1 := g3 (by omega) d
          have h2 := r3 (by omega) d
          rw [sum_take _ _ _ [] (by omega)]
          omega
        · have hc := of_decide_eq_false hc
          omega
      exact Tot.in0 (l0 _ 0 1 rfl (by omega) (by omega) (by omega) (fun h d => by simp))
    · intro a most hM ha h0 h64
      have hl1 : (gr a 4).length ≤ 1048576 := (ha.gr 4).1
      have hl2 : (gr a 5).length ≤ 1048576 := (ha.gr 5).1
      refine orielref12_sizeFilter_up _ _ _ _ _ _ _ (Tot.congr ?_ (fun k _ _ => orielref12_sizeFilter_q (lv k) k (gi a 0) (gs a 1) (gs a 2) (gs a 3) (gr a 4) (gr a 5) most))
      have l1 : ∀ (d i : Nat) (v : Int), (gr a 5).length - i = d → i ≤ (gr a 5).length → 1 ≤ v → v ≤ most + 1 → (v ≤ most → ∀ d, 1 + (((gr a 4).map (sz d false)).sum : Int) + (((gr a 5).take i).map (sz d true)).sum ≤ v) → Tot (fun k x y => orielref12_sizeFilter_l1 (lv k) k (gi a 0) (gs a 1) (gs a 2) (gs a 3) (gr a 4) (gr a 5) most x v i) (SizeQ false a most) := by
        intro d
        induction d using Nat.strongRecOn with | _ d ihd => ?_
        intro i v hd hi g1 g2 g3
        have hend : i = (gr a 5).length ∨ ¬ v ≤ most → SizeQ false a most v := fun h => ⟨g1, g2, fun hv d => by
          rcases h with h | h
          · have := g3 hv (d - 1)
            rw [h, List.take_length] at this
            cases d with
            | zero => simp only [sz]; omega
            | succ d => simp only [sz]; simp only [Nat.add_sub_cancel] at this; omega
          · exact absurd hv h⟩
        refine Tot.step0 (fun k x y => orielref12_sizeFilter_l1_q (lv k) k (gi a 0) (gs a 1) (gs a 2) (gs a 3) (gr a 4) (gr a 5) most x v (i : Int)) ?_
        rw [wrap_id (x := most - v) (by omega) (by omega), wrap_id (x := (i : Int) + 1) (by omega) (by omega), Int.toNat_natCast]
        refine Tot.cond (fun hc => Tot.cond (fun hc2 => ?_) (fun hc2 => Tot.ret (hend (.inr (of_decide_eq_false hc2))))) (fun hc => Tot.ret (hend (.inl ?_)))
        · have hc := of_decide_eq_true hc
          have hc2 := of_decide_eq_true hc2
          refine Tot.t (decide_eq_true (by omega)) (Tot.t (decide_eq_true (by omega)) ?_)
          refine Tot.bind (ih.1 _ _ (part_lt hM (by omega : i < (gr a 5).length)) ((ha.gr 5).get i) (by omega) (by omega)) fun r hr => ?_
          obtain ⟨r1, r2, r3⟩ := hr
          rw [wrap_id (x := v + r) (by omega) (by omega)]
          refine ihd _ (by omega) (i + 1) (v + r) rfl (by omega) (by omega) (by omega) (fun hv d => ?_)
          have h1 := g3 (by omega) d
          have h2 := r3 (by omega) d
          rw [sum_take _ _ _ [] (by omega)]
          omega
        · have hc := of_decide_eq_false hc
          omega
      have l0 : ∀ (d i : Nat) (v : Int), (gr a 4).length - i = d → i ≤ (gr a 4).length → 1 ≤ v → v ≤ most + 1 → (v ≤ most → ∀ d, 1 + ((((gr a 4).take i).map (sz d false)).sum : Int) ≤ v) → Tot (fun k x y => orielref12_sizeFilter_l0 (lv k) k (gi a 0) (gs a 1) (gs a 2) (gs a 3) (gr a 4) (gr a 5) most x v i) (SizeQ false a most) := by
        intro d
        induction d using Nat.strongRecOn with | _ d ihd => ?_
        intro i v hd hi g1 g2 g3
        have hend : i = (gr a 4).length ∨ ¬ v ≤ most → Tot (fun k x y => orielref12_sizeFilter_l1 (lv k) k (gi a 0) (gs a 1) (gs a 2) (gs a 3) (gr a 4) (gr a 5) most k v 0) (SizeQ false a most) := fun h => Tot.in0 (l1 _ 0 v rfl (by omega) g1 g2 (fun hv d => by
          rcases h with h | h
          · have := g3 hv d
            rw [h, List.take_length] at this
            simpa using this
          · exact absurd hv h))
        refine Tot.step0 (fun k x y => orielref12_sizeFilter_l0_q (lv k) k (gi a 0) (gs a 1) (gs a 2) (gs a 3) (gr a 4) (gr a 5) most x v (i : Int)) ?_
        rw [wrap_id (x := most - v) (by omega) (by omega), wrap_id (x := (i : Int) + 1) (by omega) (by omega), Int.toNat_natCast]
        refine Tot.cond (fun hc => Tot.cond (fun hc2 => ?_) (fun hc2 => hend (.inr (of_decide_eq_false hc2)))) (fun hc => hend (.inl ?_))
        · have hc := of_decide_eq_true hc
          have hc2 := of_decide_eq_true hc2
          refine Tot.t (decide_eq_true (by omega)) (Tot.t (decide_eq_true (by omega)) ?_)
          refine Tot.bind (ih.2 _ _ (part_lt hM (by omega : i < (gr a 4).length)) ((ha.gr 4).get i) (by omega) (by omega)) fun r hr => ?_
          obtain ⟨r1, r2, r3⟩ := hr
          rw [wrap_id (x := v + r) (by omega) (by omega)]
          refine ihd _ (by omega) (i + 1) (v + r) rfl (by omega) (by omega) (by omega) (fun hv d => ?_)
          have h1 := g3 (by omega) d
          have h2 := r3 (by omega) d
          rw [sum_take _ _ _ [] (by omega)]
          omega
        · have hc := of_decide_eq_false hc
          omega
      exact Tot.in0 (l0 _ 0 1 rfl (by omega) (by omega) (by omega) (fun h d => by simp))
theorem right_tots : ∀ d : Nat, d ≤ 100 →
    (∀ (a : List C), SmR BB a → Tot (fun k _ _ => (lv k).orielref12_path (gi a 0) (gr a 1) (gr a 2) d) (fun r => r = true → ok d true a)) ∧
    (∀ (a : List C), SmR BB a → Tot (fun k _ _ => (lv k).orielref12_filter (gi a 0) (gs a 1) (gs a 2) (gs a 3) (gr a 4) (gr a 5) d) (fun r => r = true → ok d false a)) := by
  intro d
  induction d with
  | zero =>
    intro _
    constructor
    · intro a _
      refine orielref12_path_up _ _ _ _ (Tot.congr ?_ (fun k _ _ => orielref12_path_q (lv k) k (gi a 0) (gr a 1) (gr a 2) ((0 : Nat) : Int)))
      exact Tot.t (by rfl) (Tot.ret (fun h => by cases h))
    · intro a _
      refine orielref12_filter_up _ _ _ _ _ _ _ (Tot.congr ?_ (fun k _ _ => orielref12_filter_q (lv k) k (gi a 0) (gs a 1) (gs a 2) (gs a 3) (gr a 4) (gr a 5) ((0 : Nat) : Int)))
      exact Tot.t (by rfl) (Tot.ret (fun h => by cases h))
  | succ d ih =>
    intro hd
    have ih := ih (by omega)
    have hw : IntKind.i64.wrap (((d + 1 : Nat) : Int) - 1) = d := by rw [wrap_id (by omega) (by omega)]; omega
    have hne : (((d + 1 : Nat) : Int) == (0 : Int)) = false := by rw [beq_eq_false_iff_ne]; omega
    have iff_of : ∀ {x y m n : Int}, ¬ ((!((x == m) == (y == n))) = true) → (x = m ↔ y = n) := fun {x y m n} h => by
      have h : (x == m) = (y == n) := by simpa using h
      constructor
      · intro e
        have : (y == n) = true := by rw [← h, e]; simp
        exact eq_of_beq this
      · intro e
        have : (x == m) = true := by rw [h, e]; simp
        exact eq_of_beq this
    constructor
    · intro a ha
      have hl1 : (gr a 1).length ≤ 1048576 := (ha.gr 1).1
      have hl2 : (gr a 2).length ≤ 1048576 := (ha.gr 2).1
      refine orielref12_path_up _ _ _ _ (Tot.congr ?_ (fun k _ _ => orielref12_path_q (lv k) k (gi a 0) (gr a 1) (gr a 2) ((d + 1 : Nat) : Int)))
      refine Tot.f hne (Tot.cond (fun _ => Tot.ret (fun h => by cases h)) (fun h1 => Tot.cond (fun _ => Tot.ret (fun h => by cases h)) (fun h7 => ?_)))
      have h1 := of_decide_eq_false h1
      have h7 := of_decide_eq_false h7
      have key : ∀ v1 v2 : Int, (gi a 0 = 4 ∨ gi a 0 = 5 → v1 = 2 ∧ v2 = 64) → (gi a 0 = 6 → v1 = 1 ∧ v2 = 1) → (gi a 0 ≠ 4 → gi a 0 ≠ 5 → gi a 0 ≠ 6 → v1 = 0 ∧ v2 = 0) → Tot (fun k x y => orielref12_path_l0 (lv k) k (gi a 0) (gr a 1) (gr a 2) ((d + 1 : Nat) : Int) v1 v2) (fun r => r = true → ok (d + 1) true a) := by
        intro v1 v2 e1 e2 e3
        refine Tot.congr ?_ (fun k _ _ => orielref12_path_l0_q (lv k) k (gi a 0) (gr a 1) (gr a 2) ((d + 1 : Nat) : Int) v1 v2)
        refine Tot.cond (fun _ => Tot.ret (fun h => by cases h)) (fun g1 => Tot.cond (fun _ => Tot.ret (fun h => by cases h)) (fun g2 => Tot.cond (fun _ => Tot.ret (fun h => by cases h)) (fun g3 => Tot.cond (fun _ => Tot.ret (fun h => by cases h)) (fun g4 => ?_))))
        have g1 := of_decide_eq_false g1
        have g2 := of_decide_eq_false g2
        have g4 := of_decide_eq_false g4
        have g3 := iff_of (by rw [g3]; exact Bool.false_ne_true)
        have fin : (∀ j, j < (gr a 1).length → ok d true ((gr a 1).getD j [])) → (∀ j, j < (gr a 2).length → ok d false ((gr a 2).getD j [])) → ok (d + 1) true a := fun hs ht =>
          ⟨by omega, by omega, fun h => by have := e1 h; omega, fun h => by have := e2 h; omega, by rw [g3]; omega, by omega, by
            by_cases a4 : gi a 0 = 4 ∨ gi a 0 = 5
            · have := e1 a4; omega
            · by_cases a6 : gi a 0 = 6
              · have := e2 a6; omega
              · have := e3 (fun h => a4 (.inl h)) (fun h => a4 (.inr h)) a6; omega, fun a b c => by have := e3 a b c; omega, hs, ht⟩
        have loop : ∀ (n i : Nat), (gr a 1).length - i = n → i ≤ (gr a 1).length → (∀ j, j < i → ok d true ((gr a 1).getD j [])) → Tot (fun k x y => orielref12_path_l1 (lv k) k (gi a 0) (gr a 1) (gr a 2) ((d + 1 : Nat) : Int) x i) (fun r => r = true → ok (d + 1) true a) := by
          intro n
          induction n using Nat.strongRecOn with | _ n ihn => ?_
          intro i hn hi hj
          refine Tot.step0 (fun k x y => orielref12_path_l1_q (lv k) k (gi a 0) (gr a 1) (gr a 2) ((d + 1 : Nat) : Int) x i) ?_
          rw [hw, wrap_id (x := (i : Int) + 1) (by omega) (by omega), Int.toNat_natCast]
          refine Tot.cond (fun hc => ?_) (fun hc => Tot.cond (fun ht0 => ?_) (fun ht0 => ?_))
          · have hc := of_decide_eq_true hc
            refine Tot.t (decide_eq_true (by omega)) (Tot.t (decide_eq_true (by omega)) ?_)
            refine Tot.bind (ih.1 _ ((ha.gr 1).get i)) fun r hr1 => Tot.cond (fun _ => Tot.ret (fun h => by cases h)) (fun hb => ?_)
            have hb : r = true := by simpa using hb
            refine ihn _ (by omega) (i + 1) rfl (by omega) (fun j hjl => ?_)
            by_cases hjv : j = i
            · rw [hjv]; exact hr1 hb
            · exact hj j (by omega)
          · have hc := of_decide_eq_false hc
            have ht0 : (gr a 2).length = 0 := by simpa using ht0
            exact Tot.ret (fun _ => fin (fun j h => hj j (by omega)) (fun j h => by omega))
          · have hc := of_decide_eq_false hc
            have ht0 : (gr a 2).length ≠ 0 := by simpa using ht0
            refine Tot.t (decide_eq_true (by omega)) ?_
            refine Tot.bind (ih.2 _ ((ha.gr 2).get 0)) fun r hr => Tot.ret (fun hb => fin (fun j h => hj j (by omega)) (fun j h => ?_))
            rw [show j = 0 by omega]
            exact hr hb
        exact Tot.in0 (loop _ 0 rfl (by omega) (fun j hj => by omega))
      refine Tot.cond (fun h4 => ?_) (fun h4 => Tot.cond (fun h5 => ?_) (fun h5 => Tot.cond (fun h6 => ?_) (fun h6 => ?_)))
      · have h4 : gi a 0 = 4 := by simpa using h4
        exact Tot.f (by rw [beq_eq_false_iff_ne]; omega) (key 2 64 (fun _ => ⟨rfl, rfl⟩) (fun h => by omega) (fun h => by omega))
      · have h5 : gi a 0 = 5 := by simpa using h5
        exact Tot.f (by rw [beq_eq_false_iff_ne]; omega) (key 2 64 (fun _ => ⟨rfl, rfl⟩) (fun h => by omega) (fun _ h => by omega))
      · have h6 : gi a 0 = 6 := by simpa using h6
        exact key 1 1 (fun h => by omega) (fun _ => ⟨rfl, rfl⟩) (fun _ _ h => by omega)
      · have h4 : gi a 0 ≠ 4 := by simpa using h4
        have h5 : gi a 0 ≠ 5 := by simpa using h5
        have h6 : gi a 0 ≠ 6 := by simpa using h6
        exact key 0 0 (fun h => by omega) (fun h => by omega) (fun _ _ _ => ⟨rfl, rfl⟩)
    · intro a ha
      have hl1 : (gr a 4).length ≤ 1048576 := (ha.gr 4).1
      have hl2 : (gr a 5).length ≤ 1048576 := (ha.gr 5).1
      have no : Tot (fun _ _ _ => some false) (fun r => r = true → ok (d + 1) false a) := Tot.ret (fun h => by cases h)
      refine orielref12_filter_up _ _ _ _ _ _ _ (Tot.congr ?_ (fun k _ _ => orielref12_filter_q (lv k) k (gi a 0) (gs a 1) (gs a 2) (gs a 3) (gr a 4) (gr a 5) ((d + 1 : Nat) : Int)))
      refine Tot.f hne (Tot.cond (fun _ => no) (fun h1 => Tot.cond (fun _ => no) (fun h11 => ?_)))
      have h1 := of_decide_eq_false h1
      have h11 := of_decide_eq_false h11
      have l3 : ∀ v1 v2 : Int, (gi a 0 = 9 ∨ gi a 0 = 10 → v1 = 2 ∧ v2 = 64) → (gi a 0 = 8 → v1 = 1 ∧ v2 = 1) → (gi a 0 ≠ 8 → gi a 0 ≠ 9 → gi a 0 ≠ 10 → v1 = 0 ∧ v2 = 0) → Tot (fun k x y => orielref12_filter_l3 (lv k) k (gi a 0) (gs a 1) (gs a 2) (gs a 3) (gr a 4) (gr a 5) ((d + 1 : Nat) : Int) v1 v2) (fun r => r = true → ok (d + 1) false a) := by
        intro v1 v2 e1 e2 e3
        refine Tot.congr ?_ (fun k p_ q_ => orielref12_filter_l3_q (lv k) k (gi a 0) (gs a 1) (gs a 2) (gs a 3) (gr a 4) (gr a 5) ((d + 1 : Nat) : Int) v1 v2 )
        refine Tot.cond (fun _ => no) (fun g1 => Tot.cond (fun _ => no) (fun g2 => Tot.cond (fun _ => no) (fun g3 => Tot.cond (fun _ => no) (fun g4 => ?_))))
        have g1 := of_decide_eq_false g1
        have g2 := of_decide_eq_false g2
        have g4 := of_decide_eq_false g4
        have g3 := iff_of (by rw [g3]; exact Bool.false_ne_true)
        have fin : (∀ j, j < (gr a 4).length → ok d false ((gr a 4).getD j [])) → (∀ j, j < (gr a 5).length → ok d true ((gr a 5).getD j [])) → ok (d + 1) false a := fun hs ht =>
          ⟨by omega, by omega, fun h => by have := e2 h; omega, by
            by_cases a4 : gi a 0 = 9 ∨ gi a 0 = 10
            · have := e1 a4; omega
            · by_cases a6 : gi a 0 = 8
              · have := e2 a6; omega
              · have := e3 a6 (fun h => a4 (.inl h)) (fun h => a4 (.inr h)); omega, fun h => by have := e1 h; omega, fun a b c => by have := e3 a b c; omega, by rw [g3]; omega, by omega, hs, ht⟩
        refine Tot.in0 (Tot.loop (H := fun k x y v (_ : Unit) => orielref12_filter_l4 (lv k) k (gi a 0) (gs a 1) (gs a 2) (gs a 3) (gr a 4) (gr a 5) ((d + 1 : Nat) : Int) x v) (n := (gr a 4).length) (fun i _ => ∀ j, j < i → ok d false ((gr a 4).getD j [])) (by omega) (fun _ h => ?_) (fun i _ hi h next => ?_) _ 0 () rfl (by omega) (fun j hj => by omega))
        · refine Tot.step0 (fun k p_ q_ => orielref12_filter_l4_q (lv k) k (gi a 0) (gs a 1) (gs a 2) (gs a 3) (gr a 4) (gr a 5) ((d + 1 : Nat) : Int) p_ _) ?_
          refine Tot.f (decide_eq_false (by omega)) (Tot.cond (fun ht0 => ?_) (fun ht0 => ?_))
          · have ht0 : (gr a 5).length = 0 := by simpa using ht0
            exact Tot.ret (fun _ => fin h (fun j h => by omega))
          · have ht0 : (gr a 5).length ≠ 0 := by simpa using ht0
            refine Tot.t (decide_eq_true (by omega)) ?_
            rw [hw]
            refine Tot.bind (ih.1 _ ((ha.gr 5).get 0)) fun r hr => Tot.ret (fun hb => fin h (fun j h => ?_))
            rw [show j = 0 by omega]
            exact hr hb
        · refine Tot.step0 (fun k p_ q_ => orielref12_filter_l4_q (lv k) k (gi a 0) (gs a 1) (gs a 2) (gs a 3) (gr a 4) (gr a 5) ((d + 1 : Nat) : Int) p_ _) ?_
          rw [hw, Int.toNat_natCast]
          repeat (refine Tot.t (decide_eq_true (by omega)) ?_)
          refine Tot.bind (ih.2 _ ((ha.gr 4).get i)) fun r hr1 => Tot.cond (fun _ => no) (fun hb => next () (fun j hj => ?_))
          have hb : r = true := by simpa using hb
          rcases Nat.lt_or_ge j i with h2 | h2
          · exact h j h2
          · rw [show j = i by omega]; exact hr1 hb
      have l2 : ∀ v1 v2 : Int, (gi a 0 = 8 → v1 = 1 ∧ v2 = 1) → (gi a 0 ≠ 8 → v1 = 0 ∧ v2 = 0) → Tot (fun k x y => orielref12_filter_l2 (lv k) k (gi a 0) (gs a 1) (gs a 2) (gs a 3) (gr a 4) (gr a 5) ((d + 1 : Nat) : Int) v1 v2) (fun r => r = true → ok (d + 1) false a) := by
        intro v1 v2 e1 e2
        refine Tot.congr ?_ (fun k p_ q_ => orielref12_filter_l2_q (lv k) k (gi a 0) (gs a 1) (gs a 2) (gs a 3) (gr a 4) (gr a 5) ((d + 1 : Nat) : Int) v1 v2 )
        refine Tot.cond (fun h9 => ?_) (fun h9 => Tot.cond (fun h10 => ?_) (fun h10 => ?_))
        · have h9 : gi a 0 = 9 := by simpa using h9
          exact l3 2 64 (fun _ => ⟨rfl, rfl⟩) (fun h => by omega) (fun _ h => by omega)
        · have h10 : gi a 0 = 10 := by simpa using h10
          exact l3 2 64 (fun _ => ⟨rfl, rfl⟩) (fun h => by omega) (fun _ _ h => by omega)
        · have h9 : gi a 0 ≠ 9 := by simpa using h9
          have h10 : gi a 0 ≠ 10 := by simpa using h10
          exact l3 v1 v2 (fun h => by omega) e1 (fun h _ _ => e2 h)
      have e8 : Tot (fun k x y => cond (gi a 0 == (8 : Int)) (orielref12_filter_l2 (lv k) k (gi a 0) (gs a 1) (gs a 2) (gs a 3) (gr a 4) (gr a 5) ((d + 1 : Nat) : Int) 1 1) (orielref12_filter_l2 (lv k) k (gi a 0) (gs a 1) (gs a 2) (gs a 3) (gr a 4) (gr a 5) ((d + 1 : Nat) : Int) 0 0)) (fun r => r = true → ok (d + 1) false a) := by
        refine Tot.cond (fun h8 => ?_) (fun h8 => ?_)
        · have h8 : gi a 0 = 8 := by simpa using h8
          exact l2 1 1 (fun _ => ⟨rfl, rfl⟩) (fun h => absurd h8 h)
        · have h8 : gi a 0 ≠ 8 := by simpa using h8
          exact l2 0 0 (fun h => absurd h h8) (fun _ => ⟨rfl, rfl⟩)
      have l1 : ∀ v1, Tot (fun k x y => orielref12_filter_l1 (lv k) k (gi a 0) (gs a 1) (gs a 2) (gs a 3) (gr a 4) (gr a 5) ((d + 1 : Nat) : Int) v1) (fun r => r = true → ok (d + 1) false a) := fun v1 => by
        refine Tot.congr ?_ (fun k p_ q_ => orielref12_filter_l1_q (lv k) k (gi a 0) (gs a 1) (gs a 2) (gs a 3) (gr a 4) (gr a 5) ((d + 1 : Nat) : Int) v1 )
        repeat' first
          | exact no
          | exact e8
          | refine Tot.cond (fun _ => ?_) (fun _ => ?_)
          | refine Tot.bind (right4_tot _ (ha.gs 3)) fun _ _ => ?_
      have l0 : ∀ v1 v2, Tot (fun k x y => orielref12_filter_l0 (lv k) k (gi a 0) (gs a 1) (gs a 2) (gs a 3) (gr a 4) (gr a 5) ((d + 1 : Nat) : Int) v1 v2) (fun r => r = true → ok (d + 1) false a) := fun v1 v2 => by
        refine Tot.congr ?_ (fun k p_ q_ => orielref12_filter_l0_q (lv k) k (gi a 0) (gs a 1) (gs a 2) (gs a 3) (gr a 4) (gr a 5) ((d + 1 : Nat) : Int) v1 v2 )
        exact Tot.cond (fun _ => no) (fun _ => Tot.cond (fun _ => Tot.bind (named_tot _ _ (ha.gs 1) (ha.gs 2)) fun r _ => Tot.cond (fun _ => no) (fun _ => l1 _)) (fun _ => l1 _))
      repeat' first
        | exact l0 _ _
        | refine Tot.cond (fun _ => ?_) (fun _ => ?_)
theorem right_tot (a : List C) (ha : SmR BB a) : Tot (fun k _ _ => (lv k).orielref12_Right (gi a 0) (gr a 1) (gr a 2)) (fun r => r = true → ok 16 true a ∧ ∀ d, sz d true a ≤ 64) := by
  refine orielref12_Right_up _ _ _ (Tot.congr ?_ (fun k _ _ => orielref12_Right_q (lv k) k (gi a 0) (gr a 1) (gr a 2)))
  refine Tot.bind (R := SizeQ true a 64) (orielref12_Size_up _ _ _ (Tot.congr (Tot.bind ((size_tot _).1 a 64 (Nat.lt_succ_self _) ha (by omega) (by omega)) fun r hr => Tot.ret hr) (fun k _ _ => orielref12_Size_q (lv k) k (gi a 0) (gr a 1) (gr a 2)))) fun r hr => ?_
  refine Tot.cond (fun h => ?_) (fun _ => Tot.ret (fun h => by cases h))
  have h := of_decide_eq_true h
  exact Tot.bind ((right_tots 16 (by omega)).1 a ha) fun b hb => Tot.ret (fun hbt => ⟨hb hbt, fun d => by have := hr.2.2 h d; omega⟩)
-- Alike
theorem lenb {a b : Nat} (h : (!((a : Int) == (b : Int))) = false) : a = b := by
  have : ((a : Int)) = b := by simpa using h
  omega
theorem lent {a b : Nat} (h : (!((a : Int) == (b : Int))) = true) : a ≠ b := by
  intro e
  subst e
  simp at h
abbrev AlQ (k : Bool) (a b : List C) : Bool → Prop := fun r => r = true ↔ Alike k a b
theorem al_no {k : Bool} {a b : List C} (h : ¬ Alike k a b) : AlQ k a b false := ⟨fun e => (by cases e), fun e => absurd e h⟩
theorem rsame_tots : ∀ M : Nat,
    (∀ (a b : List C), SizeOf.sizeOf a < M → SmR BB a → SmR BB b → Tot (fun k _ _ => (lv k).orielref12_Same (gi a 0) (gr a 1) (gr a 2) (gi b 0) (gr b 1) (gr b 2)) (AlQ true a b)) ∧
    (∀ (a b : List C), SizeOf.sizeOf a < M → SmR BB a → SmR BB b → Tot (fun k _ _ => (lv k).orielref12_SameFilter (gi a 0) (gs a 1) (gs a 2) (gs a 3) (gr a 4) (gr a 5) (gi b 0) (gs b 1) (gs b 2) (gs b 3) (gr b 4) (gr b 5)) (AlQ false a b)) := by
  intro M
  induction M with
  | zero => exact ⟨fun _ _ h => by omega, fun _ _ h => by omega⟩
  | succ M ih =>
    constructor
    · intro a b hM ha hb
      have hl1 : (gr a 1).length ≤ 1048576 := (ha.gr 1).1
      have hl2 : (gr a 2).length ≤ 1048576 := (ha.gr 2).1
      have no : ¬ Alike true a b → Tot (fun _ _ _ => some false) (AlQ true a b) := fun h => Tot.ret (al_no h)
      refine orielref12_Same_up _ _ _ _ _ _ (Tot.congr ?_ (fun k _ _ => orielref12_Same_q (lv k) k (gi a 0) (gr a 1) (gr a 2) (gi b 0) (gr b 1) (gr b 2)))
      refine Tot.cond (fun h0 => no fun h => ?_) (fun h0 => Tot.cond (fun h1 => no fun h => ?_) (fun h1 => Tot.cond (fun h2 => no fun h => ?_) (fun h2 => ?_)))
      · cases h with
        | path e _ _ _ _ => rw [e] at h0; simp at h0
      · cases h with
        | path _ e _ _ _ => exact lent h1 e
      · cases h with
        | path _ _ e _ _ => exact lent h2 e
      have h0 : gi a 0 = gi b 0 := by simpa using h0
      have h1 := lenb h1
      have h2 := lenb h2
      refine Tot.in0 (Tot.every (H := fun k x y v => orielref12_Same_l0 (lv k) k (gi a 0) (gr a 1) (gr a 2) (gi b 0) (gr b 1) (gr b 2) x v) (n := (gr a 1).length) (p := fun i => Alike true ((gr a 1).getD i []) ((gr b 1).getD i [])) (by omega) (fun h j hj => by cases h with | path _ _ _ e _ => exact e j hj) (fun hs => ?_) (fun i Q hi hf ht => ?_))
      · refine Tot.step0 (fun k p_ q_ => orielref12_Same_l0_q (lv k) k (gi a 0) (gr a 1) (gr a 2) (gi b 0) (gr b 1) (gr b 2) p_ _) ?_
        refine Tot.f (decide_eq_false (by omega)) ?_
        refine Tot.in0 (Tot.every (H := fun k x y v => orielref12_Same_l1 (lv k) k (gi a 0) (gr a 1) (gr a 2) (gi b 0) (gr b 1) (gr b 2) x v) (n := (gr a 2).length) (p := fun i => Alike false ((gr a 2).getD i []) ((gr b 2).getD i [])) (by omega) (fun h j hj => by cases h with | path _ _ _ _ e => exact e j hj) (fun ht => ?_) (fun i Q hi hf ht => ?_))
        · refine Tot.step0 (fun k p_ q_ => orielref12_Same_l1_q (lv k) k (gi a 0) (gr a 1) (gr a 2) (gi b 0) (gr b 1) (gr b 2) p_ _) ?_
          exact Tot.f (decide_eq_false (by omega)) (Tot.ret ⟨fun _ => .path h0 h1 h2 hs ht, fun _ => rfl⟩)
        · refine Tot.step0 (fun k p_ q_ => orielref12_Same_l1_q (lv k) k (gi a 0) (gr a 1) (gr a 2) (gi b 0) (gr b 1) (gr b 2) p_ _) ?_
          rw [Int.toNat_natCast]
          repeat (refine Tot.t (decide_eq_true (by omega)) ?_)
          exact Tot.bind (ih.2 _ _ (part_lt hM hi) ((ha.gr 2).get i) ((hb.gr 2).get i)) fun r hr => Tot.cond (fun hn => Tot.ret (hf fun h => by rw [hr.2 h] at hn; cases hn)) (fun hn => ht (hr.1 (by simpa using hn)))
      · refine Tot.step0 (fun k p_ q_ => orielref12_Same_l0_q (lv k) k (gi a 0) (gr a 1) (gr a 2) (gi b 0) (gr b 1) (gr b 2) p_ _) ?_
        rw [Int.toNat_natCast]
        repeat (refine Tot.t (decide_eq_true (by omega)) ?_)
        exact Tot.bind (ih.1 _ _ (part_lt hM hi) ((ha.gr 1).get i) ((hb.gr 1).get i)) fun r hr => Tot.cond (fun hn => Tot.ret (hf fun h => by rw [hr.2 h] at hn; cases hn)) (fun hn => ht (hr.1 (by simpa using hn)))
    · intro a b hM ha hb
      have hl1 : (gr a 4).length ≤ 1048576 := (ha.gr 4).1
      have hl2 : (gr a 5).length ≤ 1048576 := (ha.gr 5).1
      have no : ¬ Alike false a b → Tot (fun _ _ _ => some false) (AlQ false a b) := fun h => Tot.ret (al_no h)
      refine orielref12_SameFilter_up _ _ _ _ _ _ _ _ _ _ _ _ (Tot.congr ?_ (fun k _ _ => orielref12_SameFilter_q (lv k) k (gi a 0) (gs a 1) (gs a 2) (gs a 3) (gr a 4) (gr a 5) (gi b 0) (gs b 1) (gs b 2) (gs b 3) (gr b 4) (gr b 5)))
      refine Tot.cond (fun h0 => no fun h => ?_) (fun h0 => Tot.cond (fun h1 => no fun h => ?_) (fun h1 => Tot.cond (fun h2 => no fun h => ?_) (fun h2 => Tot.cond (fun h3 => no fun h => ?_) (fun h3 => Tot.cond (fun h4 => no fun h => ?_) (fun h4 => ?_)))))
      · cases h with
        | filter e _ _ _ _ _ _ _ => rw [e] at h0; simp at h0
      · cases h with
        | filter _ e f _ _ _ _ _ => rw [name_eq.2 ⟨e, f⟩] at h1; cases h1
      · cases h with
        | filter _ _ _ e _ _ _ _ => rw [str_eq.2 e] at h2; cases h2
      · cases h with
        | filter _ _ _ _ e _ _ _ => exact lent h3 e
      · cases h with
        | filter _ _ _ _ _ e _ _ => exact lent h4 e
      have h0 : gi a 0 = gi b 0 := by simpa using h0
      obtain ⟨h1, h1'⟩ := name_eq.1 (show _ = true by simpa using h1)
      have h2 := str_eq.1 (show _ = true by simpa using h2)
      have h3 := lenb h3
      have h4 := lenb h4
      refine Tot.in0 (Tot.every (H := fun k x y v => orielref12_SameFilter_l0 (lv k) k (gi a 0) (gs a 1) (gs a 2) (gs a 3) (gr a 4) (gr a 5) (gi b 0) (gs b 1) (gs b 2) (gs b 3) (gr b 4) (gr b 5) x v) (n := (gr a 4).length) (p := fun i => Alike false ((gr a 4).getD i []) ((gr b 4).getD i [])) (by omega) (fun h j hj => by cases h with | filter _ _ _ _ _ _ e _ => exact e j hj) (fun hs => ?_) (fun i Q hi hf ht => ?_))
      · refine Tot.step0 (fun k p_ q_ => orielref12_SameFilter_l0_q (lv k) k (gi a 0) (gs a 1) (gs a 2) (gs a 3) (gr a 4) (gr a 5) (gi b 0) (gs b 1) (gs b 2) (gs b 3) (gr b 4) (gr b 5) p_ _) ?_
        refine Tot.f (decide_eq_false (by omega)) ?_
        refine Tot.in0 (Tot.every (H := fun k x y v => orielref12_SameFilter_l1 (lv k) k (gi a 0) (gs a 1) (gs a 2) (gs a 3) (gr a 4) (gr a 5) (gi b 0) (gs b 1) (gs b 2) (gs b 3) (gr b 4) (gr b 5) x v) (n := (gr a 5).length) (p := fun i => Alike true ((gr a 5).getD i []) ((gr b 5).getD i [])) (by omega) (fun h j hj => by cases h with | filter _ _ _ _ _ _ _ e => exact e j hj) (fun ht => ?_) (fun i Q hi hf ht => ?_))
        · refine Tot.step0 (fun k p_ q_ => orielref12_SameFilter_l1_q (lv k) k (gi a 0) (gs a 1) (gs a 2) (gs a 3) (gr a 4) (gr a 5) (gi b 0) (gs b 1) (gs b 2) (gs b 3) (gr b 4) (gr b 5) p_ _) ?_
          exact Tot.f (decide_eq_false (by omega)) (Tot.ret ⟨fun _ => .filter h0 h1 h1' h2 h3 h4 hs ht, fun _ => rfl⟩)
        · refine Tot.step0 (fun k p_ q_ => orielref12_SameFilter_l1_q (lv k) k (gi a 0) (gs a 1) (gs a 2) (gs a 3) (gr a 4) (gr a 5) (gi b 0) (gs b 1) (gs b 2) (gs b 3) (gr b 4) (gr b 5) p_ _) ?_
          rw [Int.toNat_natCast]
          repeat (refine Tot.t (decide_eq_true (by omega)) ?_)
          exact Tot.bind (ih.1 _ _ (part_lt hM hi) ((ha.gr 5).get i) ((hb.gr 5).get i)) fun r hr => Tot.cond (fun hn => Tot.ret (hf fun h => by rw [hr.2 h] at hn; cases hn)) (fun hn => ht (hr.1 (by simpa using hn)))
      · refine Tot.step0 (fun k p_ q_ => orielref12_SameFilter_l0_q (lv k) k (gi a 0) (gs a 1) (gs a 2) (gs a 3) (gr a 4) (gr a 5) (gi b 0) (gs b 1) (gs b 2) (gs b 3) (gr b 4) (gr b 5) p_ _) ?_
        rw [Int.toNat_natCast]
        repeat (refine Tot.t (decide_eq_true (by omega)) ?_)
        exact Tot.bind (ih.2 _ _ (part_lt hM hi) ((ha.gr 4).get i) ((hb.gr 4).get i)) fun r hr => Tot.cond (fun hn => Tot.ret (hf fun h => by rw [hr.2 h] at hn; cases hn)) (fun hn => ht (hr.1 (by simpa using hn)))
theorem rsame_tot (a b : List C) (ha : SmR BB a) (hb : SmR BB b) : Tot (fun k _ _ => (lv k).orielref12_Same (gi a 0) (gr a 1) (gr a 2) (gi b 0) (gr b 1) (gr b 2)) (AlQ true a b) := (rsame_tots _).1 a b (Nat.lt_succ_self _) ha hb
theorem psame_tots : ∀ M : Nat,
    (∀ (a b : List C), SizeOf.sizeOf a < M → SmR BB a → SmR BB b → Tot (fun k _ _ => (lv k).path_Same (gi a 0) (gr a 1) (gr a 2) (gi b 0) (gr b 1) (gr b 2)) (AlQ true a b)) ∧
    (∀ (a b : List C), SizeOf.sizeOf a < M → SmR BB a → SmR BB b → Tot (fun k _ _ => (lv k).path_sameFilter (gi a 0) (gs a 1) (gs a 2) (gs a 3) (gr a 4) (gr a 5) (gi b 0) (gs b 1) (gs b 2) (gs b 3) (gr b 4) (gr b 5)) (AlQ false a b)) := by
  intro M
  induction M with
  | zero => exact ⟨fun _ _ h => by omega, fun _ _ h => by omega⟩
  | succ M ih =>
    have eqp : ∀ (j : Nat) (a b : List C), SizeOf.sizeOf a < M + 1 → SmR BB a → SmR BB b → Tot (fun k _ _ => (lv k).api_Path_3 (gr a j) (gr b j)) (fun r => r = true ↔ (gr a j).length = (gr b j).length ∧ ∀ i, i < (gr a j).length → Alike true ((gr a j).getD i []) ((gr b j).getD i [])) := by
      intro j a b hM ha hb
      have hl1 : (gr a j).length ≤ 1048576 := (ha.gr j).1
      refine api_Path_3_up _ _ (Tot.congr ?_ (fun k _ _ => api_Path_3_q (lv k) k (gr a j) (gr b j)))
      refine Tot.cond (fun h => Tot.ret ⟨fun e => (by cases e), fun e => absurd e.1 (lent h)⟩) (fun h1 => ?_)
      have h1 := lenb h1
      refine Tot.in0 (Tot.every (H := fun k x y v => api_Path_3_l0 (lv k) k (gr a j) (gr b j) x v) (n := (gr a j).length) (p := fun i => Alike true ((gr a j).getD i []) ((gr b j).getD i [])) (by omega) (fun h => h.2) (fun hs => ?_) (fun i Q hi hf ht => ?_))
      · refine Tot.step0 (fun k p_ q_ => api_Path_3_l0_q (lv k) k (gr a j) (gr b j) p_ _) ?_
        exact Tot.f (decide_eq_false (by omega)) (Tot.ret ⟨fun _ => ⟨h1, hs⟩, fun _ => rfl⟩)
      · refine Tot.step0 (fun k p_ q_ => api_Path_3_l0_q (lv k) k (gr a j) (gr b j) p_ _) ?_
        rw [Int.toNat_natCast]
        repeat (refine Tot.t (decide_eq_true (by omega)) ?_)
        exact Tot.bind (ih.1 _ _ (part_lt hM hi) ((ha.gr j).get i) ((hb.gr j).get i)) fun r hr => Tot.cond (fun hn => Tot.ret (hf fun h => by rw [hr.2 h] at hn; cases hn)) (fun hn => ht (hr.1 (by simpa using hn)))
    have eqf : ∀ (j : Nat) (a b : List C), SizeOf.sizeOf a < M + 1 → SmR BB a → SmR BB b → Tot (fun k _ _ => (lv k).api_Filter (gr a j) (gr b j)) (fun r => r = true ↔ (gr a j).length = (gr b j).length ∧ ∀ i, i < (gr a j).length → Alike false ((gr a j).getD i []) ((gr b j).getD i [])) := by
      intro j a b hM ha hb
      have hl1 : (gr a j).length ≤ 1048576 := (ha.gr j).1
      refine api_Filter_up _ _ (Tot.congr ?_ (fun k _ _ => api_Filter_q (lv k) k (gr a j) (gr b j)))
      refine Tot.cond (fun h => Tot.ret ⟨fun e => (by cases e), fun e => absurd e.1 (lent h)⟩) (fun h1 => ?_)
      have h1 := lenb h1
      refine Tot.in0 (Tot.every (H := fun k x y v => api_Filter_l0 (lv k) k (gr a j) (gr b j) x v) (n := (gr a j).length) (p := fun i => Alike false ((gr a j).getD i []) ((gr b j).getD i [])) (by omega) (fun h => h.2) (fun hs => ?_) (fun i Q hi hf ht => ?_))
      · refine Tot.step0 (fun k p_ q_ => api_Filter_l0_q (lv k) k (gr a j) (gr b j) p_ _) ?_
        exact Tot.f (decide_eq_false (by omega)) (Tot.ret ⟨fun _ => ⟨h1, hs⟩, fun _ => rfl⟩)
      · refine Tot.step0 (fun k p_ q_ => api_Filter_l0_q (lv k) k (gr a j) (gr b j) p_ _) ?_
        rw [Int.toNat_natCast]
        repeat (refine Tot.t (decide_eq_true (by omega)) ?_)
        exact Tot.bind (ih.2 _ _ (part_lt hM hi) ((ha.gr j).get i) ((hb.gr j).get i)) fun r hr => Tot.cond (fun hn => Tot.ret (hf fun h => by rw [hr.2 h] at hn; cases hn)) (fun hn => ht (hr.1 (by simpa using hn)))
    constructor
    · intro a b hM ha hb
      have no : ¬ Alike true a b → Tot (fun _ _ _ => some false) (AlQ true a b) := fun h => Tot.ret (al_no h)
      refine path_Same_up _ _ _ _ _ _ (Tot.congr ?_ (fun k _ _ => path_Same_q (lv k) k (gi a 0) (gr a 1) (gr a 2) (gi b 0) (gr b 1) (gr b 2)))
      refine Tot.cond (fun h0 => Tot.bind (eqp 1 a b hM ha hb) fun r1 hr1 => Tot.cond (fun h1 => Tot.bind (eqf 2 a b hM ha hb) fun r2 hr2 => Tot.ret ⟨fun e => ?_, fun e => ?_⟩) (fun h1 => no fun h => ?_)) (fun h0 => no fun h => ?_)
      · obtain ⟨q1, q2⟩ := hr1.1 h1
        obtain ⟨q3, q4⟩ := hr2.1 e
        exact .path (eq_of_beq h0) q1 q3 q2 q4
      · cases e with
        | path e1 e2 e3 e4 e5 => exact hr2.2 ⟨e3, e5⟩
      · cases h with
        | path e1 e2 e3 e4 e5 => rw [hr1.2 ⟨e2, e4⟩] at h1; cases h1
      · cases h with
        | path e1 e2 e3 e4 e5 => rw [e1] at h0; simp at h0
    · intro a b hM ha hb
      have no : ¬ Alike false a b → Tot (fun _ _ _ => some false) (AlQ false a b) := fun h => Tot.ret (al_no h)
      refine path_sameFilter_up _ _ _ _ _ _ _ _ _ _ _ _ (Tot.congr ?_ (fun k _ _ => path_sameFilter_q (lv k) k (gi a 0) (gs a 1) (gs a 2) (gs a 3) (gr a 4) (gr a 5) (gi b 0) (gs b 1) (gs b 2) (gs b 3) (gr b 4) (gr b 5)))
      refine Tot.cond (fun h0 => Tot.cond (fun g1 => Tot.cond (fun g2 => Tot.bind (eqf 4 a b hM ha hb) fun r1 hr1 => Tot.cond (fun h1 => Tot.bind (eqp 5 a b hM ha hb) fun r2 hr2 => Tot.ret ⟨fun e => ?_, fun e => ?_⟩) (fun h1 => no fun h => ?_)) (fun g2 => no fun h => ?_)) (fun g1 => no fun h => ?_)) (fun h0 => no fun h => ?_)
      · obtain ⟨q1, q2⟩ := hr1.1 h1
        obtain ⟨q3, q4⟩ := hr2.1 e
        obtain ⟨q5, q6⟩ := name_eq.1 g1
        exact .filter (eq_of_beq h0) q5 q6 (str_eq.1 g2) q1 q3 q2 q4
      · cases e with
        | filter e1 e2 e3 e4 e5 e6 e7 e8 => exact hr2.2 ⟨e6, e8⟩
      · cases h with
        | filter e1 e2 e3 e4 e5 e6 e7 e8 => rw [hr1.2 ⟨e5, e7⟩] at h1; cases h1
      · cases h with
        | filter e1 e2 e3 e4 e5 e6 e7 e8 => rw [str_eq.2 e4] at g2; cases g2
      · cases h with
        | filter e1 e2 e3 e4 e5 e6 e7 e8 => rw [name_eq.2 ⟨e2, e3⟩] at g1; cases g1
      · cases h with
        | filter e1 e2 e3 e4 e5 e6 e7 e8 => rw [e1] at h0; simp at h0
theorem psame_tot (a b : List C) (ha : SmR BB a) (hb : SmR BB b) : Tot (fun k _ _ => (lv k).path_Same (gi a 0) (gr a 1) (gr a 2) (gi b 0) (gr b 1) (gr b 2)) (AlQ true a b) := (psame_tots _).1 a b (Nat.lt_succ_self _) ha hb
-- Mk
def POk : Nat → Int → List (List C) → List (List C) → Prop
  | 0, _, _, _ => False
  | d + 1, op, subs, tests => 1 ≤ op ∧ op ≤ 7 ∧ (op = 4 ∨ op = 5 → 2 ≤ subs.length) ∧ (op = 6 → subs.length = 1) ∧ (op = 7 ↔ tests.length = 1) ∧ tests.length ≤ 1 ∧ subs.length ≤ 64 ∧ (op ≠ 4 → op ≠ 5 → op ≠ 6 → subs.length = 0) ∧ ∀ r, r ∈ subs → POk d (gi r 0) (gr r 1) (gr r 2)
def pc : Nat → List (List C) → Nat
  | 0, _ => 1
  | d + 1, l => 1 + (l.map fun r => pc d (gr r 1)).sum
theorem mem_getD {l : List (List C)} {r : List C} (h : r ∈ l) : ∃ i, i < l.length ∧ l.getD i [] = r := by
  obtain ⟨i, hi, rfl⟩ := List.getElem_of_mem h
  exact ⟨i, hi, by rw [List.getD_eq_getElem?_getD, List.getElem?_eq_getElem hi]; rfl⟩
theorem ok_pok : ∀ {d : Nat} {a : List C}, ok d true a → POk d (gi a 0) (gr a 1) (gr a 2) := by
  intro d
  induction d with
  | zero => intro a h; exact h.elim
  | succ d ih =>
    intro a h
    obtain ⟨h1, h2, h3, h4, h5, h6, h7, h8, h9, h10⟩ := h
    refine ⟨h1, h2, h3, h4, h5, h6, h7, h8, fun r hr => ?_⟩
    obtain ⟨i, hi, rfl⟩ := mem_getD hr
    exact ih (h9 i hi)
theorem pc_sz : ∀ (d : Nat) (a : List C), pc d (gr a 1) ≤ sz d true a := by
  intro d
  induction d with
  | zero => intro a; exact Nat.le_refl _
  | succ d ih =>
    intro a
    have : ∀ l : List (List C), (l.map fun r => pc d (gr r 1)).sum ≤ (l.map (sz d true)).sum := by
      intro l
      induction l with
      | nil => exact Nat.le_refl _
      | cons x l ihl => simp only [List.map_cons, List.sum_cons]; have := ih x; omega
    have := this (gr a 1)
    simp only [pc, sz]
    omega
structure Mk where
  n : Int
  E : List (List C)
  T : List (List C)
  s : Int
  e : Int
def st4 (a b k t : Int) : List C := [C.int .i64 a, C.int .i64 b, C.int .i64 k, C.int .i64 t]
def seqF (f : List C → Int → Int → Mk) (t : Int) : List (List C) → Mk → Mk
  | [], m => m
  | r :: l, m => seqF f t l ⟨(f r m.n (t + m.T.length)).n, m.E ++ ((f r m.n (t + m.T.length)).E ++ [st4 m.e (f r m.n (t + m.T.length)).s 0 0]), m.T ++ (f r m.n (t + m.T.length)).T, m.s, (f r m.n (t + m.T.length)).e⟩
structure Al where
  n : Int
  E : List (List C)
  T : List (List C)
  es : List Int
def altF (f : List C → Int → Int → Mk) (t s : Int) : List (List C) → Al → Al
  | [], m => m
  | r :: l, m => altF f t s l ⟨(f r m.n (t + m.T.length)).n, m.E ++ ((f r m.n (t + m.T.length)).E ++ [st4 s (f r m.n (t + m.T.length)).s 0 0]), m.T ++ (f r m.n (t + m.T.length)).T, m.es ++ [(f r m.n (t + m.T.length)).e]⟩
def kindOf (op : Int) : Int := if op = 2 then 1 else if op = 3 then 2 else 0
def mk : Nat → Int → List (List C) → List (List C) → Int → Int → Mk
  | 0, _, _, _, n, _ => ⟨n, [], [], n, n⟩
  | d + 1, op, subs, tests, n, t =>
    if op = 4 then match subs with
      | [] => ⟨n, [], [], n, n⟩
      | r :: l => seqF (fun r => mk d (gi r 0) (gr r 1) (gr r 2)) t l (mk d (gi r 0) (gr r 1) (gr r 2) n t)
    else if op = 5 then
      let a := altF (fun r => mk d (gi r 0) (gr r 1) (gr r 2)) t n subs ⟨n + 1, [], [], []⟩
      ⟨a.n + 1, a.E ++ a.es.map (fun b => st4 b a.n 0 0), a.T, n, a.n⟩
    else if op = 6 then match subs with
      | [] => ⟨n, [], [], n, n⟩
      | r :: _ => ⟨(mk d (gi r 0) (gr r 1) (gr r 2) (n + 1) t).n, (mk d (gi r 0) (gr r 1) (gr r 2) (n + 1) t).E ++ [st4 n (mk d (gi r 0) (gr r 1) (gr r 2) (n + 1) t).s 0 0] ++ [st4 (mk d (gi r 0) (gr r 1) (gr r 2) (n + 1) t).e n 0 0], (mk d (gi r 0) (gr r 1) (gr r 2) (n + 1) t).T, n, n⟩
    else if op = 7 then ⟨n + 2, [st4 n (n + 1) 3 t], tests, n, n + 1⟩
    else ⟨n + 2, [st4 n (n + 1) (kindOf op) 0], [], n, n + 1⟩
structure MkB (c : Nat) (n : Int) (m : Mk) : Prop where
  lo : n ≤ m.n
  hi : m.n ≤ n + 2 * c
  e : m.E.length + 2 ≤ 3 * c
  t : m.T.length ≤ c
def pcs (d : Nat) (l : List (List C)) : Nat := (l.map fun r => pc d (gr r 1)).sum
theorem pcs_cons (d : Nat) (r : List C) (l : List (List C)) : pcs d (r :: l) = pc d (gr r 1) + pcs d l := by simp [pcs]
theorem pc_succ (d : Nat) (l : List (List C)) : pc (d + 1) l = 1 + pcs d l := rfl
theorem seqF_bd {f : List C → Int → Int → Mk} {d : Nat} {t : Int} : ∀ {l : List (List C)} {m : Mk}, (∀ r, r ∈ l → ∀ n t, MkB (pc d (gr r 1)) n (f r n t)) →
    m.n ≤ (seqF f t l m).n ∧ (seqF f t l m).n ≤ m.n + 2 * pcs d l ∧ (seqF f t l m).E.length ≤ m.E.length + 3 * pcs d l ∧ (seqF f t l m).T.length ≤ m.T.length + pcs d l := by
  intro l
  induction l with
  | nil => intro m _; simp [seqF, pcs]
  | cons r l ih =>
    intro m hf
    have h1 := hf r List.mem_cons_self m.n (t + m.T.length)
    have h2 := ih (m := ⟨(f r m.n (t + m.T.length)).n, m.E ++ ((f r m.n (t + m.T.length)).E ++ [st4 m.e (f r m.n (t + m.T.length)).s 0 0]), m.T ++ (f r m.n (t + m.T.length)).T, m.s, (f r m.n (t + m.T.length)).e⟩) (fun r hr => hf r (List.mem_cons_of_mem _ hr))
    obtain ⟨a1, a2, a3, a4⟩ := h1
    rw [pcs_cons]
    simp only [List.length_append, List.length_cons, List.length_nil] at h2
    show m.n ≤ (seqF f t l _).n ∧ (seqF f t l _).n ≤ _ ∧ (seqF f t l _).E.length ≤ _ ∧ (seqF f t l _).T.length ≤ _
    omega
theorem altF_bd {f : List C → Int → Int → Mk} {d : Nat} {t s : Int} : ∀ {l : List (List C)} {m : Al}, (∀ r, r ∈ l → ∀ n t, MkB (pc d (gr r 1)) n (f r n t)) →
    m.n ≤ (altF f t s l m).n ∧ (altF f t s l m).n ≤ m.n + 2 * pcs d l ∧ (altF f t s l m).E.length + (altF f t s l m).es.length ≤ m.E.length + m.es.length + 3 * pcs d l ∧ (altF f t s l m).T.length ≤ m.T.length + pcs d l ∧ (altF f t s l m).es.length = m.es.length + l.length := by
  intro l
  induction l with
  | nil => intro m _; simp [altF, pcs]
  | cons r l ih =>
    intro m hf
    have h1 := hf r List.mem_cons_self m.n (t + m.T.length)
    have h2 := ih (m := ⟨(f r m.n (t + m.T.length)).n, m.E ++ ((f r m.n (t + m.T.length)).E ++ [st4 s (f r m.n (t + m.T.length)).s 0 0]), m.T ++ (f r m.n (t + m.T.length)).T, m.es ++ [(f r m.n (t + m.T.length)).e]⟩) (fun r hr => hf r (List.mem_cons_of_mem _ hr))
    obtain ⟨a1, a2, a3, a4⟩ := h1
    rw [pcs_cons]
    simp only [List.length_append, List.length_cons, List.length_nil] at h2 ⊢
    show m.n ≤ (altF f t s l _).n ∧ (altF f t s l _).n ≤ _ ∧ (altF f t s l _).E.length + (altF f t s l _).es.length ≤ _ ∧ (altF f t s l _).T.length ≤ _ ∧ (altF f t s l _).es.length = _
    omega
theorem mk_bd : ∀ (d : Nat) (op : Int) (subs tests : List (List C)) (n t : Int), POk d op subs tests → MkB (pc d subs) n (mk d op subs tests n t) := by
  intro d
  induction d with
  | zero => intro op subs tests n t h; exact h.elim
  | succ d ih =>
    intro op subs tests n t h
    obtain ⟨h1, h7, h45, h6, h77, ht, hl, h0, hsub⟩ := h
    have hf : ∀ r, r ∈ subs → ∀ n t, MkB (pc d (gr r 1)) n (mk d (gi r 0) (gr r 1) (gr r 2) n t) := fun r hr n t => ih _ _ _ n t (hsub r hr)
    rw [pc_succ]
    unfold mk
    by_cases e4 : op = 4
    · rw [if_pos e4]
      cases subs with
      | nil => have := h45 (.inl e4); simp at this
      | cons r l =>
        have a := hf r List.mem_cons_self n t
        have b := seqF_bd (t := t) (m := mk d (gi r 0) (gr r 1) (gr r 2) n t) (fun r hr => hf r (List.mem_cons_of_mem _ hr))
        obtain ⟨a1, a2, a3, a4⟩ := a
        rw [pcs_cons]
        exact ⟨by show n ≤ (seqF _ _ _ _).n; omega, by show (seqF _ _ _ _).n ≤ _; omega, by show (seqF _ _ _ _).E.length + 2 ≤ _; omega, by show (seqF _ _ _ _).T.length ≤ _; omega⟩
    · rw [if_neg e4]
      by_cases e5 : op = 5
      · rw [if_pos e5]
        have b := altF_bd (t := t) (s := n) (m := ⟨n + 1, [], [], []⟩) hf
        simp only [List.length_nil] at b
        exact ⟨by show n ≤ (altF _ _ _ _ _).n + 1; omega, by show (altF _ _ _ _ _).n + 1 ≤ _; omega, by show ((altF _ _ _ _ _).E ++ _).length + 2 ≤ _; rw [List.length_append, List.length_map]; omega, by show (altF _ _ _ _ _).T.length ≤ _; omega⟩
      · rw [if_neg e5]
        by_cases e6 : op = 6
        · rw [if_pos e6]
          cases subs with
          | nil => have := h6 e6; simp at this
          | cons r l =>
            obtain ⟨a1, a2, a3, a4⟩ := hf r List.mem_cons_self (n + 1) t
            rw [pcs_cons]
            exact ⟨by show n ≤ (mk _ _ _ _ _ _).n; omega, by show (mk _ _ _ _ _ _).n ≤ _; omega, by simp only [List.length_append, List.length_cons, List.length_nil]; omega, by show (mk _ _ _ _ _ _).T.length ≤ _; omega⟩
        · rw [if_neg e6]
          by_cases e7 : op = 7
          · rw [if_pos e7]
            exact ⟨by show n ≤ n + 2; omega, by show n + 2 ≤ _; omega, by show 1 + 2 ≤ _; omega, by show tests.length ≤ _; omega⟩
          · rw [if_neg e7]
            exact ⟨by show n ≤ n + 2; omega, by show n + 2 ≤ _; omega, by show 1 + 2 ≤ _; omega, by show 0 ≤ _; omega⟩
theorem drop_cons {l rest : List (List C)} {r : List C} {i : Nat} (h : l.drop i = r :: rest) : i < l.length ∧ l.getD i [] = r ∧ l.drop (i + 1) = rest := by
  have h1 : i < l.length := by
    rcases Nat.lt_or_ge i l.length with h1 | h1
    · exact h1
    · rw [List.drop_eq_nil_of_le h1] at h; cases h
  rw [List.drop_eq_getElem_cons h1] at h
  obtain ⟨h2, h3⟩ := List.cons.inj h
  exact ⟨h1, by rw [List.getD_eq_getElem?_getD, List.getElem?_eq_getElem h1]; exact h2, h3⟩
-- Prog
theorem bytes125 : Try.prog.bytesOf 125 ≤ 1024 := of_decide_eq_true (by kernel_rfl)
theorem bytes50 : Try.prog.bytesOf 50 ≤ 1024 := of_decide_eq_true (by kernel_rfl)
theorem bytes3 : Try.prog.bytesOf 3 ≤ 1024 := of_decide_eq_true (by kernel_rfl)
theorem state_tot (n s e : Int) (E T : List (List C)) (h0 : 0 ≤ n) (h1 : n ≤ 4000000000) : Tot (fun k _ _ => (lv k).prog_maker_state n s e E T) (fun r => r = (n, n + 1, s, e, E, T)) := by
  refine prog_maker_state_up _ _ _ _ _ (Tot.congr ?_ (fun k _ _ => prog_maker_state_q (lv k) k n s e E T))
  rw [wrap_id (x := n + 1) (by omega) (by omega), wrap_id (by omega) (by omega), show n + 1 - 1 = n by omega]
  exact Tot.ret rfl
theorem lay_tot (n s e : Int) (E T l : List (List C)) (h : E.length + l.length ≤ 4000000000) : Tot (fun k _ _ => (lv k).prog_maker_lay n s e E T l) (fun r => r = (n, s, e, E ++ l, T)) := by
  refine prog_maker_lay_up _ _ _ _ _ _ (Tot.congr ?_ (fun k _ _ => prog_maker_lay_q (lv k) k n s e E T l))
  exact Tot.t (roomy_of bytes125 (by omega)) (Tot.ret rfl)
theorem free_tot (n s e : Int) (E T : List (List C)) (a b : Int) (h : E.length ≤ 3000000000) : Tot (fun k _ _ => (lv k).prog_maker_free n s e E T a b) (fun r => r = (n, s, e, E ++ [st4 a b 0 0], T)) := by
  refine prog_maker_free_up _ _ _ _ _ _ _ (Tot.congr ?_ (fun k _ _ => prog_maker_free_q (lv k) k n s e E T a b))
  exact Tot.bind (lay_tot n s e E T _ (by simp; omega)) fun r hr => Tot.ret (by subst hr; rfl)
theorem step_tot (n s e : Int) (E T : List (List C)) (a b : Int) (h0 : 0 ≤ n) (h1 : n ≤ 3000000000) (h : E.length ≤ 3000000000) : Tot (fun k _ _ => (lv k).prog_maker_step n s e E T a b) (fun r => r = (n, n + 1, n + 2, s, e, E ++ [st4 n (n + 1) a b], T)) := by
  refine prog_maker_step_up _ _ _ _ _ _ _ (Tot.congr ?_ (fun k _ _ => prog_maker_step_q (lv k) k n s e E T a b))
  refine Tot.bind (state_tot n s e E T h0 (by omega)) fun r hr => ?_
  subst hr
  refine Tot.bind (state_tot (n + 1) s e E T (by omega) (by omega)) fun r hr => ?_
  subst hr
  refine Tot.bind (lay_tot (n + 1 + 1) s e E T _ (by simp; omega)) fun r hr => Tot.ret ?_
  subst hr
  rw [show n + 1 + 1 = n + 2 by omega]
  rfl
/-- what the making of a path's part is to come to -/
def PP (d : Nat) : Prop := ∀ (op : Int) (subs tests : List (List C)) (n s e : Int) (E T : List (List C)), POk d op subs tests → 0 ≤ n → n + 2 * pc d subs ≤ 1000000 → E.length + 3 * pc d subs ≤ 1000000 → T.length + pc d subs ≤ 1000000 →
  Tot (fun k _ _ => (lv k).prog_maker_path n s e E T op subs tests) (fun r => r = ((mk d op subs tests n T.length).s, (mk d op subs tests n T.length).e, (mk d op subs tests n T.length).n, s, e, E ++ (mk d op subs tests n T.length).E, T ++ (mk d op subs tests n T.length).T))
abbrev fr (d : Nat) (r : List C) (n t : Int) : Mk := mk d (gi r 0) (gr r 1) (gr r 2) n t
theorem take_all (l : List (List C)) : l.take ((l.length : Int).toNat) = l := by rw [Int.toNat_natCast, List.take_length]
theorem seq_tot {d : Nat} (ih : PP d) (r0 : List C) (l0 : List (List C)) (hsub : ∀ r, r ∈ r0 :: l0 → POk d (gi r 0) (gr r 1) (gr r 2)) (hlen : l0.length ≤ 1000) (n s e : Int) (E T : List (List C)) (h0 : 0 ≤ n) (hn : n + 2 * pcs d (r0 :: l0) ≤ 1000000) (hE : E.length + 3 * pcs d (r0 :: l0) ≤ 1000000) (hT : T.length + pcs d (r0 :: l0) ≤ 1000000) :
    Tot (fun k _ _ => (lv k).prog_maker_seq n s e E T (r0 :: l0)) (fun r => r = ((seqF (fr d) T.length l0 (fr d r0 n T.length)).s, (seqF (fr d) T.length l0 (fr d r0 n T.length)).e, (seqF (fr d) T.length l0 (fr d r0 n T.length)).n, s, e, E ++ (seqF (fr d) T.length l0 (fr d r0 n T.length)).E, T ++ (seqF (fr d) T.length l0 (fr d r0 n T.length)).T)) := by
  rw [pcs_cons] at hn hE hT
  have hd : ((r0 :: l0).take (((r0 :: l0).length : Int).toNat)).drop 1 = l0 := by rw [take_all]; rfl
  have loop : ∀ (rest : List (List C)) (m : Mk) (v : Int), 0 ≤ v → l0.drop v.toNat = rest → 0 ≤ m.n → m.n + 2 * pcs d rest ≤ 1000000 → E.length + m.E.length + 3 * pcs d rest ≤ 1000000 → T.length + m.T.length + pcs d rest ≤ 1000000 →
      Tot (fun k a b => prog_maker_seq_l0 (lv k) k n s e E T (r0 :: l0) a m.s m.e v m.n s e (E ++ m.E) (T ++ m.T)) (fun r => r = ((seqF (fr d) T.length rest m).s, (seqF (fr d) T.length rest m).e, (seqF (fr d) T.length rest m).n, s, e, E ++ (seqF (fr d) T.length rest m).E, T ++ (seqF (fr d) T.length rest m).T)) := by
    intro rest
    induction rest with
    | nil =>
      intro m v hv hr _ _ _ _
      refine Tot.step0 (fun k a b => prog_maker_seq_l0_q (lv k) k n s e E T (r0 :: l0) a m.s m.e v m.n s e (E ++ m.E) (T ++ m.T)) ?_
      rw [hd]
      have := List.drop_eq_nil_iff.1 hr
      exact Tot.f (decide_eq_false (by omega)) (Tot.ret rfl)
    | cons r rest ihr =>
      intro m v hv hr h1 h2 h3 h4
      obtain ⟨g1, g2, g3⟩ := drop_cons hr
      refine Tot.step0 (fun k a b => prog_maker_seq_l0_q (lv k) k n s e E T (r0 :: l0) a m.s m.e v m.n s e (E ++ m.E) (T ++ m.T)) ?_
      rw [hd, g2, wrap_id (x := v + 1) (by omega) (by omega)]
      have hok : POk d (gi r 0) (gr r 1) (gr r 2) := hsub r (List.mem_cons_of_mem _ (by rw [← g2]; exact getD_mem g1))
      rw [pcs_cons] at h2 h3 h4
      obtain ⟨b1, b2, b3, b4⟩ := (show MkB (pc d (gr r 1)) m.n (fr d r m.n (T.length + m.T.length)) from mk_bd d _ _ _ m.n _ hok)
      refine Tot.t (decide_eq_true (by omega)) (Tot.t (decide_eq_true (by omega)) (Tot.t (decide_eq_true (by omega)) ?_))
      have hp := ih _ _ _ m.n s e (E ++ m.E) (T ++ m.T) hok h1 (by omega) (by rw [List.length_append]; omega) (by rw [List.length_append]; omega)
      rw [show ((T ++ m.T).length : Int) = T.length + m.T.length by simp] at hp
      refine Tot.bind hp fun x hx => ?_
      subst hx
      have he : (E ++ m.E ++ (fr d r m.n (T.length + m.T.length)).E).length ≤ 3000000000 := by simp only [List.length_append]; omega
      refine Tot.bind (free_tot _ s e _ _ _ _ he) fun x hx => ?_
      subst hx
      have := ihr ⟨(fr d r m.n (T.length + m.T.length)).n, m.E ++ ((fr d r m.n (T.length + m.T.length)).E ++ [st4 m.e (fr d r m.n (T.length + m.T.length)).s 0 0]), m.T ++ (fr d r m.n (T.length + m.T.length)).T, m.s, (fr d r m.n (T.length + m.T.length)).e⟩ (v + 1) (by omega) (by rw [show (v + 1).toNat = v.toNat + 1 by omega]; exact g3)
      have := this (by show (0 : Int) ≤ (fr d r m.n (T.length + m.T.length)).n; omega) (by show (fr d r m.n (T.length + m.T.length)).n + _ ≤ _; omega) (by show E.length + (m.E ++ ((fr d r m.n (T.length + m.T.length)).E ++ [_])).length + _ ≤ _; simp only [List.length_append, List.length_cons, List.length_nil]; omega) (by show T.length + (m.T ++ (fr d r m.n (T.length + m.T.length)).T).length + _ ≤ _; simp only [List.length_append]; omega)
      simp only [List.append_assoc] at this ⊢
      exact this
  refine prog_maker_seq_up _ _ _ _ _ _ (Tot.congr ?_ (fun k _ _ => prog_maker_seq_q (lv k) k n s e E T (r0 :: l0)))
  have hok := hsub r0 List.mem_cons_self
  obtain ⟨b1, b2, b3, b4⟩ := (show MkB (pc d (gr r0 1)) n (fr d r0 n T.length) from mk_bd d _ _ _ n _ hok)
  have hl : ((r0 :: l0).length : Int) = l0.length + 1 := by simp
  refine Tot.t (decide_eq_true (by omega)) ?_
  refine Tot.bind (ih _ _ _ n s e E T hok h0 (by show n + 2 * (pc d (gr r0 1) : Int) ≤ _; omega) (by show E.length + 3 * pc d (gr r0 1) ≤ _; omega) (by show T.length + pc d (gr r0 1) ≤ _; omega)) fun x hx => ?_
  subst hx
  refine Tot.t (decide_eq_true (by omega)) (Tot.t (decide_eq_true (by omega)) (Tot.t (decide_eq_true (by omega)) ?_))
  exact Tot.in0 (loop l0 (fr d r0 n T.length) 0 (by omega) rfl (by omega) (by omega) (by omega) (by omega))
def ends (l : List Int) : List (List C) := l.map fun b => [C.int .i64 b]
theorem ends_get {l rest : List Int} {b : Int} {i : Nat} (h : l.drop i = b :: rest) : i < (ends l).length ∧ gi ((ends l).getD i []) 0 = b ∧ l.drop (i + 1) = rest := by
  have h1 : i < l.length := by
    rcases Nat.lt_or_ge i l.length with h1 | h1
    · exact h1
    · rw [List.drop_eq_nil_of_le h1] at h; cases h
  rw [List.drop_eq_getElem_cons h1] at h
  obtain ⟨h2, h3⟩ := List.cons.inj h
  refine ⟨by simpa [ends] using h1, ?_, h3⟩
  rw [List.getD_eq_getElem?_getD, ends, List.getElem?_map, List.getElem?_eq_getElem h1, h2]
  rfl
theorem alt_tot {d : Nat} (ih : PP d) (r0 : List C) (l0 : List (List C)) (hsub : ∀ r, r ∈ r0 :: l0 → POk d (gi r 0) (gr r 1) (gr r 2)) (hlen : l0.length ≤ 1000) (n s e : Int) (E T : List (List C)) (h0 : 0 ≤ n) (hn : n + 2 * (1 + pcs d (r0 :: l0)) ≤ 1000000) (hE : E.length + 3 * (1 + pcs d (r0 :: l0)) ≤ 1000000) (hT : T.length + pcs d (r0 :: l0) ≤ 1000000) (al : Al) (hal : al = altF (fr d) T.length n (r0 :: l0) ⟨n + 1, [], [], []⟩) :
    Tot (fun k _ _ => (lv k).prog_maker_alt n s e E T (r0 :: l0)) (fun r => r = (n, al.n, al.n + 1, s, e, E ++ (al.E ++ al.es.map (fun b => st4 b al.n 0 0)), T ++ al.T)) := by
  have hl : ((r0 :: l0).length : Int) = l0.length + 1 := by simp
  have l3 : ∀ (es rest : List Int) (v0 v1 w : Int) (n' : Int) (E' T' : List (List C)) (v : Int), 0 ≤ v → es.length ≤ 1000000 → es.drop v.toNat = rest → E'.length + rest.length ≤ 3000000 → Tot (fun k a b => prog_maker_alt_l3 (lv k) k n s e E T (r0 :: l0) a v0 v1 (es.length : Int) v n' s e (ends es) E' T') (fun r => r = (v0, v1, n', s, e, E' ++ rest.map (fun b => st4 b v1 0 0), T')) := by
    intro es rest
    induction rest with
    | nil =>
      intro v0 v1 w n' E' T' v hv he hr _
      refine Tot.step0 (fun k a b => prog_maker_alt_l3_q (lv k) k n s e E T (r0 :: l0) a v0 v1 (es.length : Int) v n' s e (ends es) E' T') ?_
      have := List.drop_eq_nil_iff.1 hr
      exact Tot.f (decide_eq_false (by omega)) (Tot.ret (by simp))
    | cons b rest ihr =>
      intro v0 v1 w n' E' T' v hv he hr hb
      obtain ⟨g1, g2, g3⟩ := ends_get hr
      have g1' : v.toNat < es.length := by simpa [ends] using g1
      refine Tot.step0 (fun k a b => prog_maker_alt_l3_q (lv k) k n s e E T (r0 :: l0) a v0 v1 (es.length : Int) v n' s e (ends es) E' T') ?_
      rw [g2, wrap_id (x := v + 1) (by omega) (by omega)]
      simp only [List.length_cons] at hb
      refine Tot.t (decide_eq_true (by omega)) (Tot.t (decide_eq_true (by omega)) (Tot.t (decide_eq_true (by omega)) ?_))
      refine Tot.bind (free_tot n' s e E' T' b v1 (by omega)) fun x hx => ?_
      subst hx
      have := ihr v0 v1 w n' (E' ++ [st4 b v1 0 0]) T' (v + 1) (by omega) he (by rw [show (v + 1).toNat = v.toNat + 1 by omega]; exact g3) (by simp; omega)
      rw [List.append_assoc] at this
      exact this
  have loop : ∀ (rest : List (List C)) (m : Al) (v : Int), al = altF (fr d) T.length n rest m → 0 ≤ v → (r0 :: l0).drop v.toNat = rest → 0 ≤ m.n → m.n + 2 * pcs d rest ≤ 1000000 → E.length + m.E.length + 3 * pcs d rest + m.es.length ≤ 1000000 → T.length + m.T.length + pcs d rest ≤ 1000000 → m.es.length + rest.length ≤ 2000 →
      Tot (fun k a b => prog_maker_alt_l2 (lv k) k n s e E T (r0 :: l0) a n v m.n s e (ends m.es) (E ++ m.E) (T ++ m.T)) (fun r => r = (n, al.n, al.n + 1, s, e, E ++ (al.E ++ al.es.map (fun b => st4 b al.n 0 0)), T ++ al.T)) := by
    intro rest
    induction rest with
    | nil =>
      intro m v hm hv hr g1 g2 g3 g4 g5
      obtain rfl : al = m := hm
      refine Tot.step0 (fun k a b => prog_maker_alt_l2_q (lv k) k n s e E T (r0 :: l0) a n v al.n s e (ends al.es) (E ++ al.E) (T ++ al.T)) ?_
      have := List.drop_eq_nil_iff.1 hr
      refine Tot.f (decide_eq_false (by omega)) ?_
      refine Tot.bind (state_tot al.n s e (E ++ al.E) (T ++ al.T) g1 (by omega)) fun x hx => ?_
      subst hx
      have := l3 al.es al.es n al.n 0 (al.n + 1) (E ++ al.E) (T ++ al.T) 0 (by omega) (by omega) rfl (by rw [List.length_append]; omega)
      rw [List.append_assoc] at this
      have e1 : ((ends al.es).length : Int) = al.es.length := by simp [ends]
      rw [e1]
      exact Tot.in0 this
    | cons r rest ihr =>
      intro m v hm hv hr h1 h2 h3 h4 h5
      obtain ⟨g1, g2, g3⟩ := drop_cons hr
      refine Tot.step0 (fun k a b => prog_maker_alt_l2_q (lv k) k n s e E T (r0 :: l0) a n v m.n s e (ends m.es) (E ++ m.E) (T ++ m.T)) ?_
      rw [g2, wrap_id (x := v + 1) (by omega) (by omega)]
      have hok : POk d (gi r 0) (gr r 1) (gr r 2) := hsub r (by rw [← g2]; exact getD_mem g1)
      rw [pcs_cons] at h2 h3 h4
      simp only [List.length_cons] at h5
      obtain ⟨b1, b2, b3, b4⟩ := (show MkB (pc d (gr r 1)) m.n (fr d r m.n (T.length + m.T.length)) from mk_bd d _ _ _ m.n _ hok)
      refine Tot.t (decide_eq_true (by omega)) (Tot.t (decide_eq_true (by omega)) (Tot.t (decide_eq_true (by omega)) ?_))
      have hp := ih _ _ _ m.n s e (E ++ m.E) (T ++ m.T) hok h1 (by omega) (by rw [List.length_append]; omega) (by rw [List.length_append]; omega)
      rw [show ((T ++ m.T).length : Int) = T.length + m.T.length by simp] at hp
      refine Tot.bind hp fun x hx => ?_
      subst hx
      have he : (E ++ m.E ++ (fr d r m.n (T.length + m.T.length)).E).length ≤ 3000000000 := by simp only [List.length_append]; omega
      refine Tot.bind (free_tot _ s e _ _ _ _ he) fun x hx => ?_
      subst hx
      refine Tot.t (roomy_of bytes3 (by simp [ends]; omega)) ?_
      have := ihr ⟨(fr d r m.n (T.length + m.T.length)).n, m.E ++ ((fr d r m.n (T.length + m.T.length)).E ++ [st4 n (fr d r m.n (T.length + m.T.length)).s 0 0]), m.T ++ (fr d r m.n (T.length + m.T.length)).T, m.es ++ [(fr d r m.n (T.length + m.T.length)).e]⟩ (v + 1) hm (by omega) (by rw [show (v + 1).toNat = v.toNat + 1 by omega]; exact g3)
      have := this (by show (0 : Int) ≤ (fr d r m.n (T.length + m.T.length)).n; omega) (by show (fr d r m.n (T.length + m.T.length)).n + _ ≤ _; omega) (by show E.length + (m.E ++ ((fr d r m.n (T.length + m.T.length)).E ++ [_])).length + _ + (m.es ++ [_]).length ≤ _; simp only [List.length_append, List.length_cons, List.length_nil]; omega) (by show T.length + (m.T ++ (fr d r m.n (T.length + m.T.length)).T).length + _ ≤ _; simp only [List.length_append]; omega) (by show (m.es ++ [_]).length + _ ≤ _; simp only [List.length_append, List.length_cons, List.length_nil]; omega)
      simp only [ends, List.map_append, List.map_cons, List.map_nil, List.append_assoc] at this ⊢
      exact this
  refine prog_maker_alt_up _ _ _ _ _ _ (Tot.congr ?_ (fun k _ _ => prog_maker_alt_q (lv k) k n s e E T (r0 :: l0)))
  refine Tot.bind (state_tot n s e E T h0 (by omega)) fun x hx => ?_
  subst hx
  refine Tot.in0 (g := fun k a _ => prog_maker_alt_l0 (lv k) k n s e E T (r0 :: l0) a n (n + 1) s e E T) (Tot.step0 (fun k a b => prog_maker_alt_l0_q (lv k) k n s e E T (r0 :: l0) a n (n + 1) s e E T) ?_)
  have hok : POk d (gi r0 0) (gr r0 1) (gr r0 2) := hsub r0 List.mem_cons_self
  rw [pcs_cons] at hn hE hT
  obtain ⟨b1, b2, b3, b4⟩ := (show MkB (pc d (gr r0 1)) (n + 1) (fr d r0 (n + 1) T.length) from mk_bd d _ _ _ (n + 1) _ hok)
  refine Tot.t (decide_eq_true (by omega)) (Tot.t (decide_eq_true (by omega)) ?_)
  refine Tot.bind (ih _ _ _ (n + 1) s e E T hok (by omega) (by show n + 1 + 2 * (pc d (gr r0 1) : Int) ≤ _; omega) (by show E.length + 3 * pc d (gr r0 1) ≤ _; omega) (by show T.length + pc d (gr r0 1) ≤ _; omega)) fun x hx => ?_
  subst hx
  refine Tot.bind (free_tot _ s e _ _ _ _ (by show (E ++ (fr d r0 (n + 1) T.length).E).length ≤ _; rw [List.length_append]; omega)) fun x hx => ?_
  subst hx
  have := loop l0 ⟨(fr d r0 (n + 1) T.length).n, (fr d r0 (n + 1) T.length).E ++ [st4 n (fr d r0 (n + 1) T.length).s 0 0], (fr d r0 (n + 1) T.length).T, [(fr d r0 (n + 1) T.length).e]⟩ 1 (by rw [hal]; simp [altF]) (by omega) rfl (by show (0 : Int) ≤ (fr d r0 (n + 1) T.length).n; omega) (by show (fr d r0 (n + 1) T.length).n + _ ≤ _; omega) (by show E.length + ((fr d r0 (n + 1) T.length).E ++ [_]).length + _ + 1 ≤ _; rw [List.length_append]; simp only [List.length_cons, List.length_nil]; omega) (by show T.length + (fr d r0 (n + 1) T.length).T.length + _ ≤ _; omega) (by show 1 + l0.length ≤ _; omega)
  simp only [ends, List.map_cons, List.map_nil, ← List.append_assoc] at this ⊢
  exact this
theorem mk_4 {d : Nat} {op : Int} {r : List C} {l tests : List (List C)} {n t : Int} (h : op = 4) : mk (d + 1) op (r :: l) tests n t = seqF (fr d) t l (fr d r n t) := by
  show (if op = 4 then _ else _) = _
  rw [if_pos h]
theorem mk_5 {d : Nat} {op : Int} {subs tests : List (List C)} {n t : Int} (h : op = 5) : mk (d + 1) op subs tests n t = ⟨(altF (fr d) t n subs ⟨n + 1, [], [], []⟩).n + 1, (altF (fr d) t n subs ⟨n + 1, [], [], []⟩).E ++ (altF (fr d) t n subs ⟨n + 1, [], [], []⟩).es.map (fun b => st4 b (altF (fr d) t n subs ⟨n + 1, [], [], []⟩).n 0 0), (altF (fr d) t n subs ⟨n + 1, [], [], []⟩).T, n, (altF (fr d) t n subs ⟨n + 1, [], [], []⟩).n⟩ := by
  show (if op = 4 then _ else if op = 5 then _ else _) = _
  rw [if_neg (by omega), if_pos h]
theorem mk_6 {d : Nat} {op : Int} {r : List C} {l tests : List (List C)} {n t : Int} (h : op = 6) : mk (d + 1) op (r :: l) tests n t = ⟨(fr d r (n + 1) t).n, (fr d r (n + 1) t).E ++ [st4 n (fr d r (n + 1) t).s 0 0] ++ [st4 (fr d r (n + 1) t).e n 0 0], (fr d r (n + 1) t).T, n, n⟩ := by
  show (if op = 4 then _ else if op = 5 then _ else if op = 6 then _ else _) = _
  rw [if_neg (by omega), if_neg (by omega), if_pos h]
theorem mk_7 {d : Nat} {op : Int} {subs tests : List (List C)} {n t : Int} (h : op = 7) : mk (d + 1) op subs tests n t = ⟨n + 2, [st4 n (n + 1) 3 t], tests, n, n + 1⟩ := by
  show (if op = 4 then _ else if op = 5 then _ else if op = 6 then _ else if op = 7 then _ else _) = _
  rw [if_neg (by omega), if_neg (by omega), if_neg (by omega), if_pos h]
theorem mk_0 {d : Nat} {op : Int} {subs tests : List (List C)} {n t : Int} (h4 : op ≠ 4) (h5 : op ≠ 5) (h6 : op ≠ 6) (h7 : op ≠ 7) : mk (d + 1) op subs tests n t = ⟨n + 2, [st4 n (n + 1) (kindOf op) 0], [], n, n + 1⟩ := by
  show (if op = 4 then _ else if op = 5 then _ else if op = 6 then _ else if op = 7 then _ else _) = _
  rw [if_neg h4, if_neg h5, if_neg h6, if_neg h7]
theorem path_tot : ∀ d, PP d := by
  intro d
  induction d with
  | zero => intro op subs tests n s e E T h; exact h.elim
  | succ d ih =>
    intro op subs tests n s e E T hok h0 hn hE hT
    obtain ⟨h1, h7, h45, h6, h77, ht, hl, hz, hsub⟩ := hok
    rw [pc_succ] at hn hE hT
    refine prog_maker_path_up _ _ _ _ _ _ _ _ (Tot.congr ?_ (fun k _ _ => prog_maker_path_q (lv k) k n s e E T op subs tests))
    have plain : ∀ kd, op ≠ 4 → op ≠ 5 → op ≠ 6 → op ≠ 7 → kindOf op = kd → Tot (fun k _ _ => ((lv k).prog_maker_step n s e E T kd 0).bind fun r1 => some (r1.1, r1.2.1, r1.2.2.1, r1.2.2.2.1, r1.2.2.2.2.1, r1.2.2.2.2.2.1, r1.2.2.2.2.2.2)) (fun r => r = ((mk (d + 1) op subs tests n T.length).s, (mk (d + 1) op subs tests n T.length).e, (mk (d + 1) op subs tests n T.length).n, s, e, E ++ (mk (d + 1) op subs tests n T.length).E, T ++ (mk (d + 1) op subs tests n T.length).T)) := by
      intro kd a4 a5 a6 a7 hk
      refine Tot.bind (step_tot n s e E T kd 0 h0 (by omega) (by omega)) fun x hx => Tot.ret ?_
      subst hx
      rw [mk_0 a4 a5 a6 a7, hk]
      simp
    refine Tot.cond (fun e2 => plain 1 ?_ ?_ ?_ ?_ ?_) (fun e2 => Tot.cond (fun e3 => plain 2 ?_ ?_ ?_ ?_ ?_) (fun e3 => Tot.cond (fun e4 => ?_) (fun e4 => Tot.cond (fun e5 => ?_) (fun e5 => Tot.cond (fun e6 => ?_) (fun e6 => Tot.cond (fun e7 => ?_) (fun e7 => plain 0 ?_ ?_ ?_ ?_ ?_))))))
    · have := eq_of_beq e2; omega
    · have := eq_of_beq e2; omega
    · have := eq_of_beq e2; omega
    · have := eq_of_beq e2; omega
    · have := eq_of_beq e2; simp [kindOf, this]
    · have := eq_of_beq e3; omega
    · have := eq_of_beq e3; omega
    · have := eq_of_beq e3; omega
    · have := eq_of_beq e3; omega
    · have := eq_of_beq e3; simp [kindOf, this]
    · have e4 := eq_of_beq e4
      cases subs with
      | nil => have := h45 (.inl e4); simp at this
      | cons r0 l0 =>
        refine Tot.bind (seq_tot ih r0 l0 hsub (by simp at hl; omega) n s e E T h0 (by omega) (by omega) (by omega)) fun x hx => Tot.ret ?_
        subst hx
        rw [mk_4 e4]
    · have e5 := eq_of_beq e5
      cases subs with
      | nil => have := h45 (.inr e5); simp at this
      | cons r0 l0 =>
        refine Tot.bind (alt_tot ih r0 l0 hsub (by simp at hl; omega) n s e E T h0 (by omega) (by omega) (by omega) _ rfl) fun x hx => Tot.ret ?_
        subst hx
        rw [mk_5 e5]
    · have e6 := eq_of_beq e6
      cases subs with
      | nil => have := h6 e6; simp at this
      | cons r0 l0 =>
        have hok : POk d (gi r0 0) (gr r0 1) (gr r0 2) := hsub r0 List.mem_cons_self
        rw [pcs_cons] at hn hE hT
        obtain ⟨b1, b2, b3, b4⟩ := (show MkB (pc d (gr r0 1)) (n + 1) (fr d r0 (n + 1) T.length) from mk_bd d _ _ _ (n + 1) _ hok)
        refine Tot.bind (state_tot n s e E T h0 (by omega)) fun x hx => ?_
        subst hx
        refine Tot.t (decide_eq_true (by simp only [List.length_cons]; omega)) ?_
        refine Tot.bind (ih _ _ _ (n + 1) s e E T hok (by omega) (by show n + 1 + 2 * (pc d (gr r0 1) : Int) ≤ _; omega) (by show E.length + 3 * pc d (gr r0 1) ≤ _; omega) (by show T.length + pc d (gr r0 1) ≤ _; omega)) fun x hx => ?_
        subst hx
        refine Tot.bind (free_tot _ s e _ _ _ _ (by show (E ++ (fr d r0 (n + 1) T.length).E).length ≤ _; rw [List.length_append]; omega)) fun x hx => ?_
        subst hx
        refine Tot.bind (free_tot _ s e _ _ _ _ (by show (E ++ (fr d r0 (n + 1) T.length).E ++ [_]).length ≤ _; simp only [List.length_append, List.length_cons, List.length_nil]; omega)) fun x hx => Tot.ret ?_
        subst hx
        rw [mk_6 e6]
        simp only [List.append_assoc]
        rfl
    · have e7 := eq_of_beq e7
      have htl := h77.1 e7
      have hlen : ((T ++ tests).length : Int) = T.length + 1 := by rw [List.length_append, htl]; rfl
      refine Tot.t (roomy_of bytes50 (by omega)) ?_
      rw [hlen, wrap_id (by omega) (by omega), show (T.length : Int) + 1 - 1 = T.length by omega]
      refine Tot.bind (step_tot n s e E (T ++ tests) 3 T.length h0 (by omega) (by omega)) fun x hx => Tot.ret ?_
      subst hx
      rw [mk_7 e7]
    · have := ne_of_beq_false e4; omega
    · have := ne_of_beq_false e5; omega
    · have := ne_of_beq_false e6; omega
    · have := ne_of_beq_false e7; omega
    · have := ne_of_beq_false e2; have := ne_of_beq_false e3; simp [kindOf, *]
theorem compile_tot (op : Int) (subs tests : List (List C)) (hok : POk 16 op subs tests) (hc : pc 16 subs ≤ 64) : Tot (fun k _ _ => (lv k).prog_Compile op subs tests) (fun r => r = ((mk 16 op subs tests 0 0).n, (mk 16 op subs tests 0 0).s, (mk 16 op subs tests 0 0).e, (mk 16 op subs tests 0 0).E, (mk 16 op subs tests 0 0).T)) := by
  refine prog_Compile_up _ _ _ (Tot.congr ?_ (fun k _ _ => prog_Compile_q (lv k) k op subs tests))
  refine Tot.bind (path_tot 16 op subs tests 0 0 0 [] [] hok (by omega) (by omega) (by simp; omega) (by simp; omega)) fun x hx => Tot.ret ?_
  subst hx
  simp
-- Ref
def nf (r : List C) : List C := [C.int .i64 (gi r 0), C.str (gs r 1), C.str (gs r 2), C.str (gs r 3), C.row 50 (gr r 4), C.row 25 (gr r 5)]
-- Inn
def row3 (x : List C) : List C := [C.int .i64 (gi x 0), C.row 25 (gr x 1), C.row 50 (gr x 2)]
def inn : Nat → Bool → List C → List (List C)
  | 0, _, _ => []
  | d + 1, true, a => (gr a 1).flatMap (inn d true) ++ (gr a 2).flatMap (inn d false)
  | d + 1, false, a => (gr a 4).flatMap (inn d false) ++ (gr a 5).flatMap (fun x => inn d true x ++ [row3 x])
structure Good (x : List C) : Prop where
  ok : ok 16 true x
  sz : ∀ e, sz e true x ≤ 64
  sm : SmR BB x
theorem wf_i64' {n : Int} (h : 0 ≤ n) (h' : n ≤ 1000000) : (Lit.int .i64 n).wf = true := by
  simp only [Lit.wf, Bool.and_eq_true, decide_eq_true_eq]
  have h1 : IntKind.i64.min = -9223372036854775808 := rfl
  have h2 : IntKind.i64.max = 9223372036854775807 := rfl
  omega
theorem sm_row3 {x : List C} (hs : SmR BB x) (h0 : 1 ≤ gi x 0) (h1 : gi x 0 ≤ 7) : SmR BB (row3 x) := by
  intro c hc
  simp only [row3, List.mem_cons, List.not_mem_nil, or_false] at hc
  rcases hc with rfl | rfl | rfl
  · exact .int _ _ (wf_i64' (by omega) (by omega))
  · exact .row _ _ (hs.gr 1).1 (hs.gr 1).2
  · exact .row _ _ (hs.gr 2).1 (hs.gr 2).2
theorem Good.row3 {x : List C} (h : Good x) : Good (row3 x) := ⟨h.ok, fun e => by
  cases e with
  | zero => exact h.sz 0
  | succ e => exact h.sz (e + 1), sm_row3 h.sm h.ok.1 h.ok.2.1⟩
theorem Good.pok {x : List C} (h : Good x) : POk 16 (gi x 0) (gr x 1) (gr x 2) := ok_pok h.ok
theorem Good.pc {x : List C} (h : Good x) : pc 16 (gr x 1) ≤ 64 := Nat.le_trans (pc_sz 16 x) (h.sz 16)
theorem ok_mono : ∀ {d : Nat} {k : Bool} {a : List C}, ok d k a → ok (d + 1) k a := by
  intro d
  induction d with
  | zero => intro k a h; exact h.elim
  | succ d ih =>
    intro k a h
    cases k with
    | true =>
      obtain ⟨h1, h2, h3, h4, h5, h6, h7, h8, h9, h10⟩ := h
      exact ⟨h1, h2, h3, h4, h5, h6, h7, h8, fun i hi => ih (h9 i hi), fun i hi => ih (h10 i hi)⟩
    | false =>
      obtain ⟨h1, h2, h3, h4, h5, h6, h7, h8, h9, h10⟩ := h
      exact ⟨h1, h2, h3, h4, h5, h6, h7, h8, fun i hi => ih (h9 i hi), fun i hi => ih (h10 i hi)⟩
theorem ok_le {d e : Nat} (h : d ≤ e) {k : Bool} {a : List C} (ha : ok d k a) : ok e k a := by
  induction h with
  | refl => exact ha
  | step _ ih => exact ok_mono ih
theorem flatMap_congr' {l : List (List C)} {f g : List C → List (List C)} (h : ∀ i, i < l.length → f (l.getD i []) = g (l.getD i [])) : l.flatMap f = l.flatMap g := by
  induction l with
  | nil => rfl
  | cons x l ih =>
    rw [List.flatMap_cons, List.flatMap_cons, show f x = g x from h 0 (by simp), ih fun i hi => h (i + 1) (by simp; omega)]
theorem inn_mono : ∀ {d : Nat} {k : Bool} {a : List C}, ok d k a → inn (d + 1) k a = inn d k a := by
  intro d
  induction d with
  | zero => intro k a h; exact h.elim
  | succ d ih =>
    intro k a h
    cases k with
    | true =>
      obtain ⟨_, _, _, _, _, _, _, _, h9, h10⟩ := h
      show (gr a 1).flatMap (inn (d + 1) true) ++ (gr a 2).flatMap (inn (d + 1) false) = _
      rw [flatMap_congr' (f := inn (d + 1) true) (g := inn d true) fun i hi => ih (h9 i hi), flatMap_congr' (f := inn (d + 1) false) (g := inn d false) fun i hi => ih (h10 i hi)]
      rfl
    | false =>
      obtain ⟨_, _, _, _, _, _, _, _, h9, h10⟩ := h
      show (gr a 4).flatMap (inn (d + 1) false) ++ (gr a 5).flatMap (fun x => inn (d + 1) true x ++ [row3 x]) = _
      rw [flatMap_congr' (f := inn (d + 1) false) (g := inn d false) fun i hi => ih (h9 i hi), flatMap_congr' (f := fun x => inn (d + 1) true x ++ [row3 x]) (g := fun x => inn d true x ++ [row3 x]) fun i hi => by rw [ih (h10 i hi)]]
      rfl
theorem inn_le {d e : Nat} (h : d ≤ e) {k : Bool} {a : List C} (ha : ok d k a) : inn e k a = inn d k a := by
  induction h with
  | refl => rfl
  | step h ih => rw [inn_mono (ok_le h ha), ih]
/-- what lies within is right too -/
theorem sz_sub {l : List (List C)} {f : List C → Nat} {i : Nat} (hi : i < l.length) : f (l.getD i []) ≤ (l.map f).sum := by
  induction l generalizing i with
  | nil => simp at hi
  | cons x l ih =>
    cases i with
    | zero => simp
    | succ i => have := ih (i := i) (by simpa using hi); simp at this ⊢; omega
theorem inn_good : ∀ {d : Nat}, d ≤ 16 → ∀ {k : Bool} {a : List C}, ok d k a → (∀ e, sz e k a ≤ 64) → SmR BB a → ∀ x, x ∈ inn d k a → Good x := by
  intro d
  induction d with
  | zero => intro _ k a h; exact h.elim
  | succ d ih =>
    intro hd k a h hz hs x hx
    have ih := @ih (by omega)
    have sub : ∀ (j : Nat) (k' : Bool) (g : Nat → Nat), (∀ e, sz (e + 1) k a = 1 + ((gr a (g 1)).map (sz e (if g 1 = j then k' else !k'))).sum + ((gr a (g 2)).map (sz e (if g 1 = j then !k' else k'))).sum) → (j = g 1 ∨ j = g 2 ∧ g 1 ≠ j) → ∀ i, i < (gr a j).length → ∀ e, sz e k' ((gr a j).getD i []) ≤ 64 := by
      intro j k' g hg hj i hi e
      have h1 := hz (e + 1)
      rw [hg e] at h1
      have h2 := sz_sub (f := sz e k') hi
      rcases hj with rfl | ⟨rfl, hj⟩
      · rw [if_pos rfl, if_pos rfl] at h1; omega
      · rw [if_neg hj, if_neg hj] at h1; omega
    cases k with
    | true =>
      obtain ⟨_, _, _, _, _, _, _, _, h9, h10⟩ := h
      rcases List.mem_append.1 hx with hx | hx
      · obtain ⟨y, hy, hxy⟩ := List.mem_flatMap.1 hx
        obtain ⟨i, hi, rfl⟩ := mem_getD hy
        exact ih (h9 i hi) (sub 1 true id (fun e => rfl) (.inl rfl) i hi) ((hs.gr 1).get i) x hxy
      · obtain ⟨y, hy, hxy⟩ := List.mem_flatMap.1 hx
        obtain ⟨i, hi, rfl⟩ := mem_getD hy
        exact ih (h10 i hi) (sub 2 false id (fun e => rfl) (.inr ⟨rfl, by decide⟩) i hi) ((hs.gr 2).get i) x hxy
    | false =>
      obtain ⟨_, _, _, _, _, _, _, _, h9, h10⟩ := h
      rcases List.mem_append.1 hx with hx | hx
      · obtain ⟨y, hy, hxy⟩ := List.mem_flatMap.1 hx
        obtain ⟨i, hi, rfl⟩ := mem_getD hy
        exact ih (h9 i hi) (sub 4 false (· + 3) (fun e => rfl) (.inl rfl) i hi) ((hs.gr 4).get i) x hxy
      · obtain ⟨y, hy, hxy⟩ := List.mem_flatMap.1 hx
        obtain ⟨i, hi, rfl⟩ := mem_getD hy
        have hz5 := sub 5 true (· + 3) (fun e => rfl) (.inr ⟨rfl, by decide⟩) i hi
        rcases List.mem_append.1 hxy with hxy | hxy
        · exact ih (h10 i hi) hz5 ((hs.gr 5).get i) x hxy
        · rw [List.mem_singleton.1 hxy]
          exact Good.row3 ⟨ok_le (by omega) (h10 i hi), hz5, (hs.gr 5).get i⟩
theorem len_flat {l : List (List C)} {f : List C → List (List C)} {g : List C → Nat} (h : ∀ x, x ∈ l → (f x).length ≤ g x) : (l.flatMap f).length ≤ (l.map g).sum := by
  induction l with
  | nil => simp
  | cons x l ih =>
    rw [List.flatMap_cons, List.length_append, List.map_cons, List.sum_cons]
    have h1 := h x List.mem_cons_self
    have h2 := ih fun y hy => h y (List.mem_cons_of_mem _ hy)
    omega
theorem inn_len : ∀ (d : Nat) (k : Bool) (a : List C), (inn d k a).length + 1 ≤ sz d k a := by
  intro d
  induction d with
  | zero => intro k a; cases k <;> exact Nat.le_refl _
  | succ d ih =>
    intro k a
    cases k with
    | true =>
      have h1 := len_flat (l := gr a 1) (f := inn d true) (g := sz d true) fun x _ => by have := ih true x; omega
      have h2 := len_flat (l := gr a 2) (f := inn d false) (g := sz d false) fun x _ => by have := ih false x; omega
      simp only [inn, List.length_append, sz]
      omega
    | false =>
      have h1 := len_flat (l := gr a 4) (f := inn d false) (g := sz d false) fun x _ => by have := ih false x; omega
      have h2 := len_flat (l := gr a 5) (f := fun x => inn d true x ++ [row3 x]) (g := sz d true) fun x _ => by have := ih true x; simp; omega
      simp only [inn, List.length_append, sz]
      omega
/-! alike ones are taken once -/
open Classical in
noncomputable def add1 (D : List (List C)) (x : List C) : List (List C) := if ∃ z, z ∈ D ∧ Alike true z x then D else D ++ [row3 x]
theorem add1_old {D : List (List C)} {x : List C} (h : ∃ z, z ∈ D ∧ Alike true z x) : add1 D x = D := by unfold add1; rw [if_pos h]
theorem add1_new {D : List (List C)} {x : List C} (h : ¬ ∃ z, z ∈ D ∧ Alike true z x) : add1 D x = D ++ [row3 x] := by unfold add1; rw [if_neg h]
theorem al3 (x : List C) : Alike true (row3 x) x := .path rfl rfl rfl (fun i _ => Alike.refl _ _) (fun i _ => Alike.refl _ _)
/-- each that is asked for stands ahead -/
def Cl (l : List (List C)) : Prop := ∀ i, i < l.length → ∀ y, y ∈ inn 16 true (l.getD i []) → y ∈ l.take i
theorem getD_app {l m : List (List C)} {i : Nat} : (l ++ m).getD i [] = if i < l.length then l.getD i [] else m.getD (i - l.length) [] := by
  rw [List.getD_eq_getElem?_getD, List.getElem?_append]
  split
  · rw [List.getD_eq_getElem?_getD]
  · rw [List.getD_eq_getElem?_getD]
theorem Cl.app {l m : List (List C)} (hl : Cl l) (hm : Cl m) : Cl (l ++ m) := by
  intro i hi y hy
  rw [getD_app] at hy
  rw [List.take_append]
  split at hy
  · rename_i h
    exact List.mem_append_left _ (hl i h y hy)
  · rename_i h
    rw [List.length_append] at hi
    exact List.mem_append_right _ (hm _ (by omega) y hy)
theorem Cl.flat {l : List (List C)} {f : List C → List (List C)} (h : ∀ i, i < l.length → Cl (f (l.getD i []))) : Cl (l.flatMap f) := by
  induction l with
  | nil => intro i hi; simp at hi
  | cons x l ih =>
    rw [List.flatMap_cons]
    exact Cl.app (h 0 (by simp)) (ih fun i hi => h (i + 1) (by simp; omega))
theorem inn_cl : ∀ {d : Nat}, d ≤ 16 → ∀ {k : Bool} {a : List C}, ok d k a → Cl (inn d k a) := by
  intro d
  induction d with
  | zero => intro _ k a h; exact h.elim
  | succ d ih =>
    intro hd k a h
    have ih := @ih (by omega)
    cases k with
    | true =>
      obtain ⟨_, _, _, _, _, _, _, _, h9, h10⟩ := h
      exact Cl.app (Cl.flat fun i hi => ih (h9 i hi)) (Cl.flat fun i hi => ih (h10 i hi))
    | false =>
      obtain ⟨_, _, _, _, _, _, _, _, h9, h10⟩ := h
      refine Cl.app (Cl.flat fun i hi => ih (h9 i hi)) (Cl.flat fun i hi => ?_)
      intro j hj y hy
      rw [List.length_append, List.length_singleton] at hj
      rw [getD_app] at hy
      split at hy
      · rename_i hlt
        rw [List.take_append_of_le_length (by omega)]
        exact ih (h10 i hi) j hlt y hy
      · rename_i hge
        have e : j = (inn d true ((gr a 5).getD i [])).length := by omega
        rw [show j - (inn d true ((gr a 5).getD i [])).length = 0 by omega] at hy
        have hy : y ∈ inn 16 true ((gr a 5).getD i []) := hy
        rw [inn_le (show d ≤ 16 by omega) (h10 i hi)] at hy
        rw [List.take_append_of_le_length (by omega), e, List.take_length]
        exact hy
/-- what stands in the list of inner paths, taken once -/
structure Ded (l D : List (List C)) : Prop where
  al : ∀ y, y ∈ l → ∃ z, z ∈ D ∧ Alike true z y
  dif : ∀ i j, i < j → j < D.length → ¬ Alike true (D.getD i []) (D.getD j [])
  ahead : ∀ i, i < D.length → ∀ y, y ∈ inn 16 true (D.getD i []) → ∃ n, n < i ∧ Alike true (D.getD n []) y
  len : D.length ≤ l.length
  good : ∀ x, x ∈ D → Good x
theorem ded_of {l : List (List C)} (hl : Cl l) (hg : ∀ x, x ∈ l → Good x) : ∀ n, n ≤ l.length → Ded (l.take n) ((l.take n).foldl add1 []) := by
  intro n
  induction n with
  | zero => intro _; exact ⟨fun y h => (by cases h), fun i j h h' => (by cases h'), fun i h => (by cases h), Nat.le_refl _, fun x h => (by cases h)⟩
  | succ n ih =>
    intro hn
    have D := ih (by omega)
    have e : l.take (n + 1) = l.take n ++ [l.getD n []] := by
      rw [List.take_add_one, List.getElem?_eq_getElem (by omega), List.getD_eq_getElem?_getD, List.getElem?_eq_getElem (by omega)]
      rfl
    rw [e, List.foldl_append]
    show Ded _ (add1 ((l.take n).foldl add1 []) (l.getD n []))
    generalize (l.take n).foldl add1 [] = d at D
    by_cases hx : ∃ z, z ∈ d ∧ Alike true z (l.getD n [])
    · rw [add1_old hx]
      refine ⟨fun y hy => ?_, D.dif, D.ahead, by have := D.len; rw [List.length_append]; omega, D.good⟩
      rcases List.mem_append.1 hy with hy | hy
      · exact D.al y hy
      · rw [List.mem_singleton.1 hy]; exact hx
    · rw [add1_new hx]
      have hlen : (d ++ [row3 (l.getD n [])]).length = d.length + 1 := by simp
      have hmem : l.getD n [] ∈ l := getD_mem (by omega)
      refine ⟨fun y hy => ?_, fun i j hij hj => ?_, fun i hi y hy => ?_, by have := D.len; rw [hlen, List.length_append]; simp only [List.length_singleton]; omega, fun x hx2 => ?_⟩
      · rcases List.mem_append.1 hy with hy | hy
        · obtain ⟨z, h1, h2⟩ := D.al y hy
          exact ⟨z, List.mem_append_left _ h1, h2⟩
        · rw [List.mem_singleton.1 hy]
          exact ⟨_, List.mem_append_right _ (List.mem_singleton.2 rfl), al3 _⟩
      · rw [hlen] at hj
        rw [getD_app, getD_app, if_pos (show i < d.length by omega)]
        split
        · rename_i h; exact D.dif i j hij h
        · rename_i h
          rw [show j - d.length = 0 by omega]
          intro ha
          exact hx ⟨_, getD_mem (show i < d.length by omega), ha.trans (al3 _)⟩
      · rw [hlen] at hi
        rw [getD_app] at hy
        split at hy
        · rename_i h
          obtain ⟨m, h1, h2⟩ := D.ahead i h y hy
          exact ⟨m, h1, by rw [getD_app, if_pos (show m < d.length by omega)]; exact h2⟩
        · rename_i h
          rw [show i - d.length = 0 by omega] at hy
          have hy : y ∈ inn 16 true (l.getD n []) := hy
          obtain ⟨z, h1, h2⟩ := D.al y (hl n (by omega) y hy)
          obtain ⟨m, h3, rfl⟩ := mem_getD h1
          exact ⟨m, by omega, by rw [getD_app, if_pos h3]; exact h2⟩
      · rcases List.mem_append.1 hx2 with h | h
        · exact D.good x h
        · rw [List.mem_singleton.1 h]; exact (hg _ hmem).row3
theorem ded_all {l : List (List C)} (hl : Cl l) (hg : ∀ x, x ∈ l → Good x) : Ded l (l.foldl add1 []) := by
  have := ded_of hl hg l.length (Nat.le_refl _)
  rwa [List.take_length] at this
theorem flat_take {l : List (List C)} {f : List C → List (List C)} {i : Nat} (h : i < l.length) : (l.take (i + 1)).flatMap f = (l.take i).flatMap f ++ f (l.getD i []) := by
  rw [List.take_add_one, List.getElem?_eq_getElem h, List.getD_eq_getElem?_getD, List.getElem?_eq_getElem h, List.flatMap_append]
  simp
theorem add_len (D : List (List C)) : ∀ l : List (List C), (l.foldl add1 D).length ≤ D.length + l.length := by
  intro l
  induction l generalizing D with
  | nil => simp
  | cons x l ih =>
    have := ih (add1 D x)
    have h2 : (add1 D x).length ≤ D.length + 1 := by
      unfold add1
      split <;> simp
    simp only [List.foldl_cons, List.length_cons]
    omega
theorem add_good {D l : List (List C)} (hD : ∀ x, x ∈ D → Good x) (hl : ∀ x, x ∈ l → Good x) : ∀ x, x ∈ l.foldl add1 D → Good x := by
  induction l generalizing D with
  | nil => exact hD
  | cons y l ih =>
    refine ih (fun x hx => ?_) (fun x hx => hl x (List.mem_cons_of_mem _ hx))
    unfold add1 at hx
    split at hx
    · exact hD x hx
    · rcases List.mem_append.1 hx with h | h
      · exact hD x h
      · rw [List.mem_singleton.1 h]; exact (hl y List.mem_cons_self).row3
end Go.Vm.T
