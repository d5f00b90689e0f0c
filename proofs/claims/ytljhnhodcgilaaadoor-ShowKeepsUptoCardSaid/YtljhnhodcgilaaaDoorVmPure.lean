/- The plain law. -/
import Derived.Test.YtljhnhodcgilaaaDoorVmEq
import Derived.Test.YtljhnhodcgilaaaDoorVmThree
import Derived.Lib.Join
/- The document's runes: each function of them comes to an answer. -/

set_option linter.unusedVariables false
set_option linter.unusedSimpArgs false
namespace Go.Vm.T
open Go Go.Vm Go.Proofs
attribute [local irreducible] lv oriellaw15_ShowKeeps_b oriellaw15_ShowPrints_b oriellaw15_ShowPrints_l0 oriellaw15_awake_b show_Path_b show_Path_l0 show_joined_b show_joined_l0 show_joined_l1 show_Filter_b show_bracketed_b show_name_b show_quoted_b show_all_b show_all_l0 show_all_l1 slices_Contains_int_int_b lex_Write_b slices_Index_int_int_b slices_Index_int_int_l0 orielref12_Right_b orielref12_Size_b orielref12_size_b orielref12_size_l0 orielref12_size_l1 orielref12_sizeFilter_b orielref12_sizeFilter_l0 orielref12_sizeFilter_l1 orielref12_path_b orielref12_path_l0 orielref12_path_l1 orielref12_filter_b orielref12_filter_l0 orielref12_filter_l1 orielref12_filter_l2 orielref12_filter_l3 orielref12_filter_l4 orielref12_named_b orielref04_Right_b orielref04_Right_l0 orielref03_Plain_b orielref03_Plain_l0 orielref01_All_b orielref01_All_l0 orielref01_All_l1 orielref02_Start_b orielref01_Rune_b orielref01_Rune_l0 orielref01_Put_b orielref01_cut_b orielref01_cut_l0 orielref01_cut_l1 orielref01_cut_l2 orielref01_cut_l3 orielref01_cut_l4 orielref01_value_b orielref01_value_l0 orielref01_value_l1 orielref12_Same_b orielref12_Same_l0 orielref12_Same_l1 orielref12_Filters_b orielref12_Filters_l0 orielref12_Filters_l1 orielref12_Filters_l2 orielref12_Filters_l3 orielref02_Char_b orielref02_Part_b orielref01_begins_b orielref01_begins_l0 orielref12_SameFilter_b orielref12_SameFilter_l0 orielref12_SameFilter_l1 orielref12_within_b orielref12_within_l0 orielref12_within_l1 orielref02_Blank_b orielref15_Filter_b orielref15_Filter_l0 orielref15_Filter_l1 orielref15_Filter_l2 orielref15_Path_b orielref15_Path_l0 orielref15_Path_l1 orielref15_Path_l2 orielref05_Find_b orielref05_Find_l0 orielref15_name_b orielref15_quoted_b orielref15_brackets_b orielref13_Write_b orielref13_Write_l0
theorem value_tot (s : ByteArray) (at_ n : Int) (h0 : 0 ≤ at_) (h1 : at_ + n ≤ s.size) (h2 : 0 ≤ n) (hn : n ≤ 4) (hs : s.size ≤ 2097152) : Tot (fun k _ _ => (lv k).orielref01_value s at_ n) (fun _ => True) := by
  have hl : ∀ (d : Nat) (v3 v4 : Int), 0 ≤ v4 → (n - v4).toNat = d → Tot (fun k a b => orielref01_value_l0 (lv k) k s at_ n a v3 v4) (fun _ => True) := by
    intro d
    induction d with
    | zero =>
      intro v3 v4 h3 h4
      refine Tot.step0 (fun k a b => orielref01_value_l0_q (lv k) k s at_ n a v3 v4) ?_
      exact Tot.f (decide_eq_false (by omega)) (Tot.ret trivial)
    | succ d ih =>
      intro v3 v4 h3 h4
      have hi : ∀ v, Tot (fun k a b => orielref01_value_l0 (lv k) k s at_ n a v (IntKind.i64.wrap (v4 + 1))) (fun _ => True) := fun v => by
        rw [wrap_id (by omega) (by omega)]
        exact ih v (v4 + 1) (by omega) (by omega)
      have hm : ∀ v5, Tot (fun k a b => orielref01_value_l1 (lv k) k s at_ n a v3 v4 v5) (fun _ => True) := fun v5 => by
        refine Tot.congr ?_ (fun k a b => orielref01_value_l1_q (lv k) k s at_ n a v3 v4 v5)
        repeat' first
          | refine Tot.cond (fun _ => ?_) (fun _ => ?_)
          | exact hi _
      refine Tot.step0 (fun k a b => orielref01_value_l0_q (lv k) k s at_ n a v3 v4) ?_
      have hw : IntKind.i64.wrap (at_ + v4) = at_ + v4 := wrap_id (by omega) (by omega)
      refine Tot.t (decide_eq_true (by omega)) (Tot.t (decide_eq_true (by omega)) (Tot.t (decide_eq_true (by omega)) ?_))
      repeat' first
        | refine Tot.cond (fun _ => ?_) (fun _ => ?_)
        | exact hm _
  exact orielref01_value_up _ _ _ (Tot.congr (Tot.in0 (hl _ 0 0 (by omega) rfl)) (fun k _ _ => orielref01_value_q (lv k) k s at_ n))
theorem put_tot (r : Int) : Tot (fun k _ _ => (lv k).orielref01_Put r) (fun l => l.length ≤ 4) := by
  refine orielref01_Put_up _ (Tot.congr ?_ (fun k _ _ => orielref01_Put_q (lv k) k r))
  repeat' first
    | refine Tot.cond (fun _ => ?_) (fun _ => ?_)
    | exact Tot.ret (by simp)
theorem begins_tot (s : ByteArray) (at_ : Int) (l : List (List C)) (h0 : 0 ≤ at_) (h1 : at_ ≤ s.size) (hl : l.length ≤ 2097152) (hs : s.size ≤ 2097160) : Tot (fun k _ _ => (lv k).orielref01_begins s at_ l) (fun _ => True) := by
  refine orielref01_begins_up _ _ _ (Tot.congr ?_ (fun k _ _ => orielref01_begins_q (lv k) k s at_ l))
  have hw : IntKind.i64.wrap (at_ + (l.length : Int)) = at_ + l.length := wrap_id (by omega) (by omega)
  rw [hw]
  refine Tot.cond (fun _ => Tot.ret trivial) (fun _ => Tot.cond (fun _ => Tot.ret trivial) (fun hc => ?_))
  have hc := of_decide_eq_false hc
  have hl : ∀ (d : Nat) (v3 : Int), 0 ≤ v3 → ((l.length : Int) - v3).toNat = d → Tot (fun k a b => orielref01_begins_l0 (lv k) k s at_ l a v3) (fun _ => True) := by
    intro d
    induction d with
    | zero =>
      intro v3 h3 h4
      refine Tot.step0 (fun k a b => orielref01_begins_l0_q (lv k) k s at_ l a v3) ?_
      exact Tot.f (decide_eq_false (by omega)) (Tot.ret trivial)
    | succ d ih =>
      intro v3 h3 h4
      refine Tot.step0 (fun k a b => orielref01_begins_l0_q (lv k) k s at_ l a v3) ?_
      have hw : IntKind.i64.wrap (at_ + v3) = at_ + v3 := wrap_id (by omega) (by omega)
      rw [hw, wrap_id (x := v3 + 1) (by omega) (by omega)]
      refine Tot.t (decide_eq_true (by omega)) (Tot.t (decide_eq_true (by omega)) (Tot.t (decide_eq_true (by omega)) (Tot.t (decide_eq_true (by omega)) (Tot.t (decide_eq_true (by omega)) ?_))))
      exact Tot.cond (fun _ => Tot.ret trivial) (fun _ => ih _ (by omega) (by omega))
  exact Tot.in0 (hl _ 0 (by omega) rfl)
-- UtfB
theorem size_rowBytes (l : List (List C)) : (rowBytes l).size = l.length := by
  unfold rowBytes
  show (List.toArray _).size = _
  rw [List.size_toArray, List.length_map]
theorem len_bytesRow (s : ByteArray) : (bytesRow s).length = s.size := by
  unfold bytesRow
  rw [List.length_map, Array.length_toList]
  rfl
theorem size_app (a b : ByteArray) : (a ++ b).size = a.size + b.size := by simp
theorem size_extract (s : ByteArray) (a b : Nat) : (s.extract a b).size = min b s.size - a := by simp
set_option maxRecDepth 100000 in
theorem cut_tot (s : ByteArray) (at_ : Int) (h0 : 0 ≤ at_) (h1 : at_ ≤ s.size) (hs : s.size ≤ 1048576) : Tot (fun k _ _ => (lv k).orielref01_cut s at_) (fun _ => True) := by
  have hw : IntKind.i64.wrap ((s.size : Int) - at_) = s.size - at_ := wrap_id (by omega) (by omega)
  refine orielref01_cut_up _ _ (Tot.congr ?_ (fun k _ _ => orielref01_cut_q (lv k) k s at_))
  rw [hw]
  refine Tot.cond (fun _ => Tot.ret trivial) (fun hn => Tot.cond (fun _ => Tot.ret trivial) (fun hn2 => ?_))
  have hn := of_decide_eq_false hn
  have hn2 := of_decide_eq_false hn2
  rw [wrap_id (x := (s.size : Int) - at_ + 1) (by omega) (by omega)]
  have hx : (s.extract at_.toNat ((s.size : Int).toNat)).size = s.size - at_.toNat := by rw [size_extract]; omega
  have key : ∀ (d : Nat) (v3 : Int), (s.size : Int) - at_ + 1 ≤ v3 → (5 - v3).toNat = d → Tot (fun k a b => orielref01_cut_l0 (lv k) k s at_ a v3) (fun _ => True) := by
    intro d
    induction d with
    | zero =>
      intro v3 h3 h4
      refine Tot.step0 (fun k a b => orielref01_cut_l0_q (lv k) k s at_ a v3) ?_
      exact Tot.f (decide_eq_false (by omega)) (Tot.ret trivial)
    | succ d ih =>
      intro v3 h3 h4
      have hnext : Tot (fun k a b => orielref01_cut_l0 (lv k) k s at_ a (IntKind.i64.wrap (v3 + 1))) (fun _ => True) := by
        rw [wrap_id (by omega) (by omega)]
        exact ih _ (by omega) (by omega)
      have h4l : ∀ (d : Nat) (v5 v6 v7 : Int), 0 ≤ v7 → (64 - v7).toNat = d → Tot (fun k a b => orielref01_cut_l4 (lv k) k s at_ a b v3 v5 v6 v7) (fun _ => True) := by
        intro d
        induction d with
        | zero =>
          intro v5 v6 v7 h5 h6
          refine Tot.step1 (fun k a b => orielref01_cut_l4_q (lv k) k s at_ a b v3 v5 v6 v7) ?_
          exact Tot.f (decide_eq_false (by omega)) hnext
        | succ d ihd =>
          intro v5 v6 v7 h5 h6
          refine Tot.step1 (fun k a b => orielref01_cut_l4_q (lv k) k s at_ a b v3 v5 v6 v7) ?_
          have hi : Tot (fun k a b => orielref01_cut_l4 (lv k) k s at_ a b v3 v5 v6 (IntKind.i64.wrap (v7 + 1))) (fun _ => True) := by
            rw [wrap_id (by omega) (by omega)]
            exact ihd v5 v6 _ (by omega) (by omega)
          have hp : ∀ r, Tot (fun k a b => ((lv k).orielref01_Put r).bind fun r1 => cond ((r1.length : Int) == v3) (cond (decide ((rowBytes r1).size + (⟨#[120]⟩ : ByteArray).size ≤ 4611686018427387904)) (cond (roomy Tryd.prog 5 ((s.extract at_.toNat ((s.size : Int).toNat)).size)) (((lv k).orielref01_begins ((rowBytes r1) ++ (⟨#[120]⟩ : ByteArray)) 0 (bytesRow (s.extract at_.toNat ((s.size : Int).toNat)))).bind fun r2 => cond r2 (some true) (orielref01_cut_l4 (lv k) k s at_ a b v3 v5 v6 (IntKind.i64.wrap (v7 + 1)))) none) none) (orielref01_cut_l4 (lv k) k s at_ a b v3 v5 v6 (IntKind.i64.wrap (v7 + 1)))) (fun _ => True) := fun r => by
            refine Tot.bind (put_tot r) fun r1 hr1 => Tot.cond (fun _ => ?_) (fun _ => hi)
            have e1 : (⟨#[120]⟩ : ByteArray).size = 1 := rfl
            refine Tot.t (decide_eq_true (by rw [size_rowBytes, e1]; omega)) (Tot.t (roomy_of (by have : Tryd.prog.bytesOf 5 = 1 := by kernel_rfl
                                                                                                  omega) (by omega)) ?_)
            refine Tot.bind (begins_tot _ 0 _ (by omega) (by omega) (by rw [len_bytesRow]; omega) (by rw [size_app, size_rowBytes, e1]; omega)) fun r2 _ => Tot.cond (fun _ => Tot.ret trivial) (fun _ => hi)
          refine Tot.t (decide_eq_true (by omega)) (Tot.cond (fun _ => hp _) (fun _ => hp _))
      have h3l : ∀ v5 v6 v7 v8, Tot (fun k a b => orielref01_cut_l3 (lv k) k s at_ a v3 v5 v6 v7 v8) (fun _ => True) := fun v5 v6 v7 v8 => by
        refine Tot.congr ?_ (fun k a b => orielref01_cut_l3_q (lv k) k s at_ a v3 v5 v6 v7 v8)
        exact Tot.cond (fun _ => hnext) (fun _ => Tot.cond (fun _ => hnext) (fun _ => Tot.in1 (h4l _ v5 v6 0 (by omega) rfl)))
      have h2l : ∀ (d : Nat) (v5 v6 : Int) (v7 : Bool) (v8 : Int), 1 ≤ v8 → ((s.size : Int) - at_ - v8).toNat = d → Tot (fun k a b => orielref01_cut_l2 (lv k) k s at_ a b v3 v5 v6 v7 v8) (fun _ => True) := by
        intro d
        induction d with
        | zero =>
          intro v5 v6 v7 v8 h5 h6
          refine Tot.step1 (fun k a b => orielref01_cut_l2_q (lv k) k s at_ a b v3 v5 v6 v7 v8) ?_
          rw [hw]
          refine Tot.f (decide_eq_false (by omega)) ?_
          have g1 : decide ((0 : Int) ≤ at_) = true := decide_eq_true h0
          have g2 : decide (at_ < (s.size : Int)) = true := decide_eq_true (by omega)
          repeat' first
            | exact h3l _ _ _ _
            | refine Tot.t g1 ?_
            | refine Tot.t g2 ?_
            | refine Tot.cond (fun _ => ?_) (fun _ => ?_)
        | succ d ihd =>
          intro v5 v6 v7 v8 h5 h6
          refine Tot.step1 (fun k a b => orielref01_cut_l2_q (lv k) k s at_ a b v3 v5 v6 v7 v8) ?_
          rw [hw, wrap_id (x := at_ + v8) (by omega) (by omega), wrap_id (x := v8 + 1) (by omega) (by omega)]
          refine Tot.t (decide_eq_true (by omega)) ?_
          have g1 : decide ((0 : Int) ≤ at_ + v8) = true := decide_eq_true (by omega)
          have g2 : decide (at_ + v8 < (s.size : Int)) = true := decide_eq_true (by omega)
          repeat' first
            | exact ihd _ _ _ _ (by omega) (by omega)
            | refine Tot.t g1 ?_
            | refine Tot.t g2 ?_
            | refine Tot.cond (fun _ => ?_) (fun _ => ?_)
      have h1l : ∀ (d : Nat) (v5 v6 : ByteArray), v5.size = v6.size → v5.size ≤ 2097152 → (v3 - v5.size).toNat = d → Tot (fun k a b => orielref01_cut_l1 (lv k) k s at_ a b v3 v5 v6) (fun _ => True) := by
        intro d
        induction d with
        | zero =>
          intro v5 v6 h5 h6 h7
          refine Tot.step1 (fun k a b => orielref01_cut_l1_q (lv k) k s at_ a b v3 v5 v6) ?_
          refine Tot.f (decide_eq_false (by omega)) ?_
          exact Tot.bind (value_tot v5 0 v3 (by omega) (by omega) (by omega) (by omega) h6) fun r1 _ => Tot.bind (value_tot v6 0 v3 (by omega) (by omega) (by omega) (by omega) (by omega)) fun r2 _ => Tot.in1 (h2l _ r1 r2 true 1 (by omega) rfl)
        | succ d ihd =>
          intro v5 v6 h5 h6 h7
          refine Tot.step1 (fun k a b => orielref01_cut_l1_q (lv k) k s at_ a b v3 v5 v6) ?_
          have e1 : (⟨#[128]⟩ : ByteArray).size = 1 := rfl
          have e2 : (⟨#[191]⟩ : ByteArray).size = 1 := rfl
          refine Tot.t (decide_eq_true (by omega)) (Tot.t (decide_eq_true (by rw [e1]; omega)) (Tot.t (decide_eq_true (by rw [e2]; omega)) ?_))
          exact ihd _ _ (by rw [size_app, size_app, e1, e2]; omega) (by rw [size_app, e1]; omega) (by rw [size_app, e1]; omega)
      refine Tot.step0 (fun k a b => orielref01_cut_l0_q (lv k) k s at_ a v3) ?_
      refine Tot.t (decide_eq_true (by omega)) (Tot.t (decide_eq_true (by omega)) (Tot.t (decide_eq_true (by omega)) (Tot.t (decide_eq_true (by omega)) (Tot.t (decide_eq_true (by omega)) ?_))))
      exact Tot.in1 (h1l _ _ _ rfl (by rw [hx]; omega) rfl)
  exact Tot.in0 (key _ _ (by omega) rfl)
theorem rune_tot (s : ByteArray) (at_ : Int) (h0 : 0 ≤ at_) (hs : s.size ≤ 1048576) : Tot (fun k _ _ => (lv k).orielref01_Rune s at_) (fun r => r.2.2 = 0 → 1 ≤ r.2.1 ∧ r.2.1 ≤ 4 ∧ at_ + r.2.1 ≤ s.size) := by
  refine orielref01_Rune_up _ _ (Tot.congr ?_ (fun k _ _ => orielref01_Rune_q (lv k) k s at_))
  refine Tot.cond (fun _ => Tot.ret (fun h => by cases h)) (fun h1 => Tot.cond (fun _ => Tot.ret (fun h => by cases h)) (fun h2 => ?_))
  have h1 := of_decide_eq_false h1
  have h2 := of_decide_eq_false h2
  have hc : Tot (fun k a b => ((lv k).orielref01_cut s at_).bind fun r7 => cond r7 (some ((0 : Int), (0 : Int), (7 : Int))) (some (0, 0, 2))) (fun r => r.2.2 = 0 → 1 ≤ r.2.1 ∧ r.2.1 ≤ 4 ∧ at_ + r.2.1 ≤ s.size) :=
    Tot.bind (cut_tot s at_ h0 (by omega) hs) fun r _ => Tot.cond (fun _ => Tot.ret (fun h => by cases h)) (fun _ => Tot.ret (fun h => by cases h))
  have key : ∀ (d : Nat) (v2 : Int), 1 ≤ v2 → (5 - v2).toNat = d → Tot (fun k a b => orielref01_Rune_l0 (lv k) k s at_ a v2) (fun r => r.2.2 = 0 → 1 ≤ r.2.1 ∧ r.2.1 ≤ 4 ∧ at_ + r.2.1 ≤ s.size) := by
    intro d
    induction d with
    | zero =>
      intro v2 h3 h4
      refine Tot.step0 (fun k a b => orielref01_Rune_l0_q (lv k) k s at_ a v2) ?_
      exact Tot.f (decide_eq_false (by omega)) hc
    | succ d ih =>
      intro v2 h3 h4
      refine Tot.step0 (fun k a b => orielref01_Rune_l0_q (lv k) k s at_ a v2) ?_
      rw [wrap_id (x := at_ + v2) (by omega) (by omega), wrap_id (x := v2 + 1) (by omega) (by omega)]
      have hi := ih (v2 + 1) (by omega) (by omega)
      refine Tot.t (decide_eq_true (by omega)) (Tot.cond (fun h5 => ?_) (fun _ => hc))
      have h5 := of_decide_eq_true h5
      have hp : ∀ v, Tot (fun k a b => ((lv k).orielref01_Put v).bind fun r2 => cond ((r2.length : Int) == v2) (((lv k).orielref01_begins s at_ r2).bind fun r3 => cond r3 (some (v, v2, 0)) (orielref01_Rune_l0 (lv k) k s at_ a (v2 + 1))) (orielref01_Rune_l0 (lv k) k s at_ a (v2 + 1))) (fun r => r.2.2 = 0 → 1 ≤ r.2.1 ∧ r.2.1 ≤ 4 ∧ at_ + r.2.1 ≤ s.size) := fun v =>
        Tot.bind (put_tot v) fun r2 hr2 => Tot.cond (fun _ => Tot.bind (begins_tot s at_ r2 h0 (by omega) (by omega) (by omega)) fun r3 _ => Tot.cond (fun _ => Tot.ret (fun _ => ⟨h3, by show v2 ≤ 4; omega, h5⟩)) (fun _ => hi)) (fun _ => hi)
      refine Tot.t (decide_eq_true (by omega)) (Tot.t (decide_eq_true (by omega)) (Tot.cond (fun h6 => ?_) (fun _ => hp _)))
      exact Tot.bind (value_tot s at_ v2 h0 (by omega) (by omega) (by omega) (by omega)) fun r1 _ => hp r1
  exact Tot.in0 (key _ 1 (by omega) rfl)
theorem all_tot (s : ByteArray) (hs : s.size ≤ 1048576) : Tot (fun k _ _ => (lv k).orielref01_All s) (fun r => r.1.length ≤ 1048576) := by
  refine orielref01_All_up _ (Tot.congr ?_ (fun k _ _ => orielref01_All_q (lv k) k s))
  have key : ∀ (d : Nat) (v1 : Int) (v2 : List (List C)), 0 ≤ v1 → v1 ≤ s.size → (v2.length : Int) ≤ v1 → ((s.size : Int) - v1).toNat ≤ d → Tot (fun k a b => orielref01_All_l1 (lv k) k s a v1 v2) (fun r => r.1.length ≤ 1048576) := by
    intro d
    induction d with
    | zero =>
      intro v1 v2 h0 h1 h2 h3
      refine Tot.step0 (fun k a b => orielref01_All_l1_q (lv k) k s a v1 v2) ?_
      exact Tot.f (decide_eq_false (by omega)) (Tot.ret (by show v2.length ≤ 1048576; omega))
    | succ d ih =>
      intro v1 v2 h0 h1 h2 h3
      refine Tot.step0 (fun k a b => orielref01_All_l1_q (lv k) k s a v1 v2) ?_
      refine Tot.cond (fun h4 => ?_) (fun _ => Tot.ret (by show v2.length ≤ 1048576; omega))
      refine Tot.bind (rune_tot s v1 h0 hs) fun r hr => Tot.cond (fun _ => Tot.ret (by show v2.length ≤ 1048576; omega)) (fun h5 => ?_)
      have h5 : r.2.2 = 0 := by simpa using h5
      obtain ⟨h6, h7, h8⟩ := hr h5
      rw [wrap_id (by omega) (by omega)]
      refine Tot.t (roomy_of (by have : Tryd.prog.bytesOf 21 = 4 := by kernel_rfl
                                 omega) (by omega)) (ih _ _ (by omega) (by omega) (by rw [List.length_append]; simp; omega) (by omega))
  refine Tot.in0 (g := fun k a _ => orielref01_All_l0 (lv k) k s a) (Tot.step0 (fun k a b => orielref01_All_l0_q (lv k) k s a) ?_)
  refine Tot.cond (fun h4 => ?_) (fun _ => Tot.ret (by show ([] : List (List C)).length ≤ 1048576; simp))
  refine Tot.bind (rune_tot s 0 (by omega) hs) fun r hr => Tot.cond (fun _ => Tot.ret (by show ([] : List (List C)).length ≤ 1048576; simp)) (fun h5 => ?_)
  have h5 : r.2.2 = 0 := by simpa using h5
  obtain ⟨h6, h7, h8⟩ := hr h5
  rw [wrap_id (by omega) (by omega)]
  exact key _ _ _ (by omega) (by omega) (by simp; omega) (Nat.le_refl _)
theorem blank_tot (r : Int) : Tot (fun k _ _ => (lv k).orielref02_Blank r) (fun _ => True) := by
  refine orielref02_Blank_up _ (Tot.congr ?_ (fun k _ _ => orielref02_Blank_q (lv k) k r))
  repeat' first
    | refine Tot.cond (fun _ => ?_) (fun _ => ?_)
    | exact Tot.ret trivial
theorem char_tot (r : Int) : Tot (fun k _ _ => (lv k).orielref02_Char r) (fun _ => True) := by
  refine orielref02_Char_up _ (Tot.congr ?_ (fun k _ _ => orielref02_Char_q (lv k) k r))
  repeat' first
    | refine Tot.cond (fun _ => ?_) (fun _ => ?_)
    | exact Tot.ret trivial
    | refine Tot.bind (blank_tot _) fun _ _ => ?_
set_option maxRecDepth 100000 in
theorem start_tot (r : Int) : Tot (fun k _ _ => (lv k).orielref02_Start r) (fun _ => True) := by
  refine orielref02_Start_up _ (Tot.congr ?_ (fun k _ _ => orielref02_Start_q (lv k) k r))
  repeat' first
    | refine Tot.cond (fun _ => ?_) (fun _ => ?_)
    | exact Tot.ret trivial
set_option maxRecDepth 100000 in
theorem part_tot (r : Int) : Tot (fun k _ _ => (lv k).orielref02_Part r) (fun _ => True) := by
  refine orielref02_Part_up _ (Tot.congr ?_ (fun k _ _ => orielref02_Part_q (lv k) k r))
  repeat' first
    | refine Tot.cond (fun _ => ?_) (fun _ => ?_)
    | exact Tot.ret trivial
    | refine Tot.bind (start_tot _) fun _ _ => ?_
theorem right4_tot (s : ByteArray) (hs : s.size ≤ 1048576) : Tot (fun k _ _ => (lv k).orielref04_Right s) (fun _ => True) := by
  refine orielref04_Right_up _ (Tot.congr ?_ (fun k _ _ => orielref04_Right_q (lv k) k s))
  refine Tot.bind (all_tot s hs) fun r hr => ?_
  have key : ∀ (d : Nat) (v1 : Int), 0 ≤ v1 → ((r.1.length : Int) - v1).toNat = d → Tot (fun k a b => orielref04_Right_l0 (lv k) k s a r.2.2 v1 r.1) (fun _ => True) := by
    intro d
    induction d with
    | zero =>
      intro v1 h0 h1
      refine Tot.step0 (fun k a b => orielref04_Right_l0_q (lv k) k s a r.2.2 v1 r.1) ?_
      exact Tot.f (decide_eq_false (by omega)) (Tot.ret trivial)
    | succ d ih =>
      intro v1 h0 h1
      refine Tot.step0 (fun k a b => orielref04_Right_l0_q (lv k) k s a r.2.2 v1 r.1) ?_
      rw [wrap_id (x := v1 + 1) (by omega) (by omega)]
      refine Tot.t (decide_eq_true (by omega)) (Tot.t (decide_eq_true (by omega)) (Tot.t (decide_eq_true (by omega)) ?_))
      exact Tot.bind (char_tot _) fun r1 _ => Tot.cond (fun _ => Tot.ret trivial) (fun _ => ih _ (by omega) (by omega))
  exact Tot.in0 (key _ 0 (by omega) rfl)
theorem len_runesRow (s : ByteArray) : (runesRow s).length ≤ s.size := by
  unfold runesRow
  rw [List.length_map]
  exact runesAux_length s s.size 0
theorem plain_tot (s : ByteArray) (hs : s.size ≤ 1048576) : Tot (fun k _ _ => (lv k).orielref03_Plain s) (fun _ => True) := by
  refine orielref03_Plain_up _ (Tot.congr ?_ (fun k _ _ => orielref03_Plain_q (lv k) k s))
  have hl := len_runesRow s
  refine Tot.t (roomy_of (by have : Tryd.prog.bytesOf 21 = 4 := by kernel_rfl
                             omega) (by omega)) ?_
  refine Tot.cond (fun _ => Tot.ret trivial) (fun h1 => ?_)
  have h1 : (runesRow s).length ≠ 0 := by simpa using h1
  refine Tot.t (decide_eq_true (by omega)) (Tot.bind (start_tot _) fun r _ => Tot.cond (fun _ => Tot.ret trivial) (fun _ => ?_))
  have key : ∀ (d : Nat) (v1 : Int), 0 ≤ v1 → (((runesRow s).length : Int) - v1).toNat = d → Tot (fun k a b => orielref03_Plain_l0 (lv k) k s a v1) (fun _ => True) := by
    intro d
    induction d with
    | zero =>
      intro v1 h0 h1
      refine Tot.step0 (fun k a b => orielref03_Plain_l0_q (lv k) k s a v1) ?_
      exact Tot.f (decide_eq_false (by omega)) (Tot.ret trivial)
    | succ d ih =>
      intro v1 h0 h1
      refine Tot.step0 (fun k a b => orielref03_Plain_l0_q (lv k) k s a v1) ?_
      rw [wrap_id (x := v1 + 1) (by omega) (by omega)]
      refine Tot.t (decide_eq_true (by omega)) (Tot.t (decide_eq_true (by omega)) (Tot.t (decide_eq_true (by omega)) ?_))
      exact Tot.bind (part_tot _) fun r1 _ => Tot.cond (fun _ => Tot.ret trivial) (fun _ => ih _ (by omega) (by omega))
  exact Tot.in0 (key _ 0 (by omega) rfl)
theorem find_tot (s : ByteArray) (x : ByteArray) (hs : s.size ≤ 1048576) (hx : x.size ≤ 1048576) : Tot (fun k _ _ => (lv k).orielref05_Find s 0 x) (fun _ => True) := by
  refine orielref05_Find_up _ _ _ (Tot.congr ?_ (fun k _ _ => orielref05_Find_q (lv k) k s 0 x))
  have key : ∀ (d : Nat) (v2 : Int), 0 ≤ v2 → v2 ≤ 1048577 → ((s.size : Int) + 1 - v2).toNat = d → Tot (fun k a b => orielref05_Find_l0 (lv k) k s 0 x a v2) (fun _ => True) := by
    intro d
    induction d with
    | zero =>
      intro v2 h0 h1 h2
      refine Tot.step0 (fun k a b => orielref05_Find_l0_q (lv k) k s 0 x a v2) ?_
      rw [wrap_id (x := v2 + (x.size : Int)) (by omega) (by omega)]
      exact Tot.f (decide_eq_false (by omega)) (Tot.ret trivial)
    | succ d ih =>
      intro v2 h0 h1 h2
      refine Tot.step0 (fun k a b => orielref05_Find_l0_q (lv k) k s 0 x a v2) ?_
      rw [wrap_id (x := v2 + (x.size : Int)) (by omega) (by omega), wrap_id (x := v2 + 1) (by omega) (by omega)]
      refine Tot.cond (fun h3 => ?_) (fun _ => Tot.ret trivial)
      have h3 := of_decide_eq_true h3
      refine Tot.t (decide_eq_true (by omega)) (Tot.t (decide_eq_true (by omega)) (Tot.t (decide_eq_true (by omega)) (Tot.t (decide_eq_true (by omega)) ?_)))
      exact Tot.cond (fun _ => Tot.ret trivial) (fun _ => ih _ (by omega) (by omega) (by omega))
  exact Tot.in0 (key _ 0 (by omega) (by omega) rfl)
theorem named_tot (s t : ByteArray) (hs : s.size ≤ 1048576) (ht : t.size ≤ 1048576) : Tot (fun k _ _ => (lv k).orielref12_named s t) (fun _ => True) := by
  refine orielref12_named_up _ _ (Tot.congr ?_ (fun k _ _ => orielref12_named_q (lv k) k s t))
  refine Tot.cond (fun _ => Tot.bind (plain_tot t ht) fun r1 _ => Tot.cond (fun _ => Tot.bind (right4_tot t ht) fun r2 _ => Tot.cond (fun _ => Tot.bind (right4_tot s hs) fun r3 _ => Tot.cond (fun _ => Tot.bind (find_tot s _ hs ?_) fun r4 _ => Tot.cond (fun _ => Tot.bind (find_tot s _ hs ?_) fun r5 _ => Tot.ret trivial) (fun _ => Tot.ret trivial)) (fun _ => Tot.ret trivial)) (fun _ => Tot.ret trivial)) (fun _ => Tot.ret trivial)) (fun _ => Tot.ret trivial)
  · have : (⟨#[123]⟩ : ByteArray).size = 1 := rfl
    omega
  · have : (⟨#[125]⟩ : ByteArray).size = 1 := rfl
    omega
-- Right
abbrev BB : Nat := 1048576
/-- a right path (true), a right filter (false), as far as d parts lie within one another -/
def ok : Nat → Bool → List C → Prop
  | 0, _, _ => False
  | d + 1, true, a => 1 ≤ gi a 0 ∧ gi a 0 ≤ 7 ∧ (gi a 0 = 4 ∨ gi a 0 = 5 → 2 ≤ (gr a 1).length) ∧ (gi a 0 = 6 → (gr a 1).length = 1) ∧ (gi a 0 = 7 ↔ (gr a 2).length = 1) ∧ (gr a 2).length ≤ 1 ∧ (gr a 1).length ≤ 64 ∧ (gi a 0 ≠ 4 → gi a 0 ≠ 5 → gi a 0 ≠ 6 → (gr a 1).length = 0) ∧ (∀ i, i < (gr a 1).length → ok d true ((gr a 1).getD i [])) ∧ (∀ i, i < (gr a 2).length → ok d false ((gr a 2).getD i []))
  | d + 1, false, a => 1 ≤ gi a 0 ∧ gi a 0 ≤ 11 ∧ (gi a 0 = 8 → (gr a 4).length = 1) ∧ (gr a 4).length ≤ 64 ∧ (gi a 0 = 9 ∨ gi a 0 = 10 → 2 ≤ (gr a 4).length) ∧ (gi a 0 ≠ 8 → gi a 0 ≠ 9 → gi a 0 ≠ 10 → (gr a 4).length = 0) ∧ (gi a 0 = 11 ↔ (gr a 5).length = 1) ∧ (gr a 5).length ≤ 1 ∧ (∀ i, i < (gr a 4).length → ok d false ((gr a 4).getD i [])) ∧ (∀ i, i < (gr a 5).length → ok d true ((gr a 5).getD i []))
/-- how many parts -/
def sz : Nat → Bool → List C → Nat
  | 0, _, _ => 1
  | d + 1, true, a => 1 + ((gr a 1).map (sz d true)).sum + ((gr a 2).map (sz d false)).sum
  | d + 1, false, a => 1 + ((gr a 4).map (sz d false)).sum + ((gr a 5).map (sz d true)).sum
theorem sum_take {α : Type} (l : List α) (f : α → Nat) (i : Nat) (d : α) (h : i < l.length) : ((l.take (i + 1)).map f).sum = ((l.take i).map f).sum + f (l.getD i d) := by
  rw [List.take_add_one, List.map_append, List.sum_append, List.getElem?_eq_getElem h]
  simp [List.getD, List.getElem?_eq_getElem h]
theorem part_lt {a : List C} {j i M : Nat} (h : SizeOf.sizeOf a < M + 1) (hi : i < (gr a j).length) : SizeOf.sizeOf ((gr a j).getD i []) < M := by
  have h1 := gr_size j a
  have h2 := List.sizeOf_lt_of_mem (getD_mem (d := []) hi)
  omega
def SizeQ (k : Bool) (a : List C) (most r : Int) : Prop := 1 ≤ r ∧ r ≤ most + 1 ∧ (r ≤ most → ∀ d, (sz d k a : Int) ≤ r)
theorem size_tot : ∀ M : Nat,
    (∀ (a : List C) (most : Int), SizeOf.sizeOf a < M → SmR BB a → 0 ≤ most → most ≤ 64 → Tot (fun k _ _ => (lv k).orielref12_size (gi a 0) (gr a 1) (gr a 2) most) (SizeQ true a most)) ∧
    (∀ (a : List C) (most : Int), SizeOf.sizeOf a < M → SmR BB a → 0 ≤ most → most ≤ 64 → Tot (fun k _ _ => (lv k).orielref12_sizeFilter (gi a 0) (gs a 1) (gs a 2) (gs a 3) (gr a 4) (gr a 5) most) (SizeQ false a most)) := by
  intro M
  induction M with
  | zero => exact ⟨fun _ _ h => by omega, fun _ _ h => by omega⟩
  | succ M ih =>
    constructor
    · intro a most hM ha h0 h64
      have hl1 : (gr a 1).length ≤ 1048576 := (ha.gr 1).1
      have hl2 : (gr a 2).length ≤ 1048576 := (ha.gr 2).1
      refine orielref12_size_up _ _ _ _ (Tot.congr ?_ (fun k _ _ => orielref12_size_q (lv k) k (gi a 0) (gr a 1) (gr a 2) most))
      have l1 : ∀ (d i : Nat) (v : Int), (gr a 2).length - i = d → i ≤ (gr a 2).length → 1 ≤ v → v ≤ most + 1 → (v ≤ most → ∀ d, 1 + (((gr a 1).map (sz d true)).sum : Int) + (((gr a 2).take i).map (sz d false)).sum ≤ v) → Tot (fun k x y => orielref12_size_l1 (lv k) k (gi a 0) (gr a 1) (gr a 2) most x v i) (SizeQ true a most) := by
        intro d
        induction d using Nat.strongRecOn with | _ d ihd => ?_
        intro i v hd hi g1 g2 g3
        have hend : i = (gr a 2).length ∨ ¬ v ≤ most → SizeQ true a most v := fun h => ⟨g1, g2, fun hv d => by
          rcases h with h | h
          · have := g3 hv (d - 1)
            rw [h, List.take_length] at this
            cases d with
            | zero => simp only [sz]; omega
            | succ d => simp only [sz]; simp only [Nat.add_sub_cancel] at this; omega
          · exact absurd hv h⟩
        refine Tot.step0 (fun k x y => orielref12_size_l1_q (lv k) k (gi a 0) (gr a 1) (gr a 2) most x v (i : Int)) ?_
        rw [wrap_id (x := most - v) (by omega) (by omega), wrap_id (x := (i : Int) + 1) (by omega) (by omega), Int.toNat_natCast]
        refine Tot.cond (fun hc => Tot.cond (fun hc2 => ?_) (fun hc2 => Tot.ret (hend (.inr (of_decide_eq_false hc2))))) (fun hc => Tot.ret (hend (.inl ?_)))
        · have hc := of_decide_eq_true hc
          have hc2 := of_decide_eq_true hc2
          refine Tot.t (decide_eq_true (by omega)) (Tot.t (decide_eq_true (by omega)) ?_)
          refine Tot.bind (ih.2 _ _ (part_lt hM (by omega : i < (gr a 2).length)) ((ha.gr 2).get i) (by omega) (by omega)) fun r hr => ?_
          obtain ⟨r1, r2, r3⟩ := hr
          rw [wrap_id (x := v + r) (by omega) (by omega)]
          refine ihd _ (by omega) (i + 1) (v + r) rfl (by omega) (by omega) (by omega) (fun hv d => ?_)
          have h1 := g3 (by omega) d
          have h2 := r3 (by omega) d
          rw [sum_take _ _ _ [] (by omega)]
          omega
        · have hc := of_decide_eq_false hc
          omega
      have l0 : ∀ (d i : Nat) (v : Int), (gr a 1).length - i = d → i ≤ (gr a 1).length → 1 ≤ v → v ≤ most + 1 → (v ≤ most → ∀ d, 1 + ((((gr a 1).take i).map (sz d true)).sum : Int) ≤ v) → Tot (fun k x y => orielref12_size_l0 (lv k) k (gi a 0) (gr a 1) (gr a 2) most x v i) (SizeQ true a most) := by
        intro d
        induction d using Nat.strongRecOn with | _ d ihd => ?_
        intro i v hd hi g1 g2 g3
        have hend : i = (gr a 1).length ∨ ¬ v ≤ most → Tot (fun k x y => orielref12_size_l1 (lv k) k (gi a 0) (gr a 1) (gr a 2) most k v 0) (SizeQ true a most) := fun h => Tot.in0 (l1 _ 0 v rfl (by omega) g1 g2 (fun hv d => by
          rcases h with h | h
          · have := g3 hv d
            rw [h, List.take_length] at this
            simpa using this
          · exact absurd hv h))
        refine Tot.step0 (fun k x y => orielref12_size_l0_q (lv k) k (gi a 0) (gr a 1) (gr a 2) most x v (i : Int)) ?_
        rw [wrap_id (x := most - v) (by omega) (by omega), wrap_id (x := (i : Int) + 1) (by omega) (by omega), Int.toNat_natCast]
        refine Tot.cond (fun hc => Tot.cond (fun hc2 => ?_) (fun hc2 => hend (.inr (of_decide_eq_false hc2)))) (fun hc => hend (.inl ?_))
        · have hc := of_decide_eq_true hc
          have hc2 := of_decide_eq_true hc2
          refine Tot.t (decide_eq_true (by omega)) (Tot.t (decide_eq_true (by omega)) ?_)
          refine Tot.bind (ih.1 _ _ (part_lt hM (by omega : i < (gr a 1).length)) ((ha.gr 1).get i) (by omega) (by omega)) fun r hr => ?_
          obtain ⟨r1, r2, r3⟩ := hr
          rw [wrap_id (x := v + r) (by omega) (by omega)]
          refine ihd _ (by omega) (i + 1) (v + r) rfl (by omega) (by omega) (by omega) (fun hv d => ?_)
          have h1 := g3 (by omega) d
          have h2 := r3 (by omega) d
          rw [sum_take _ _ _ [] (by omega)]
          omega
        · have hc := of_decide_eq_false hc
          omega
      exact Tot.in0 (l0 _ 0 1 rfl (by omega) (by omega) (by omega) (fun h d => by simp))
    · intro a most hM ha h0 h64
      have hl1 : (gr a 4).length ≤ 1048576 := (ha.gr 4).1
      have hl2 : (gr a 5).length ≤ 1048576 := (ha.gr 5).1
      refine orielref12_sizeFilter_up _ _ _ _ _ _ _ (Tot.congr ?_ (fun k _ _ => orielref12_sizeFilter_q (lv k) k (gi a 0) (gs a 1) (gs a 2) (gs a 3) (gr a 4) (gr a 5) most))
      have l1 : ∀ (d i : Nat) (v : Int), (gr a 5).length - i = d → i ≤ (gr a 5).length → 1 ≤ v → v ≤ most + 1 → (v ≤ most → ∀ d, 1 + (((gr a 4).map (sz d false)).sum : Int) + (((gr a 5).take i).map (sz d true)).sum ≤ v) → Tot (fun k x y => orielref12_sizeFilter_l1 (lv k) k (gi a 0) (gs a 1) (gs a 2) (gs a 3) (gr a 4) (gr a 5) most x v i) (SizeQ false a most) := by
        intro d
        induction d using Nat.strongRecOn with | _ d ihd => ?_
        intro i v hd hi g1 g2 g3
        have hend : i = (gr a 5).length ∨ ¬ v ≤ most → SizeQ false a most v := fun h => ⟨g1, g2, fun hv d => by
          rcases h with h | h
          · have := g3 hv (d - 1)
            rw [h, List.take_length] at this
            cases d with
            | zero => simp only [sz]; omega
            | succ d => simp only [sz]; simp only [Nat.add_sub_cancel] at this; omega
          · exact absurd hv h⟩
        refine Tot.step0 (fun k x y => orielref12_sizeFilter_l1_q (lv k) k (gi a 0) (gs a 1) (gs a 2) (gs a 3) (gr a 4) (gr a 5) most x v (i : Int)) ?_
        rw [wrap_id (x := most - v) (by omega) (by omega), wrap_id (x := (i : Int) + 1) (by omega) (by omega), Int.toNat_natCast]
        refine Tot.cond (fun hc => Tot.cond (fun hc2 => ?_) (fun hc2 => Tot.ret (hend (.inr (of_decide_eq_false hc2))))) (fun hc => Tot.ret (hend (.inl ?_)))
        · have hc := of_decide_eq_true hc
          have hc2 := of_decide_eq_true hc2
          refine Tot.t (decide_eq_true (by omega)) (Tot.t (decide_eq_true (by omega)) ?_)
          refine Tot.bind (ih.1 _ _ (part_lt hM (by omega : i < (gr a 5).length)) ((ha.gr 5).get i) (by omega) (by omega)) fun r hr => ?_
          obtain ⟨r1, r2, r3⟩ := hr
          rw [wrap_id (x := v + r) (by omega) (by omega)]
          refine ihd _ (by omega) (i + 1) (v + r) rfl (by omega) (by omega) (by omega) (fun hv d => ?_)
          have h1 := g3 (by omega) d
          have h2 := r3 (by omega) d
          rw [sum_take _ _ _ [] (by omega)]
          omega
        · have hc := of_decide_eq_false hc
          omega
      have l0 : ∀ (d i : Nat) (v : Int), (gr a 4).length - i = d → i ≤ (gr a 4).length → 1 ≤ v → v ≤ most + 1 → (v ≤ most → ∀ d, 1 + ((((gr a 4).take i).map (sz d false)).sum : Int) ≤ v) → Tot (fun k x y => orielref12_sizeFilter_l0 (lv k) k (gi a 0) (gs a 1) (gs a 2) (gs a 3) (gr a 4) (gr a 5) most x v i) (SizeQ false a most) := by
        intro d
        induction d using Nat.strongRecOn with | _ d ihd => ?_
        intro i v hd hi g1 g2 g3
        have hend : i = (gr a 4).length ∨ ¬ v ≤ most → Tot (fun k x y => orielref12_sizeFilter_l1 (lv k) k (gi a 0) (gs a 1) (gs a 2) (gs a 3) (gr a 4) (gr a 5) most k v 0) (SizeQ false a most) := fun h => Tot.in0 (l1 _ 0 v rfl (by omega) g1 g2 (fun hv d => by
          rcases h with h | h
          · have := g3 hv d
            rw [h, List.take_length] at this
            simpa using this
          · exact absurd hv h))
        refine Tot.step0 (fun k x y => orielref12_sizeFilter_l0_q (lv k) k (gi a 0) (gs a 1) (gs a 2) (gs a 3) (gr a 4) (gr a 5) most x v (i : Int)) ?_
        rw [wrap_id (x := most - v) (by omega) (by omega), wrap_id (x := (i : Int) + 1) (by omega) (by omega), Int.toNat_natCast]
        refine Tot.cond (fun hc => Tot.cond (fun hc2 => ?_) (fun hc2 => hend (.inr (of_decide_eq_false hc2)))) (fun hc => hend (.inl ?_))
        · have hc := of_decide_eq_true hc
          have hc2 := of_decide_eq_true hc2
          refine Tot.t (decide_eq_true (by omega)) (Tot.t (decide_eq_true (by omega)) ?_)
          refine Tot.bind (ih.2 _ _ (part_lt hM (by omega : i < (gr a 4).length)) ((ha.gr 4).get i) (by omega) (by omega)) fun r hr => ?_
          obtain ⟨r1, r2, r3⟩ := hr
          rw [wrap_id (x := v + r) (by omega) (by omega)]
          refine ihd _ (by omega) (i + 1) (v + r) rfl (by omega) (by omega) (by omega) (fun hv d => ?_)
          have h1 := g3 (by omega) d
          have h2 := r3 (by omega) d
          rw [sum_take _ _ _ [] (by omega)]
          omega
        · have hc := of_decide_eq_false hc
          omega
      exact Tot.in0 (l0 _ 0 1 rfl (by omega) (by omega) (by omega) (fun h d => by simp))
theorem right_tots : ∀ d : Nat, d ≤ 100 →
    (∀ (a : List C), SmR BB a → Tot (fun k _ _ => (lv k).orielref12_path (gi a 0) (gr a 1) (gr a 2) d) (fun r => r = true → ok d true a)) ∧
    (∀ (a : List C), SmR BB a → Tot (fun k _ _ => (lv k).orielref12_filter (gi a 0) (gs a 1) (gs a 2) (gs a 3) (gr a 4) (gr a 5) d) (fun r => r = true → ok d false a)) := by
  intro d
  induction d with
  | zero =>
    intro _
    constructor
    · intro a _
      refine orielref12_path_up _ _ _ _ (Tot.congr ?_ (fun k _ _ => orielref12_path_q (lv k) k (gi a 0) (gr a 1) (gr a 2) ((0 : Nat) : Int)))
      exact Tot.t (by rfl) (Tot.ret (fun h => by cases h))
    · intro a _
      refine orielref12_filter_up _ _ _ _ _ _ _ (Tot.congr ?_ (fun k _ _ => orielref12_filter_q (lv k) k (gi a 0) (gs a 1) (gs a 2) (gs a 3) (gr a 4) (gr a 5) ((0 : Nat) : Int)))
      exact Tot.t (by rfl) (Tot.ret (fun h => by cases h))
  | succ d ih =>
    intro hd
    have ih := ih (by omega)
    have hw : IntKind.i64.wrap (((d + 1 : Nat) : Int) - 1) = d := by rw [wrap_id (by omega) (by omega)]; omega
    have hne : (((d + 1 : Nat) : Int) == (0 : Int)) = false := by rw [beq_eq_false_iff_ne]; omega
    have iff_of : ∀ {x y m n : Int}, ¬ ((!((x == m) == (y == n))) = true) → (x = m ↔ y = n) := fun {x y m n} h => by
      have h : (x == m) = (y == n) := by simpa using h
      constructor
      · intro e
        have : (y == n) = true := by rw [← h, e]; simp
        exact eq_of_beq this
      · intro e
        have : (x == m) = true := by rw [h, e]; simp
        exact eq_of_beq this
    constructor
    · intro a ha
      have hl1 : (gr a 1).length ≤ 1048576 := (ha.gr 1).1
      have hl2 : (gr a 2).length ≤ 1048576 := (ha.gr 2).1
      refine orielref12_path_up _ _ _ _ (Tot.congr ?_ (fun k _ _ => orielref12_path_q (lv k) k (gi a 0) (gr a 1) (gr a 2) ((d + 1 : Nat) : Int)))
      refine Tot.f hne (Tot.cond (fun _ => Tot.ret (fun h => by cases h)) (fun h1 => Tot.cond (fun _ => Tot.ret (fun h => by cases h)) (fun h7 => ?_)))
      have h1 := of_decide_eq_false h1
      have h7 := of_decide_eq_false h7
      have key : ∀ v1 v2 : Int, (gi a 0 = 4 ∨ gi a 0 = 5 → v1 = 2 ∧ v2 = 64) → (gi a 0 = 6 → v1 = 1 ∧ v2 = 1) → (gi a 0 ≠ 4 → gi a 0 ≠ 5 → gi a 0 ≠ 6 → v1 = 0 ∧ v2 = 0) → Tot (fun k x y => orielref12_path_l0 (lv k) k (gi a 0) (gr a 1) (gr a 2) ((d + 1 : Nat) : Int) v1 v2) (fun r => r = true → ok (d + 1) true a) := by
        intro v1 v2 e1 e2 e3
        refine Tot.congr ?_ (fun k _ _ => orielref12_path_l0_q (lv k) k (gi a 0) (gr a 1) (gr a 2) ((d + 1 : Nat) : Int) v1 v2)
        refine Tot.cond (fun _ => Tot.ret (fun h => by cases h)) (fun g1 => Tot.cond (fun _ => Tot.ret (fun h => by cases h)) (fun g2 => Tot.cond (fun _ => Tot.ret (fun h => by cases h)) (fun g3 => Tot.cond (fun _ => Tot.ret (fun h => by cases h)) (fun g4 => ?_))))
        have g1 := of_decide_eq_false g1
        have g2 := of_decide_eq_false g2
        have g4 := of_decide_eq_false g4
        have g3 := iff_of (by rw [g3]; exact Bool.false_ne_true)
        have fin : (∀ j, j < (gr a 1).length → ok d true ((gr a 1).getD j [])) → (∀ j, j < (gr a 2).length → ok d false ((gr a 2).getD j [])) → ok (d + 1) true a := fun hs ht =>
          ⟨by omega, by omega, fun h => by have := e1 h; omega, fun h => by have := e2 h; omega, by rw [g3]; omega, by omega, by
            by_cases a4 : gi a 0 = 4 ∨ gi a 0 = 5
            · have := e1 a4; omega
            · by_cases a6 : gi a 0 = 6
              · have := e2 a6; omega
              · have := e3 (fun h => a4 (.inl h)) (fun h => a4 (.inr h)) a6; omega, fun a b c => by have := e3 a b c; omega, hs, ht⟩
        have loop : ∀ (n i : Nat), (gr a 1).length - i = n → i ≤ (gr a 1).length → (∀ j, j < i → ok d true ((gr a 1).getD j [])) → Tot (fun k x y => orielref12_path_l1 (lv k) k (gi a 0) (gr a 1) (gr a 2) ((d + 1 : Nat) : Int) x i) (fun r => r = true → ok (d + 1) true a) := by
          intro n
          induction n using Nat.strongRecOn with | _ n ihn => ?_
          intro i hn hi hj
          refine Tot.step0 (fun k x y => orielref12_path_l1_q (lv k) k (gi a 0) (gr a 1) (gr a 2) ((d + 1 : Nat) : Int) x i) ?_
          rw [hw, wrap_id (x := (i : Int) + 1) (by omega) (by omega), Int.toNat_natCast]
          refine Tot.cond (fun hc => ?_) (fun hc => Tot.cond (fun ht0 => ?_) (fun ht0 => ?_))
          · have hc := of_decide_eq_true hc
            refine Tot.t (decide_eq_true (by omega)) (Tot.t (decide_eq_true (by omega)) ?_)
            refine Tot.bind (ih.1 _ ((ha.gr 1).get i)) fun r hr1 => Tot.cond (fun _ => Tot.ret (fun h => by cases h)) (fun hb => ?_)
            have hb : r = true := by simpa using hb
            refine ihn _ (by omega) (i + 1) rfl (by omega) (fun j hjl => ?_)
            by_cases hjv : j = i
            · rw [hjv]; exact hr1 hb
            · exact hj j (by omega)
          · have hc := of_decide_eq_false hc
            have ht0 : (gr a 2).length = 0 := by simpa using ht0
            exact Tot.ret (fun _ => fin (fun j h => hj j (by omega)) (fun j h => by omega))
          · have hc := of_decide_eq_false hc
            have ht0 : (gr a 2).length ≠ 0 := by simpa using ht0
            refine Tot.t (decide_eq_true (by omega)) ?_
            refine Tot.bind (ih.2 _ ((ha.gr 2).get 0)) fun r hr => Tot.ret (fun hb => fin (fun j h => hj j (by omega)) (fun j h => ?_))
            rw [show j = 0 by omega]
            exact hr hb
        exact Tot.in0 (loop _ 0 rfl (by omega) (fun j hj => by omega))
      refine Tot.cond (fun h4 => ?_) (fun h4 => Tot.cond (fun h5 => ?_) (fun h5 => Tot.cond (fun h6 => ?_) (fun h6 => ?_)))
      · have h4 : gi a 0 = 4 := by simpa using h4
        exact Tot.f (by rw [beq_eq_false_iff_ne]; omega) (key 2 64 (fun _ => ⟨rfl, rfl⟩) (fun h => by omega) (fun h => by omega))
      · have h5 : gi a 0 = 5 := by simpa using h5
        exact Tot.f (by rw [beq_eq_false_iff_ne]; omega) (key 2 64 (fun _ => ⟨rfl, rfl⟩) (fun h => by omega) (fun _ h => by omega))
      · have h6 : gi a 0 = 6 := by simpa using h6
        exact key 1 1 (fun h => by omega) (fun _ => ⟨rfl, rfl⟩) (fun _ _ h => by omega)
      · have h4 : gi a 0 ≠ 4 := by simpa using h4
        have h5 : gi a 0 ≠ 5 := by simpa using h5
        have h6 : gi a 0 ≠ 6 := by simpa using h6
        exact key 0 0 (fun h => by omega) (fun h => by omega) (fun _ _ _ => ⟨rfl, rfl⟩)
    · intro a ha
      have hl1 : (gr a 4).length ≤ 1048576 := (ha.gr 4).1
      have hl2 : (gr a 5).length ≤ 1048576 := (ha.gr 5).1
      have no : Tot (fun _ _ _ => some false) (fun r => r = true → ok (d + 1) false a) := Tot.ret (fun h => by cases h)
      refine orielref12_filter_up _ _ _ _ _ _ _ (Tot.congr ?_ (fun k _ _ => orielref12_filter_q (lv k) k (gi a 0) (gs a 1) (gs a 2) (gs a 3) (gr a 4) (gr a 5) ((d + 1 : Nat) : Int)))
      refine Tot.f hne (Tot.cond (fun _ => no) (fun h1 => Tot.cond (fun _ => no) (fun h11 => ?_)))
      have h1 := of_decide_eq_false h1
      have h11 := of_decide_eq_false h11
      have l3 : ∀ v1 v2 : Int, (gi a 0 = 9 ∨ gi a 0 = 10 → v1 = 2 ∧ v2 = 64) → (gi a 0 = 8 → v1 = 1 ∧ v2 = 1) → (gi a 0 ≠ 8 → gi a 0 ≠ 9 → gi a 0 ≠ 10 → v1 = 0 ∧ v2 = 0) → Tot (fun k x y => orielref12_filter_l3 (lv k) k (gi a 0) (gs a 1) (gs a 2) (gs a 3) (gr a 4) (gr a 5) ((d + 1 : Nat) : Int) v1 v2) (fun r => r = true → ok (d + 1) false a) := by
        intro v1 v2 e1 e2 e3
        refine Tot.congr ?_ (fun k p_ q_ => orielref12_filter_l3_q (lv k) k (gi a 0) (gs a 1) (gs a 2) (gs a 3) (gr a 4) (gr a 5) ((d + 1 : Nat) : Int) v1 v2 )
        refine Tot.cond (fun _ => no) (fun g1 => Tot.cond (fun _ => no) (fun g2 => Tot.cond (fun _ => no) (fun g3 => Tot.cond (fun _ => no) (fun g4 => ?_))))
        have g1 := of_decide_eq_false g1
        have g2 := of_decide_eq_false g2
        have g4 := of_decide_eq_false g4
        have g3 := iff_of (by rw [g3]; exact Bool.false_ne_true)
        have fin : (∀ j, j < (gr a 4).length → ok d false ((gr a 4).getD j [])) → (∀ j, j < (gr a 5).length → ok d true ((gr a 5).getD j [])) → ok (d + 1) false a := fun hs ht =>
          ⟨by omega, by omega, fun h => by have := e2 h; omega, by
            by_cases a4 : gi a 0 = 9 ∨ gi a 0 = 10
            · have := e1 a4; omega
            · by_cases a6 : gi a 0 = 8
              · have := e2 a6; omega
              · have := e3 a6 (fun h => a4 (.inl h)) (fun h => a4 (.inr h)); omega, fun h => by have := e1 h; omega, fun a b c => by have := e3 a b c; omega, by rw [g3]; omega, by omega, hs, ht⟩
        refine Tot.in0 (Tot.loop (H := fun k x y v (_ : Unit) => orielref12_filter_l4 (lv k) k (gi a 0) (gs a 1) (gs a 2) (gs a 3) (gr a 4) (gr a 5) ((d + 1 : Nat) : Int) x v) (n := (gr a 4).length) (fun i _ => ∀ j, j < i → ok d false ((gr a 4).getD j [])) (by omega) (fun _ h => ?_) (fun i _ hi h next => ?_) _ 0 () rfl (by omega) (fun j hj => by omega))
        · refine Tot.step0 (fun k p_ q_ => orielref12_filter_l4_q (lv k) k (gi a 0) (gs a 1) (gs a 2) (gs a 3) (gr a 4) (gr a 5) ((d + 1 : Nat) : Int) p_ _) ?_
          refine Tot.f (decide_eq_false (by omega)) (Tot.cond (fun ht0 => ?_) (fun ht0 => ?_))
          · have ht0 : (gr a 5).length = 0 := by simpa using ht0
            exact Tot.ret (fun _ => fin h (fun j h => by omega))
          · have ht0 : (gr a 5).length ≠ 0 := by simpa using ht0
            refine Tot.t (decide_eq_true (by omega)) ?_
            rw [hw]
            refine Tot.bind (ih.1 _ ((ha.gr 5).get 0)) fun r hr => Tot.ret (fun hb => fin h (fun j h => ?_))
            rw [show j = 0 by omega]
            exact hr hb
        · refine Tot.step0 (fun k p_ q_ => orielref12_filter_l4_q (lv k) k (gi a 0) (gs a 1) (gs a 2) (gs a 3) (gr a 4) (gr a 5) ((d + 1 : Nat) : Int) p_ _) ?_
          rw [hw, Int.toNat_natCast]
          repeat (refine Tot.t (decide_eq_true (by omega)) ?_)
          refine Tot.bind (ih.2 _ ((ha.gr 4).get i)) fun r hr1 => Tot.cond (fun _ => no) (fun hb => next () (fun j hj => ?_))
          have hb : r = true := by simpa using hb
          rcases Nat.lt_or_ge j i with h2 | h2
          · exact h j h2
          · rw [show j = i by omega]; exact hr1 hb
      have l2 : ∀ v1 v2 : Int, (gi a 0 = 8 → v1 = 1 ∧ v2 = 1) → (gi a 0 ≠ 8 → v1 = 0 ∧ v2 = 0) → Tot (fun k x y => orielref12_filter_l2 (lv k) k (gi a 0) (gs a 1) (gs a 2) (gs a 3) (gr a 4) (gr a 5) ((d + 1 : Nat) : Int) v1 v2) (fun r => r = true → ok (d + 1) false a) := by
        intro v1 v2 e1 e2
        refine Tot.congr ?_ (fun k p_ q_ => orielref12_filter_l2_q (lv k) k (gi a 0) (gs a 1) (gs a 2) (gs a 3) (gr a 4) (gr a 5) ((d + 1 : Nat) : Int) v1 v2 )
        refine Tot.cond (fun h9 => ?_) (fun h9 => Tot.cond (fun h10 => ?_) (fun h10 => ?_))
        · have h9 : gi a 0 = 9 := by simpa using h9
          exact l3 2 64 (fun _ => ⟨rfl, rfl⟩) (fun h => by omega) (fun _ h => by omega)
        · have h10 : gi a 0 = 10 := by simpa using h10
          exact l3 2 64 (fun _ => ⟨rfl, rfl⟩) (fun h => by omega) (fun _ _ h => by omega)
        · have h9 : gi a 0 ≠ 9 := by simpa using h9
          have h10 : gi a 0 ≠ 10 := by simpa using h10
          exact l3 v1 v2 (fun h => by omega) e1 (fun h _ _ => e2 h)
      have e8 : Tot (fun k x y => cond (gi a 0 == (8 : Int)) (orielref12_filter_l2 (lv k) k (gi a 0) (gs a 1) (gs a 2) (gs a 3) (gr a 4) (gr a 5) ((d + 1 : Nat) : Int) 1 1) (orielref12_filter_l2 (lv k) k (gi a 0) (gs a 1) (gs a 2) (gs a 3) (gr a 4) (gr a 5) ((d + 1 : Nat) : Int) 0 0)) (fun r => r = true → ok (d + 1) false a) := by
        refine Tot.cond (fun h8 => ?_) (fun h8 => ?_)
        · have h8 : gi a 0 = 8 := by simpa using h8
          exact l2 1 1 (fun _ => ⟨rfl, rfl⟩) (fun h => absurd h8 h)
        · have h8 : gi a 0 ≠ 8 := by simpa using h8
          exact l2 0 0 (fun h => absurd h h8) (fun _ => ⟨rfl, rfl⟩)
      have l1 : ∀ v1, Tot (fun k x y => orielref12_filter_l1 (lv k) k (gi a 0) (gs a 1) (gs a 2) (gs a 3) (gr a 4) (gr a 5) ((d + 1 : Nat) : Int) v1) (fun r => r = true → ok (d + 1) false a) := fun v1 => by
        refine Tot.congr ?_ (fun k p_ q_ => orielref12_filter_l1_q (lv k) k (gi a 0) (gs a 1) (gs a 2) (gs a 3) (gr a 4) (gr a 5) ((d + 1 : Nat) : Int) v1 )
        repeat' first
          | exact no
          | exact e8
          | refine Tot.cond (fun _ => ?_) (fun _ => ?_)
          | refine Tot.bind (right4_tot _ (ha.gs 3)) fun _ _ => ?_
      have l0 : ∀ v1 v2, Tot (fun k x y => orielref12_filter_l0 (lv k) k (gi a 0) (gs a 1) (gs a 2) (gs a 3) (gr a 4) (gr a 5) ((d + 1 : Nat) : Int) v1 v2) (fun r => r = true → ok (d + 1) false a) := fun v1 v2 => by
        refine Tot.congr ?_ (fun k p_ q_ => orielref12_filter_l0_q (lv k) k (gi a 0) (gs a 1) (gs a 2) (gs a 3) (gr a 4) (gr a 5) ((d + 1 : Nat) : Int) v1 v2 )
        exact Tot.cond (fun _ => no) (fun _ => Tot.cond (fun _ => Tot.bind (named_tot _ _ (ha.gs 1) (ha.gs 2)) fun r _ => Tot.cond (fun _ => no) (fun _ => l1 _)) (fun _ => l1 _))
      repeat' first
        | exact l0 _ _
        | refine Tot.cond (fun _ => ?_) (fun _ => ?_)
theorem right_tot (a : List C) (ha : SmR BB a) : Tot (fun k _ _ => (lv k).orielref12_Right (gi a 0) (gr a 1) (gr a 2)) (fun r => r = true → ok 16 true a ∧ ∀ d, sz d true a ≤ 64) := by
  refine orielref12_Right_up _ _ _ (Tot.congr ?_ (fun k _ _ => orielref12_Right_q (lv k) k (gi a 0) (gr a 1) (gr a 2)))
  refine Tot.bind (R := SizeQ true a 64) (orielref12_Size_up _ _ _ (Tot.congr (Tot.bind ((size_tot _).1 a 64 (Nat.lt_succ_self _) ha (by omega) (by omega)) fun r hr => Tot.ret hr) (fun k _ _ => orielref12_Size_q (lv k) k (gi a 0) (gr a 1) (gr a 2)))) fun r hr => ?_
  refine Tot.cond (fun h => ?_) (fun _ => Tot.ret (fun h => by cases h))
  have h := of_decide_eq_true h
  exact Tot.bind ((right_tots 16 (by omega)).1 a ha) fun b hb => Tot.ret (fun hbt => ⟨hb hbt, fun d => by have := hr.2.2 h d; omega⟩)
-- Fil
theorem mem_getD {l : List (List C)} {r : List C} (h : r ∈ l) : ∃ i, i < l.length ∧ l.getD i [] = r := by
  obtain ⟨i, hi, rfl⟩ := List.getElem_of_mem h
  exact ⟨i, hi, by rw [List.getD_eq_getElem?_getD, List.getElem?_eq_getElem hi]; rfl⟩
def nf (r : List C) : List C := [C.int .i64 (gi r 0), C.str (gs r 1), C.str (gs r 2), C.str (gs r 3), C.row 33 (gr r 4), C.row 25 (gr r 5)]
theorem sz_sub {l : List (List C)} {f : List C → Nat} {i : Nat} (hi : i < l.length) : f (l.getD i []) ≤ (l.map f).sum := by
  induction l generalizing i with
  | nil => simp at hi
  | cons x l ih =>
    cases i with
    | zero => simp
    | succ i => have := ih (i := i) (by simpa using hi); simp at this ⊢; omega
theorem wf_i64' {n : Int} (h : 0 ≤ n) (h' : n ≤ 1000000) : (Lit.int .i64 n).wf = true := by
  simp only [Lit.wf, Bool.and_eq_true, decide_eq_true_eq]
  have h1 : IntKind.i64.min = -9223372036854775808 := rfl
  have h2 : IntKind.i64.max = 9223372036854775807 := rfl
  omega
structure OkF (f : List C) : Prop where
  ok : ok 16 false f
  sm : SmR BB f
theorem OkF.nf {f : List C} (h : OkF f) : OkF (nf f) := ⟨h.ok, fun c hc => by
  have h1 := h.ok.1
  have h2 := h.ok.2.1
  simp only [Go.Vm.T.nf, List.mem_cons, List.not_mem_nil, or_false] at hc
  rcases hc with rfl | rfl | rfl | rfl | rfl | rfl
  · exact .int _ _ (wf_i64' (by omega) (by omega))
  · exact .str _ (h.sm.gs 1)
  · exact .str _ (h.sm.gs 2)
  · exact .str _ (h.sm.gs 3)
  · exact .row _ _ (h.sm.gr 4).1 (h.sm.gr 4).2
  · exact .row _ _ (h.sm.gr 5).1 (h.sm.gr 5).2⟩
-- Txt
def bl (a : ByteArray) : List UInt8 := a.data.toList
theorem bl_len (a : ByteArray) : (bl a).length = a.size := by simp [bl]
theorem bl_app (a b : ByteArray) : bl (a ++ b) = bl a ++ bl b := by simp [bl, ByteArray.data_append]
theorem bl_inj {a b : ByteArray} (h : bl a = bl b) : a = b := by
  cases a; cases b
  simp only [bl] at h
  congr 1
  exact Array.toList_inj.1 h
theorem join_snoc {l : List (List UInt8)} {y sep : List UInt8} (h : l ≠ []) : Lib.join (l ++ [y]) sep = Lib.join l sep ++ sep ++ y := by
  cases l with
  | nil => exact absurd rfl h
  | cons x r =>
    rw [List.cons_append, Lib.join_cons, Lib.join_cons]
    simp [Lib.joinTail, List.append_assoc]
theorem join_le (sep : List UInt8) : ∀ l : List (List UInt8), (Lib.join l sep).length ≤ (l.map (fun x => x.length + sep.length)).sum := by
  intro l
  cases l with
  | nil => exact Nat.zero_le _
  | cons x r =>
    rw [Lib.join_cons]
    have : (Lib.joinTail sep r).length ≤ (r.map (fun x => x.length + sep.length)).sum := by
      induction r with
      | nil => exact Nat.zero_le _
      | cons y r ih =>
        have e : Lib.joinTail sep (y :: r) = (sep ++ y) ++ Lib.joinTail sep r := by simp [Lib.joinTail]
        rw [e]
        simp only [List.length_append, List.map_cons, List.sum_cons]
        omega
    simp only [List.length_append, List.map_cons, List.sum_cons]
    omega
/-- brackets around a text -/
def par (b : Bool) (t : List UInt8) : List UInt8 := cond b (40 :: t ++ [41]) t
theorem par_len {b : Bool} {t : List UInt8} : (par b t).length ≤ t.length + 2 := by cases b <;> simp [par]
/-- the first n of some texts -/
def upto (p : Nat → List UInt8) (n : Nat) : List (List UInt8) := (List.range n).map p
theorem upto_succ (p : Nat → List UInt8) (n : Nat) : upto p (n + 1) = upto p n ++ [p n] := by simp [upto, List.range_succ]
theorem upto_ne (p : Nat → List UInt8) {n : Nat} (h : 0 < n) : upto p n ≠ [] := by
  intro e
  have := congrArg List.length e
  simp [upto] at this
  omega
theorem join_upto (p : Nat → List UInt8) (sep : List UInt8) {n : Nat} (h : 0 < n) : Lib.join (upto p (n + 1)) sep = Lib.join (upto p n) sep ++ sep ++ p n := by rw [upto_succ, join_snoc (upto_ne p h)]
theorem join_upto1 (p : Nat → List UInt8) (sep : List UInt8) : Lib.join (upto p 1) sep = p 0 := by
  show Lib.join [p 0] sep = p 0
  exact Lib.join_one _ _
/-- a text's size by its parts -/
def WW : Nat := 8388608
theorem upto_sum {l : List (List C)} {f : List C → Nat} {p : Nat → List UInt8} (sep : List UInt8) (hs : sep.length ≤ 5) (hp : ∀ i, i < l.length → (p i).length ≤ WW * f (l.getD i []) + 2) : ∀ m, m ≤ l.length → ((upto p m).map (fun x => x.length + sep.length)).sum ≤ WW * ((l.take m).map f).sum + 7 * m := by
  intro m
  induction m with
  | zero => intro _; exact Nat.zero_le _
  | succ m ih =>
    intro hm
    have h1 := ih (by omega)
    have h2 := hp m (by omega)
    have h3 := sum_take l f m [] (by omega)
    rw [upto_succ, List.map_append, List.sum_append, h3, Nat.mul_add]
    simp only [List.map_cons, List.map_nil, List.sum_cons, List.sum_nil]
    omega
theorem join_bd {l : List (List C)} {f : List C → Nat} {p : Nat → List UInt8} {sep : List UInt8} (hs : sep.length ≤ 5) (hp : ∀ i, i < l.length → (p i).length ≤ WW * f (l.getD i []) + 2) {m : Nat} (hm : m ≤ l.length) : (Lib.join (upto p m) sep).length ≤ WW * (l.map f).sum + 7 * l.length := by
  have h1 := join_le sep (upto p m)
  have h2 := upto_sum sep hs hp m hm
  have h3 : ((l.take m).map f).sum ≤ (l.map f).sum := by
    have := List.take_append_drop m (l.map f)
    have h4 : (l.map f).sum = ((l.map f).take m).sum + ((l.map f).drop m).sum := by rw [← List.sum_append, this]
    rw [List.map_take]
    omega
  have h5 := Nat.mul_le_mul_left WW h3
  omega
/-- each quote twice -/
def dbl (l : List UInt8) : List UInt8 := l.flatMap fun b => if b = 34 then [34, 34] else [b]
theorem dbl_cons (b : UInt8) (l : List UInt8) : dbl (b :: l) = (if b = 34 then [34, 34] else [b]) ++ dbl l := by
  unfold dbl
  rw [List.flatMap_cons]
theorem dbl_app (l m : List UInt8) : dbl (l ++ m) = dbl l ++ dbl m := by
  unfold dbl
  rw [List.flatMap_append]
theorem dbl_len (l : List UInt8) : (dbl l).length ≤ 2 * l.length := by
  induction l with
  | nil => exact Nat.le_refl _
  | cons b l ih =>
    rw [dbl_cons, List.length_append, List.length_cons]
    split
    · simp only [List.length_cons, List.length_nil]; omega
    · simp only [List.length_cons, List.length_nil]; omega
theorem repl_dbl : ∀ s : List UInt8, Lib.replaceK [34] [34, 34] (Lib.count s [34]) s = dbl s := by
  intro s
  induction s with
  | nil => rfl
  | cons b l ih =>
    rw [dbl_cons]
    by_cases hb : b = 34
    · subst hb
      rw [if_pos rfl, Lib.count_cons_eq, Nat.add_comm, Lib.replaceK_hit _ _ _ _ 0 (by unfold Lib.index; rw [if_pos (by rfl)]; rfl)]
      simp only [List.take_zero, List.nil_append, List.length_cons, List.length_nil, Nat.zero_add, List.drop_succ_cons, List.drop_zero]
      rw [ih]
    · rw [if_neg hb, Lib.count_cons_ne _ _ _ hb]
      rcases Nat.eq_zero_or_pos (Lib.count l [34]) with h0 | h0
      · rw [h0] at ih ⊢
        show b :: l = [b] ++ dbl l
        rw [← ih]
        rfl
      · obtain ⟨i, hi⟩ := Lib.index_of_count h0
        obtain ⟨k, hk⟩ : ∃ k, Lib.count l [34] = k + 1 := ⟨Lib.count l [34] - 1, by omega⟩
        rw [hk] at ih ⊢
        have h1 : Lib.index (b :: l) [34] = ((i + 1 : Nat) : Int) := by
          have hp : ([34] : List UInt8).isPrefixOf (b :: l) = false := by
            simp only [List.isPrefixOf, Bool.and_true]
            exact beq_false_of_ne (Ne.symm hb)
          have hm : ((i : Int) == -1) = false := by rw [beq_eq_false_iff_ne]; omega
          unfold Lib.index
          rw [hp, hi, hm]
          simp
        rw [Lib.replaceK_hit _ _ _ _ _ h1, ← ih, Lib.replaceK_hit _ _ _ _ _ hi]
        simp [List.append_assoc]
theorem replV_dbl {s : ByteArray} (hs : s.size ≤ 1048576) : ∃ r, replV s ⟨#[34]⟩ ⟨#[34, 34]⟩ = some r ∧ bl r = dbl (bl s) := by
  have hc := Lib.count_le s.data.toList [34]
  have hl : s.data.toList.length = s.size := bl_len s
  refine ⟨⟨(Lib.replaceAll s.data.toList [34] [34, 34]).toArray⟩, ?_, ?_⟩
  · unfold replV
    rw [show (decide (s.size < 4294967281) && decide (1 ≤ (⟨#[34]⟩ : ByteArray).size) && decide (s.size + Lib.countB s ⟨#[34]⟩ * (⟨#[34, 34]⟩ : ByteArray).size ≤ 140737488355328)) = true from by
      rw [Bool.and_eq_true, Bool.and_eq_true, decide_eq_true_eq, decide_eq_true_eq, decide_eq_true_eq]
      refine ⟨⟨by omega, by decide⟩, ?_⟩
      show s.size + Lib.count s.data.toList [34] * 2 ≤ _
      omega]
    rfl
  · show Lib.replaceAll s.data.toList [34] [34, 34] = _
    unfold Lib.replaceAll Lib.replace Lib.replaceNum
    rw [if_neg (by decide), if_pos (.inl (by decide))]
    exact repl_dbl _
-- Show
theorem sza (a b : ByteArray) : (a ++ b).size = a.size + b.size := ByteArray.size_append
theorem szl (l : List UInt8) : (ByteArray.mk l.toArray).size = l.length := by simp [ByteArray.size]
theorem bytes9 : Tryd.prog.bytesOf 9 ≤ 1024 := of_decide_eq_true (by kernel_rfl)
theorem Tot.giv {α : Type} {o : Option α} {r : α} {Q : α → Prop} (h : o = some r) (hq : Q r) : Tot (fun _ _ _ => o) Q := ⟨r, hq, 0, fun _ _ _ _ _ _ => h⟩
def inOps (ops : LL) (x : Int) : Bool := ops.any fun r => x == gi r 0
theorem contains_tot (l : LL) (x : Int) (hl : l.length ≤ 64) : Tot (fun k _ _ => (lv k).slices_Contains_int_int l x) (fun r => r = inOps l x) := by
  refine slices_Contains_int_int_up _ _ (Tot.congr ?_ (fun k _ _ => slices_Contains_int_int_q (lv k) k l x))
  refine Tot.bind (R := Fst l.length (fun j => x = gi (l.getD j []) 0)) ?_ fun r hr => Tot.ret ?_
  · refine slices_Index_int_int_up _ _ (Tot.congr ?_ (fun k _ _ => slices_Index_int_int_q (lv k) k l x))
    refine Tot.in0 (Tot.first (H := fun k p q v => slices_Index_int_int_l0 (lv k) k l x p v) (n := l.length) (by omega) ?_ (fun i Q hi hy hn => ?_))
    · refine Tot.step0 (fun k p_ q_ => slices_Index_int_int_l0_q (lv k) k l x p_ _) ?_
      exact Tot.f (decide_eq_false (by omega)) (Tot.ret rfl)
    · refine Tot.step0 (fun k p_ q_ => slices_Index_int_int_l0_q (lv k) k l x p_ _) ?_
      rw [Int.toNat_natCast]
      repeat (refine Tot.t (decide_eq_true (by omega)) ?_)
      exact Tot.cond (fun c => Tot.ret (hy (eq_of_beq c))) (fun c => hn (ne_of_beq_false c))
  · unfold inOps
    rcases hr with ⟨rfl, hh⟩ | ⟨i, rfl, h1, h2, _⟩
    · rw [decide_eq_false (by omega)]
      symm
      rw [List.any_eq_false]
      intro r hr
      obtain ⟨j, hj, rfl⟩ := mem_getD hr
      simpa using hh j hj
    · rw [decide_eq_true (by omega)]
      symm
      rw [List.any_eq_true]
      exact ⟨l.getD i [], getD_mem h1, by rw [← h2]; simp⟩
theorem bracketed_tot (t : ByteArray) (x : Int) (ops : LL) (hl : ops.length ≤ 64) (ht : t.size ≤ 1099511627776) : Tot (fun k _ _ => (lv k).show_bracketed t x ops) (fun r => bl r = par (inOps ops x) (bl t)) := by
  refine show_bracketed_up _ _ _ (Tot.congr ?_ (fun k _ _ => show_bracketed_q (lv k) k t x ops))
  refine Tot.bind (contains_tot ops x hl) fun r hr => ?_
  subst hr
  refine Tot.cond (fun c => ?_) (fun c => Tot.ret (by rw [c]; rfl))
  rw [c]
  exact Tot.t (decide_eq_true (by simp only [sza, szl, List.length_cons, List.length_nil]; omega)) (Tot.t (decide_eq_true (by simp only [sza, szl, List.length_cons, List.length_nil]; omega)) (Tot.ret (by rw [bl_app, bl_app]; rfl)))
theorem brackets_tot (t : ByteArray) (b : Bool) (ht : t.size ≤ 1099511627776) : Tot (fun k _ _ => (lv k).orielref15_brackets t b) (fun r => bl r = par b (bl t)) := by
  refine orielref15_brackets_up _ _ (Tot.congr ?_ (fun k _ _ => orielref15_brackets_q (lv k) k t b))
  refine Tot.cond (fun c => ?_) (fun c => Tot.ret (by rw [c]; rfl))
  rw [c]
  exact Tot.t (decide_eq_true (by simp only [sza, szl, List.length_cons, List.length_nil]; omega)) (Tot.t (decide_eq_true (by simp only [sza, szl, List.length_cons, List.length_nil]; omega)) (Tot.ret (by rw [bl_app, bl_app]; rfl)))
theorem joinV_some {v : LL} {sep : ByteArray} {p : Nat → List UInt8} {n : Nat} (h : v.map (fun r => bl (gs r 0)) = upto p n) (hl : v.length ≤ 64) (hb : (Lib.join (upto p n) (bl sep)).length ≤ 140737488355328) : ∃ r, joinV v sep = some r ∧ bl r = Lib.join (upto p n) (bl sep) := by
  have e : (v.map fun r => (gs r 0).data.toList) = upto p n := h
  refine ⟨⟨(Lib.join (upto p n) (bl sep)).toArray⟩, ?_, by simp [bl]⟩
  unfold joinV
  rw [e, show (decide (v.length ≤ 140737488355328) && decide ((Lib.join (upto p n) sep.data.toList).length ≤ 140737488355328)) = true from by
    rw [Bool.and_eq_true, decide_eq_true_eq, decide_eq_true_eq]
    exact ⟨by omega, hb⟩]
  rfl
theorem show_joined_tot (l : LL) (sep : ByteArray) (ops : LL) (T : Nat → List UInt8) (f : List C → Nat) (hl : l.length ≤ 64) (hops : ops.length ≤ 64) (hsep : sep.size ≤ 5)
    (hT : ∀ i, i < l.length → Tot (fun k _ _ => (lv k).show_Path (gi (l.getD i []) 0) (gr (l.getD i []) 1) (gr (l.getD i []) 2)) (fun r => bl r = T i)) (hb : ∀ i, i < l.length → (T i).length ≤ WW * f (l.getD i [])) (hf : (l.map f).sum ≤ 64) :
    Tot (fun k _ _ => (lv k).show_joined l sep ops) (fun r => bl r = Lib.join (upto (fun i => par (inOps ops (gi (l.getD i []) 0)) (T i)) l.length) (bl sep)) := by
  have hs5 : (bl sep).length ≤ 5 := by rw [bl_len]; exact hsep
  have hbp : ∀ i, i < l.length → (par (inOps ops (gi (l.getD i []) 0)) (T i)).length ≤ WW * f (l.getD i []) + 2 := fun i hi => by
    have := par_len (b := inOps ops (gi (l.getD i []) 0)) (t := T i)
    have := hb i hi
    omega
  have hw : WW * (l.map f).sum ≤ WW * 64 := Nat.mul_le_mul_left _ hf
  have hWW : WW = 8388608 := rfl
  have hsz : ∀ i, i < l.length → (T i).length ≤ 1099511627776 := fun i hi => by
    have h1 := hb i hi
    have h2 := sz_sub (f := f) hi
    have h3 := Nat.mul_le_mul_left WW h2
    omega
  have fin : ∀ v : LL, v.length ≤ 64 → v.map (fun r => bl (gs r 0)) = upto (fun i => par (inOps ops (gi (l.getD i []) 0)) (T i)) l.length → Tot (fun _ _ _ => (joinV v sep).bind fun r => some r) (fun r => bl r = Lib.join (upto (fun i => par (inOps ops (gi (l.getD i []) 0)) (T i)) l.length) (bl sep)) := fun v hv h => by
    obtain ⟨r, h1, h2⟩ := joinV_some (sep := sep) h hv (by have := join_bd (f := f) hs5 hbp (Nat.le_refl _); omega)
    exact Tot.giv (by rw [h1]; rfl) h2
  refine show_joined_up _ _ _ (Tot.congr ?_ (fun k _ _ => show_joined_q (lv k) k l sep ops))
  refine Tot.in0 (g := fun k p_ q_ => show_joined_l0 (lv k) k l sep ops p_ ) ?_
  refine Tot.step0 (fun k p_ q_ => show_joined_l0_q (lv k) k l sep ops p_ ) ?_
  refine Tot.cond (fun h0 => ?_) (fun h0 => fin [] (by decide) ?_)
  · have h0 := of_decide_eq_true h0
    refine Tot.t (decide_eq_true h0) (Tot.bind (hT 0 (by omega)) fun r1 hr1 => ?_)
    refine Tot.bind (bracketed_tot r1 _ ops hops (by rw [← bl_len, hr1]; exact hsz 0 (by omega))) fun r2 hr2 => ?_
    rw [hr1] at hr2
    refine Tot.loop (H := fun k q u v w => show_joined_l1 (lv k) k l sep ops q v w) (n := l.length) (fun i v => v.length = i ∧ v.map (fun r => bl (gs r 0)) = upto (fun i => par (inOps ops (gi (l.getD i []) 0)) (T i)) i) (by omega) (fun v hv => ?_) (fun i v hi hv next => ?_) _ 1 [[C.str r2]] rfl (by omega) ⟨rfl, by
      show [bl r2] = [_]
      rw [hr2]⟩
    · refine Tot.step0 (fun k p_ q_ => show_joined_l1_q (lv k) k l sep ops p_ _ _) ?_
      exact Tot.f (decide_eq_false (by omega)) (fin v (by rw [hv.1]; exact hl) hv.2)
    · obtain ⟨hv1, hv2⟩ := hv
      refine Tot.step0 (fun k p_ q_ => show_joined_l1_q (lv k) k l sep ops p_ _ _) ?_
      rw [Int.toNat_natCast]
      repeat (refine Tot.t (decide_eq_true (by omega)) ?_)
      refine Tot.bind (hT i hi) fun r1 hr1 => ?_
      refine Tot.bind (bracketed_tot r1 _ ops hops (by rw [← bl_len, hr1]; exact hsz i hi)) fun r2 hr2 => ?_
      rw [hr1] at hr2
      refine Tot.t (roomy_of bytes9 (by omega)) (next _ ⟨by simp [hv1], ?_⟩)
      rw [List.map_append, hv2, upto_succ]
      show _ ++ [bl r2] = _
      rw [hr2]
  · have h0 := of_decide_eq_false h0
    rw [show l.length = 0 by omega]
    rfl
theorem show_all_tot (l : LL) (sep : ByteArray) (ops : LL) (T : Nat → List UInt8) (f : List C → Nat) (hl : l.length ≤ 64) (hops : ops.length ≤ 64) (hsep : sep.size ≤ 5)
    (hT : ∀ i, i < l.length → Tot (fun k _ _ => (lv k).show_Filter (gi (l.getD i []) 0) (gs (l.getD i []) 1) (gs (l.getD i []) 2) (gs (l.getD i []) 3) (gr (l.getD i []) 4) (gr (l.getD i []) 5)) (fun r => bl r = T i)) (hb : ∀ i, i < l.length → (T i).length ≤ WW * f (l.getD i [])) (hf : (l.map f).sum ≤ 64) :
    Tot (fun k _ _ => (lv k).show_all l sep ops) (fun r => bl r = Lib.join (upto (fun i => par (inOps ops (gi (l.getD i []) 0)) (T i)) l.length) (bl sep)) := by
  have hs5 : (bl sep).length ≤ 5 := by rw [bl_len]; exact hsep
  have hbp : ∀ i, i < l.length → (par (inOps ops (gi (l.getD i []) 0)) (T i)).length ≤ WW * f (l.getD i []) + 2 := fun i hi => by
    have := par_len (b := inOps ops (gi (l.getD i []) 0)) (t := T i)
    have := hb i hi
    omega
  have hw : WW * (l.map f).sum ≤ WW * 64 := Nat.mul_le_mul_left _ hf
  have hWW : WW = 8388608 := rfl
  have hsz : ∀ i, i < l.length → (T i).length ≤ 1099511627776 := fun i hi => by
    have h1 := hb i hi
    have h2 := sz_sub (f := f) hi
    have h3 := Nat.mul_le_mul_left WW h2
    omega
  have fin : ∀ v : LL, v.length ≤ 64 → v.map (fun r => bl (gs r 0)) = upto (fun i => par (inOps ops (gi (l.getD i []) 0)) (T i)) l.length → Tot (fun _ _ _ => (joinV v sep).bind fun r => some r) (fun r => bl r = Lib.join (upto (fun i => par (inOps ops (gi (l.getD i []) 0)) (T i)) l.length) (bl sep)) := fun v hv h => by
    obtain ⟨r, h1, h2⟩ := joinV_some (sep := sep) h hv (by have := join_bd (f := f) hs5 hbp (Nat.le_refl _); omega)
    exact Tot.giv (by rw [h1]; rfl) h2
  refine show_all_up _ _ _ (Tot.congr ?_ (fun k _ _ => show_all_q (lv k) k l sep ops))
  refine Tot.in0 (g := fun k p_ q_ => show_all_l0 (lv k) k l sep ops p_ ) ?_
  refine Tot.step0 (fun k p_ q_ => show_all_l0_q (lv k) k l sep ops p_ ) ?_
  refine Tot.cond (fun h0 => ?_) (fun h0 => fin [] (by decide) ?_)
  · have h0 := of_decide_eq_true h0
    refine Tot.t (decide_eq_true h0) (Tot.bind (hT 0 (by omega)) fun r1 hr1 => ?_)
    refine Tot.bind (bracketed_tot r1 _ ops hops (by rw [← bl_len, hr1]; exact hsz 0 (by omega))) fun r2 hr2 => ?_
    rw [hr1] at hr2
    refine Tot.loop (H := fun k q u v w => show_all_l1 (lv k) k l sep ops q v w) (n := l.length) (fun i v => v.length = i ∧ v.map (fun r => bl (gs r 0)) = upto (fun i => par (inOps ops (gi (l.getD i []) 0)) (T i)) i) (by omega) (fun v hv => ?_) (fun i v hi hv next => ?_) _ 1 [[C.str r2]] rfl (by omega) ⟨rfl, by
      show [bl r2] = [_]
      rw [hr2]⟩
    · refine Tot.step0 (fun k p_ q_ => show_all_l1_q (lv k) k l sep ops p_ _ _) ?_
      exact Tot.f (decide_eq_false (by omega)) (fin v (by rw [hv.1]; exact hl) hv.2)
    · obtain ⟨hv1, hv2⟩ := hv
      refine Tot.step0 (fun k p_ q_ => show_all_l1_q (lv k) k l sep ops p_ _ _) ?_
      rw [Int.toNat_natCast]
      repeat (refine Tot.t (decide_eq_true (by omega)) ?_)
      refine Tot.bind (hT i hi) fun r1 hr1 => ?_
      refine Tot.bind (bracketed_tot r1 _ ops hops (by rw [← bl_len, hr1]; exact hsz i hi)) fun r2 hr2 => ?_
      rw [hr1] at hr2
      refine Tot.t (roomy_of bytes9 (by omega)) (next _ ⟨by simp [hv1], ?_⟩)
      rw [List.map_append, hv2, upto_succ]
      show _ ++ [bl r2] = _
      rw [hr2]
  · have h0 := of_decide_eq_false h0
    rw [show l.length = 0 by omega]
    rfl
def nmT (a b : ByteArray) : List UInt8 := cond (a.toList == (⟨#[]⟩ : ByteArray).toList) (bl b) (123 :: bl a ++ 125 :: bl b)
theorem nmT_len (a b : ByteArray) : (nmT a b).length ≤ a.size + b.size + 2 := by
  rw [← bl_len, ← bl_len]
  unfold nmT
  cases (a.toList == (⟨#[]⟩ : ByteArray).toList)
  · simp; omega
  · simp; omega
theorem sname_tot (a b : ByteArray) (ha : a.size ≤ 1048576) (hb : b.size ≤ 1048576) : Tot (fun k _ _ => (lv k).show_name a b) (fun r => bl r = nmT a b) := by
  refine show_name_up _ _ (Tot.congr ?_ (fun k _ _ => show_name_q (lv k) k a b))
  refine Tot.cond (fun c => Tot.ret (by unfold nmT; rw [c]; rfl)) (fun c => ?_)
  refine Tot.bind (R := fun r => bl r = nmT a b) ?_ fun r hr => Tot.ret hr
  refine lex_Write_up _ _ _ _ (Tot.congr ?_ (fun k _ _ => lex_Write_q (lv k) k 2 b a 0))
  repeat (first | refine Tot.t (by rfl) ?_ | refine Tot.f (by rfl) ?_)
  exact Tot.t (decide_eq_true (by simp only [sza, szl, List.length_cons, List.length_nil]; omega)) (Tot.t (decide_eq_true (by simp only [sza, szl, List.length_cons, List.length_nil]; omega)) (Tot.t (decide_eq_true (by simp only [sza, szl, List.length_cons, List.length_nil]; omega)) (Tot.ret (by unfold nmT; rw [c, bl_app, bl_app, bl_app]; simp [bl]))))
theorem rname_tot (a b : ByteArray) (ha : a.size ≤ 1048576) (hb : b.size ≤ 1048576) : Tot (fun k _ _ => (lv k).orielref15_name a b) (fun r => bl r = nmT a b) := by
  refine orielref15_name_up _ _ (Tot.congr ?_ (fun k _ _ => orielref15_name_q (lv k) k a b))
  refine Tot.cond (fun c => Tot.ret (by unfold nmT; rw [c]; rfl)) (fun c => ?_)
  exact Tot.t (decide_eq_true (by simp only [sza, szl, List.length_cons, List.length_nil]; omega)) (Tot.t (decide_eq_true (by simp only [sza, szl, List.length_cons, List.length_nil]; omega)) (Tot.t (decide_eq_true (by simp only [sza, szl, List.length_cons, List.length_nil]; omega)) (Tot.ret (by unfold nmT; rw [c, bl_app, bl_app, bl_app]; simp [bl]))))
def qtT (s : ByteArray) : List UInt8 := 34 :: dbl (bl s) ++ [34]
theorem qtT_len (s : ByteArray) : (qtT s).length ≤ 2 * s.size + 2 := by
  have := dbl_len (bl s)
  rw [bl_len] at this
  simp [qtT]
  omega
theorem squoted_tot (s : ByteArray) (hs : s.size ≤ 1048576) : Tot (fun k _ _ => (lv k).show_quoted s) (fun r => bl r = qtT s) := by
  refine show_quoted_up _ (Tot.congr ?_ (fun k _ _ => show_quoted_q (lv k) k s))
  refine Tot.bind (R := fun r => bl r = qtT s) ?_ fun r hr => Tot.ret hr
  refine lex_Write_up _ _ _ _ (Tot.congr ?_ (fun k _ _ => lex_Write_q (lv k) k 3 s ⟨#[]⟩ 0))
  repeat (first | refine Tot.t (by rfl) ?_ | refine Tot.f (by rfl) ?_)
  obtain ⟨r, h1, h2⟩ := replV_dbl hs
  refine Tot.bind (Tot.giv (Q := fun x => x = r) h1 rfl) fun x hx => ?_
  subst hx
  have h3 : x.size ≤ 2097152 := by
    have := dbl_len (bl s)
    rw [← h2, bl_len, bl_len] at this
    omega
  exact Tot.t (decide_eq_true (by simp only [sza, szl, List.length_cons, List.length_nil]; omega)) (Tot.t (decide_eq_true (by simp only [sza, szl, List.length_cons, List.length_nil]; omega)) (Tot.ret (by rw [bl_app, bl_app, h2]; rfl)))
theorem bl_extract1 {s : ByteArray} {i : Nat} (h : i < s.size) : bl (s.extract i (i + 1)) = [s.data.getD i 0] := by
  have h' : i < s.data.size := h
  unfold bl
  rw [ByteArray.data_extract]
  simp only [Array.toList_extract, List.extract_eq_take_drop]
  rw [show i + 1 - i = 1 by omega, List.drop_eq_getElem_cons (by simpa using h')]
  simp [Array.getD, h, h']
theorem rquoted_tot (s : ByteArray) (hs : s.size ≤ 1048576) : Tot (fun k _ _ => (lv k).orielref15_quoted s) (fun r => bl r = qtT s) := by
  refine orielref15_quoted_up _ (Tot.congr ?_ (fun k _ _ => orielref15_quoted_q (lv k) k s))
  refine Tot.bind (R := fun r => bl r = qtT s) ?_ fun r hr => Tot.ret hr
  refine orielref13_Write_up _ _ _ _ (Tot.congr ?_ (fun k _ _ => orielref13_Write_q (lv k) k 3 s ⟨#[]⟩ 0))
  repeat (first | refine Tot.t (by rfl) ?_ | refine Tot.f (by rfl) ?_)
  refine Tot.in0 (Tot.loop (H := fun k p q v w => orielref13_Write_l0 (lv k) k 3 s ⟨#[]⟩ 0 p w v) (n := s.size) (fun i w => bl w = 34 :: dbl ((bl s).take i)) (by omega) (fun w hw => ?_) (fun i w hi hw next => ?_) _ 0 _ rfl (by omega) rfl)
  · have hw2 : w.size ≤ 2097153 := by
      have := dbl_len ((bl s).take s.size)
      have h1 := congrArg List.length hw
      have h2 : ((bl s).take s.size).length ≤ s.size := by rw [List.length_take]; omega
      rw [bl_len, List.length_cons] at h1
      omega
    refine Tot.step0 (fun k p_ q_ => orielref13_Write_l0_q (lv k) k 3 s ⟨#[]⟩ 0 p_ _ _) ?_
    refine Tot.f (decide_eq_false (by omega)) (Tot.t (decide_eq_true (by simp only [sza, szl, List.length_cons, List.length_nil]; omega)) (Tot.ret ?_))
    rw [bl_app, hw, List.take_of_length_le (by rw [bl_len]; exact Nat.le_refl _)]
    rfl
  · have hw2 : w.size ≤ 2097153 := by
      have := dbl_len ((bl s).take i)
      have h1 := congrArg List.length hw
      have h2 : ((bl s).take i).length ≤ s.size := by rw [List.length_take, bl_len]; omega
      rw [bl_len, List.length_cons] at h1
      omega
    have hx := bl_extract1 hi
    have hxs : (s.extract i (i + 1)).size = 1 := by rw [← bl_len, hx]; rfl
    have htk : (bl s).take (i + 1) = (bl s).take i ++ [s.data.getD i 0] := by
      rw [List.take_add_one]
      congr 1
      have h' : i < s.data.size := hi
      unfold bl
      simp [Array.getD, hi, h']
    have hwr : IntKind.i64.wrap ((i : Int) + 1) = ((i + 1 : Nat) : Int) := by rw [wrap_id (by omega) (by omega)]; omega
    refine Tot.step0 (fun k p_ q_ => orielref13_Write_l0_q (lv k) k 3 s ⟨#[]⟩ 0 p_ _ _) ?_
    rw [hwr, Int.toNat_natCast, Int.toNat_natCast]
    rw [hwr] at next
    repeat (refine Tot.t (decide_eq_true (by omega)) ?_)
    refine Tot.cond (fun c => ?_) (fun c => next _ ?_)
    · have c : s.data.getD i 0 = 34 := UInt8.toNat_inj.1 (by have := eq_of_beq c; show _ = 34; omega)
      refine Tot.t (decide_eq_true (by simp only [sza, hxs]; show w.size + 1 + 1 ≤ 4611686018427387904; omega)) (next _ ?_)
      rw [bl_app, bl_app, hx, hw, htk, dbl_app, c]
      simp [bl, dbl]
    · have c : s.data.getD i 0 ≠ 34 := fun e => by rw [e] at c; simp at c
      rw [bl_app, hx, hw, htk, dbl_app, dbl_cons, if_neg c]
      rfl
-- Inj
def oA (k : Bool) : Int := cond k 5 10
def oS (k : Bool) : Int := cond k 4 9
def jS (k : Bool) : Nat := cond k 1 4
def sepA (k : Bool) : List UInt8 := cond k [124] [32, 111, 114, 32]
def sepS (k : Bool) : List UInt8 := cond k [47] [32, 97, 110, 100, 32]
/-- the text of a path that is no Seq and no Alt -/
def pcore (T : Bool → List C → List UInt8) (a : List C) : List UInt8 :=
  if gi a 0 = 1 then [46] else if gi a 0 = 2 then [102, 105, 114, 115, 116] else if gi a 0 = 3 then [110, 101, 120, 116] else if gi a 0 = 7 then ([63, 40] ++ T false ((gr a 2).getD 0 [])) ++ [41]
  else par (decide (gi ((gr a 1).getD 0 []) 0 = 5 ∨ gi ((gr a 1).getD 0 []) 0 = 4)) (T true ((gr a 1).getD 0 [])) ++ [42]
/-- the text of a filter that is no And and no Or -/
def fcore (T : Bool → List C → List UInt8) (a : List C) : List UInt8 :=
  if gi a 0 = 1 then [116, 114, 117, 101] else if gi a 0 = 2 then [101, 108, 101, 109, 101, 110, 116] else if gi a 0 = 3 then [116, 101, 120, 116] else if gi a 0 = 4 then [110, 97, 109, 101, 61] ++ nmT (gs a 1) (gs a 2)
  else if gi a 0 = 5 then [64] ++ nmT (gs a 1) (gs a 2) else if gi a 0 = 6 then (([64] ++ nmT (gs a 1) (gs a 2)) ++ [61]) ++ qtT (gs a 3) else if gi a 0 = 7 then [116, 101, 120, 116, 61] ++ qtT (gs a 3)
  else if gi a 0 = 8 then ([110, 111, 116, 40] ++ T false ((gr a 4).getD 0 [])) ++ [41] else ([104, 97, 115, 40] ++ T true ((gr a 5).getD 0 [])) ++ [41]
def tx : Nat → Bool → List C → List UInt8
  | 0, _, _ => []
  | d + 1, k, a => if gi a 0 = oA k then Lib.join ((gr a (jS k)).map fun x => par (decide (gi x 0 = oA k)) (tx d k x)) (sepA k)
    else if gi a 0 = oS k then Lib.join ((gr a (jS k)).map fun x => par (decide (gi x 0 = oA k ∨ gi x 0 = oS k)) (tx d k x)) (sepS k)
    else cond k (pcore (tx d) a) (fcore (tx d) a)
def sx (d : Nat) (k : Bool) (a : List C) : List UInt8 := par (decide (gi a 0 = oA k)) (tx d k a)
def ux (d : Nat) (k : Bool) (a : List C) : List UInt8 := par (decide (gi a 0 = oA k ∨ gi a 0 = oS k)) (tx d k a)
/-- what a name is, as far as its text asks -/
def NameOK (a b : ByteArray) : Prop := (∀ c, c ∈ bl a → c ≠ 125) ∧ bl b ≠ [] ∧ ∀ c, c ∈ bl b → c ≠ 32 ∧ c ≠ 41 ∧ c ≠ 61 ∧ c ≠ 123
def NF (a : List C) : Prop := (4 ≤ gi a 0 → gi a 0 ≤ 6 → NameOK (gs a 1) (gs a 2)) ∧ (¬ (4 ≤ gi a 0 ∧ gi a 0 ≤ 6) → gs a 1 = ⟨#[]⟩ ∧ gs a 2 = ⟨#[]⟩) ∧ (gi a 0 ≠ 6 → gi a 0 ≠ 7 → gs a 3 = ⟨#[]⟩)
def okn : Nat → Bool → List C → Prop
  | 0, _, _ => False
  | d + 1, true, a => (∀ i, i < (gr a 1).length → okn d true ((gr a 1).getD i [])) ∧ (∀ i, i < (gr a 2).length → okn d false ((gr a 2).getD i []))
  | d + 1, false, a => NF a ∧ (∀ i, i < (gr a 4).length → okn d false ((gr a 4).getD i [])) ∧ (∀ i, i < (gr a 5).length → okn d true ((gr a 5).getD i []))
def Gd (d : Nat) (k : Bool) (a : List C) : Prop := ok d k a ∧ okn d k a
/-! ### lists -/
theorem cut_inj {P : UInt8 → Prop} : ∀ {l m s t : List UInt8}, (∀ c, c ∈ l → ¬ P c) → (∀ c, c ∈ m → ¬ P c) → (s = [] ∨ ∃ c r, s = c :: r ∧ P c) → (t = [] ∨ ∃ c r, t = c :: r ∧ P c) → l ++ s = m ++ t → l = m ∧ s = t := by
  intro l
  induction l with
  | nil =>
    intro m s t _ hm hs ht h
    cases m with
    | nil => exact ⟨rfl, h⟩
    | cons c m =>
      rcases hs with rfl | ⟨b, r, rfl, hb⟩
      · cases h
      · have : b = c := by simpa using (List.cons.inj h).1
        subst this
        exact absurd hb (hm _ (List.mem_cons_self ..))
  | cons x l ih =>
    intro m s t hl hm hs ht h
    cases m with
    | nil =>
      rcases ht with rfl | ⟨b, r, rfl, hb⟩
      · cases h
      · have : x = b := by simpa using (List.cons.inj h).1
        subst this
        exact absurd hb (hl _ (List.mem_cons_self ..))
    | cons c m =>
      obtain ⟨e, h⟩ := List.cons.inj h
      obtain ⟨h1, h2⟩ := ih (fun c hc => hl c (List.mem_cons_of_mem _ hc)) (fun c hc => hm c (List.mem_cons_of_mem _ hc)) hs ht h
      exact ⟨by rw [e, h1], h2⟩
theorem dbl_inj : ∀ {l m s t : List UInt8}, (∀ r, s ≠ 34 :: r) → (∀ r, t ≠ 34 :: r) → dbl l ++ 34 :: s = dbl m ++ 34 :: t → l = m ∧ s = t := by
  intro l
  induction l with
  | nil =>
    intro m s t hs ht h
    cases m with
    | nil => exact ⟨rfl, (List.cons.inj h).2⟩
    | cons c m =>
      rw [dbl_cons] at h
      by_cases hc : c = 34
      · rw [if_pos hc] at h
        exact absurd (List.cons.inj h).2 (hs _)
      · rw [if_neg hc] at h
        exact absurd (List.cons.inj h).1.symm hc
  | cons x l ih =>
    intro m s t hs ht h
    rw [dbl_cons] at h
    cases m with
    | nil =>
      by_cases hc : x = 34
      · rw [if_pos hc] at h
        exact absurd (List.cons.inj h).2.symm (ht _)
      · rw [if_neg hc] at h
        exact absurd (List.cons.inj h).1 hc
    | cons c m =>
      rw [dbl_cons] at h
      by_cases hx : x = 34
      · by_cases hc : c = 34
        · rw [if_pos hx, if_pos hc] at h
          obtain ⟨h1, h2⟩ := ih hs ht (List.cons.inj (List.cons.inj h).2).2
          exact ⟨by rw [hx, hc, h1], h2⟩
        · rw [if_pos hx, if_neg hc] at h
          exact absurd (List.cons.inj h).1.symm hc
      · by_cases hc : c = 34
        · rw [if_neg hx, if_pos hc] at h
          exact absurd (List.cons.inj h).1 hx
        · rw [if_neg hx, if_neg hc] at h
          obtain ⟨e, h⟩ := List.cons.inj h
          obtain ⟨h1, h2⟩ := ih hs ht h
          exact ⟨by rw [e, h1], h2⟩
theorem jt_cons (sep y : List UInt8) (r : List (List UInt8)) : Lib.joinTail sep (y :: r) = sep ++ (y ++ Lib.joinTail sep r) := by simp [Lib.joinTail]
theorem join_inj {f g : List C → List UInt8} {R : List C → List C → Prop} {sep : List UInt8} {st : List UInt8 → Prop} (hst : ∀ s r, s = sep ++ r → ¬ st s) : ∀ (l m : List (List C)), l ≠ [] → m ≠ [] →
    (∀ x, x ∈ l → ∀ y, y ∈ m → ∀ s t, (st s ∨ ∃ r, s = sep ++ r) → (st t ∨ ∃ r, t = sep ++ r) → f x ++ s = g y ++ t → R x y ∧ s = t) →
    ∀ s t, st s → st t → Lib.join (l.map f) sep ++ s = Lib.join (m.map g) sep ++ t → (l.length = m.length ∧ ∀ i, i < l.length → R (l.getD i []) (m.getD i [])) ∧ s = t := by
  intro l
  induction l with
  | nil => intro m h; exact absurd rfl h
  | cons x l ih =>
    intro m _ hm hR s t hs ht h
    cases m with
    | nil => exact absurd rfl hm
    | cons y m =>
      rw [List.map_cons, List.map_cons, Lib.join_cons, Lib.join_cons, List.append_assoc, List.append_assoc] at h
      have hS : ∀ (f : List C → List UInt8) (l : List (List C)) (s : List UInt8), st s → st (Lib.joinTail sep (l.map f) ++ s) ∨ ∃ r, Lib.joinTail sep (l.map f) ++ s = sep ++ r := fun f l s hs => by
        cases l with
        | nil => exact .inl hs
        | cons z l => exact .inr ⟨f z ++ Lib.joinTail sep (l.map f) ++ s, by rw [List.map_cons, jt_cons]; simp [List.append_assoc]⟩
      obtain ⟨r1, r2⟩ := hR x (List.mem_cons_self ..) y (List.mem_cons_self ..) _ _ (hS f l s hs) (hS g m t ht) h
      cases l with
      | nil =>
        cases m with
        | nil => exact ⟨⟨rfl, fun i hi => by have : i = 0 := by simpa using hi
                                             subst this; exact r1⟩, r2⟩
        | cons z m =>
          exfalso
          rw [List.map_cons, jt_cons, List.append_assoc] at r2
          exact hst s _ r2 hs
      | cons w l =>
        cases m with
        | nil =>
          exfalso
          rw [List.map_cons, jt_cons, List.append_assoc] at r2
          exact hst t _ r2.symm ht
        | cons z m =>
          rw [List.map_cons, List.map_cons, jt_cons, jt_cons, List.append_assoc, List.append_assoc sep] at r2
          have r2 := List.append_cancel_left r2
          obtain ⟨⟨h1, h2⟩, h3⟩ := ih (z :: m) (by simp) (by simp) (fun x hx y hy => hR x (List.mem_cons_of_mem _ hx) y (List.mem_cons_of_mem _ hy)) s t hs ht (by rw [List.map_cons, List.map_cons, Lib.join_cons, Lib.join_cons]; exact r2)
          refine ⟨⟨by simp only [List.length_cons] at h1 ⊢; omega, fun i hi => ?_⟩, h3⟩
          cases i with
          | zero => exact r1
          | succ i =>
            have := h2 i (by simpa using hi)
            simpa using this
theorem rep_inj : ∀ {n m : Nat} {s t : List UInt8}, (∀ r, s ≠ 42 :: r) → (∀ r, t ≠ 42 :: r) → List.replicate n 42 ++ s = List.replicate m 42 ++ t → n = m ∧ s = t := by
  intro n
  induction n with
  | zero =>
    intro m s t hs ht h
    cases m with
    | zero => exact ⟨rfl, h⟩
    | succ m => exact absurd h (hs _)
  | succ n ih =>
    intro m s t hs ht h
    cases m with
    | zero => exact absurd h.symm (ht _)
    | succ m =>
      obtain ⟨h1, h2⟩ := ih hs ht (List.cons.inj h).2
      exact ⟨by rw [h1], h2⟩
/-! ### stops -/
def stA (s : List UInt8) : Prop := s = [] ∨ ∃ r, s = 41 :: r
def stS (k : Bool) (s : List UInt8) : Prop := stA s ∨ ∃ r, s = sepA k ++ r
def stU (k : Bool) (s : List UInt8) : Prop := stS k s ∨ ∃ r, s = sepS k ++ r
theorem hstA (k : Bool) : ∀ s r, s = sepA k ++ r → ¬ stA s := by
  rintro s r rfl (h | ⟨r', h⟩) <;> cases k <;> simp [sepA] at h
theorem hstS (k : Bool) : ∀ s r, s = sepS k ++ r → ¬ stS k s := by
  rintro s r rfl ((h | ⟨r', h⟩) | ⟨r', h⟩) <;> cases k <;> simp [sepA, sepS] at h
theorem stU_star {s : List UInt8} (h : stU true s) : ∀ r, s ≠ 42 :: r := by
  rintro r rfl
  rcases h with ((h | ⟨r', h⟩) | ⟨r', h⟩) | ⟨r', h⟩ <;> simp [sepA, sepS] at h
theorem stU_head {s : List UInt8} (h : stU false s) : s = [] ∨ ∃ c r, s = c :: r ∧ (c = 32 ∨ c = 41) := by
  rcases h with ((h | ⟨r', h⟩) | ⟨r', h⟩) | ⟨r', h⟩
  · exact .inl h
  · exact .inr ⟨_, _, h, .inr rfl⟩
  · exact .inr ⟨_, _, h, .inl rfl⟩
  · exact .inr ⟨_, _, h, .inl rfl⟩
/-! ### names -/
def nst (c : UInt8) : Prop := c = 32 ∨ c = 41 ∨ c = 61
theorem nm_false {a b : ByteArray} (h : (a.toList == (⟨#[]⟩ : ByteArray).toList) = false) : nmT a b = 123 :: bl a ++ 125 :: bl b := by unfold nmT; rw [h]; rfl
theorem nm_true {b : ByteArray} : nmT ⟨#[]⟩ b = bl b := by unfold nmT; rw [str_eq.2 rfl]; rfl
theorem nm_cases (a b : ByteArray) : (a = ⟨#[]⟩ ∧ nmT a b = bl b) ∨ nmT a b = 123 :: bl a ++ 125 :: bl b := by
  cases h : (a.toList == (⟨#[]⟩ : ByteArray).toList) with
  | true => have := str_eq.1 h; subst this; exact .inl ⟨rfl, nm_true⟩
  | false => exact .inr (nm_false h)
theorem nm_inj {a b c d : ByteArray} {s t : List UInt8} (h1 : NameOK a b) (h2 : NameOK c d) (hs : s = [] ∨ ∃ c r, s = c :: r ∧ nst c) (ht : t = [] ∨ ∃ c r, t = c :: r ∧ nst c) (h : nmT a b ++ s = nmT c d ++ t) : (a = c ∧ b = d) ∧ s = t := by
  have tail : ∀ {b d : ByteArray}, (∀ c, c ∈ bl b → c ≠ 32 ∧ c ≠ 41 ∧ c ≠ 61 ∧ c ≠ 123) → (∀ c, c ∈ bl d → c ≠ 32 ∧ c ≠ 41 ∧ c ≠ 61 ∧ c ≠ 123) → bl b ++ s = bl d ++ t → b = d ∧ s = t := fun {b d} hb hd h => by
    obtain ⟨e1, e2⟩ := cut_inj (P := nst) (fun c hc => by have := hb c hc; rintro (e | e | e) <;> simp_all) (fun c hc => by have := hd c hc; rintro (e | e | e) <;> simp_all) hs ht h
    exact ⟨bl_inj e1, e2⟩
  obtain ⟨a1, a2, a3⟩ := h1
  obtain ⟨c1, c2, c3⟩ := h2
  rcases nm_cases a b with ⟨rfl, ea⟩ | ea <;> rcases nm_cases c d with ⟨rfl, ec⟩ | ec <;> rw [ea, ec] at h
  · obtain ⟨e1, e2⟩ := tail a3 c3 h
    exact ⟨⟨rfl, e1⟩, e2⟩
  · exfalso
    cases hb : bl b with
    | nil => exact a2 hb
    | cons x r =>
      rw [hb] at h
      have : x = 123 := by simpa using (List.cons.inj h).1
      exact (a3 x (by rw [hb]; exact List.mem_cons_self ..)).2.2.2 this
  · exfalso
    cases hb : bl d with
    | nil => exact c2 hb
    | cons x r =>
      rw [hb] at h
      have : x = 123 := by simpa using (List.cons.inj h).1.symm
      exact (c3 x (by rw [hb]; exact List.mem_cons_self ..)).2.2.2 this
  · have h : bl a ++ 125 :: (bl b ++ s) = bl c ++ 125 :: (bl d ++ t) := by
      have := (List.cons.inj h).2
      simpa [List.append_assoc] using this
    obtain ⟨e1, e2⟩ := cut_inj (P := fun x => x = 125) (fun x hx => a1 x hx) (fun x hx => c1 x hx) (.inr ⟨_, _, rfl, rfl⟩) (.inr ⟨_, _, rfl, rfl⟩) h
    obtain ⟨e3, e4⟩ := tail a3 c3 (List.cons.inj e2).2
    exact ⟨⟨bl_inj e1, e3⟩, e4⟩
-- Tell
theorem G_le {d : Nat} {k : Bool} {a : List C} (h : Gd d k a) : ∃ e, d = e + 1 := by
  cases d with
  | zero => exact h.1.elim
  | succ e => exact ⟨e, rfl⟩
theorem G_sub {d : Nat} {k : Bool} {a : List C} (h : Gd (d + 1) k a) : ∀ x, x ∈ gr a (jS k) → Gd d k x := fun x hx => by
  obtain ⟨i, hi, rfl⟩ := mem_getD hx
  cases k with
  | true => exact ⟨h.1.2.2.2.2.2.2.2.2.1 i hi, h.2.1 i hi⟩
  | false => exact ⟨h.1.2.2.2.2.2.2.2.2.1 i hi, h.2.2.1 i hi⟩
theorem G_two {d : Nat} {k : Bool} {a : List C} (h : Gd (d + 1) k a) (ho : gi a 0 = oA k ∨ gi a 0 = oS k) : 2 ≤ (gr a (jS k)).length := by
  cases k with
  | true => exact h.1.2.2.1 (by rcases ho with e | e <;> rw [e] <;> simp [oA, oS])
  | false => exact h.1.2.2.2.2.1 (by rcases ho with e | e <;> rw [e] <;> simp [oA, oS])
/-- the same sign, and parts that are alike -/
theorem alk {d e : Nat} {k : Bool} {a b : List C} (ha : Gd (d + 1) k a) (hb : Gd (e + 1) k b) (ho : gi a 0 = oA k ∨ gi a 0 = oS k) (he : gi a 0 = gi b 0)
    (hl : (gr a (jS k)).length = (gr b (jS k)).length) (hc : ∀ i, i < (gr a (jS k)).length → Alike k ((gr a (jS k)).getD i []) ((gr b (jS k)).getD i [])) : Alike k a b := by
  cases k with
  | true =>
    obtain ⟨⟨_, _, _, _, a7, a1, _, _, _, _⟩, _⟩ := ha
    obtain ⟨⟨_, _, _, _, b7, b1, _, _, _, _⟩, _⟩ := hb
    have ho : gi a 0 = 5 ∨ gi a 0 = 4 := ho
    have la : (gr a 2).length = 0 := by omega
    have lb : (gr b 2).length = 0 := by omega
    exact .path he hl (by omega) hc (fun i hi => by omega)
  | false =>
    obtain ⟨⟨_, _, _, _, _, _, a7, a1, _, _⟩, ⟨_, an, av⟩, _⟩ := ha
    obtain ⟨⟨_, _, _, _, _, _, b7, b1, _, _⟩, ⟨_, bn, bv⟩, _⟩ := hb
    have ho : gi a 0 = 10 ∨ gi a 0 = 9 := ho
    have la : (gr a 5).length = 0 := by omega
    have lb : (gr b 5).length = 0 := by omega
    obtain ⟨n1, n2⟩ := an (by omega)
    obtain ⟨m1, m2⟩ := bn (by omega)
    exact .filter he (n1.trans m1.symm) (n2.trans m2.symm) ((av (by omega) (by omega)).trans (bv (by omega) (by omega)).symm) hl (by omega) hc (fun i hi => by omega)
/-- the law's three readings of two texts -/
def LU (dp dq : Nat) (k : Bool) (p q : List C) : Prop := ∀ s t, stU k s → stU k t → ux dp k p ++ s = ux dq k q ++ t → Alike k p q ∧ s = t
def LS (dp dq : Nat) (k : Bool) (p q : List C) : Prop := ∀ s t, stS k s → stS k t → sx dp k p ++ s = sx dq k q ++ t → Alike k p q ∧ s = t
def LA (dp dq : Nat) (k : Bool) (p q : List C) : Prop := ∀ s t, stA s → stA t → tx dp k p ++ s = tx dq k q ++ t → Alike k p q ∧ s = t
theorem par_t (t : List UInt8) : par true t = 40 :: t ++ [41] := rfl
theorem par_f (t : List UInt8) : par false t = t := rfl
/-- a path's Alt-parts, a path's Seq-parts -/
def alts (d : Nat) (k : Bool) (a : List C) : Nat × List (List C) := if gi a 0 = oA k then (d, gr a (jS k)) else (d + 1, [a])
def seqs (d : Nat) (k : Bool) (a : List C) : Nat × List (List C) := if gi a 0 = oS k then (d, gr a (jS k)) else (d + 1, [a])
theorem tx_alts (d : Nat) (k : Bool) (a : List C) : tx (d + 1) k a = Lib.join ((alts d k a).2.map (sx (alts d k a).1 k)) (sepA k) := by
  unfold alts
  by_cases h : gi a 0 = oA k
  · rw [if_pos h]
    show tx (d + 1) k a = _
    rw [tx, if_pos h]
    rfl
  · rw [if_neg h]
    show _ = Lib.join [sx (d + 1) k a] _
    rw [Lib.join_one, sx, decide_eq_false h, par_f]
theorem oAS (k : Bool) : oA k ≠ oS k := by cases k <;> decide
theorem sx_seqs (d : Nat) (k : Bool) (a : List C) : sx (d + 1) k a = Lib.join ((seqs d k a).2.map (ux (seqs d k a).1 k)) (sepS k) := by
  unfold seqs
  by_cases h : gi a 0 = oS k
  · rw [if_pos h]
    have hn : gi a 0 ≠ oA k := by rw [h]; exact (oAS k).symm
    rw [sx, decide_eq_false hn, par_f, tx, if_neg hn, if_pos h]
    rfl
  · rw [if_neg h]
    show _ = Lib.join [ux (d + 1) k a] _
    rw [Lib.join_one, sx, ux]
    congr 1
    simp [h]
theorem alts_ne {d : Nat} {k : Bool} {a : List C} (h : Gd (d + 1) k a) : (alts d k a).2 ≠ [] := by
  unfold alts
  by_cases ho : gi a 0 = oA k
  · rw [if_pos ho]
    have := G_two h (.inl ho)
    intro e
    have : (gr a (jS k)).length = 0 := congrArg List.length e
    omega
  · rw [if_neg ho]; simp
theorem seqs_ne {d : Nat} {k : Bool} {a : List C} (h : Gd (d + 1) k a) : (seqs d k a).2 ≠ [] := by
  unfold seqs
  by_cases ho : gi a 0 = oS k
  · rw [if_pos ho]
    have := G_two h (.inr ho)
    intro e
    have : (gr a (jS k)).length = 0 := congrArg List.length e
    omega
  · rw [if_neg ho]; simp
theorem LA_of {d e : Nat} {k : Bool} {p q : List C} (hp : Gd (d + 1) k p) (hq : Gd (e + 1) k q) (h : ∀ x, x ∈ (alts d k p).2 → ∀ y, y ∈ (alts e k q).2 → LS (alts d k p).1 (alts e k q).1 k x y) : LA (d + 1) (e + 1) k p q := fun s t hs ht ht2 => by
  rw [tx_alts, tx_alts] at ht2
  obtain ⟨⟨h1, h2⟩, h3⟩ := join_inj (R := Alike k) (hstA k) _ _ (alts_ne hp) (alts_ne hq) (fun x hx y hy s t hs ht e => h x hx y hy s t hs ht e) s t hs ht ht2
  refine ⟨?_, h3⟩
  unfold alts at h1 h2
  by_cases a1 : gi p 0 = oA k <;> by_cases a2 : gi q 0 = oA k
  · rw [if_pos a1, if_pos a2] at h1 h2
    exact alk hp hq (.inl a1) (a1.trans a2.symm) h1 h2
  · rw [if_pos a1, if_neg a2] at h1
    have := G_two hp (.inl a1)
    have h1 : (gr p (jS k)).length = 1 := h1
    omega
  · rw [if_neg a1, if_pos a2] at h1
    have := G_two hq (.inl a2)
    have h1 : 1 = (gr q (jS k)).length := h1
    omega
  · rw [if_neg a1, if_neg a2] at h2
    exact h2 0 (by simp)
theorem LS_of {d e : Nat} {k : Bool} {p q : List C} (hp : Gd (d + 1) k p) (hq : Gd (e + 1) k q) (h : ∀ x, x ∈ (seqs d k p).2 → ∀ y, y ∈ (seqs e k q).2 → LU (seqs d k p).1 (seqs e k q).1 k x y) : LS (d + 1) (e + 1) k p q := fun s t hs ht ht2 => by
  rw [sx_seqs, sx_seqs] at ht2
  obtain ⟨⟨h1, h2⟩, h3⟩ := join_inj (R := Alike k) (hstS k) _ _ (seqs_ne hp) (seqs_ne hq) (fun x hx y hy s t hs ht e => h x hx y hy s t hs ht e) s t hs ht ht2
  refine ⟨?_, h3⟩
  unfold seqs at h1 h2
  by_cases a1 : gi p 0 = oS k <;> by_cases a2 : gi q 0 = oS k
  · rw [if_pos a1, if_pos a2] at h1 h2
    exact alk hp hq (.inr a1) (a1.trans a2.symm) h1 h2
  · rw [if_pos a1, if_neg a2] at h1
    have := G_two hp (.inr a1)
    have h1 : (gr p (jS k)).length = 1 := h1
    omega
  · rw [if_neg a1, if_pos a2] at h1
    have := G_two hq (.inr a2)
    have h1 : 1 = (gr q (jS k)).length := h1
    omega
  · rw [if_neg a1, if_neg a2] at h2
    exact h2 0 (by simp)
/-! ### stars -/
def strip : Nat → List C → Nat × Nat × List C
  | 0, a => (0, 0, a)
  | d + 1, a => if gi a 0 = 6 then ((strip d ((gr a 1).getD 0 [])).1 + 1, (strip d ((gr a 1).getD 0 [])).2.1, (strip d ((gr a 1).getD 0 [])).2.2) else (0, d + 1, a)
theorem star_one {d : Nat} {a : List C} (h : Gd (d + 1) true a) (h6 : gi a 0 = 6) : Gd d true ((gr a 1).getD 0 []) ∧ (gr a 1).length = 1 := by
  have hl := h.1.2.2.2.1 h6
  exact ⟨⟨h.1.2.2.2.2.2.2.2.2.1 0 (by omega), h.2.1 0 (by omega)⟩, hl⟩
theorem strip_spec : ∀ (d : Nat) (a : List C), Gd d true a → Gd (strip d a).2.1 true (strip d a).2.2 ∧ (strip d a).2.1 ≤ d ∧ gi (strip d a).2.2 0 ≠ 6 ∧ ux d true a = ux (strip d a).2.1 true (strip d a).2.2 ++ List.replicate (strip d a).1 42 := by
  intro d
  induction d with
  | zero => intro a h; exact h.1.elim
  | succ d ih =>
    intro a h
    by_cases h6 : gi a 0 = 6
    · obtain ⟨hc, hl⟩ := star_one h h6
      obtain ⟨i1, i2, i3, i4⟩ := ih _ hc
      rw [strip, if_pos h6]
      refine ⟨i1, Nat.le_trans i2 (Nat.le_succ d), i3, ?_⟩
      have n1 : gi a 0 ≠ oA true := by rw [h6]; decide
      have n2 : gi a 0 ≠ oS true := by rw [h6]; decide
      have e : ux (d + 1) true a = ux d true ((gr a 1).getD 0 []) ++ [42] := by
        rw [ux, decide_eq_false (fun e => e.elim n1 n2), par_f, tx, if_neg n1, if_neg n2]
        show pcore _ a = _
        rw [pcore, if_neg (by omega), if_neg (by omega), if_neg (by omega), if_neg (by omega)]
        rfl
      rw [e, i4, List.append_assoc]
      show _ = _ ++ List.replicate ((strip d ((gr a 1).getD 0 [])).1 + 1) 42
      rw [List.replicate_succ']
    · rw [strip, if_neg h6]
      exact ⟨h, Nat.le_refl _, h6, by simp⟩
theorem strip_alike : ∀ (d e : Nat) (a b : List C), Gd d true a → Gd e true b → (strip d a).1 = (strip e b).1 → Alike true (strip d a).2.2 (strip e b).2.2 → Alike true a b := by
  intro d
  induction d with
  | zero => intro e a b h; exact h.1.elim
  | succ d ih =>
    intro e a b ha hb h1 h2
    obtain ⟨e, rfl⟩ := G_le hb
    rw [strip, strip] at h1 h2
    by_cases a6 : gi a 0 = 6 <;> by_cases b6 : gi b 0 = 6
    · rw [if_pos a6, if_pos b6] at h1 h2
      obtain ⟨ha', la⟩ := star_one ha a6
      obtain ⟨hb', lb⟩ := star_one hb b6
      have := ih e _ _ ha' hb' (by simpa using h1) h2
      obtain ⟨⟨_, _, _, _, a7, a1, _, _, _, _⟩, _⟩ := ha
      obtain ⟨⟨_, _, _, _, b7, b1, _, _, _, _⟩, _⟩ := hb
      exact .path (a6.trans b6.symm) (la.trans lb.symm) (by omega) (fun i hi => by
        have : i = 0 := by omega
        subst this; assumption) (fun i hi => by omega)
    · rw [if_pos a6, if_neg b6] at h1
      simp at h1
    · rw [if_neg a6, if_pos b6] at h1
      simp at h1
    · rw [if_neg a6, if_neg b6] at h2
      exact h2
/-! ### the parts that are no Seq and no Alt -/
theorem ux_br {d : Nat} {k : Bool} {a : List C} (h : gi a 0 = oA k ∨ gi a 0 = oS k) : ux d k a = 40 :: tx d k a ++ [41] := by rw [ux, decide_eq_true h, par_t]
theorem ux_core {d : Nat} {k : Bool} {a : List C} (h : ¬ (gi a 0 = oA k ∨ gi a 0 = oS k)) : ux (d + 1) k a = cond k (pcore (tx d) a) (fcore (tx d) a) := by
  rw [ux, decide_eq_false h, par_f, tx, if_neg (fun e => h (.inl e)), if_neg (fun e => h (.inr e))]
theorem cons41 {s t : List UInt8} (h : 41 :: s = 41 :: t) : s = t := (List.cons.inj h).2
/-- paths: one sign, and the filter if there is one -/
theorem p_al {d e : Nat} {p q : List C} (hp : Gd (d + 1) true p) (hq : Gd (e + 1) true q) (ho : gi p 0 = gi q 0) (hn : gi p 0 ≠ 4 ∧ gi p 0 ≠ 5 ∧ gi p 0 ≠ 6) (h7 : gi p 0 = 7 → Alike false ((gr p 2).getD 0 []) ((gr q 2).getD 0 [])) : Alike true p q := by
  obtain ⟨⟨_, _, _, _, a7, a1, _, a0, _, _⟩, _⟩ := hp
  obtain ⟨⟨_, _, _, _, b7, b1, _, b0, _, _⟩, _⟩ := hq
  have := a0 hn.1 hn.2.1 hn.2.2
  have := b0 (by omega) (by omega) (by omega)
  exact .path ho (by omega) (by omega) (fun i hi => by omega) (fun i hi => by
    have : i = 0 := by omega
    subst this
    exact h7 (by omega))
theorem pcore_inj {d e : Nat} {p q : List C} (hp : Gd (d + 1) true p) (hq : Gd (e + 1) true q) (np : ¬ (gi p 0 = oA true ∨ gi p 0 = oS true)) (nq : ¬ (gi q 0 = oA true ∨ gi q 0 = oS true)) (p6 : gi p 0 ≠ 6) (q6 : gi q 0 ≠ 6)
    (hf : gi p 0 = 7 → gi q 0 = 7 → LA d e false ((gr p 2).getD 0 []) ((gr q 2).getD 0 [])) {s t : List UInt8} (h : pcore (tx d) p ++ s = pcore (tx e) q ++ t) : Alike true p q ∧ s = t := by
  have np : ¬ (gi p 0 = 5 ∨ gi p 0 = 4) := np
  have nq : ¬ (gi q 0 = 5 ∨ gi q 0 = 4) := nq
  have p1 := hp.1.1; have p2 := hp.1.2.1; have q1 := hq.1.1; have q2 := hq.1.2.1
  have op : gi p 0 = 1 ∨ gi p 0 = 2 ∨ gi p 0 = 3 ∨ gi p 0 = 7 := by omega
  have oq : gi q 0 = 1 ∨ gi q 0 = 2 ∨ gi q 0 = 3 ∨ gi q 0 = 7 := by omega
  have nn : gi p 0 = gi q 0 → gi p 0 ≠ 7 → Alike true p q := fun e n => p_al hp hq e ⟨by omega, by omega, by omega⟩ (fun e => absurd e n)
  unfold pcore at h
  rcases op with a | a | a | a <;> rcases oq with b | b | b | b <;> rw [a, b] at h <;> simp at h
  · exact ⟨nn (a.trans b.symm) (by omega), h⟩
  · exact ⟨nn (a.trans b.symm) (by omega), h⟩
  · exact ⟨nn (a.trans b.symm) (by omega), h⟩
  · obtain ⟨h1, h2⟩ := hf a b _ _ (.inr ⟨_, rfl⟩) (.inr ⟨_, rfl⟩) h
    exact ⟨p_al hp hq (a.trans b.symm) ⟨by omega, by omega, by omega⟩ (fun _ => h1), cons41 h2⟩
/-- filters: one sign, name, value, and the part if there is one -/
theorem f_al {d e : Nat} {p q : List C} (hp : Gd (d + 1) false p) (hq : Gd (e + 1) false q) (ho : gi p 0 = gi q 0) (hn : gi p 0 ≠ 9 ∧ gi p 0 ≠ 10) (h1 : 4 ≤ gi p 0 → gi p 0 ≤ 6 → gs p 1 = gs q 1 ∧ gs p 2 = gs q 2) (h3 : gi p 0 = 6 ∨ gi p 0 = 7 → gs p 3 = gs q 3)
    (h8 : gi p 0 = 8 → Alike false ((gr p 4).getD 0 []) ((gr q 4).getD 0 [])) (h11 : gi p 0 = 11 → Alike true ((gr p 5).getD 0 []) ((gr q 5).getD 0 [])) : Alike false p q := by
  obtain ⟨⟨_, _, a8, _, _, a0, a11, a1, _, _⟩, ⟨_, an, av⟩, _⟩ := hp
  obtain ⟨⟨_, _, b8, _, _, b0, b11, b1, _, _⟩, ⟨_, bn, bv⟩, _⟩ := hq
  have nm : gs p 1 = gs q 1 ∧ gs p 2 = gs q 2 := by
    by_cases h : 4 ≤ gi p 0 ∧ gi p 0 ≤ 6
    · exact h1 h.1 h.2
    · obtain ⟨x1, x2⟩ := an h
      obtain ⟨y1, y2⟩ := bn (by rw [← ho]; exact h)
      exact ⟨x1.trans y1.symm, x2.trans y2.symm⟩
  have vl : gs p 3 = gs q 3 := by
    by_cases h : gi p 0 = 6 ∨ gi p 0 = 7
    · exact h3 h
    · exact (av (by omega) (by omega)).trans (bv (by omega) (by omega)).symm
  have l4 : (gr p 4).length = (gr q 4).length ∧ (gr p 4).length ≤ 1 ∧ ((gr p 4).length = 1 → gi p 0 = 8) := by
    by_cases h : gi p 0 = 8
    · have := a8 h; have := b8 (by omega); exact ⟨by omega, by omega, fun _ => h⟩
    · have := a0 h hn.1 hn.2; have := b0 (by omega) (by omega) (by omega); exact ⟨by omega, by omega, fun e => by omega⟩
  exact .filter ho nm.1 nm.2 vl l4.1 (by omega) (fun i hi => by
    have : i = 0 := by omega
    subst this
    exact h8 (l4.2.2 (by omega))) (fun i hi => by
    have : i = 0 := by omega
    subst this
    exact h11 (by omega))
theorem qt_inj {a b : ByteArray} {s t : List UInt8} (hs : ∀ r, s ≠ 34 :: r) (ht : ∀ r, t ≠ 34 :: r) (h : qtT a ++ s = qtT b ++ t) : a = b ∧ s = t := by
  have h : dbl (bl a) ++ 34 :: s = dbl (bl b) ++ 34 :: t := by
    unfold qtT at h
    have := (List.cons.inj h).2
    simpa [List.append_assoc] using this
  obtain ⟨h1, h2⟩ := dbl_inj hs ht h
  exact ⟨bl_inj h1, h2⟩
theorem fcore_inj {d e : Nat} {p q : List C} (hp : Gd (d + 1) false p) (hq : Gd (e + 1) false q) (np : ¬ (gi p 0 = oA false ∨ gi p 0 = oS false)) (nq : ¬ (gi q 0 = oA false ∨ gi q 0 = oS false))
    (hf : gi p 0 = 8 → gi q 0 = 8 → LA d e false ((gr p 4).getD 0 []) ((gr q 4).getD 0 [])) (hw : gi p 0 = 11 → gi q 0 = 11 → LA d e true ((gr p 5).getD 0 []) ((gr q 5).getD 0 [])) {s t : List UInt8} (hs : s = [] ∨ ∃ c r, s = c :: r ∧ (c = 32 ∨ c = 41)) (ht : t = [] ∨ ∃ c r, t = c :: r ∧ (c = 32 ∨ c = 41)) (h : fcore (tx d) p ++ s = fcore (tx e) q ++ t) : Alike false p q ∧ s = t := by
  have np : ¬ (gi p 0 = 10 ∨ gi p 0 = 9) := np
  have nq : ¬ (gi q 0 = 10 ∨ gi q 0 = 9) := nq
  have p1 := hp.1.1; have p2 := hp.1.2.1; have q1 := hq.1.1; have q2 := hq.1.2.1
  have op : gi p 0 = 1 ∨ gi p 0 = 2 ∨ gi p 0 = 3 ∨ gi p 0 = 4 ∨ gi p 0 = 5 ∨ gi p 0 = 6 ∨ gi p 0 = 7 ∨ gi p 0 = 8 ∨ gi p 0 = 11 := by omega
  have oq : gi q 0 = 1 ∨ gi q 0 = 2 ∨ gi q 0 = 3 ∨ gi q 0 = 4 ∨ gi q 0 = 5 ∨ gi q 0 = 6 ∨ gi q 0 = 7 ∨ gi q 0 = 8 ∨ gi q 0 = 11 := by omega
  have hn : ∀ {s : List UInt8}, (s = [] ∨ ∃ c r, s = c :: r ∧ (c = 32 ∨ c = 41)) → s = [] ∨ ∃ c r, s = c :: r ∧ nst c := fun h => by
    rcases h with h | ⟨c, r, h, e | e⟩
    · exact .inl h
    · exact .inr ⟨c, r, h, .inl e⟩
    · exact .inr ⟨c, r, h, .inr (.inl e)⟩
  have no : ∀ {s r : List UInt8} {c : UInt8}, (s = [] ∨ ∃ c r, s = c :: r ∧ (c = 32 ∨ c = 41)) → c ≠ 32 → c ≠ 41 → s ≠ c :: r := fun {s r c} h h1 h2 e => by
    rcases h with h | ⟨c', r', h, e' | e'⟩
    · rw [h] at e; cases e
    · rw [h] at e; exact h1 ((List.cons.inj e).1 ▸ e')
    · rw [h] at e; exact h2 ((List.cons.inj e).1 ▸ e')
  have nmp : 4 ≤ gi p 0 → gi p 0 ≤ 6 → NameOK (gs p 1) (gs p 2) := hp.2.1.1
  have nmq : 4 ≤ gi q 0 → gi q 0 ≤ 6 → NameOK (gs q 1) (gs q 2) := hq.2.1.1
  have eqn : ∀ x : List UInt8, (61 :: x = [] ∨ ∃ c r, 61 :: x = c :: r ∧ nst c) := fun x => .inr ⟨_, _, rfl, .inr (.inr rfl)⟩
  have fin : gi p 0 = gi q 0 → (4 ≤ gi p 0 → gi p 0 ≤ 6 → gs p 1 = gs q 1 ∧ gs p 2 = gs q 2) → (gi p 0 = 6 ∨ gi p 0 = 7 → gs p 3 = gs q 3) → (gi p 0 = 8 → Alike false ((gr p 4).getD 0 []) ((gr q 4).getD 0 [])) → (gi p 0 = 11 → Alike true ((gr p 5).getD 0 []) ((gr q 5).getD 0 [])) → Alike false p q := fun e => f_al hp hq e ⟨by omega, by omega⟩
  unfold fcore at h
  rcases op with a | a | a | a | a | a | a | a | a <;> rcases oq with b | b | b | b | b | b | b | b | b <;> rw [a, b] at h <;> simp at h
  · exact ⟨fin (a.trans b.symm) (fun _ _ => by omega) (fun e => by omega) (fun e => by omega) (fun e => by omega), h⟩
  · exact ⟨fin (a.trans b.symm) (fun _ _ => by omega) (fun e => by omega) (fun e => by omega) (fun e => by omega), h⟩
  · exact ⟨fin (a.trans b.symm) (fun _ _ => by omega) (fun e => by omega) (fun e => by omega) (fun e => by omega), h⟩
  · exact absurd h (no hs (by decide) (by decide))
  · obtain ⟨h1, h2⟩ := nm_inj (nmp (by omega) (by omega)) (nmq (by omega) (by omega)) (hn hs) (hn ht) h
    exact ⟨fin (a.trans b.symm) (fun _ _ => h1) (fun e => by omega) (fun e => by omega) (fun e => by omega), h2⟩
  · obtain ⟨h1, h2⟩ := nm_inj (nmp (by omega) (by omega)) (nmq (by omega) (by omega)) (hn hs) (hn ht) h
    exact ⟨fin (a.trans b.symm) (fun _ _ => h1) (fun e => by omega) (fun e => by omega) (fun e => by omega), h2⟩
  · obtain ⟨_, h2⟩ := nm_inj (nmp (by omega) (by omega)) (nmq (by omega) (by omega)) (hn hs) (eqn _) h
    exact absurd h2 (no hs (by decide) (by decide))
  · obtain ⟨_, h2⟩ := nm_inj (nmp (by omega) (by omega)) (nmq (by omega) (by omega)) (eqn _) (hn ht) h
    exact absurd h2.symm (no ht (by decide) (by decide))
  · obtain ⟨h1, h2⟩ := nm_inj (nmp (by omega) (by omega)) (nmq (by omega) (by omega)) (eqn _) (eqn _) h
    obtain ⟨h3, h4⟩ := qt_inj (fun r => no hs (by decide) (by decide)) (fun r => no ht (by decide) (by decide)) (List.cons.inj h2).2
    exact ⟨fin (a.trans b.symm) (fun _ _ => h1) (fun e => h3) (fun e => by omega) (fun e => by omega), h4⟩
  · exact absurd h.symm (no ht (by decide) (by decide))
  · obtain ⟨h3, h4⟩ := qt_inj (fun r => no hs (by decide) (by decide)) (fun r => no ht (by decide) (by decide)) h
    exact ⟨fin (a.trans b.symm) (fun _ _ => by omega) (fun e => h3) (fun e => by omega) (fun e => by omega), h4⟩
  · obtain ⟨h1, h2⟩ := hf a b _ _ (.inr ⟨_, rfl⟩) (.inr ⟨_, rfl⟩) h
    exact ⟨fin (a.trans b.symm) (fun _ _ => by omega) (fun e => by omega) (fun _ => h1) (fun e => by omega), cons41 h2⟩
  · obtain ⟨h1, h2⟩ := hw a b _ _ (.inr ⟨_, rfl⟩) (.inr ⟨_, rfl⟩) h
    exact ⟨fin (a.trans b.symm) (fun _ _ => by omega) (fun e => by omega) (fun e => by omega) (fun _ => h1), cons41 h2⟩
-- Uniq
def Uq (n : Nat) : Prop := ∀ dp dq k p q, dp + dq ≤ n → Gd dp k p → Gd dq k q → LU dp dq k p q ∧ LS dp dq k p q ∧ LA dp dq k p q
theorem mem_alts {d : Nat} {k : Bool} {a x : List C} (h : Gd (d + 1) k a) (hx : x ∈ (alts d k a).2) : (gi a 0 = oA k ∧ (alts d k a).1 = d ∧ Gd d k x) ∨ (gi a 0 ≠ oA k ∧ (alts d k a).1 = d + 1 ∧ x = a) := by
  unfold alts at hx ⊢
  by_cases ho : gi a 0 = oA k
  · rw [if_pos ho] at hx ⊢
    exact .inl ⟨ho, rfl, G_sub h x hx⟩
  · rw [if_neg ho] at hx ⊢
    exact .inr ⟨ho, rfl, by simpa using hx⟩
theorem mem_seqs {d : Nat} {k : Bool} {a x : List C} (h : Gd (d + 1) k a) (hx : x ∈ (seqs d k a).2) : (gi a 0 = oS k ∧ (seqs d k a).1 = d ∧ Gd d k x) ∨ (gi a 0 ≠ oS k ∧ (seqs d k a).1 = d + 1 ∧ x = a) := by
  unfold seqs at hx ⊢
  by_cases ho : gi a 0 = oS k
  · rw [if_pos ho] at hx ⊢
    exact .inl ⟨ho, rfl, G_sub h x hx⟩
  · rw [if_neg ho] at hx ⊢
    exact .inr ⟨ho, rfl, by simpa using hx⟩
theorem uniq : ∀ n, Uq n := by
  intro n
  induction n with
  | zero =>
    intro dp dq k p q h hp hq
    obtain ⟨d, rfl⟩ := G_le hp
    omega
  | succ n ih =>
    -- both a Seq
    have s4 : ∀ d e k p q, d + 1 + (e + 1) ≤ n + 1 → Gd (d + 1) k p → Gd (e + 1) k q → gi p 0 = oS k → gi q 0 = oS k → LS (d + 1) (e + 1) k p q := fun d e k p q h hp hq op oq => LS_of hp hq fun x hx y hy => by
      rcases mem_seqs hp hx with ⟨_, e1, gx⟩ | ⟨h1, _⟩
      · rcases mem_seqs hq hy with ⟨_, e2, gy⟩ | ⟨h1, _⟩
        · rw [e1, e2]
          exact (ih d e k x y (by omega) gx gy).1
        · exact absurd oq h1
      · exact absurd op h1
    -- both in brackets
    have br : ∀ d e k p q, d + 1 + (e + 1) ≤ n + 1 → Gd (d + 1) k p → Gd (e + 1) k q → (gi p 0 = oA k ∨ gi p 0 = oS k) → (gi q 0 = oA k ∨ gi q 0 = oS k) → LA (d + 1) (e + 1) k p q := fun d e k p q h hp hq op oq => LA_of hp hq fun x hx y hy => by
      rcases mem_alts hp hx with ⟨_, e1, gx⟩ | ⟨h1, e1, rfl⟩ <;> rcases mem_alts hq hy with ⟨_, e2, gy⟩ | ⟨h2, e2, rfl⟩ <;> rw [e1, e2]
      · exact (ih d e k x y (by omega) gx gy).2.1
      · exact (ih d (e + 1) k x y (by omega) gx hq).2.1
      · exact (ih (d + 1) e k x y (by omega) hp gy).2.1
      · exact s4 d e k x y h hp hq (op.resolve_left h1) (oq.resolve_left h2)
    -- the parts
    have both : ∀ d e k p q, d + 1 + (e + 1) ≤ n + 1 → Gd (d + 1) k p → Gd (e + 1) k q → (gi p 0 = oA k ∨ gi p 0 = oS k) → (gi q 0 = oA k ∨ gi q 0 = oS k) → ∀ s t, ux (d + 1) k p ++ s = ux (e + 1) k q ++ t → Alike k p q ∧ s = t := fun d e k p q h hp hq op oq s t ht => by
      rw [ux_br op, ux_br oq] at ht
      have ht : 40 :: (tx (d + 1) k p ++ (41 :: s)) = 40 :: (tx (e + 1) k q ++ (41 :: t)) := by simpa [List.append_assoc] using ht
      have ht := (List.cons.inj ht).2
      obtain ⟨h1, h2⟩ := br d e k p q h hp hq op oq _ _ (.inr ⟨_, rfl⟩) (.inr ⟨_, rfl⟩) ht
      exact ⟨h1, cons41 h2⟩
    have cp : ∀ d e p q, d + e ≤ n + 1 → Gd d true p → Gd e true q → gi p 0 ≠ 6 → gi q 0 ≠ 6 → ∀ s t, ux d true p ++ s = ux e true q ++ t → Alike true p q ∧ s = t := fun d e p q h hp hq p6 q6 s t ht => by
      obtain ⟨d, rfl⟩ := G_le hp
      obtain ⟨e, rfl⟩ := G_le hq
      have ne : ∀ {d : Nat} {p : List C} {x s t : List UInt8}, Gd (d + 1) true p → ¬ (gi p 0 = oA true ∨ gi p 0 = oS true) → gi p 0 ≠ 6 → pcore (tx d) p ++ s = 40 :: x ++ t → False := fun {d p x s t} hp np p6 h => by
        have np : ¬ (gi p 0 = 5 ∨ gi p 0 = 4) := np
        have p1 := hp.1.1; have p2 := hp.1.2.1
        have op : gi p 0 = 1 ∨ gi p 0 = 2 ∨ gi p 0 = 3 ∨ gi p 0 = 7 := by omega
        unfold pcore at h
        rcases op with a | a | a | a <;> rw [a] at h <;> simp at h
      by_cases op : gi p 0 = oA true ∨ gi p 0 = oS true <;> by_cases oq : gi q 0 = oA true ∨ gi q 0 = oS true
      · exact both d e true p q h hp hq op oq s t ht
      · rw [ux_br op, ux_core oq] at ht
        exact (ne (x := tx (d + 1) true p ++ [41]) hq oq q6 ht.symm).elim
      · rw [ux_br oq, ux_core op] at ht
        exact (ne (x := tx (e + 1) true q ++ [41]) hp op p6 ht).elim
      · rw [ux_core op, ux_core oq] at ht
        exact pcore_inj hp hq op oq p6 q6 (fun a b => by
          have l1 := hp.1.2.2.2.2.1.1 a
          have l2 := hq.1.2.2.2.2.1.1 b
          exact (ih d e false _ _ (by omega) ⟨hp.1.2.2.2.2.2.2.2.2.2 0 (by omega), hp.2.2 0 (by omega)⟩ ⟨hq.1.2.2.2.2.2.2.2.2.2 0 (by omega), hq.2.2 0 (by omega)⟩).2.2) ht
    have cf : ∀ d e p q, d + e ≤ n + 1 → Gd d false p → Gd e false q → ∀ s t, stU false s → stU false t → ux d false p ++ s = ux e false q ++ t → Alike false p q ∧ s = t := fun d e p q h hp hq s t hs hst ht => by
      obtain ⟨d, rfl⟩ := G_le hp
      obtain ⟨e, rfl⟩ := G_le hq
      have ne : ∀ {d : Nat} {p : List C} {x s t : List UInt8}, Gd (d + 1) false p → ¬ (gi p 0 = oA false ∨ gi p 0 = oS false) → fcore (tx d) p ++ s = 40 :: x ++ t → False := fun {d p x s t} hp np h => by
        have np : ¬ (gi p 0 = 10 ∨ gi p 0 = 9) := np
        have p1 := hp.1.1; have p2 := hp.1.2.1
        have op : gi p 0 = 1 ∨ gi p 0 = 2 ∨ gi p 0 = 3 ∨ gi p 0 = 4 ∨ gi p 0 = 5 ∨ gi p 0 = 6 ∨ gi p 0 = 7 ∨ gi p 0 = 8 ∨ gi p 0 = 11 := by omega
        unfold fcore at h
        rcases op with a | a | a | a | a | a | a | a | a <;> rw [a] at h <;> simp at h
      by_cases op : gi p 0 = oA false ∨ gi p 0 = oS false <;> by_cases oq : gi q 0 = oA false ∨ gi q 0 = oS false
      · exact both d e false p q h hp hq op oq s t ht
      · rw [ux_br op, ux_core oq] at ht
        exact (ne (x := tx (d + 1) false p ++ [41]) hq oq ht.symm).elim
      · rw [ux_br oq, ux_core op] at ht
        exact (ne (x := tx (e + 1) false q ++ [41]) hp op ht).elim
      · rw [ux_core op, ux_core oq] at ht
        exact fcore_inj hp hq op oq (fun a b => by
          have l1 := hp.1.2.2.1 a
          have l2 := hq.1.2.2.1 b
          exact (ih d e false _ _ (by omega) ⟨hp.1.2.2.2.2.2.2.2.2.1 0 (by omega), hp.2.2.1 0 (by omega)⟩ ⟨hq.1.2.2.2.2.2.2.2.2.1 0 (by omega), hq.2.2.1 0 (by omega)⟩).2.2) (fun a b => by
          have l1 := hp.1.2.2.2.2.2.2.1.1 a
          have l2 := hq.1.2.2.2.2.2.2.1.1 b
          exact (ih d e true _ _ (by omega) ⟨hp.1.2.2.2.2.2.2.2.2.2 0 (by omega), hp.2.2.2 0 (by omega)⟩ ⟨hq.1.2.2.2.2.2.2.2.2.2 0 (by omega), hq.2.2.2 0 (by omega)⟩).2.2) (stU_head hs) (stU_head hst) ht
    have U : ∀ d e k p q, d + e ≤ n + 1 → Gd d k p → Gd e k q → LU d e k p q := fun d e k p q h hp hq s t hs ht hx => by
      cases k with
      | false => exact cf d e p q h hp hq s t hs ht hx
      | true =>
        obtain ⟨p1, p2, p3, p4⟩ := strip_spec d p hp
        obtain ⟨q1, q2, q3, q4⟩ := strip_spec e q hq
        rw [p4, q4, List.append_assoc, List.append_assoc] at hx
        obtain ⟨h1, h2⟩ := cp _ _ _ _ (by omega) p1 q1 p3 q3 _ _ hx
        obtain ⟨h3, h4⟩ := rep_inj (stU_star hs) (stU_star ht) h2
        exact ⟨strip_alike d e p q hp hq h3 h1, h4⟩
    have S : ∀ d e k p q, d + e ≤ n + 1 → Gd d k p → Gd e k q → LS d e k p q := fun d e k p q h hp hq => by
      obtain ⟨d, rfl⟩ := G_le hp
      obtain ⟨e, rfl⟩ := G_le hq
      refine LS_of hp hq fun x hx y hy => ?_
      rcases mem_seqs hp hx with ⟨_, e1, gx⟩ | ⟨h1, e1, rfl⟩ <;> rcases mem_seqs hq hy with ⟨_, e2, gy⟩ | ⟨h2, e2, rfl⟩ <;> rw [e1, e2]
      · exact U d e k x y (by omega) gx gy
      · exact U d (e + 1) k x y (by omega) gx hq
      · exact U (d + 1) e k x y (by omega) hp gy
      · exact U (d + 1) (e + 1) k x y h hp hq
    have A : ∀ d e k p q, d + e ≤ n + 1 → Gd d k p → Gd e k q → LA d e k p q := fun d e k p q h hp hq => by
      obtain ⟨d, rfl⟩ := G_le hp
      obtain ⟨e, rfl⟩ := G_le hq
      refine LA_of hp hq fun x hx y hy => ?_
      rcases mem_alts hp hx with ⟨_, e1, gx⟩ | ⟨h1, e1, rfl⟩ <;> rcases mem_alts hq hy with ⟨_, e2, gy⟩ | ⟨h2, e2, rfl⟩ <;> rw [e1, e2]
      · exact S d e k x y (by omega) gx gy
      · exact S d (e + 1) k x y (by omega) gx hq
      · exact S (d + 1) e k x y (by omega) hp gy
      · exact S (d + 1) (e + 1) k x y h hp hq
    exact fun dp dq k p q h hp hq => ⟨U dp dq k p q h hp hq, S dp dq k p q h hp hq, A dp dq k p q h hp hq⟩
theorem map_same {f g : List C → List UInt8} {l m : List (List C)} (hl : l.length = m.length) (h : ∀ i, i < l.length → f (l.getD i []) = g (m.getD i [])) : l.map f = m.map g := by
  apply List.ext_getElem (by simpa using hl)
  intro i h1 h2
  have h1 : i < l.length := by simpa using h1
  have h2 : i < m.length := by simpa using h2
  have := h i h1
  rw [List.getElem_map, List.getElem_map]
  simpa [List.getD_eq_getElem?_getD, List.getElem?_eq_getElem h1, List.getElem?_eq_getElem h2] using this
theorem al_op {k : Bool} {a b : List C} (h : Alike k a b) : gi a 0 = gi b 0 := by cases h <;> assumption
theorem al_sub {k : Bool} {a b : List C} (h : Alike k a b) : (gr a (jS k)).length = (gr b (jS k)).length ∧ ∀ i, i < (gr a (jS k)).length → Alike k ((gr a (jS k)).getD i []) ((gr b (jS k)).getD i []) := by
  cases h with
  | path _ h2 _ h4 _ => exact ⟨h2, h4⟩
  | filter _ _ _ _ h5 _ h7 _ => exact ⟨h5, h7⟩
theorem alike_tx : ∀ d k a b, Gd d k a → Gd d k b → Alike k a b → tx d k a = tx d k b := by
  intro d
  induction d with
  | zero => intro k a b _ _ _; rfl
  | succ d ih =>
    intro k a b ha hb h
    have ho := al_op h
    obtain ⟨hl, hs⟩ := al_sub h
    have sub : ∀ i, i < (gr a (jS k)).length → tx d k ((gr a (jS k)).getD i []) = tx d k ((gr b (jS k)).getD i []) := fun i hi => ih k _ _ (G_sub ha _ (getD_mem hi)) (G_sub hb _ (getD_mem (by omega))) (hs i hi)
    unfold tx
    rw [← ho]
    by_cases h1 : gi a 0 = oA k
    · rw [if_pos h1, if_pos h1]
      congr 1
      exact map_same hl fun i hi => by rw [sub i hi, al_op (hs i hi)]
    · rw [if_neg h1, if_neg h1]
      by_cases h2 : gi a 0 = oS k
      · rw [if_pos h2, if_pos h2]
        congr 1
        exact map_same hl fun i hi => by rw [sub i hi, al_op (hs i hi)]
      · rw [if_neg h2, if_neg h2]
        cases k with
        | true =>
          show pcore _ a = pcore _ b
          unfold pcore
          rw [← ho]
          have n1 : gi a 0 ≠ 5 := h1
          have n2 : gi a 0 ≠ 4 := h2
          have p1 := ha.1.1; have p2 := ha.1.2.1
          cases h with
          | path g1 g2 g3 g4 g5 =>
            have op : gi a 0 = 1 ∨ gi a 0 = 2 ∨ gi a 0 = 3 ∨ gi a 0 = 7 ∨ gi a 0 = 6 := by omega
            rcases op with e | e | e | e | e <;> rw [e]
            · rfl
            · rfl
            · rfl
            · have l1 := ha.1.2.2.2.2.1.1 e
              have := ih false _ _ ⟨ha.1.2.2.2.2.2.2.2.2.2 0 (by omega), ha.2.2 0 (by omega)⟩ ⟨hb.1.2.2.2.2.2.2.2.2.2 0 (by omega), hb.2.2 0 (by omega)⟩ (g5 0 (by omega))
              rw [this]
              rfl
            · have l1 := ha.1.2.2.2.1 e
              have h0 : 0 < (gr a 1).length := by omega
              have s0 := sub 0 h0
              have s1 := al_op (g4 0 h0)
              have s0 : tx d true ((gr a 1).getD 0 []) = tx d true ((gr b 1).getD 0 []) := s0
              rw [s0, s1]
              rfl
        | false =>
          show fcore _ a = fcore _ b
          unfold fcore
          rw [← ho]
          cases h with
          | filter g1 g2 g3 g4 g5 g6 g7 g8 =>
            rw [← g2, ← g3, ← g4]
            have n1 : gi a 0 ≠ 10 := h1
            have n2 : gi a 0 ≠ 9 := h2
            have p1 := ha.1.1; have p2 := ha.1.2.1
            have op : gi a 0 = 1 ∨ gi a 0 = 2 ∨ gi a 0 = 3 ∨ gi a 0 = 4 ∨ gi a 0 = 5 ∨ gi a 0 = 6 ∨ gi a 0 = 7 ∨ gi a 0 = 8 ∨ gi a 0 = 11 := by omega
            rcases op with e | e | e | e | e | e | e | e | e <;> rw [e]
            all_goals first | rfl | skip
            · have l1 := ha.1.2.2.1 e
              have h0 : 0 < (gr a 4).length := by omega
              have s0 : tx d false ((gr a 4).getD 0 []) = tx d false ((gr b 4).getD 0 []) := sub 0 h0
              rw [s0]
              rfl
            · have l1 := ha.1.2.2.2.2.2.2.1.1 e
              have := ih true _ _ ⟨ha.1.2.2.2.2.2.2.2.2.2 0 (by omega), ha.2.2.2 0 (by omega)⟩ ⟨hb.1.2.2.2.2.2.2.2.2.2 0 (by omega), hb.2.2.2 0 (by omega)⟩ (g8 0 (by omega))
              rw [this]
              rfl
theorem tx_iff {p q : List C} (hp : Gd 16 true p) (hq : Gd 16 true q) : tx 16 true p = tx 16 true q ↔ Alike true p q :=
  ⟨fun h => ((uniq 32 16 16 true p q (Nat.le_refl _) hp hq).2.2 [] [] (.inl rfl) (.inl rfl) (by rw [h])).1, fun h => alike_tx 16 true p q hp hq h⟩
end Go.Vm.T
