/- The plain law. -/
import Derived.Test.YtfogiadkbdogcaaVmEq
import Derived.Test.YtfogiadkbdogcaaVmThree
/- The document's runes: each function of them comes to an answer. -/

set_option linter.unusedVariables false
set_option linter.unusedSimpArgs false
namespace Go.Vm.T
open Go Go.Vm Go.Proofs
attribute [local irreducible] lv oriellaw12_PathSpells_b oriellaw12_awake_b oriellaw12_named_b path_Speaks_b path_Speaks_l0 path_Speaks_l1 path_gather_path_b path_gather_path_l0 path_gather_path_l1 path_gather_filter_b path_gather_filter_l0 path_gather_filter_l1 api_Name_b path_gather_attr_b path_add_string_b api_Name_2_b api_Name_3_b api_Name_3_l0 slices_Contains_string_string_b slices_Index_string_string_b slices_Index_string_string_l0 path_Right_b path_measured_b path_measure_path_b path_measure_path_l0 path_measure_path_l1 path_measure_path_l2 path_measure_path_l3 path_measure_part_b path_add_string_2_b path_measure_filter_b path_measure_filter_l0 path_measure_filter_l1 path_shape_b path_shape_l0 path_shape_l1 path_shape_l2 path_named_b path_value_b name_Plain_b name_Plain_l0 utf_All_b utf_All_l0 utf_All_l1 char_Start_b utf_Rune_b utf_Rune_l0 utf_Rune_l1 utf_Rune_l2 utf_Rune_l3 char_in_b char_in_l0 utf_forms_b char_All_b char_All_l0 char_All_l1 utf_span_b char_Char_b char_Blank_b strings_ContainsAny_b char_Part_b strings_IndexAny_b strings_IndexAny_l0 strings_IndexRune_b strings_IndexRune_l0 strings_shouldUseASCIISet_b utf8_ValidRune_b path_Size_b orielref12_Right_b path_Same_b orielref12_Size_b api_Path_b api_Path_l0 orielref12_size_b orielref12_size_l0 orielref12_size_l1 orielref12_sizeFilter_b orielref12_sizeFilter_l0 orielref12_sizeFilter_l1 api_Filter_b api_Filter_l0 path_sameFilter_b orielref12_path_b orielref12_path_l0 orielref12_path_l1 orielref12_filter_b orielref12_filter_l0 orielref12_filter_l1 orielref12_filter_l2 orielref12_filter_l3 orielref12_filter_l4 orielref12_named_b orielref04_Right_b orielref04_Right_l0 orielref03_Plain_b orielref03_Plain_l0 orielref01_All_b orielref01_All_l0 orielref01_All_l1 orielref02_Start_b orielref01_Rune_b orielref01_Rune_l0 orielref01_Put_b orielref01_cut_b orielref01_cut_l0 orielref01_cut_l1 orielref01_cut_l2 orielref01_cut_l3 orielref01_cut_l4 orielref01_value_b orielref01_value_l0 orielref01_value_l1 orielref02_Char_b orielref02_Part_b orielref01_begins_b orielref01_begins_l0 orielref02_Blank_b orielref05_Find_b orielref05_Find_l0
theorem value_tot (s : ByteArray) (at_ n : Int) (h0 : 0 ≤ at_) (h1 : at_ + n ≤ s.size) (h2 : 0 ≤ n) (hn : n ≤ 4) (hs : s.size ≤ 2097152) : Tot (fun k _ _ => (lv k).orielref01_value s at_ n) (fun _ => True) := by
  have hl : ∀ (d : Nat) (v3 v4 : Int), 0 ≤ v4 → (n - v4).toNat = d → Tot (fun k a b => orielref01_value_l0 (lv k) k s at_ n a v3 v4) (fun _ => True) := by
    intro d
    induction d with
    | zero =>
      intro v3 v4 h3 h4
      refine Tot.step0 (fun k a b => orielref01_value_l0_q (lv k) k s at_ n a v3 v4) ?_
      exact Tot.f (decide_eq_false (by omega)) (Tot.ret trivial)
    | succ d ih =>
      intro v3 v4 h3 h4
      have hi : ∀ v, Tot (fun k a b => orielref01_value_l0 (lv k) k s at_ n a v (IntKind.i64.wrap (v4 + 1))) (fun _ => True) := fun v => by
        rw [wrap_id (by omega) (by omega)]
        exact ih v (v4 + 1) (by omega) (by omega)
      have hm : ∀ v5, Tot (fun k a b => orielref01_value_l1 (lv k) k s at_ n a v3 v4 v5) (fun _ => True) := fun v5 => by
        refine Tot.congr ?_ (fun k a b => orielref01_value_l1_q (lv k) k s at_ n a v3 v4 v5)
        repeat' first
          | refine Tot.cond (fun _ => ?_) (fun _ => ?_)
          | exact hi _
      refine Tot.step0 (fun k a b => orielref01_value_l0_q (lv k) k s at_ n a v3 v4) ?_
      have hw : IntKind.i64.wrap (at_ + v4) = at_ + v4 := wrap_id (by omega) (by omega)
      refine Tot.t (decide_eq_true (by omega)) (Tot.t (decide_eq_true (by omega)) (Tot.t (decide_eq_true (by omega)) ?_))
      repeat' first
        | refine Tot.cond (fun _ => ?_) (fun _ => ?_)
        | exact hm _
  exact orielref01_value_up _ _ _ (Tot.congr (Tot.in0 (hl _ 0 0 (by omega) rfl)) (fun k _ _ => orielref01_value_q (lv k) k s at_ n))
theorem put_tot (r : Int) : Tot (fun k _ _ => (lv k).orielref01_Put r) (fun l => l.length ≤ 4) := by
  refine orielref01_Put_up _ (Tot.congr ?_ (fun k _ _ => orielref01_Put_q (lv k) k r))
  repeat' first
    | refine Tot.cond (fun _ => ?_) (fun _ => ?_)
    | exact Tot.ret (by simp)
theorem begins_tot (s : ByteArray) (at_ : Int) (l : List (List C)) (h0 : 0 ≤ at_) (h1 : at_ ≤ s.size) (hl : l.length ≤ 2097152) (hs : s.size ≤ 2097160) : Tot (fun k _ _ => (lv k).orielref01_begins s at_ l) (fun _ => True) := by
  refine orielref01_begins_up _ _ _ (Tot.congr ?_ (fun k _ _ => orielref01_begins_q (lv k) k s at_ l))
  have hw : IntKind.i64.wrap (at_ + (l.length : Int)) = at_ + l.length := wrap_id (by omega) (by omega)
  rw [hw]
  refine Tot.cond (fun _ => Tot.ret trivial) (fun _ => Tot.cond (fun _ => Tot.ret trivial) (fun hc => ?_))
  have hc := of_decide_eq_false hc
  have hl : ∀ (d : Nat) (v3 : Int), 0 ≤ v3 → ((l.length : Int) - v3).toNat = d → Tot (fun k a b => orielref01_begins_l0 (lv k) k s at_ l a v3) (fun _ => True) := by
    intro d
    induction d with
    | zero =>
      intro v3 h3 h4
      refine Tot.step0 (fun k a b => orielref01_begins_l0_q (lv k) k s at_ l a v3) ?_
      exact Tot.f (decide_eq_false (by omega)) (Tot.ret trivial)
    | succ d ih =>
      intro v3 h3 h4
      refine Tot.step0 (fun k a b => orielref01_begins_l0_q (lv k) k s at_ l a v3) ?_
      have hw : IntKind.i64.wrap (at_ + v3) = at_ + v3 := wrap_id (by omega) (by omega)
      rw [hw, wrap_id (x := v3 + 1) (by omega) (by omega)]
      refine Tot.t (decide_eq_true (by omega)) (Tot.t (decide_eq_true (by omega)) (Tot.t (decide_eq_true (by omega)) (Tot.t (decide_eq_true (by omega)) (Tot.t (decide_eq_true (by omega)) ?_))))
      exact Tot.cond (fun _ => Tot.ret trivial) (fun _ => ih _ (by omega) (by omega))
  exact Tot.in0 (hl _ 0 (by omega) rfl)
-- UtfB
theorem size_rowBytes (l : List (List C)) : (rowBytes l).size = l.length := by
  unfold rowBytes
  show (List.toArray _).size = _
  rw [List.size_toArray, List.length_map]
theorem len_bytesRow (s : ByteArray) : (bytesRow s).length = s.size := by
  unfold bytesRow
  rw [List.length_map, Array.length_toList]
  rfl
theorem size_app (a b : ByteArray) : (a ++ b).size = a.size + b.size := by simp
theorem size_extract (s : ByteArray) (a b : Nat) : (s.extract a b).size = min b s.size - a := by simp
set_option maxRecDepth 100000 in
theorem cut_tot (s : ByteArray) (at_ : Int) (h0 : 0 ≤ at_) (h1 : at_ ≤ s.size) (hs : s.size ≤ 1048576) : Tot (fun k _ _ => (lv k).orielref01_cut s at_) (fun _ => True) := by
  have hw : IntKind.i64.wrap ((s.size : Int) - at_) = s.size - at_ := wrap_id (by omega) (by omega)
  refine orielref01_cut_up _ _ (Tot.congr ?_ (fun k _ _ => orielref01_cut_q (lv k) k s at_))
  rw [hw]
  refine Tot.cond (fun _ => Tot.ret trivial) (fun hn => Tot.cond (fun _ => Tot.ret trivial) (fun hn2 => ?_))
  have hn := of_decide_eq_false hn
  have hn2 := of_decide_eq_false hn2
  rw [wrap_id (x := (s.size : Int) - at_ + 1) (by omega) (by omega)]
  have hx : (s.extract at_.toNat ((s.size : Int).toNat)).size = s.size - at_.toNat := by rw [size_extract]; omega
  have key : ∀ (d : Nat) (v3 : Int), (s.size : Int) - at_ + 1 ≤ v3 → (5 - v3).toNat = d → Tot (fun k a b => orielref01_cut_l0 (lv k) k s at_ a v3) (fun _ => True) := by
    intro d
    induction d with
    | zero =>
      intro v3 h3 h4
      refine Tot.step0 (fun k a b => orielref01_cut_l0_q (lv k) k s at_ a v3) ?_
      exact Tot.f (decide_eq_false (by omega)) (Tot.ret trivial)
    | succ d ih =>
      intro v3 h3 h4
      have hnext : Tot (fun k a b => orielref01_cut_l0 (lv k) k s at_ a (IntKind.i64.wrap (v3 + 1))) (fun _ => True) := by
        rw [wrap_id (by omega) (by omega)]
        exact ih _ (by omega) (by omega)
      have h4l : ∀ (d : Nat) (v5 v6 v7 : Int), 0 ≤ v7 → (64 - v7).toNat = d → Tot (fun k a b => orielref01_cut_l4 (lv k) k s at_ a b v3 v5 v6 v7) (fun _ => True) := by
        intro d
        induction d with
        | zero =>
          intro v5 v6 v7 h5 h6
          refine Tot.step1 (fun k a b => orielref01_cut_l4_q (lv k) k s at_ a b v3 v5 v6 v7) ?_
          exact Tot.f (decide_eq_false (by omega)) hnext
        | succ d ihd =>
          intro v5 v6 v7 h5 h6
          refine Tot.step1 (fun k a b => orielref01_cut_l4_q (lv k) k s at_ a b v3 v5 v6 v7) ?_
          have hi : Tot (fun k a b => orielref01_cut_l4 (lv k) k s at_ a b v3 v5 v6 (IntKind.i64.wrap (v7 + 1))) (fun _ => True) := by
            rw [wrap_id (by omega) (by omega)]
            exact ihd v5 v6 _ (by omega) (by omega)
          have hp : ∀ r, Tot (fun k a b => ((lv k).orielref01_Put r).bind fun r1 => cond ((r1.length : Int) == v3) (cond (decide ((rowBytes r1).size + (⟨#[120]⟩ : ByteArray).size ≤ 4611686018427387904)) (cond (roomy Try.prog 5 ((s.extract at_.toNat ((s.size : Int).toNat)).size)) (((lv k).orielref01_begins ((rowBytes r1) ++ (⟨#[120]⟩ : ByteArray)) 0 (bytesRow (s.extract at_.toNat ((s.size : Int).toNat)))).bind fun r2 => cond r2 (some true) (orielref01_cut_l4 (lv k) k s at_ a b v3 v5 v6 (IntKind.i64.wrap (v7 + 1)))) none) none) (orielref01_cut_l4 (lv k) k s at_ a b v3 v5 v6 (IntKind.i64.wrap (v7 + 1)))) (fun _ => True) := fun r => by
            refine Tot.bind (put_tot r) fun r1 hr1 => Tot.cond (fun _ => ?_) (fun _ => hi)
            have e1 : (⟨#[120]⟩ : ByteArray).size = 1 := rfl
            refine Tot.t (decide_eq_true (by rw [size_rowBytes, e1]; omega)) (Tot.t (roomy_of (by have : Try.prog.bytesOf 5 = 1 := by kernel_rfl
                                                                                                  omega) (by omega)) ?_)
            refine Tot.bind (begins_tot _ 0 _ (by omega) (by omega) (by rw [len_bytesRow]; omega) (by rw [size_app, size_rowBytes, e1]; omega)) fun r2 _ => Tot.cond (fun _ => Tot.ret trivial) (fun _ => hi)
          refine Tot.t (decide_eq_true (by omega)) (Tot.cond (fun _ => hp _) (fun _ => hp _))
      have h3l : ∀ v5 v6 v7 v8, Tot (fun k a b => orielref01_cut_l3 (lv k) k s at_ a v3 v5 v6 v7 v8) (fun _ => True) := fun v5 v6 v7 v8 => by
        refine Tot.congr ?_ (fun k a b => orielref01_cut_l3_q (lv k) k s at_ a v3 v5 v6 v7 v8)
        exact Tot.cond (fun _ => hnext) (fun _ => Tot.cond (fun _ => hnext) (fun _ => Tot.in1 (h4l _ v5 v6 0 (by omega) rfl)))
      have h2l : ∀ (d : Nat) (v5 v6 : Int) (v7 : Bool) (v8 : Int), 1 ≤ v8 → ((s.size : Int) - at_ - v8).toNat = d → Tot (fun k a b => orielref01_cut_l2 (lv k) k s at_ a b v3 v5 v6 v7 v8) (fun _ => True) := by
        intro d
        induction d with
        | zero =>
          intro v5 v6 v7 v8 h5 h6
          refine Tot.step1 (fun k a b => orielref01_cut_l2_q (lv k) k s at_ a b v3 v5 v6 v7 v8) ?_
          rw [hw]
          refine Tot.f (decide_eq_false (by omega)) ?_
          have g1 : decide ((0 : Int) ≤ at_) = true := decide_eq_true h0
          have g2 : decide (at_ < (s.size : Int)) = true := decide_eq_true (by omega)
          repeat' first
            | exact h3l _ _ _ _
            | refine Tot.t g1 ?_
            | refine Tot.t g2 ?_
            | refine Tot.cond (fun _ => ?_) (fun _ => ?_)
        | succ d ihd =>
          intro v5 v6 v7 v8 h5 h6
          refine Tot.step1 (fun k a b => orielref01_cut_l2_q (lv k) k s at_ a b v3 v5 v6 v7 v8) ?_
          rw [hw, wrap_id (x := at_ + v8) (by omega) (by omega), wrap_id (x := v8 + 1) (by omega) (by omega)]
          refine Tot.t (decide_eq_true (by omega)) ?_
          have g1 : decide ((0 : Int) ≤ at_ + v8) = true := decide_eq_true (by omega)
          have g2 : decide (at_ + v8 < (s.size : Int)) = true := decide_eq_true (by omega)
          repeat' first
            | exact ihd _ _ _ _ (by omega) (by omega)
            | refine Tot.t g1 ?_
            | refine Tot.t g2 ?_
            | refine Tot.cond (fun _ => ?_) (fun _ => ?_)
      have h1l : ∀ (d : Nat) (v5 v6 : ByteArray), v5.size = v6.size → v5.size ≤ 2097152 → (v3 - v5.size).toNat = d → Tot (fun k a b => orielref01_cut_l1 (lv k) k s at_ a b v3 v5 v6) (fun _ => True) := by
        intro d
        induction d with
        | zero =>
          intro v5 v6 h5 h6 h7
          refine Tot.step1 (fun k a b => orielref01_cut_l1_q (lv k) k s at_ a b v3 v5 v6) ?_
          refine Tot.f (decide_eq_false (by omega)) ?_
          exact Tot.bind (value_tot v5 0 v3 (by omega) (by omega) (by omega) (by omega) h6) fun r1 _ => Tot.bind (value_tot v6 0 v3 (by omega) (by omega) (by omega) (by omega) (by omega)) fun r2 _ => Tot.in1 (h2l _ r1 r2 true 1 (by omega) rfl)
        | succ d ihd =>
          intro v5 v6 h5 h6 h7
          refine Tot.step1 (fun k a b => orielref01_cut_l1_q (lv k) k s at_ a b v3 v5 v6) ?_
          have e1 : (⟨#[128]⟩ : ByteArray).size = 1 := rfl
          have e2 : (⟨#[191]⟩ : ByteArray).size = 1 := rfl
          refine Tot.t (decide_eq_true (by omega)) (Tot.t (decide_eq_true (by rw [e1]; omega)) (Tot.t (decide_eq_true (by rw [e2]; omega)) ?_))
          exact ihd _ _ (by rw [size_app, size_app, e1, e2]; omega) (by rw [size_app, e1]; omega) (by rw [size_app, e1]; omega)
      refine Tot.step0 (fun k a b => orielref01_cut_l0_q (lv k) k s at_ a v3) ?_
      refine Tot.t (decide_eq_true (by omega)) (Tot.t (decide_eq_true (by omega)) (Tot.t (decide_eq_true (by omega)) (Tot.t (decide_eq_true (by omega)) (Tot.t (decide_eq_true (by omega)) ?_))))
      exact Tot.in1 (h1l _ _ _ rfl (by rw [hx]; omega) rfl)
  exact Tot.in0 (key _ _ (by omega) rfl)
theorem rune_tot (s : ByteArray) (at_ : Int) (h0 : 0 ≤ at_) (hs : s.size ≤ 1048576) : Tot (fun k _ _ => (lv k).orielref01_Rune s at_) (fun r => r.2.2 = 0 → 1 ≤ r.2.1 ∧ r.2.1 ≤ 4 ∧ at_ + r.2.1 ≤ s.size) := by
  refine orielref01_Rune_up _ _ (Tot.congr ?_ (fun k _ _ => orielref01_Rune_q (lv k) k s at_))
  refine Tot.cond (fun _ => Tot.ret (fun h => by cases h)) (fun h1 => Tot.cond (fun _ => Tot.ret (fun h => by cases h)) (fun h2 => ?_))
  have h1 := of_decide_eq_false h1
  have h2 := of_decide_eq_false h2
  have hc : Tot (fun k a b => ((lv k).orielref01_cut s at_).bind fun r7 => cond r7 (some ((0 : Int), (0 : Int), (7 : Int))) (some (0, 0, 2))) (fun r => r.2.2 = 0 → 1 ≤ r.2.1 ∧ r.2.1 ≤ 4 ∧ at_ + r.2.1 ≤ s.size) :=
    Tot.bind (cut_tot s at_ h0 (by omega) hs) fun r _ => Tot.cond (fun _ => Tot.ret (fun h => by cases h)) (fun _ => Tot.ret (fun h => by cases h))
  have key : ∀ (d : Nat) (v2 : Int), 1 ≤ v2 → (5 - v2).toNat = d → Tot (fun k a b => orielref01_Rune_l0 (lv k) k s at_ a v2) (fun r => r.2.2 = 0 → 1 ≤ r.2.1 ∧ r.2.1 ≤ 4 ∧ at_ + r.2.1 ≤ s.size) := by
    intro d
    induction d with
    | zero =>
      intro v2 h3 h4
      refine Tot.step0 (fun k a b => orielref01_Rune_l0_q (lv k) k s at_ a v2) ?_
      exact Tot.f (decide_eq_false (by omega)) hc
    | succ d ih =>
      intro v2 h3 h4
      refine Tot.step0 (fun k a b => orielref01_Rune_l0_q (lv k) k s at_ a v2) ?_
      rw [wrap_id (x := at_ + v2) (by omega) (by omega), wrap_id (x := v2 + 1) (by omega) (by omega)]
      have hi := ih (v2 + 1) (by omega) (by omega)
      refine Tot.t (decide_eq_true (by omega)) (Tot.cond (fun h5 => ?_) (fun _ => hc))
      have h5 := of_decide_eq_true h5
      have hp : ∀ v, Tot (fun k a b => ((lv k).orielref01_Put v).bind fun r2 => cond ((r2.length : Int) == v2) (((lv k).orielref01_begins s at_ r2).bind fun r3 => cond r3 (some (v, v2, 0)) (orielref01_Rune_l0 (lv k) k s at_ a (v2 + 1))) (orielref01_Rune_l0 (lv k) k s at_ a (v2 + 1))) (fun r => r.2.2 = 0 → 1 ≤ r.2.1 ∧ r.2.1 ≤ 4 ∧ at_ + r.2.1 ≤ s.size) := fun v =>
        Tot.bind (put_tot v) fun r2 hr2 => Tot.cond (fun _ => Tot.bind (begins_tot s at_ r2 h0 (by omega) (by omega) (by omega)) fun r3 _ => Tot.cond (fun _ => Tot.ret (fun _ => ⟨h3, by show v2 ≤ 4; omega, h5⟩)) (fun _ => hi)) (fun _ => hi)
      refine Tot.t (decide_eq_true (by omega)) (Tot.t (decide_eq_true (by omega)) (Tot.cond (fun h6 => ?_) (fun _ => hp _)))
      exact Tot.bind (value_tot s at_ v2 h0 (by omega) (by omega) (by omega) (by omega)) fun r1 _ => hp r1
  exact Tot.in0 (key _ 1 (by omega) rfl)
theorem all_tot (s : ByteArray) (hs : s.size ≤ 1048576) : Tot (fun k _ _ => (lv k).orielref01_All s) (fun r => r.1.length ≤ 1048576) := by
  refine orielref01_All_up _ (Tot.congr ?_ (fun k _ _ => orielref01_All_q (lv k) k s))
  have key : ∀ (d : Nat) (v1 : Int) (v2 : List (List C)), 0 ≤ v1 → v1 ≤ s.size → (v2.length : Int) ≤ v1 → ((s.size : Int) - v1).toNat ≤ d → Tot (fun k a b => orielref01_All_l1 (lv k) k s a v1 v2) (fun r => r.1.length ≤ 1048576) := by
    intro d
    induction d with
    | zero =>
      intro v1 v2 h0 h1 h2 h3
      refine Tot.step0 (fun k a b => orielref01_All_l1_q (lv k) k s a v1 v2) ?_
      exact Tot.f (decide_eq_false (by omega)) (Tot.ret (by show v2.length ≤ 1048576; omega))
    | succ d ih =>
      intro v1 v2 h0 h1 h2 h3
      refine Tot.step0 (fun k a b => orielref01_All_l1_q (lv k) k s a v1 v2) ?_
      refine Tot.cond (fun h4 => ?_) (fun _ => Tot.ret (by show v2.length ≤ 1048576; omega))
      refine Tot.bind (rune_tot s v1 h0 hs) fun r hr => Tot.cond (fun _ => Tot.ret (by show v2.length ≤ 1048576; omega)) (fun h5 => ?_)
      have h5 : r.2.2 = 0 := by simpa using h5
      obtain ⟨h6, h7, h8⟩ := hr h5
      rw [wrap_id (by omega) (by omega)]
      refine Tot.t (roomy_of (by have : Try.prog.bytesOf 21 = 4 := by kernel_rfl
                                 omega) (by omega)) (ih _ _ (by omega) (by omega) (by rw [List.length_append]; simp; omega) (by omega))
  refine Tot.in0 (g := fun k a _ => orielref01_All_l0 (lv k) k s a) (Tot.step0 (fun k a b => orielref01_All_l0_q (lv k) k s a) ?_)
  refine Tot.cond (fun h4 => ?_) (fun _ => Tot.ret (by show ([] : List (List C)).length ≤ 1048576; simp))
  refine Tot.bind (rune_tot s 0 (by omega) hs) fun r hr => Tot.cond (fun _ => Tot.ret (by show ([] : List (List C)).length ≤ 1048576; simp)) (fun h5 => ?_)
  have h5 : r.2.2 = 0 := by simpa using h5
  obtain ⟨h6, h7, h8⟩ := hr h5
  rw [wrap_id (by omega) (by omega)]
  exact key _ _ _ (by omega) (by omega) (by simp; omega) (Nat.le_refl _)
theorem blank_tot (r : Int) : Tot (fun k _ _ => (lv k).orielref02_Blank r) (fun _ => True) := by
  refine orielref02_Blank_up _ (Tot.congr ?_ (fun k _ _ => orielref02_Blank_q (lv k) k r))
  repeat' first
    | refine Tot.cond (fun _ => ?_) (fun _ => ?_)
    | exact Tot.ret trivial
theorem char_tot (r : Int) : Tot (fun k _ _ => (lv k).orielref02_Char r) (fun _ => True) := by
  refine orielref02_Char_up _ (Tot.congr ?_ (fun k _ _ => orielref02_Char_q (lv k) k r))
  repeat' first
    | refine Tot.cond (fun _ => ?_) (fun _ => ?_)
    | exact Tot.ret trivial
    | refine Tot.bind (blank_tot _) fun _ _ => ?_
set_option maxRecDepth 100000 in
theorem start_tot (r : Int) : Tot (fun k _ _ => (lv k).orielref02_Start r) (fun _ => True) := by
  refine orielref02_Start_up _ (Tot.congr ?_ (fun k _ _ => orielref02_Start_q (lv k) k r))
  repeat' first
    | refine Tot.cond (fun _ => ?_) (fun _ => ?_)
    | exact Tot.ret trivial
set_option maxRecDepth 100000 in
theorem part_tot (r : Int) : Tot (fun k _ _ => (lv k).orielref02_Part r) (fun _ => True) := by
  refine orielref02_Part_up _ (Tot.congr ?_ (fun k _ _ => orielref02_Part_q (lv k) k r))
  repeat' first
    | refine Tot.cond (fun _ => ?_) (fun _ => ?_)
    | exact Tot.ret trivial
    | refine Tot.bind (start_tot _) fun _ _ => ?_
theorem right4_tot (s : ByteArray) (hs : s.size ≤ 1048576) : Tot (fun k _ _ => (lv k).orielref04_Right s) (fun _ => True) := by
  refine orielref04_Right_up _ (Tot.congr ?_ (fun k _ _ => orielref04_Right_q (lv k) k s))
  refine Tot.bind (all_tot s hs) fun r hr => ?_
  have key : ∀ (d : Nat) (v1 : Int), 0 ≤ v1 → ((r.1.length : Int) - v1).toNat = d → Tot (fun k a b => orielref04_Right_l0 (lv k) k s a r.2.2 v1 r.1) (fun _ => True) := by
    intro d
    induction d with
    | zero =>
      intro v1 h0 h1
      refine Tot.step0 (fun k a b => orielref04_Right_l0_q (lv k) k s a r.2.2 v1 r.1) ?_
      exact Tot.f (decide_eq_false (by omega)) (Tot.ret trivial)
    | succ d ih =>
      intro v1 h0 h1
      refine Tot.step0 (fun k a b => orielref04_Right_l0_q (lv k) k s a r.2.2 v1 r.1) ?_
      rw [wrap_id (x := v1 + 1) (by omega) (by omega)]
      refine Tot.t (decide_eq_true (by omega)) (Tot.t (decide_eq_true (by omega)) (Tot.t (decide_eq_true (by omega)) ?_))
      exact Tot.bind (char_tot _) fun r1 _ => Tot.cond (fun _ => Tot.ret trivial) (fun _ => ih _ (by omega) (by omega))
  exact Tot.in0 (key _ 0 (by omega) rfl)
theorem len_runesRow (s : ByteArray) : (runesRow s).length ≤ s.size := by
  unfold runesRow
  rw [List.length_map]
  exact runesAux_length s s.size 0
theorem plain_tot (s : ByteArray) (hs : s.size ≤ 1048576) : Tot (fun k _ _ => (lv k).orielref03_Plain s) (fun _ => True) := by
  refine orielref03_Plain_up _ (Tot.congr ?_ (fun k _ _ => orielref03_Plain_q (lv k) k s))
  have hl := len_runesRow s
  refine Tot.t (roomy_of (by have : Try.prog.bytesOf 21 = 4 := by kernel_rfl
                             omega) (by omega)) ?_
  refine Tot.cond (fun _ => Tot.ret trivial) (fun h1 => ?_)
  have h1 : (runesRow s).length ≠ 0 := by simpa using h1
  refine Tot.t (decide_eq_true (by omega)) (Tot.bind (start_tot _) fun r _ => Tot.cond (fun _ => Tot.ret trivial) (fun _ => ?_))
  have key : ∀ (d : Nat) (v1 : Int), 0 ≤ v1 → (((runesRow s).length : Int) - v1).toNat = d → Tot (fun k a b => orielref03_Plain_l0 (lv k) k s a v1) (fun _ => True) := by
    intro d
    induction d with
    | zero =>
      intro v1 h0 h1
      refine Tot.step0 (fun k a b => orielref03_Plain_l0_q (lv k) k s a v1) ?_
      exact Tot.f (decide_eq_false (by omega)) (Tot.ret trivial)
    | succ d ih =>
      intro v1 h0 h1
      refine Tot.step0 (fun k a b => orielref03_Plain_l0_q (lv k) k s a v1) ?_
      rw [wrap_id (x := v1 + 1) (by omega) (by omega)]
      refine Tot.t (decide_eq_true (by omega)) (Tot.t (decide_eq_true (by omega)) (Tot.t (decide_eq_true (by omega)) ?_))
      exact Tot.bind (part_tot _) fun r1 _ => Tot.cond (fun _ => Tot.ret trivial) (fun _ => ih _ (by omega) (by omega))
  exact Tot.in0 (key _ 0 (by omega) rfl)
theorem find_tot (s : ByteArray) (x : ByteArray) (hs : s.size ≤ 1048576) (hx : x.size ≤ 1048576) : Tot (fun k _ _ => (lv k).orielref05_Find s 0 x) (fun _ => True) := by
  refine orielref05_Find_up _ _ _ (Tot.congr ?_ (fun k _ _ => orielref05_Find_q (lv k) k s 0 x))
  have key : ∀ (d : Nat) (v2 : Int), 0 ≤ v2 → v2 ≤ 1048577 → ((s.size : Int) + 1 - v2).toNat = d → Tot (fun k a b => orielref05_Find_l0 (lv k) k s 0 x a v2) (fun _ => True) := by
    intro d
    induction d with
    | zero =>
      intro v2 h0 h1 h2
      refine Tot.step0 (fun k a b => orielref05_Find_l0_q (lv k) k s 0 x a v2) ?_
      rw [wrap_id (x := v2 + (x.size : Int)) (by omega) (by omega)]
      exact Tot.f (decide_eq_false (by omega)) (Tot.ret trivial)
    | succ d ih =>
      intro v2 h0 h1 h2
      refine Tot.step0 (fun k a b => orielref05_Find_l0_q (lv k) k s 0 x a v2) ?_
      rw [wrap_id (x := v2 + (x.size : Int)) (by omega) (by omega), wrap_id (x := v2 + 1) (by omega) (by omega)]
      refine Tot.cond (fun h3 => ?_) (fun _ => Tot.ret trivial)
      have h3 := of_decide_eq_true h3
      refine Tot.t (decide_eq_true (by omega)) (Tot.t (decide_eq_true (by omega)) (Tot.t (decide_eq_true (by omega)) (Tot.t (decide_eq_true (by omega)) ?_)))
      exact Tot.cond (fun _ => Tot.ret trivial) (fun _ => ih _ (by omega) (by omega) (by omega))
  exact Tot.in0 (key _ 0 (by omega) (by omega) rfl)
theorem named_tot (s t : ByteArray) (hs : s.size ≤ 1048576) (ht : t.size ≤ 1048576) : Tot (fun k _ _ => (lv k).orielref12_named s t) (fun _ => True) := by
  refine orielref12_named_up _ _ (Tot.congr ?_ (fun k _ _ => orielref12_named_q (lv k) k s t))
  refine Tot.cond (fun _ => Tot.bind (plain_tot t ht) fun r1 _ => Tot.cond (fun _ => Tot.bind (right4_tot t ht) fun r2 _ => Tot.cond (fun _ => Tot.bind (right4_tot s hs) fun r3 _ => Tot.cond (fun _ => Tot.bind (find_tot s _ hs ?_) fun r4 _ => Tot.cond (fun _ => Tot.bind (find_tot s _ hs ?_) fun r5 _ => Tot.ret trivial) (fun _ => Tot.ret trivial)) (fun _ => Tot.ret trivial)) (fun _ => Tot.ret trivial)) (fun _ => Tot.ret trivial)) (fun _ => Tot.ret trivial)
  · have : (⟨#[123]⟩ : ByteArray).size = 1 := rfl
    omega
  · have : (⟨#[125]⟩ : ByteArray).size = 1 := rfl
    omega
-- Right
abbrev BB : Nat := 1048576
/-- a right path (true), a right filter (false), as far as d parts lie within one another -/
def ok : Nat → Bool → List C → Prop
  | 0, _, _ => False
  | d + 1, true, a => 1 ≤ gi a 0 ∧ gi a 0 ≤ 7 ∧ (gi a 0 = 4 ∨ gi a 0 = 5 → 2 ≤ (gr a 1).length) ∧ (gi a 0 = 6 → (gr a 1).length = 1) ∧ (gi a 0 = 7 ↔ (gr a 2).length = 1) ∧ (gr a 2).length ≤ 1 ∧ (gr a 1).length ≤ 64 ∧ (gi a 0 ≠ 4 → gi a 0 ≠ 5 → gi a 0 ≠ 6 → (gr a 1).length = 0) ∧ (∀ i, i < (gr a 1).length → ok d true ((gr a 1).getD i [])) ∧ (∀ i, i < (gr a 2).length → ok d false ((gr a 2).getD i []))
  | d + 1, false, a => 1 ≤ gi a 0 ∧ gi a 0 ≤ 11 ∧ (gi a 0 = 8 → (gr a 4).length = 1) ∧ (gr a 4).length ≤ 64 ∧ (gi a 0 = 9 ∨ gi a 0 = 10 → 2 ≤ (gr a 4).length) ∧ (gi a 0 ≠ 8 → gi a 0 ≠ 9 → gi a 0 ≠ 10 → (gr a 4).length = 0) ∧ (gi a 0 = 11 ↔ (gr a 5).length = 1) ∧ (gr a 5).length ≤ 1 ∧ (∀ i, i < (gr a 4).length → ok d false ((gr a 4).getD i [])) ∧ (∀ i, i < (gr a 5).length → ok d true ((gr a 5).getD i []))
/-- how many parts -/
def sz : Nat → Bool → List C → Nat
  | 0, _, _ => 1
  | d + 1, true, a => 1 + ((gr a 1).map (sz d true)).sum + ((gr a 2).map (sz d false)).sum
  | d + 1, false, a => 1 + ((gr a 4).map (sz d false)).sum + ((gr a 5).map (sz d true)).sum
theorem sum_take {α : Type} (l : List α) (f : α → Nat) (i : Nat) (d : α) (h : i < l.length) : ((l.take (i + 1)).map f).sum = ((l.take i).map f).sum + f (l.getD i d) := by
  rw [List.take_add_one, List.map_append, List.sum_append, List.getElem?_eq_getElem h]
  simp [List.getD, List.getElem?_eq_getElem h]
theorem part_lt {a : List C} {j i M : Nat} (h : SizeOf.sizeOf a < M + 1) (hi : i < (gr a j).length) : SizeOf.sizeOf ((gr a j).getD i []) < M := by
  have h1 := gr_size j a
  have h2 := List.sizeOf_lt_of_mem (getD_mem (d := []) hi)
  omega
def SizeQ (k : Bool) (a : List C) (most r : Int) : Prop := 1 ≤ r ∧ r ≤ most + 1 ∧ (r ≤ most → ∀ d, (sz d k a : Int) ≤ r)
theorem size_tot : ∀ M : Nat,
    (∀ (a : List C) (most : Int), SizeOf.sizeOf a < M → SmR BB a → 0 ≤ most → most ≤ 64 → Tot (fun k _ _ => (lv k).orielref12_size (gi a 0) (gr a 1) (gr a 2) most) (SizeQ true a most)) ∧
    (∀ (a : List C) (most : Int), SizeOf.sizeOf a < M → SmR BB a → 0 ≤ most → most ≤ 64 → Tot (fun k _ _ => (lv k).orielref12_sizeFilter (gi a 0) (gs a 1) (gs a 2) (gs a 3) (gr a 4) (gr a 5) most) (SizeQ false a most)) := by
  intro M
  induction M with
  | zero => exact ⟨fun _ _ h => by omega, fun _ _ h => by omega⟩
  | succ M ih =>
    constructor
    · intro a most hM ha h0 h64
      have hl1 : (gr a 1).length ≤ 1048576 := (ha.gr 1).1
      have hl2 : (gr a 2).length ≤ 1048576 := (ha.gr 2).1
      refine orielref12_size_up _ _ _ _ (Tot.congr ?_ (fun k _ _ => orielref12_size_q (lv k) k (gi a 0) (gr a 1) (gr a 2) most))
      have l1 : ∀ (d i : Nat) (v : Int), (gr a 2).length - i = d → i ≤ (gr a 2).length → 1 ≤ v → v ≤ most + 1 → (v ≤ most → ∀ d, 1 + (((gr a 1).map (sz d true)).sum : Int) + (((gr a 2).take i).map (sz d false)).sum ≤ v) → Tot (fun k x y => orielref12_size_l1 (lv k) k (gi a 0) (gr a 1) (gr a 2) most x v i) (SizeQ true a most) := by
        intro d
        induction d using Nat.strongRecOn with | _ d ihd => ?_
        intro i v hd hi g1 g2 g3
        have hend : i = (gr a 2).length ∨ ¬ v ≤ most → SizeQ true a most v := fun h => ⟨g1, g2, fun hv d => by
          rcases h with h | h
          · have := g3 hv (d - 1)
            rw [h, List.take_length] at this
            cases d with
            | zero => simp only [sz]; omega
            | succ d => simp only [sz]; simp only [Nat.add_sub_cancel] at this; omega
          · exact absurd hv h⟩
        refine Tot.step0 (fun k x y => orielref12_size_l1_q (lv k) k (gi a 0) (gr a 1) (gr a 2) most x v (i : Int)) ?_
        rw [wrap_id (x := most - v) (by omega) (by omega), wrap_id (x := (i : Int) + 1) (by omega) (by omega), Int.toNat_natCast]
        refine Tot.cond (fun hc => Tot.cond (fun hc2 => ?_) (fun hc2 => Tot.ret (hend (.inr (of_decide_eq_false hc2))))) (fun hc => Tot.ret (hend (.inl ?_)))
        · have hc := of_decide_eq_true hc
          have hc2 := of_decide_eq_true hc2
          refine Tot.t (decide_eq_true (by omega)) (Tot.t (decide_eq_true (by omega)) ?_)
          refine Tot.bind (ih.2 _ _ (part_lt hM (by omega : i < (gr a 2).length)) ((ha.gr 2).get i) (by omega) (by omega)) fun r hr => ?_
          obtain ⟨r1, r2, r3⟩ := hr
          rw [wrap_id (x := v + r) (by omega) (by omega)]
          refine ihd _ (by omega) (i + 1) (v + r) rfl (by omega) (by omega) (by omega) (fun hv d => ?_)
          have h1 := g3 (by omega) d
          have h2 := r3 (by omega) d
          rw [sum_take _ _ _ [] (by omega)]
          omega
        · have hc := of_decide_eq_false hc
          omega
      have l0 : ∀ (d i : Nat) (v : Int), (gr a 1).length - i = d → i ≤ (gr a 1).length → 1 ≤ v → v ≤ most + 1 → (v ≤ most → ∀ d, 1 + ((((gr a 1).take i).map (sz d true)).sum : Int) ≤ v) → Tot (fun k x y => orielref12_size_l0 (lv k) k (gi a 0) (gr a 1) (gr a 2) most x v i) (SizeQ true a most) := by
        intro d
        induction d using Nat.strongRecOn with | _ d ihd => ?_
        intro i v hd hi g1 g2 g3
        have hend : i = (gr a 1).length ∨ ¬ v ≤ most → Tot (fun k x y => orielref12_size_l1 (lv k) k (gi a 0) (gr a 1) (gr a 2) most k v 0) (SizeQ true a most) := fun h => Tot.in0 (l1 _ 0 v rfl (by omega) g1 g2 (fun hv d => by
          rcases h with h | h
          · have := g3 hv d
            rw [h, List.take_length] at this
            simpa using this
          · exact absurd hv h))
        refine Tot.step0 (fun k x y => orielref12_size_l0_q (lv k) k (gi a 0) (gr a 1) (gr a 2) most x v (i : Int)) ?_
        rw [wrap_id (x := most - v) (by omega) (by omega), wrap_id (x := (i : Int) + 1) (by omega) (by omega), Int.toNat_natCast]
        refine Tot.cond (fun hc => Tot.cond (fun hc2 => ?_) (fun hc2 => hend (.inr (of_decide_eq_false hc2)))) (fun hc => hend (.inl ?_))
        · have hc := of_decide_eq_true hc
          have hc2 := of_decide_eq_true hc2
          refine Tot.t (decide_eq_true (by omega)) (Tot.t (decide_eq_true (by omega)) ?_)
          refine Tot.bind (ih.1 _ _ (part_lt hM (by omega : i < (gr a 1).length)) ((ha.gr 1).get i) (by omega) (by omega)) fun r hr => ?_
          obtain ⟨r1, r2, r3⟩ := hr
          rw [wrap_id (x := v + r) (by omega) (by omega)]
          refine ihd _ (by omega) (i + 1) (v + r) rfl (by omega) (by omega) (by omega) (fun hv d => ?_)
          have h1 := g3 (by omega) d
          have h2 := r3 (by omega) d
          rw [sum_take _ _ _ [] (by omega)]
          omega
        · have hc := of_decide_eq_false hc
          omega
      exact Tot.in0 (l0 _ 0 1 rfl (by omega) (by omega) (by omega) (fun h d => by simp))
    · intro a most hM ha h0 h64
      have hl1 : (gr a 4).length ≤ 1048576 := (ha.gr 4).1
      have hl2 : (gr a 5).length ≤ 1048576 := (ha.gr 5).1
      refine orielref12_sizeFilter_up _ _ _ _ _ _ _ (Tot.congr ?_ (fun k _ _ => orielref12_sizeFilter_q (lv k) k (gi a 0) (gs a 1) (gs a 2) (gs a 3) (gr a 4) (gr a 5) most))
      have l1 : ∀ (d i : Nat) (v : Int), (gr a 5).length - i = d → i ≤ (gr a 5).length → 1 ≤ v → v ≤ most + 1 → (v ≤ most → ∀ d, 1 + (((gr a 4).map (sz d false)).sum : Int) + (((gr a 5).take i).map (sz d true)).sum ≤ v) → Tot (fun k x y => orielref12_sizeFilter_l1 (lv k) k (gi a 0) (gs a 1) (gs a 2) (gs a 3) (gr a 4) (gr a 5) most x v i) (SizeQ false a most) := by
        intro d
        induction d using Nat.strongRecOn with | _ d ihd => ?_
        intro i v hd hi g1 g2 g3
        have hend : i = (gr a 5).length ∨ ¬ v ≤ most → SizeQ false a most v := fun h => ⟨g1, g2, fun hv d => by
          rcases h with h | h
          · have := g3 hv (d - 1)
            rw [h, List.take_length] at this
            cases d with
            | zero => simp only [sz]; omega
            | succ d => simp only [sz]; simp only [Nat.add_sub_cancel] at this; omega
          · exact absurd hv h⟩
        refine Tot.step0 (fun k x y => orielref12_sizeFilter_l1_q (lv k) k (gi a 0) (gs a 1) (gs a 2) (gs a 3) (gr a 4) (gr a 5) most x v (i : Int)) ?_
        rw [wrap_id (x := most - v) (by omega) (by omega), wrap_id (x := (i : Int) + 1) (by omega) (by omega), Int.toNat_natCast]
        refine Tot.cond (fun hc => Tot.cond (fun hc2 => ?_) (fun hc2 => Tot.ret (hend (.inr (of_decide_eq_false hc2))))) (fun hc => Tot.ret (hend (.inl ?_)))
        · have hc := of_decide_eq_true hc
          have hc2 := of_decide_eq_true hc2
          refine Tot.t (decide_eq_true (by omega)) (Tot.t (decide_eq_true (by omega)) ?_)
          refine Tot.bind (ih.1 _ _ (part_lt hM (by omega : i < (gr a 5).length)) ((ha.gr 5).get i) (by omega) (by omega)) fun r hr => ?_
          obtain ⟨r1, r2, r3⟩ := hr
          rw [wrap_id (x := v + r) (by omega) (by omega)]
          refine ihd _ (by omega) (i + 1) (v + r) rfl (by omega) (by omega) (by omega) (fun hv d => ?_)
          have h1 := g3 (by omega) d
          have h2 := r3 (by omega) d
          rw [sum_take _ _ _ [] (by omega)]
          omega
        · have hc := of_decide_eq_false hc
          omega
      have l0 : ∀ (d i : Nat) (v : Int), (gr a 4).length - i = d → i ≤ (gr a 4).length → 1 ≤ v → v ≤ most + 1 → (v ≤ most → ∀ d, 1 + ((((gr a 4).take i).map (sz d false)).sum : Int) ≤ v) → Tot (fun k x y => orielref12_sizeFilter_l0 (lv k) k (gi a 0) (gs a 1) (gs a 2) (gs a 3) (gr a 4) (gr a 5) most x v i) (SizeQ false a most) := by
        intro d
        induction d using Nat.strongRecOn with | _ d ihd => ?_
        intro i v hd hi g1 g2 g3
        have hend : i = (gr a 4).length ∨ ¬ v ≤ most → Tot (fun k x y => orielref12_sizeFilter_l1 (lv k) k (gi a 0) (gs a 1) (gs a 2) (gs a 3) (gr a 4) (gr a 5) most k v 0) (SizeQ false a most) := fun h => Tot.in0 (l1 _ 0 v rfl (by omega) g1 g2 (fun hv d => by
          rcases h with h | h
          · have := g3 hv d
            rw [h, List.take_length] at this
            simpa using this
          · exact absurd hv h))
        refine Tot.step0 (fun k x y => orielref12_sizeFilter_l0_q (lv k) k (gi a 0) (gs a 1) (gs a 2) (gs a 3) (gr a 4) (gr a 5) most x v (i : Int)) ?_
        rw [wrap_id (x := most - v) (by omega) (by omega), wrap_id (x := (i : Int) + 1) (by omega) (by omega), Int.toNat_natCast]
        refine Tot.cond (fun hc => Tot.cond (fun hc2 => ?_) (fun hc2 => hend (.inr (of_decide_eq_false hc2)))) (fun hc => hend (.inl ?_))
        · have hc := of_decide_eq_true hc
          have hc2 := of_decide_eq_true hc2
          refine Tot.t (decide_eq_true (by omega)) (Tot.t (decide_eq_true (by omega)) ?_)
          refine Tot.bind (ih.2 _ _ (part_lt hM (by omega : i < (gr a 4).length)) ((ha.gr 4).get i) (by omega) (by omega)) fun r hr => ?_
          obtain ⟨r1, r2, r3⟩ := hr
          rw [wrap_id (x := v + r) (by omega) (by omega)]
          refine ihd _ (by omega) (i + 1) (v + r) rfl (by omega) (by omega) (by omega) (fun hv d => ?_)
          have h1 := g3 (by omega) d
          have h2 := r3 (by omega) d
          rw [sum_take _ _ _ [] (by omega)]
          omega
        · have hc := of_decide_eq_false hc
          omega
      exact Tot.in0 (l0 _ 0 1 rfl (by omega) (by omega) (by omega) (fun h d => by simp))
theorem right_tots : ∀ d : Nat, d ≤ 100 →
    (∀ (a : List C), SmR BB a → Tot (fun k _ _ => (lv k).orielref12_path (gi a 0) (gr a 1) (gr a 2) d) (fun r => r = true → ok d true a)) ∧
    (∀ (a : List C), SmR BB a → Tot (fun k _ _ => (lv k).orielref12_filter (gi a 0) (gs a 1) (gs a 2) (gs a 3) (gr a 4) (gr a 5) d) (fun r => r = true → ok d false a)) := by
  intro d
  induction d with
  | zero =>
    intro _
    constructor
    · intro a _
      refine orielref12_path_up _ _ _ _ (Tot.congr ?_ (fun k _ _ => orielref12_path_q (lv k) k (gi a 0) (gr a 1) (gr a 2) ((0 : Nat) : Int)))
      exact Tot.t (by rfl) (Tot.ret (fun h => by cases h))
    · intro a _
      refine orielref12_filter_up _ _ _ _ _ _ _ (Tot.congr ?_ (fun k _ _ => orielref12_filter_q (lv k) k (gi a 0) (gs a 1) (gs a 2) (gs a 3) (gr a 4) (gr a 5) ((0 : Nat) : Int)))
      exact Tot.t (by rfl) (Tot.ret (fun h => by cases h))
  | succ d ih =>
    intro hd
    have ih := ih (by omega)
    have hw : IntKind.i64.wrap (((d + 1 : Nat) : Int) - 1) = d := by rw [wrap_id (by omega) (by omega)]; omega
    have hne : (((d + 1 : Nat) : Int) == (0 : Int)) = false := by rw [beq_eq_false_iff_ne]; omega
    have iff_of : ∀ {x y m n : Int}, ¬ ((!((x == m) == (y == n))) = true) → (x = m ↔ y = n) := fun {x y m n} h => by
      have h : (x == m) = (y == n) := by simpa using h
      constructor
      · intro e
        have : (y == n) = true := by rw [← h, e]; simp
        exact eq_of_beq this
      · intro e
        have : (x == m) = true := by rw [h, e]; simp
        exact eq_of_beq this
    constructor
    · intro a ha
      have hl1 : (gr a 1).length ≤ 1048576 := (ha.gr 1).1
      have hl2 : (gr a 2).length ≤ 1048576 := (ha.gr 2).1
      refine orielref12_path_up _ _ _ _ (Tot.congr ?_ (fun k _ _ => orielref12_path_q (lv k) k (gi a 0) (gr a 1) (gr a 2) ((d + 1 : Nat) : Int)))
      refine Tot.f hne (Tot.cond (fun _ => Tot.ret (fun h => by cases h)) (fun h1 => Tot.cond (fun _ => Tot.ret (fun h => by cases h)) (fun h7 => ?_)))
      have h1 := of_decide_eq_false h1
      have h7 := of_decide_eq_false h7
      have key : ∀ v1 v2 : Int, (gi a 0 = 4 ∨ gi a 0 = 5 → v1 = 2 ∧ v2 = 64) → (gi a 0 = 6 → v1 = 1 ∧ v2 = 1) → (gi a 0 ≠ 4 → gi a 0 ≠ 5 → gi a 0 ≠ 6 → v1 = 0 ∧ v2 = 0) → Tot (fun k x y => orielref12_path_l0 (lv k) k (gi a 0) (gr a 1) (gr a 2) ((d + 1 : Nat) : Int) v1 v2) (fun r => r = true → ok (d + 1) true a) := by
        intro v1 v2 e1 e2 e3
        refine Tot.congr ?_ (fun k _ _ => orielref12_path_l0_q (lv k) k (gi a 0) (gr a 1) (gr a 2) ((d + 1 : Nat) : Int) v1 v2)
        refine Tot.cond (fun _ => Tot.ret (fun h => by cases h)) (fun g1 => Tot.cond (fun _ => Tot.ret (fun h => by cases h)) (fun g2 => Tot.cond (fun _ => Tot.ret (fun h => by cases h)) (fun g3 => Tot.cond (fun _ => Tot.ret (fun h => by cases h)) (fun g4 => ?_))))
        have g1 := of_decide_eq_false g1
        have g2 := of_decide_eq_false g2
        have g4 := of_decide_eq_false g4
        have g3 := iff_of (by rw [g3]; exact Bool.false_ne_true)
        have fin : (∀ j, j < (gr a 1).length → ok d true ((gr a 1).getD j [])) → (∀ j, j < (gr a 2).length → ok d false ((gr a 2).getD j [])) → ok (d + 1) true a := fun hs ht =>
          ⟨by omega, by omega, fun h => by have := e1 h; omega, fun h => by have := e2 h; omega, by rw [g3]; omega, by omega, by
            by_cases a4 : gi a 0 = 4 ∨ gi a 0 = 5
            · have := e1 a4; omega
            · by_cases a6 : gi a 0 = 6
              · have := e2 a6; omega
              · have := e3 (fun h => a4 (.inl h)) (fun h => a4 (.inr h)) a6; omega, fun a b c => by have := e3 a b c; omega, hs, ht⟩
        have loop : ∀ (n i : Nat), (gr a 1).length - i = n → i ≤ (gr a 1).length → (∀ j, j < i → ok d true ((gr a 1).getD j [])) → Tot (fun k x y => orielref12_path_l1 (lv k) k (gi a 0) (gr a 1) (gr a 2) ((d + 1 : Nat) : Int) x i) (fun r => r = true → ok (d + 1) true a) := by
          intro n
          induction n using Nat.strongRecOn with | _ n ihn => ?_
          intro i hn hi hj
          refine Tot.step0 (fun k x y => orielref12_path_l1_q (lv k) k (gi a 0) (gr a 1) (gr a 2) ((d + 1 : Nat) : Int) x i) ?_
          rw [hw, wrap_id (x := (i : Int) + 1) (by omega) (by omega), Int.toNat_natCast]
          refine Tot.cond (fun hc => ?_) (fun hc => Tot.cond (fun ht0 => ?_) (fun ht0 => ?_))
          · have hc := of_decide_eq_true hc
            refine Tot.t (decide_eq_true (by omega)) (Tot.t (decide_eq_true (by omega)) ?_)
            refine Tot.bind (ih.1 _ ((ha.gr 1).get i)) fun r hr1 => Tot.cond (fun _ => Tot.ret (fun h => by cases h)) (fun hb => ?_)
            have hb : r = true := by simpa using hb
            refine ihn _ (by omega) (i + 1) rfl (by omega) (fun j hjl => ?_)
            by_cases hjv : j = i
            · rw [hjv]; exact hr1 hb
            · exact hj j (by omega)
          · have hc := of_decide_eq_false hc
            have ht0 : (gr a 2).length = 0 := by simpa using ht0
            exact Tot.ret (fun _ => fin (fun j h => hj j (by omega)) (fun j h => by omega))
          · have hc := of_decide_eq_false hc
            have ht0 : (gr a 2).length ≠ 0 := by simpa using ht0
            refine Tot.t (decide_eq_true (by omega)) ?_
            refine Tot.bind (ih.2 _ ((ha.gr 2).get 0)) fun r hr => Tot.ret (fun hb => fin (fun j h => hj j (by omega)) (fun j h => ?_))
            rw [show j = 0 by omega]
            exact hr hb
        exact Tot.in0 (loop _ 0 rfl (by omega) (fun j hj => by omega))
      refine Tot.cond (fun h4 => ?_) (fun h4 => Tot.cond (fun h5 => ?_) (fun h5 => Tot.cond (fun h6 => ?_) (fun h6 => ?_)))
      · have h4 : gi a 0 = 4 := by simpa using h4
        exact Tot.f (by rw [beq_eq_false_iff_ne]; omega) (key 2 64 (fun _ => ⟨rfl, rfl⟩) (fun h => by omega) (fun h => by omega))
      · have h5 : gi a 0 = 5 := by simpa using h5
        exact Tot.f (by rw [beq_eq_false_iff_ne]; omega) (key 2 64 (fun _ => ⟨rfl, rfl⟩) (fun h => by omega) (fun _ h => by omega))
      · have h6 : gi a 0 = 6 := by simpa using h6
        exact key 1 1 (fun h => by omega) (fun _ => ⟨rfl, rfl⟩) (fun _ _ h => by omega)
      · have h4 : gi a 0 ≠ 4 := by simpa using h4
        have h5 : gi a 0 ≠ 5 := by simpa using h5
        have h6 : gi a 0 ≠ 6 := by simpa using h6
        exact key 0 0 (fun h => by omega) (fun h => by omega) (fun _ _ _ => ⟨rfl, rfl⟩)
    · intro a ha
      have hl1 : (gr a 4).length ≤ 1048576 := (ha.gr 4).1
      have hl2 : (gr a 5).length ≤ 1048576 := (ha.gr 5).1
      have no : Tot (fun _ _ _ => some false) (fun r => r = true → ok (d + 1) false a) := Tot.ret (fun h => by cases h)
      refine orielref12_filter_up _ _ _ _ _ _ _ (Tot.congr ?_ (fun k _ _ => orielref12_filter_q (lv k) k (gi a 0) (gs a 1) (gs a 2) (gs a 3) (gr a 4) (gr a 5) ((d + 1 : Nat) : Int)))
      refine Tot.f hne (Tot.cond (fun _ => no) (fun h1 => Tot.cond (fun _ => no) (fun h11 => ?_)))
      have h1 := of_decide_eq_false h1
      have h11 := of_decide_eq_false h11
      have l3 : ∀ v1 v2 : Int, (gi a 0 = 9 ∨ gi a 0 = 10 → v1 = 2 ∧ v2 = 64) → (gi a 0 = 8 → v1 = 1 ∧ v2 = 1) → (gi a 0 ≠ 8 → gi a 0 ≠ 9 → gi a 0 ≠ 10 → v1 = 0 ∧ v2 = 0) → Tot (fun k x y => orielref12_filter_l3 (lv k) k (gi a 0) (gs a 1) (gs a 2) (gs a 3) (gr a 4) (gr a 5) ((d + 1 : Nat) : Int) v1 v2) (fun r => r = true → ok (d + 1) false a) := by
        intro v1 v2 e1 e2 e3
        refine Tot.congr ?_ (fun k p_ q_ => orielref12_filter_l3_q (lv k) k (gi a 0) (gs a 1) (gs a 2) (gs a 3) (gr a 4) (gr a 5) ((d + 1 : Nat) : Int) v1 v2 )
        refine Tot.cond (fun _ => no) (fun g1 => Tot.cond (fun _ => no) (fun g2 => Tot.cond (fun _ => no) (fun g3 => Tot.cond (fun _ => no) (fun g4 => ?_))))
        have g1 := of_decide_eq_false g1
        have g2 := of_decide_eq_false g2
        have g4 := of_decide_eq_false g4
        have g3 := iff_of (by rw [g3]; exact Bool.false_ne_true)
        have fin : (∀ j, j < (gr a 4).length → ok d false ((gr a 4).getD j [])) → (∀ j, j < (gr a 5).length → ok d true ((gr a 5).getD j [])) → ok (d + 1) false a := fun hs ht =>
          ⟨by omega, by omega, fun h => by have := e2 h; omega, by
            by_cases a4 : gi a 0 = 9 ∨ gi a 0 = 10
            · have := e1 a4; omega
            · by_cases a6 : gi a 0 = 8
              · have := e2 a6; omega
              · have := e3 a6 (fun h => a4 (.inl h)) (fun h => a4 (.inr h)); omega, fun h => by have := e1 h; omega, fun a b c => by have := e3 a b c; omega, by rw [g3]; omega, by omega, hs, ht⟩
        refine Tot.in0 (Tot.loop (H := fun k x y v (_ : Unit) => orielref12_filter_l4 (lv k) k (gi a 0) (gs a 1) (gs a 2) (gs a 3) (gr a 4) (gr a 5) ((d + 1 : Nat) : Int) x v) (n := (gr a 4).length) (fun i _ => ∀ j, j < i → ok d false ((gr a 4).getD j [])) (by omega) (fun _ h => ?_) (fun i _ hi h next => ?_) _ 0 () rfl (by omega) (fun j hj => by omega))
        · refine Tot.step0 (fun k p_ q_ => orielref12_filter_l4_q (lv k) k (gi a 0) (gs a 1) (gs a 2) (gs a 3) (gr a 4) (gr a 5) ((d + 1 : Nat) : Int) p_ _) ?_
          refine Tot.f (decide_eq_false (by omega)) (Tot.cond (fun ht0 => ?_) (fun ht0 => ?_))
          · have ht0 : (gr a 5).length = 0 := by simpa using ht0
            exact Tot.ret (fun _ => fin h (fun j h => by omega))
          · have ht0 : (gr a 5).length ≠ 0 := by simpa using ht0
            refine Tot.t (decide_eq_true (by omega)) ?_
            rw [hw]
            refine Tot.bind (ih.1 _ ((ha.gr 5).get 0)) fun r hr => Tot.ret (fun hb => fin h (fun j h => ?_))
            rw [show j = 0 by omega]
            exact hr hb
        · refine Tot.step0 (fun k p_ q_ => orielref12_filter_l4_q (lv k) k (gi a 0) (gs a 1) (gs a 2) (gs a 3) (gr a 4) (gr a 5) ((d + 1 : Nat) : Int) p_ _) ?_
          rw [hw, Int.toNat_natCast]
          repeat (refine Tot.t (decide_eq_true (by omega)) ?_)
          refine Tot.bind (ih.2 _ ((ha.gr 4).get i)) fun r hr1 => Tot.cond (fun _ => no) (fun hb => next () (fun j hj => ?_))
          have hb : r = true := by simpa using hb
          rcases Nat.lt_or_ge j i with h2 | h2
          · exact h j h2
          · rw [show j = i by omega]; exact hr1 hb
      have l2 : ∀ v1 v2 : Int, (gi a 0 = 8 → v1 = 1 ∧ v2 = 1) → (gi a 0 ≠ 8 → v1 = 0 ∧ v2 = 0) → Tot (fun k x y => orielref12_filter_l2 (lv k) k (gi a 0) (gs a 1) (gs a 2) (gs a 3) (gr a 4) (gr a 5) ((d + 1 : Nat) : Int) v1 v2) (fun r => r = true → ok (d + 1) false a) := by
        intro v1 v2 e1 e2
        refine Tot.congr ?_ (fun k p_ q_ => orielref12_filter_l2_q (lv k) k (gi a 0) (gs a 1) (gs a 2) (gs a 3) (gr a 4) (gr a 5) ((d + 1 : Nat) : Int) v1 v2 )
        refine Tot.cond (fun h9 => ?_) (fun h9 => Tot.cond (fun h10 => ?_) (fun h10 => ?_))
        · have h9 : gi a 0 = 9 := by simpa using h9
          exact l3 2 64 (fun _ => ⟨rfl, rfl⟩) (fun h => by omega) (fun _ h => by omega)
        · have h10 : gi a 0 = 10 := by simpa using h10
          exact l3 2 64 (fun _ => ⟨rfl, rfl⟩) (fun h => by omega) (fun _ _ h => by omega)
        · have h9 : gi a 0 ≠ 9 := by simpa using h9
          have h10 : gi a 0 ≠ 10 := by simpa using h10
          exact l3 v1 v2 (fun h => by omega) e1 (fun h _ _ => e2 h)
      have e8 : Tot (fun k x y => cond (gi a 0 == (8 : Int)) (orielref12_filter_l2 (lv k) k (gi a 0) (gs a 1) (gs a 2) (gs a 3) (gr a 4) (gr a 5) ((d + 1 : Nat) : Int) 1 1) (orielref12_filter_l2 (lv k) k (gi a 0) (gs a 1) (gs a 2) (gs a 3) (gr a 4) (gr a 5) ((d + 1 : Nat) : Int) 0 0)) (fun r => r = true → ok (d + 1) false a) := by
        refine Tot.cond (fun h8 => ?_) (fun h8 => ?_)
        · have h8 : gi a 0 = 8 := by simpa using h8
          exact l2 1 1 (fun _ => ⟨rfl, rfl⟩) (fun h => absurd h8 h)
        · have h8 : gi a 0 ≠ 8 := by simpa using h8
          exact l2 0 0 (fun h => absurd h h8) (fun _ => ⟨rfl, rfl⟩)
      have l1 : ∀ v1, Tot (fun k x y => orielref12_filter_l1 (lv k) k (gi a 0) (gs a 1) (gs a 2) (gs a 3) (gr a 4) (gr a 5) ((d + 1 : Nat) : Int) v1) (fun r => r = true → ok (d + 1) false a) := fun v1 => by
        refine Tot.congr ?_ (fun k p_ q_ => orielref12_filter_l1_q (lv k) k (gi a 0) (gs a 1) (gs a 2) (gs a 3) (gr a 4) (gr a 5) ((d + 1 : Nat) : Int) v1 )
        repeat' first
          | exact no
          | exact e8
          | refine Tot.cond (fun _ => ?_) (fun _ => ?_)
          | refine Tot.bind (right4_tot _ (ha.gs 3)) fun _ _ => ?_
      have l0 : ∀ v1 v2, Tot (fun k x y => orielref12_filter_l0 (lv k) k (gi a 0) (gs a 1) (gs a 2) (gs a 3) (gr a 4) (gr a 5) ((d + 1 : Nat) : Int) v1 v2) (fun r => r = true → ok (d + 1) false a) := fun v1 v2 => by
        refine Tot.congr ?_ (fun k p_ q_ => orielref12_filter_l0_q (lv k) k (gi a 0) (gs a 1) (gs a 2) (gs a 3) (gr a 4) (gr a 5) ((d + 1 : Nat) : Int) v1 v2 )
        exact Tot.cond (fun _ => no) (fun _ => Tot.cond (fun _ => Tot.bind (named_tot _ _ (ha.gs 1) (ha.gs 2)) fun r _ => Tot.cond (fun _ => no) (fun _ => l1 _)) (fun _ => l1 _))
      repeat' first
        | exact l0 _ _
        | refine Tot.cond (fun _ => ?_) (fun _ => ?_)
theorem right_tot (a : List C) (ha : SmR BB a) : Tot (fun k _ _ => (lv k).orielref12_Right (gi a 0) (gr a 1) (gr a 2)) (fun r => r = true → ok 16 true a ∧ ∀ d, sz d true a ≤ 64) := by
  refine orielref12_Right_up _ _ _ (Tot.congr ?_ (fun k _ _ => orielref12_Right_q (lv k) k (gi a 0) (gr a 1) (gr a 2)))
  refine Tot.bind (R := SizeQ true a 64) (orielref12_Size_up _ _ _ (Tot.congr (Tot.bind ((size_tot _).1 a 64 (Nat.lt_succ_self _) ha (by omega) (by omega)) fun r hr => Tot.ret hr) (fun k _ _ => orielref12_Size_q (lv k) k (gi a 0) (gr a 1) (gr a 2)))) fun r hr => ?_
  refine Tot.cond (fun h => ?_) (fun _ => Tot.ret (fun h => by cases h))
  have h := of_decide_eq_true h
  exact Tot.bind ((right_tots 16 (by omega)).1 a ha) fun b hb => Tot.ret (fun hbt => ⟨hb hbt, fun d => by have := hr.2.2 h d; omega⟩)
-- Alike
theorem lenb {a b : Nat} (h : (!((a : Int) == (b : Int))) = false) : a = b := by
  have : ((a : Int)) = b := by simpa using h
  omega
theorem lent {a b : Nat} (h : (!((a : Int) == (b : Int))) = true) : a ≠ b := by
  intro e
  subst e
  simp at h
abbrev AlQ (k : Bool) (a b : List C) : Bool → Prop := fun r => r = true ↔ Alike k a b
theorem al_no {k : Bool} {a b : List C} (h : ¬ Alike k a b) : AlQ k a b false := ⟨fun e => (by cases e), fun e => absurd e h⟩
theorem psame_tots : ∀ M : Nat,
    (∀ (a b : List C), SizeOf.sizeOf a < M → SmR BB a → SmR BB b → Tot (fun k _ _ => (lv k).path_Same (gi a 0) (gr a 1) (gr a 2) (gi b 0) (gr b 1) (gr b 2)) (AlQ true a b)) ∧
    (∀ (a b : List C), SizeOf.sizeOf a < M → SmR BB a → SmR BB b → Tot (fun k _ _ => (lv k).path_sameFilter (gi a 0) (gs a 1) (gs a 2) (gs a 3) (gr a 4) (gr a 5) (gi b 0) (gs b 1) (gs b 2) (gs b 3) (gr b 4) (gr b 5)) (AlQ false a b)) := by
  intro M
  induction M with
  | zero => exact ⟨fun _ _ h => by omega, fun _ _ h => by omega⟩
  | succ M ih =>
    have eqp : ∀ (j : Nat) (a b : List C), SizeOf.sizeOf a < M + 1 → SmR BB a → SmR BB b → Tot (fun k _ _ => (lv k).api_Path (gr a j) (gr b j)) (fun r => r = true ↔ (gr a j).length = (gr b j).length ∧ ∀ i, i < (gr a j).length → Alike true ((gr a j).getD i []) ((gr b j).getD i [])) := by
      intro j a b hM ha hb
      have hl1 : (gr a j).length ≤ 1048576 := (ha.gr j).1
      refine api_Path_up _ _ (Tot.congr ?_ (fun k _ _ => api_Path_q (lv k) k (gr a j) (gr b j)))
      refine Tot.cond (fun h => Tot.ret ⟨fun e => (by cases e), fun e => absurd e.1 (lent h)⟩) (fun h1 => ?_)
      have h1 := lenb h1
      refine Tot.in0 (Tot.every (H := fun k x y v => api_Path_l0 (lv k) k (gr a j) (gr b j) x v) (n := (gr a j).length) (p := fun i => Alike true ((gr a j).getD i []) ((gr b j).getD i [])) (by omega) (fun h => h.2) (fun hs => ?_) (fun i Q hi hf ht => ?_))
      · refine Tot.step0 (fun k p_ q_ => api_Path_l0_q (lv k) k (gr a j) (gr b j) p_ _) ?_
        exact Tot.f (decide_eq_false (by omega)) (Tot.ret ⟨fun _ => ⟨h1, hs⟩, fun _ => rfl⟩)
      · refine Tot.step0 (fun k p_ q_ => api_Path_l0_q (lv k) k (gr a j) (gr b j) p_ _) ?_
        rw [Int.toNat_natCast]
        repeat (refine Tot.t (decide_eq_true (by omega)) ?_)
        exact Tot.bind (ih.1 _ _ (part_lt hM hi) ((ha.gr j).get i) ((hb.gr j).get i)) fun r hr => Tot.cond (fun hn => Tot.ret (hf fun h => by rw [hr.2 h] at hn; cases hn)) (fun hn => ht (hr.1 (by simpa using hn)))
    have eqf : ∀ (j : Nat) (a b : List C), SizeOf.sizeOf a < M + 1 → SmR BB a → SmR BB b → Tot (fun k _ _ => (lv k).api_Filter (gr a j) (gr b j)) (fun r => r = true ↔ (gr a j).length = (gr b j).length ∧ ∀ i, i < (gr a j).length → Alike false ((gr a j).getD i []) ((gr b j).getD i [])) := by
      intro j a b hM ha hb
      have hl1 : (gr a j).length ≤ 1048576 := (ha.gr j).1
      refine api_Filter_up _ _ (Tot.congr ?_ (fun k _ _ => api_Filter_q (lv k) k (gr a j) (gr b j)))
      refine Tot.cond (fun h => Tot.ret ⟨fun e => (by cases e), fun e => absurd e.1 (lent h)⟩) (fun h1 => ?_)
      have h1 := lenb h1
      refine Tot.in0 (Tot.every (H := fun k x y v => api_Filter_l0 (lv k) k (gr a j) (gr b j) x v) (n := (gr a j).length) (p := fun i => Alike false ((gr a j).getD i []) ((gr b j).getD i [])) (by omega) (fun h => h.2) (fun hs => ?_) (fun i Q hi hf ht => ?_))
      · refine Tot.step0 (fun k p_ q_ => api_Filter_l0_q (lv k) k (gr a j) (gr b j) p_ _) ?_
        exact Tot.f (decide_eq_false (by omega)) (Tot.ret ⟨fun _ => ⟨h1, hs⟩, fun _ => rfl⟩)
      · refine Tot.step0 (fun k p_ q_ => api_Filter_l0_q (lv k) k (gr a j) (gr b j) p_ _) ?_
        rw [Int.toNat_natCast]
        repeat (refine Tot.t (decide_eq_true (by omega)) ?_)
        exact Tot.bind (ih.2 _ _ (part_lt hM hi) ((ha.gr j).get i) ((hb.gr j).get i)) fun r hr => Tot.cond (fun hn => Tot.ret (hf fun h => by rw [hr.2 h] at hn; cases hn)) (fun hn => ht (hr.1 (by simpa using hn)))
    constructor
    · intro a b hM ha hb
      have no : ¬ Alike true a b → Tot (fun _ _ _ => some false) (AlQ true a b) := fun h => Tot.ret (al_no h)
      refine path_Same_up _ _ _ _ _ _ (Tot.congr ?_ (fun k _ _ => path_Same_q (lv k) k (gi a 0) (gr a 1) (gr a 2) (gi b 0) (gr b 1) (gr b 2)))
      refine Tot.cond (fun h0 => Tot.bind (eqp 1 a b hM ha hb) fun r1 hr1 => Tot.cond (fun h1 => Tot.bind (eqf 2 a b hM ha hb) fun r2 hr2 => Tot.ret ⟨fun e => ?_, fun e => ?_⟩) (fun h1 => no fun h => ?_)) (fun h0 => no fun h => ?_)
      · obtain ⟨q1, q2⟩ := hr1.1 h1
        obtain ⟨q3, q4⟩ := hr2.1 e
        exact .path (eq_of_beq h0) q1 q3 q2 q4
      · cases e with
        | path e1 e2 e3 e4 e5 => exact hr2.2 ⟨e3, e5⟩
      · cases h with
        | path e1 e2 e3 e4 e5 => rw [hr1.2 ⟨e2, e4⟩] at h1; cases h1
      · cases h with
        | path e1 e2 e3 e4 e5 => rw [e1] at h0; simp at h0
    · intro a b hM ha hb
      have no : ¬ Alike false a b → Tot (fun _ _ _ => some false) (AlQ false a b) := fun h => Tot.ret (al_no h)
      refine path_sameFilter_up _ _ _ _ _ _ _ _ _ _ _ _ (Tot.congr ?_ (fun k _ _ => path_sameFilter_q (lv k) k (gi a 0) (gs a 1) (gs a 2) (gs a 3) (gr a 4) (gr a 5) (gi b 0) (gs b 1) (gs b 2) (gs b 3) (gr b 4) (gr b 5)))
      refine Tot.cond (fun h0 => Tot.cond (fun g1 => Tot.cond (fun g2 => Tot.bind (eqf 4 a b hM ha hb) fun r1 hr1 => Tot.cond (fun h1 => Tot.bind (eqp 5 a b hM ha hb) fun r2 hr2 => Tot.ret ⟨fun e => ?_, fun e => ?_⟩) (fun h1 => no fun h => ?_)) (fun g2 => no fun h => ?_)) (fun g1 => no fun h => ?_)) (fun h0 => no fun h => ?_)
      · obtain ⟨q1, q2⟩ := hr1.1 h1
        obtain ⟨q3, q4⟩ := hr2.1 e
        obtain ⟨q5, q6⟩ := name_eq.1 g1
        exact .filter (eq_of_beq h0) q5 q6 (str_eq.1 g2) q1 q3 q2 q4
      · cases e with
        | filter e1 e2 e3 e4 e5 e6 e7 e8 => exact hr2.2 ⟨e6, e8⟩
      · cases h with
        | filter e1 e2 e3 e4 e5 e6 e7 e8 => rw [hr1.2 ⟨e5, e7⟩] at h1; cases h1
      · cases h with
        | filter e1 e2 e3 e4 e5 e6 e7 e8 => rw [str_eq.2 e4] at g2; cases g2
      · cases h with
        | filter e1 e2 e3 e4 e5 e6 e7 e8 => rw [name_eq.2 ⟨e2, e3⟩] at g1; cases g1
      · cases h with
        | filter e1 e2 e3 e4 e5 e6 e7 e8 => rw [e1] at h0; simp at h0
theorem psame_tot (a b : List C) (ha : SmR BB a) (hb : SmR BB b) : Tot (fun k _ _ => (lv k).path_Same (gi a 0) (gr a 1) (gr a 2) (gi b 0) (gr b 1) (gr b 2)) (AlQ true a b) := (psame_tots _).1 a b (Nat.lt_succ_self _) ha hb
end Go.Vm.T
