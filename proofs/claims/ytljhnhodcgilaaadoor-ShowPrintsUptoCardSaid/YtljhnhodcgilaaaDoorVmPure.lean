/- The plain law. -/
import Derived.Test.YtljhnhodcgilaaaDoorVmEq
import Derived.Test.YtljhnhodcgilaaaDoorVmThree
import Derived.Lib.Join
/- The document's runes: each function of them comes to an answer. -/

set_option linter.unusedVariables false
set_option linter.unusedSimpArgs false
namespace Go.Vm.T
open Go Go.Vm Go.Proofs
attribute [local irreducible] lv oriellaw15_ShowPrints_b oriellaw15_ShowPrints_l0 oriellaw15_awake_b show_Path_b show_Path_l0 show_joined_b show_joined_l0 show_joined_l1 show_Filter_b show_bracketed_b show_name_b show_quoted_b show_all_b show_all_l0 show_all_l1 slices_Contains_int_int_b lex_Write_b slices_Index_int_int_b slices_Index_int_int_l0 orielref12_Right_b orielref12_Size_b orielref12_size_b orielref12_size_l0 orielref12_size_l1 orielref12_sizeFilter_b orielref12_sizeFilter_l0 orielref12_sizeFilter_l1 orielref12_path_b orielref12_path_l0 orielref12_path_l1 orielref12_filter_b orielref12_filter_l0 orielref12_filter_l1 orielref12_filter_l2 orielref12_filter_l3 orielref12_filter_l4 orielref12_named_b orielref04_Right_b orielref04_Right_l0 orielref03_Plain_b orielref03_Plain_l0 orielref01_All_b orielref01_All_l0 orielref01_All_l1 orielref02_Start_b orielref01_Rune_b orielref01_Rune_l0 orielref01_Put_b orielref01_cut_b orielref01_cut_l0 orielref01_cut_l1 orielref01_cut_l2 orielref01_cut_l3 orielref01_cut_l4 orielref01_value_b orielref01_value_l0 orielref01_value_l1 orielref12_Filters_b orielref12_Filters_l0 orielref12_Filters_l1 orielref12_Filters_l2 orielref12_Filters_l3 orielref02_Char_b orielref02_Part_b orielref01_begins_b orielref01_begins_l0 orielref12_within_b orielref12_within_l0 orielref12_within_l1 orielref02_Blank_b orielref15_Filter_b orielref15_Filter_l0 orielref15_Filter_l1 orielref15_Filter_l2 orielref15_Path_b orielref15_Path_l0 orielref15_Path_l1 orielref15_Path_l2 orielref05_Find_b orielref05_Find_l0 orielref15_name_b orielref15_quoted_b orielref15_brackets_b orielref13_Write_b orielref13_Write_l0
theorem value_tot (s : ByteArray) (at_ n : Int) (h0 : 0 ≤ at_) (h1 : at_ + n ≤ s.size) (h2 : 0 ≤ n) (hn : n ≤ 4) (hs : s.size ≤ 2097152) : Tot (fun k _ _ => (lv k).orielref01_value s at_ n) (fun _ => True) := by
  have hl : ∀ (d : Nat) (v3 v4 : Int), 0 ≤ v4 → (n - v4).toNat = d → Tot (fun k a b => orielref01_value_l0 (lv k) k s at_ n a v3 v4) (fun _ => True) := by
    intro d
    induction d with
    | zero =>
      intro v3 v4 h3 h4
      refine Tot.step0 (fun k a b => orielref01_value_l0_q (lv k) k s at_ n a v3 v4) ?_
      exact Tot.f (decide_eq_false (by omega)) (Tot.ret trivial)
    | succ d ih =>
      intro v3 v4 h3 h4
      have hi : ∀ v, Tot (fun k a b => orielref01_value_l0 (lv k) k s at_ n a v (IntKind.i64.wrap (v4 + 1))) (fun _ => True) := fun v => by
        rw [wrap_id (by omega) (by omega)]
        exact ih v (v4 + 1) (by omega) (by omega)
      have hm : ∀ v5, Tot (fun k a b => orielref01_value_l1 (lv k) k s at_ n a v3 v4 v5) (fun _ => True) := fun v5 => by
        refine Tot.congr ?_ (fun k a b => orielref01_value_l1_q (lv k) k s at_ n a v3 v4 v5)
        repeat' first
          | refine Tot.cond (fun _ => ?_) (fun _ => ?_)
          | exact hi _
      refine Tot.step0 (fun k a b => orielref01_value_l0_q (lv k) k s at_ n a v3 v4) ?_
      have hw : IntKind.i64.wrap (at_ + v4) = at_ + v4 := wrap_id (by omega) (by omega)
      refine Tot.t (decide_eq_true (by omega)) (Tot.t (decide_eq_true (by omega)) (Tot.t (decide_eq_true (by omega)) ?_))
      repeat' first
        | refine Tot.cond (fun _ => ?_) (fun _ => ?_)
        | exact hm _
  exact orielref01_value_up _ _ _ (Tot.congr (Tot.in0 (hl _ 0 0 (by omega) rfl)) (fun k _ _ => orielref01_value_q (lv k) k s at_ n))
theorem put_tot (r : Int) : Tot (fun k _ _ => (lv k).orielref01_Put r) (fun l => l.length ≤ 4) := by
  refine orielref01_Put_up _ (Tot.congr ?_ (fun k _ _ => orielref01_Put_q (lv k) k r))
  repeat' first
    | refine Tot.cond (fun _ => ?_) (fun _ => ?_)
    | exact Tot.ret (by simp)
theorem begins_tot (s : ByteArray) (at_ : Int) (l : List (List C)) (h0 : 0 ≤ at_) (h1 : at_ ≤ s.size) (hl : l.length ≤ 2097152) (hs : s.size ≤ 2097160) : Tot (fun k _ _ => (lv k).orielref01_begins s at_ l) (fun _ => True) := by
  refine orielref01_begins_up _ _ _ (Tot.congr ?_ (fun k _ _ => orielref01_begins_q (lv k) k s at_ l))
  have hw : IntKind.i64.wrap (at_ + (l.length : Int)) = at_ + l.length := wrap_id (by omega) (by omega)
  rw [hw]
  refine Tot.cond (fun _ => Tot.ret trivial) (fun _ => Tot.cond (fun _ => Tot.ret trivial) (fun hc => ?_))
  have hc := of_decide_eq_false hc
  have hl : ∀ (d : Nat) (v3 : Int), 0 ≤ v3 → ((l.length : Int) - v3).toNat = d → Tot (fun k a b => orielref01_begins_l0 (lv k) k s at_ l a v3) (fun _ => True) := by
    intro d
    induction d with
    | zero =>
      intro v3 h3 h4
      refine Tot.step0 (fun k a b => orielref01_begins_l0_q (lv k) k s at_ l a v3) ?_
      exact Tot.f (decide_eq_false (by omega)) (Tot.ret trivial)
    | succ d ih =>
      intro v3 h3 h4
      refine Tot.step0 (fun k a b => orielref01_begins_l0_q (lv k) k s at_ l a v3) ?_
      have hw : IntKind.i64.wrap (at_ + v3) = at_ + v3 := wrap_id (by omega) (by omega)
      rw [hw, wrap_id (x := v3 + 1) (by omega) (by omega)]
      refine Tot.t (decide_eq_true (by omega)) (Tot.t (decide_eq_true (by omega)) (Tot.t (decide_eq_true (by omega)) (Tot.t (decide_eq_true (by omega)) (Tot.t (decide_eq_true (by omega)) ?_))))
      exact Tot.cond (fun _ => Tot.ret trivial) (fun _ => ih _ (by omega) (by omega))
  exact Tot.in0 (hl _ 0 (by omega) rfl)
-- UtfB
theorem size_rowBytes (l : List (List C)) : (rowBytes l).size = l.length := by
  unfold rowBytes
  show (List.toArray _).size = _
  rw [List.size_toArray, List.length_map]
theorem len_bytesRow (s : ByteArray) : (bytesRow s).length = s.size := by
  unfold bytesRow
  rw [List.length_map, Array.length_toList]
  rfl
theorem size_app (a b : ByteArray) : (a ++ b).size = a.size + b.size := by simp
theorem size_extract (s : ByteArray) (a b : Nat) : (s.extract a b).size = min b s.size - a := by simp
set_option maxRecDepth 100000 in
theorem cut_tot (s : ByteArray) (at_ : Int) (h0 : 0 ≤ at_) (h1 : at_ ≤ s.size) (hs : s.size ≤ 1048576) : Tot (fun k _ _ => (lv k).orielref01_cut s at_) (fun _ => True) := by
  have hw : IntKind.i64.wrap ((s.size : Int) - at_) = s.size - at_ := wrap_id (by omega) (by omega)
  refine orielref01_cut_up _ _ (Tot.congr ?_ (fun k _ _ => orielref01_cut_q (lv k) k s at_))
  rw [hw]
  refine Tot.cond (fun _ => Tot.ret trivial) (fun hn => Tot.cond (fun _ => Tot.ret trivial) (fun hn2 => ?_))
  have hn := of_decide_eq_false hn
  have hn2 := of_decide_eq_false hn2
  rw [wrap_id (x := (s.size : Int) - at_ + 1) (by omega) (by omega)]
  have hx : (s.extract at_.toNat ((s.size : Int).toNat)).size = s.size - at_.toNat := by rw [size_extract]; omega
  have key : ∀ (d : Nat) (v3 : Int), (s.size : Int) - at_ + 1 ≤ v3 → (5 - v3).toNat = d → Tot (fun k a b => orielref01_cut_l0 (lv k) k s at_ a v3) (fun _ => True) := by
    intro d
    induction d with
    | zero =>
      intro v3 h3 h4
      refine Tot.step0 (fun k a b => orielref01_cut_l0_q (lv k) k s at_ a v3) ?_
      exact Tot.f (decide_eq_false (by omega)) (Tot.ret trivial)
    | succ d ih =>
      intro v3 h3 h4
      have hnext : Tot (fun k a b => orielref01_cut_l0 (lv k) k s at_ a (IntKind.i64.wrap (v3 + 1))) (fun _ => True) := by
        rw [wrap_id (by omega) (by omega)]
        exact ih _ (by omega) (by omega)
      have h4l : ∀ (d : Nat) (v5 v6 v7 : Int), 0 ≤ v7 → (64 - v7).toNat = d → Tot (fun k a b => orielref01_cut_l4 (lv k) k s at_ a b v3 v5 v6 v7) (fun _ => True) := by
        intro d
        induction d with
        | zero =>
          intro v5 v6 v7 h5 h6
          refine Tot.step1 (fun k a b => orielref01_cut_l4_q (lv k) k s at_ a b v3 v5 v6 v7) ?_
          exact Tot.f (decide_eq_false (by omega)) hnext
        | succ d ihd =>
          intro v5 v6 v7 h5 h6
          refine Tot.step1 (fun k a b => orielref01_cut_l4_q (lv k) k s at_ a b v3 v5 v6 v7) ?_
          have hi : Tot (fun k a b => orielref01_cut_l4 (lv k) k s at_ a b v3 v5 v6 (IntKind.i64.wrap (v7 + 1))) (fun _ => True) := by
            rw [wrap_id (by omega) (by omega)]
            exact ihd v5 v6 _ (by omega) (by omega)
          have hp : ∀ r, Tot (fun k a b => ((lv k).orielref01_Put r).bind fun r1 => cond ((r1.length : Int) == v3) (cond (decide ((rowBytes r1).size + (⟨#[120]⟩ : ByteArray).size ≤ 4611686018427387904)) (cond (roomy Tryd.prog 5 ((s.extract at_.toNat ((s.size : Int).toNat)).size)) (((lv k).orielref01_begins ((rowBytes r1) ++ (⟨#[120]⟩ : ByteArray)) 0 (bytesRow (s.extract at_.toNat ((s.size : Int).toNat)))).bind fun r2 => cond r2 (some true) (orielref01_cut_l4 (lv k) k s at_ a b v3 v5 v6 (IntKind.i64.wrap (v7 + 1)))) none) none) (orielref01_cut_l4 (lv k) k s at_ a b v3 v5 v6 (IntKind.i64.wrap (v7 + 1)))) (fun _ => True) := fun r => by
            refine Tot.bind (put_tot r) fun r1 hr1 => Tot.cond (fun _ => ?_) (fun _ => hi)
            have e1 : (⟨#[120]⟩ : ByteArray).size = 1 := rfl
            refine Tot.t (decide_eq_true (by rw [size_rowBytes, e1]; omega)) (Tot.t (roomy_of (by have : Tryd.prog.bytesOf 5 = 1 := by kernel_rfl
                                                                                                  omega) (by omega)) ?_)
            refine Tot.bind (begins_tot _ 0 _ (by omega) (by omega) (by rw [len_bytesRow]; omega) (by rw [size_app, size_rowBytes, e1]; omega)) fun r2 _ => Tot.cond (fun _ => Tot.ret trivial) (fun _ => hi)
          refine Tot.t (decide_eq_true (by omega)) (Tot.cond (fun _ => hp _) (fun _ => hp _))
      have h3l : ∀ v5 v6 v7 v8, Tot (fun k a b => orielref01_cut_l3 (lv k) k s at_ a v3 v5 v6 v7 v8) (fun _ => True) := fun v5 v6 v7 v8 => by
        refine Tot.congr ?_ (fun k a b => orielref01_cut_l3_q (lv k) k s at_ a v3 v5 v6 v7 v8)
        exact Tot.cond (fun _ => hnext) (fun _ => Tot.cond (fun _ => hnext) (fun _ => Tot.in1 (h4l _ v5 v6 0 (by omega) rfl)))
      have h2l : ∀ (d : Nat) (v5 v6 : Int) (v7 : Bool) (v8 : Int), 1 ≤ v8 → ((s.size : Int) - at_ - v8).toNat = d → Tot (fun k a b => orielref01_cut_l2 (lv k) k s at_ a b v3 v5 v6 v7 v8) (fun _ => True) := by
        intro d
        induction d with
        | zero =>
          intro v5 v6 v7 v8 h5 h6
          refine Tot.step1 (fun k a b => orielref01_cut_l2_q (lv k) k s at_ a b v3 v5 v6 v7 v8) ?_
          rw [hw]
          refine Tot.f (decide_eq_false (by omega)) ?_
          have g1 : decide ((0 : Int) ≤ at_) = true := decide_eq_true h0
          have g2 : decide (at_ < (s.size : Int)) = true := decide_eq_true (by omega)
          repeat' first
            | exact h3l _ _ _ _
            | refine Tot.t g1 ?_
            | refine Tot.t g2 ?_
            | refine Tot.cond (fun _ => ?_) (fun _ => ?_)
        | succ d ihd =>
          intro v5 v6 v7 v8 h5 h6
          refine Tot.step1 (fun k a b => orielref01_cut_l2_q (lv k) k s at_ a b v3 v5 v6 v7 v8) ?_
          rw [hw, wrap_id (x := at_ + v8) (by omega) (by omega), wrap_id (x := v8 + 1) (by omega) (by omega)]
          refine Tot.t (decide_eq_true (by omega)) ?_
          have g1 : decide ((0 : Int) ≤ at_ + v8) = true := decide_eq_true (by omega)
          have g2 : decide (at_ + v8 < (s.size : Int)) = true := decide_eq_true (by omega)
          repeat' first
            | exact ihd _ _ _ _ (by omega) (by omega)
            | refine Tot.t g1 ?_
            | refine Tot.t g2 ?_
            | refine Tot.cond (fun _ => ?_) (fun _ => ?_)
      have h1l : ∀ (d : Nat) (v5 v6 : ByteArray), v5.size = v6.size → v5.size ≤ 2097152 → (v3 - v5.size).toNat = d → Tot (fun k a b => orielref01_cut_l1 (lv k) k s at_ a b v3 v5 v6) (fun _ => True) := by
        intro d
        induction d with
        | zero =>
          intro v5 v6 h5 h6 h7
          refine Tot.step1 (fun k a b => orielref01_cut_l1_q (lv k) k s at_ a b v3 v5 v6) ?_
          refine Tot.f (decide_eq_false (by omega)) ?_
          exact Tot.bind (value_tot v5 0 v3 (by omega) (by omega) (by omega) (by omega) h6) fun r1 _ => Tot.bind (value_tot v6 0 v3 (by omega) (by omega) (by omega) (by omega) (by omega)) fun r2 _ => Tot.in1 (h2l _ r1 r2 true 1 (by omega) rfl)
        | succ d ihd =>
          intro v5 v6 h5 h6 h7
          refine Tot.step1 (fun k a b => orielref01_cut_l1_q (lv k) k s at_ a b v3 v5 v6) ?_
          have e1 : (⟨#[128]⟩ : ByteArray).size = 1 := rfl
          have e2 : (⟨#[191]⟩ : ByteArray).size = 1 := rfl
          refine Tot.t (decide_eq_true (by omega)) (Tot.t (decide_eq_true (by rw [e1]; omega)) (Tot.t (decide_eq_true (by rw [e2]; omega)) ?_))
          exact ihd _ _ (by rw [size_app, size_app, e1, e2]; omega) (by rw [size_app, e1]; omega) (by rw [size_app, e1]; omega)
      refine Tot.step0 (fun k a b => orielref01_cut_l0_q (lv k) k s at_ a v3) ?_
      refine Tot.t (decide_eq_true (by omega)) (Tot.t (decide_eq_true (by omega)) (Tot.t (decide_eq_true (by omega)) (Tot.t (decide_eq_true (by omega)) (Tot.t (decide_eq_true (by omega)) ?_))))
      exact Tot.in1 (h1l _ _ _ rfl (by rw [hx]; omega) rfl)
  exact Tot.in0 (key _ _ (by omega) rfl)
theorem rune_tot (s : ByteArray) (at_ : Int) (h0 : 0 ≤ at_) (hs : s.size ≤ 1048576) : Tot (fun k _ _ => (lv k).orielref01_Rune s at_) (fun r => r.2.2 = 0 → 1 ≤ r.2.1 ∧ r.2.1 ≤ 4 ∧ at_ + r.2.1 ≤ s.size) := by
  refine orielref01_Rune_up _ _ (Tot.congr ?_ (fun k _ _ => orielref01_Rune_q (lv k) k s at_))
  refine Tot.cond (fun _ => Tot.ret (fun h => by cases h)) (fun h1 => Tot.cond (fun _ => Tot.ret (fun h => by cases h)) (fun h2 => ?_))
  have h1 := of_decide_eq_false h1
  have h2 := of_decide_eq_false h2
  have hc : Tot (fun k a b => ((lv k).orielref01_cut s at_).bind fun r7 => cond r7 (some ((0 : Int), (0 : Int), (7 : Int))) (some (0, 0, 2))) (fun r => r.2.2 = 0 → 1 ≤ r.2.1 ∧ r.2.1 ≤ 4 ∧ at_ + r.2.1 ≤ s.size) :=
    Tot.bind (cut_tot s at_ h0 (by omega) hs) fun r _ => Tot.cond (fun _ => Tot.ret (fun h => by cases h)) (fun _ => Tot.ret (fun h => by cases h))
  have key : ∀ (d : Nat) (v2 : Int), 1 ≤ v2 → (5 - v2).toNat = d → Tot (fun k a b => orielref01_Rune_l0 (lv k) k s at_ a v2) (fun r => r.2.2 = 0 → 1 ≤ r.2.1 ∧ r.2.1 ≤ 4 ∧ at_ + r.2.1 ≤ s.size) := by
    intro d
    induction d with
    | zero =>
      intro v2 h3 h4
      refine Tot.step0 (fun k a b => orielref01_Rune_l0_q (lv k) k s at_ a v2) ?_
      exact Tot.f (decide_eq_false (by omega)) hc
    | succ d ih =>
      intro v2 h3 h4
      refine Tot.step0 (fun k a b => orielref01_Rune_l0_q (lv k) k s at_ a v2) ?_
      rw [wrap_id (x := at_ + v2) (by omega) (by omega), wrap_id (x := v2 + 1) (by omega) (by omega)]
      have hi := ih (v2 + 1) (by omega) (by omega)
      refine Tot.t (decide_eq_true (by omega)) (Tot.cond (fun h5 => ?_) (fun _ => hc))
      have h5 := of_decide_eq_true h5
      have hp : ∀ v, Tot (fun k a b => ((lv k).orielref01_Put v).bind fun r2 => cond ((r2.length : Int) == v2) (((lv k).orielref01_begins s at_ r2).bind fun r3 => cond r3 (some (v, v2, 0)) (orielref01_Rune_l0 (lv k) k s at_ a (v2 + 1))) (orielref01_Rune_l0 (lv k) k s at_ a (v2 + 1))) (fun r => r.2.2 = 0 → 1 ≤ r.2.1 ∧ r.2.1 ≤ 4 ∧ at_ + r.2.1 ≤ s.size) := fun v =>
        Tot.bind (put_tot v) fun r2 hr2 => Tot.cond (fun _ => Tot.bind (begins_tot s at_ r2 h0 (by omega) (by omega) (by omega)) fun r3 _ => Tot.cond (fun _ => Tot.ret (fun _ => ⟨h3, by show v2 ≤ 4; omega, h5⟩)) (fun _ => hi)) (fun _ => hi)
      refine Tot.t (decide_eq_true (by omega)) (Tot.t (decide_eq_true (by omega)) (Tot.cond (fun h6 => ?_) (fun _ => hp _)))
      exact Tot.bind (value_tot s at_ v2 h0 (by omega) (by omega) (by omega) (by omega)) fun r1 _ => hp r1
  exact Tot.in0 (key _ 1 (by omega) rfl)
theorem all_tot (s : ByteArray) (hs : s.size ≤ 1048576) : Tot (fun k _ _ => (lv k).orielref01_All s) (fun r => r.1.length ≤ 1048576) := by
  refine orielref01_All_up _ (Tot.congr ?_ (fun k _ _ => orielref01_All_q (lv k) k s))
  have key : ∀ (d : Nat) (v1 : Int) (v2 : List (List C)), 0 ≤ v1 → v1 ≤ s.size → (v2.length : Int) ≤ v1 → ((s.size : Int) - v1).toNat ≤ d → Tot (fun k a b => orielref01_All_l1 (lv k) k s a v1 v2) (fun r => r.1.length ≤ 1048576) := by
    intro d
    induction d with
    | zero =>
      intro v1 v2 h0 h1 h2 h3
      refine Tot.step0 (fun k a b => orielref01_All_l1_q (lv k) k s a v1 v2) ?_
      exact Tot.f (decide_eq_false (by omega)) (Tot.ret (by show v2.length ≤ 1048576; omega))
    | succ d ih =>
      intro v1 v2 h0 h1 h2 h3
      refine Tot.step0 (fun k a b => orielref01_All_l1_q (lv k) k s a v1 v2) ?_
      refine Tot.cond (fun h4 => ?_) (fun _ => Tot.ret (by show v2.length ≤ 1048576; omega))
      refine Tot.bind (rune_tot s v1 h0 hs) fun r hr => Tot.cond (fun _ => Tot.ret (by show v2.length ≤ 1048576; omega)) (fun h5 => ?_)
      have h5 : r.2.2 = 0 := by simpa using h5
      obtain ⟨h6, h7, h8⟩ := hr h5
      rw [wrap_id (by omega) (by omega)]
      refine Tot.t (roomy_of (by have : Tryd.prog.bytesOf 21 = 4 := by kernel_rfl
                                 omega) (by omega)) (ih _ _ (by omega) (by omega) (by rw [List.length_append]; simp; omega) (by omega))
  refine Tot.in0 (g := fun k a _ => orielref01_All_l0 (lv k) k s a) (Tot.step0 (fun k a b => orielref01_All_l0_q (lv k) k s a) ?_)
  refine Tot.cond (fun h4 => ?_) (fun _ => Tot.ret (by show ([] : List (List C)).length ≤ 1048576; simp))
  refine Tot.bind (rune_tot s 0 (by omega) hs) fun r hr => Tot.cond (fun _ => Tot.ret (by show ([] : List (List C)).length ≤ 1048576; simp)) (fun h5 => ?_)
  have h5 : r.2.2 = 0 := by simpa using h5
  obtain ⟨h6, h7, h8⟩ := hr h5
  rw [wrap_id (by omega) (by omega)]
  exact key _ _ _ (by omega) (by omega) (by simp; omega) (Nat.le_refl _)
theorem blank_tot (r : Int) : Tot (fun k _ _ => (lv k).orielref02_Blank r) (fun _ => True) := by
  refine orielref02_Blank_up _ (Tot.congr ?_ (fun k _ _ => orielref02_Blank_q (lv k) k r))
  repeat' first
    | refine Tot.cond (fun _ => ?_) (fun _ => ?_)
    | exact Tot.ret trivial
theorem char_tot (r : Int) : Tot (fun k _ _ => (lv k).orielref02_Char r) (fun _ => True) := by
  refine orielref02_Char_up _ (Tot.congr ?_ (fun k _ _ => orielref02_Char_q (lv k) k r))
  repeat' first
    | refine Tot.cond (fun _ => ?_) (fun _ => ?_)
    | exact Tot.ret trivial
    | refine Tot.bind (blank_tot _) fun _ _ => ?_
set_option maxRecDepth 100000 in
theorem start_tot (r : Int) : Tot (fun k _ _ => (lv k).orielref02_Start r) (fun _ => True) := by
  refine orielref02_Start_up _ (Tot.congr ?_ (fun k _ _ => orielref02_Start_q (lv k) k r))
  repeat' first
    | refine Tot.cond (fun _ => ?_) (fun _ => ?_)
    | exact Tot.ret trivial
set_option maxRecDepth 100000 in
theorem part_tot (r : Int) : Tot (fun k _ _ => (lv k).orielref02_Part r) (fun _ => True) := by
  refine orielref02_Part_up _ (Tot.congr ?_ (fun k _ _ => orielref02_Part_q (lv k) k r))
  repeat' first
    | refine Tot.cond (fun _ => ?_) (fun _ => ?_)
    | exact Tot.ret trivial
    | refine Tot.bind (start_tot _) fun _ _ => ?_
theorem right4_tot (s : ByteArray) (hs : s.size ≤ 1048576) : Tot (fun k _ _ => (lv k).orielref04_Right s) (fun _ => True) := by
  refine orielref04_Right_up _ (Tot.congr ?_ (fun k _ _ => orielref04_Right_q (lv k) k s))
  refine Tot.bind (all_tot s hs) fun r hr => ?_
  have key : ∀ (d : Nat) (v1 : Int), 0 ≤ v1 → ((r.1.length : Int) - v1).toNat = d → Tot (fun k a b => orielref04_Right_l0 (lv k) k s a r.2.2 v1 r.1) (fun _ => True) := by
    intro d
    induction d with
    | zero =>
      intro v1 h0 h1
      refine Tot.step0 (fun k a b => orielref04_Right_l0_q (lv k) k s a r.2.2 v1 r.1) ?_
      exact Tot.f (decide_eq_false (by omega)) (Tot.ret trivial)
    | succ d ih =>
      intro v1 h0 h1
      refine Tot.step0 (fun k a b => orielref04_Right_l0_q (lv k) k s a r.2.2 v1 r.1) ?_
      rw [wrap_id (x := v1 + 1) (by omega) (by omega)]
      refine Tot.t (decide_eq_true (by omega)) (Tot.t (decide_eq_true (by omega)) (Tot.t (decide_eq_true (by omega)) ?_))
      exact Tot.bind (char_tot _) fun r1 _ => Tot.cond (fun _ => Tot.ret trivial) (fun _ => ih _ (by omega) (by omega))
  exact Tot.in0 (key _ 0 (by omega) rfl)
theorem len_runesRow (s : ByteArray) : (runesRow s).length ≤ s.size := by
  unfold runesRow
  rw [List.length_map]
  exact runesAux_length s s.size 0
theorem plain_tot (s : ByteArray) (hs : s.size ≤ 1048576) : Tot (fun k _ _ => (lv k).orielref03_Plain s) (fun _ => True) := by
  refine orielref03_Plain_up _ (Tot.congr ?_ (fun k _ _ => orielref03_Plain_q (lv k) k s))
  have hl := len_runesRow s
  refine Tot.t (roomy_of (by have : Tryd.prog.bytesOf 21 = 4 := by kernel_rfl
                             omega) (by omega)) ?_
  refine Tot.cond (fun _ => Tot.ret trivial) (fun h1 => ?_)
  have h1 : (runesRow s).length ≠ 0 := by simpa using h1
  refine Tot.t (decide_eq_true (by omega)) (Tot.bind (start_tot _) fun r _ => Tot.cond (fun _ => Tot.ret trivial) (fun _ => ?_))
  have key : ∀ (d : Nat) (v1 : Int), 0 ≤ v1 → (((runesRow s).length : Int) - v1).toNat = d → Tot (fun k a b => orielref03_Plain_l0 (lv k) k s a v1) (fun _ => True) := by
    intro d
    induction d with
    | zero =>
      intro v1 h0 h1
      refine Tot.step0 (fun k a b => orielref03_Plain_l0_q (lv k) k s a v1) ?_
      exact Tot.f (decide_eq_false (by omega)) (Tot.ret trivial)
    | succ d ih =>
      intro v1 h0 h1
      refine Tot.step0 (fun k a b => orielref03_Plain_l0_q (lv k) k s a v1) ?_
      rw [wrap_id (x := v1 + 1) (by omega) (by omega)]
      refine Tot.t (decide_eq_true (by omega)) (Tot.t (decide_eq_true (by omega)) (Tot.t (decide_eq_true (by omega)) ?_))
      exact Tot.bind (part_tot _) fun r1 _ => Tot.cond (fun _ => Tot.ret trivial) (fun _ => ih _ (by omega) (by omega))
  exact Tot.in0 (key _ 0 (by omega) rfl)
theorem find_tot (s : ByteArray) (x : ByteArray) (hs : s.size ≤ 1048576) (hx : x.size ≤ 1048576) : Tot (fun k _ _ => (lv k).orielref05_Find s 0 x) (fun _ => True) := by
  refine orielref05_Find_up _ _ _ (Tot.congr ?_ (fun k _ _ => orielref05_Find_q (lv k) k s 0 x))
  have key : ∀ (d : Nat) (v2 : Int), 0 ≤ v2 → v2 ≤ 1048577 → ((s.size : Int) + 1 - v2).toNat = d → Tot (fun k a b => orielref05_Find_l0 (lv k) k s 0 x a v2) (fun _ => True) := by
    intro d
    induction d with
    | zero =>
      intro v2 h0 h1 h2
      refine Tot.step0 (fun k a b => orielref05_Find_l0_q (lv k) k s 0 x a v2) ?_
      rw [wrap_id (x := v2 + (x.size : Int)) (by omega) (by omega)]
      exact Tot.f (decide_eq_false (by omega)) (Tot.ret trivial)
    | succ d ih =>
      intro v2 h0 h1 h2
      refine Tot.step0 (fun k a b => orielref05_Find_l0_q (lv k) k s 0 x a v2) ?_
      rw [wrap_id (x := v2 + (x.size : Int)) (by omega) (by omega), wrap_id (x := v2 + 1) (by omega) (by omega)]
      refine Tot.cond (fun h3 => ?_) (fun _ => Tot.ret trivial)
      have h3 := of_decide_eq_true h3
      refine Tot.t (decide_eq_true (by omega)) (Tot.t (decide_eq_true (by omega)) (Tot.t (decide_eq_true (by omega)) (Tot.t (decide_eq_true (by omega)) ?_)))
      exact Tot.cond (fun _ => Tot.ret trivial) (fun _ => ih _ (by omega) (by omega) (by omega))
  exact Tot.in0 (key _ 0 (by omega) (by omega) rfl)
theorem named_tot (s t : ByteArray) (hs : s.size ≤ 1048576) (ht : t.size ≤ 1048576) : Tot (fun k _ _ => (lv k).orielref12_named s t) (fun _ => True) := by
  refine orielref12_named_up _ _ (Tot.congr ?_ (fun k _ _ => orielref12_named_q (lv k) k s t))
  refine Tot.cond (fun _ => Tot.bind (plain_tot t ht) fun r1 _ => Tot.cond (fun _ => Tot.bind (right4_tot t ht) fun r2 _ => Tot.cond (fun _ => Tot.bind (right4_tot s hs) fun r3 _ => Tot.cond (fun _ => Tot.bind (find_tot s _ hs ?_) fun r4 _ => Tot.cond (fun _ => Tot.bind (find_tot s _ hs ?_) fun r5 _ => Tot.ret trivial) (fun _ => Tot.ret trivial)) (fun _ => Tot.ret trivial)) (fun _ => Tot.ret trivial)) (fun _ => Tot.ret trivial)) (fun _ => Tot.ret trivial)
  · have : (⟨#[123]⟩ : ByteArray).size = 1 := rfl
    omega
  · have : (⟨#[125]⟩ : ByteArray).size = 1 := rfl
    omega
-- Right
abbrev BB : Nat := 1048576
/-- a right path (true), a right filter (false), as far as d parts lie within one another -/
def ok : Nat → Bool → List C → Prop
  | 0, _, _ => False
  | d + 1, true, a => 1 ≤ gi a 0 ∧ gi a 0 ≤ 7 ∧ (gi a 0 = 4 ∨ gi a 0 = 5 → 2 ≤ (gr a 1).length) ∧ (gi a 0 = 6 → (gr a 1).length = 1) ∧ (gi a 0 = 7 ↔ (gr a 2).length = 1) ∧ (gr a 2).length ≤ 1 ∧ (gr a 1).length ≤ 64 ∧ (gi a 0 ≠ 4 → gi a 0 ≠ 5 → gi a 0 ≠ 6 → (gr a 1).length = 0) ∧ (∀ i, i < (gr a 1).length → ok d true ((gr a 1).getD i [])) ∧ (∀ i, i < (gr a 2).length → ok d false ((gr a 2).getD i []))
  | d + 1, false, a => 1 ≤ gi a 0 ∧ gi a 0 ≤ 11 ∧ (gi a 0 = 8 → (gr a 4).length = 1) ∧ (gr a 4).length ≤ 64 ∧ (gi a 0 = 9 ∨ gi a 0 = 10 → 2 ≤ (gr a 4).length) ∧ (gi a 0 ≠ 8 → gi a 0 ≠ 9 → gi a 0 ≠ 10 → (gr a 4).length = 0) ∧ (gi a 0 = 11 ↔ (gr a 5).length = 1) ∧ (gr a 5).length ≤ 1 ∧ (∀ i, i < (gr a 4).length → ok d false ((gr a 4).getD i [])) ∧ (∀ i, i < (gr a 5).length → ok d true ((gr a 5).getD i []))
/-- how many parts -/
def sz : Nat → Bool → List C → Nat
  | 0, _, _ => 1
  | d + 1, true, a => 1 + ((gr a 1).map (sz d true)).sum + ((gr a 2).map (sz d false)).sum
  | d + 1, false, a => 1 + ((gr a 4).map (sz d false)).sum + ((gr a 5).map (sz d true)).sum
theorem sum_take {α : Type} (l : List α) (f : α → Nat) (i : Nat) (d : α) (h : i < l.length) : ((l.take (i + 1)).map f).sum = ((l.take i).map f).sum + f (l.getD i d) := by
  rw [List.take_add_one, List.map_append, List.sum_append, List.getElem?_eq_getElem h]
  simp [List.getD, List.getElem?_eq_getElem h]
theorem part_lt {a : List C} {j i M : Nat} (h : SizeOf.sizeOf a < M + 1) (hi : i < (gr a j).length) : SizeOf.sizeOf ((gr a j).getD i []) < M := by
  have h1 := gr_size j a
  have h2 := List.sizeOf_lt_of_mem (getD_mem (d := []) hi)
  omega
def SizeQ (k : Bool) (a : List C) (most r : Int) : Prop := 1 ≤ r ∧ r ≤ most + 1 ∧ (r ≤ most → ∀ d, (sz d k a : Int) ≤ r)
theorem size_tot : ∀ M : Nat,
    (∀ (a : List C) (most : Int), SizeOf.sizeOf a < M → SmR BB a → 0 ≤ most → most ≤ 64 → Tot (fun k _ _ => (lv k).orielref12_size (gi a 0) (gr a 1) (gr a 2) most) (SizeQ true a most)) ∧
    (∀ (a : List C) (most : Int), SizeOf.sizeOf a < M → SmR BB a → 0 ≤ most → most ≤ 64 → Tot (fun k _ _ => (lv k).orielref12_sizeFilter (gi a 0) (gs a 1) (gs a 2) (gs a 3) (gr a 4) (gr a 5) most) (SizeQ false a most)) := by
  intro M
  induction M with
  | zero => exact ⟨fun _ _ h => by omega, fun _ _ h => by omega⟩
  | succ M ih =>
    constructor
    · intro a most hM ha h0 h64
      have hl1 : (gr a 1).length ≤ 1048576 := (ha.gr 1).1
      have hl2 : (gr a 2).length ≤ 1048576 := (ha.gr 2).1
      refine orielref12_size_up _ _ _ _ (Tot.congr ?_ (fun k _ _ => orielref12_size_q (lv k) k (gi a 0) (gr a 1) (gr a 2) most))
      have l1 : ∀ (d i : Nat) (v : Int), (gr a 2).length - i = d → i ≤ (gr a 2).length → 1 ≤ v → v ≤ most + 1 → (v ≤ most → ∀ d, 1 + (((gr a 1).map (sz d true)).sum : Int) + (((gr a 2).take i).map (sz d false)).sum ≤ v) → Tot (fun k x y => orielref12_size_l1 (lv k) k (gi a 0) (gr a 1) (gr a 2) most x v i) (SizeQ true a most) := by
        intro d
        induction d using Nat.strongRecOn with | _ d ihd => ?_
        intro i v hd hi g1 g2 g3
        have hend : i = (gr a 2).length ∨ ¬ v ≤ most → SizeQ true a most v := fun h => ⟨g1, g2, fun hv d => by
          rcases h with h | h
          · have := g3 hv (d - 1)
            rw [h, List.take_length] at this
            cases d with
            | zero => simp only [sz]; omega
            | succ d => simp only [sz]; simp only [Nat.add_sub_cancel] at this; omega
          · exact absurd hv h⟩
        refine Tot.step0 (fun k x y => orielref12_size_l1_q (lv k) k (gi a 0) (gr a 1) (gr a 2) most x v (i : Int)) ?_
        rw [wrap_id (x := most - v) (by omega) (by omega), wrap_id (x := (i : Int) + 1) (by omega) (by omega), Int.toNat_natCast]
        refine Tot.cond (fun hc => Tot.cond (fun hc2 => ?_) (fun hc2 => Tot.ret (hend (.inr (of_decide_eq_false hc2))))) (fun hc => Tot.ret (hend (.inl ?_)))
        · have hc := of_decide_eq_true hc
          have hc2 := of_decide_eq_true hc2
          refine Tot.t (decide_eq_true (by omega)) (Tot.t (decide_eq_true (by omega)) ?_)
          refine Tot.bind (ih.2 _ _ (part_lt hM (by omega : i < (gr a 2).length)) ((ha.gr 2).get i) (by omega) (by omega)) fun r hr => ?_
          obtain ⟨r1, r2, r3⟩ := hr
          rw [wrap_id (x := v + r) (by omega) (by omega)]
          refine ihd _ (by omega) (i + 1) (v + r) rfl (by omega) (by omega) (by omega) (fun hv d => ?_)
          have h1 := g3 (by omega) d
          have h2 := r3 (by omega) d
          rw [sum_take _ _ _ [] (by omega)]
          omega
        · have hc := of_decide_eq_false hc
          omega
      have l0 : ∀ (d i : Nat) (v : Int), (gr a 1).length - i = d → i ≤ (gr a 1).length → 1 ≤ v → v ≤ most + 1 → (v ≤ most → ∀ d, 1 + ((((gr a 1).take i).map (sz d true)).sum : Int) ≤ v) → Tot (fun k x y => orielref12_size_l0 (lv k) k (gi a 0) (gr a 1) (gr a 2) most x v i) (SizeQ true a most) := by
        intro d
        induction d using Nat.strongRecOn with | _ d ihd => ?_
        intro i v hd hi g1 g2 g3
        have hend : i = (gr a 1).length ∨ ¬ v ≤ most → Tot (fun k x y => orielref12_size_l1 (lv k) k (gi a 0) (gr a 1) (gr a 2) most k v 0) (SizeQ true a most) := fun h => Tot.in0 (l1 _ 0 v rfl (by omega) g1 g2 (fun hv d => by
          rcases h with h | h
          · have := g3 hv d
            rw [h, List.take_length] at this
            simpa using this
          · exact absurd hv h))
        refine Tot.step0 (fun k x y => orielref12_size_l0_q (lv k) k (gi a 0) (gr a 1) (gr a 2) most x v (i : Int)) ?_
        rw [wrap_id (x := most - v) (by omega) (by omega), wrap_id (x := (i : Int) + 1) (by omega) (by omega), Int.toNat_natCast]
        refine Tot.cond (fun hc => Tot.cond (fun hc2 => ?_) (fun hc2 => hend (.inr (of_decide_eq_false hc2)))) (fun hc => hend (.inl ?_))
        · have hc := of_decide_eq_true hc
          have hc2 := of_decide_eq_true hc2
          refine Tot.t (decide_eq_true (by omega)) (Tot.t (decide_eq_true (by omega)) ?_)
          refine Tot.bind (ih.1 _ _ (part_lt hM (by omega : i < (gr a 1).length)) ((ha.gr 1).get i) (by omega) (by omega)) fun r hr => ?_
          obtain ⟨r1, r2, r3⟩ := hr
          rw [wrap_id (x := v + r) (by omega) (by omega)]
          refine ihd _ (by omega) (i + 1) (v + r) rfl (by omega) (by omega) (by omega) (fun hv d => ?_)
          have h1 := g3 (by omega) d
          have h2 := r3 (by omega) d
          rw [sum_take _ _ _ [] (by omega)]
          omega
        · have hc := of_decide_eq_false hc
          omega
      exact Tot.in0 (l0 _ 0 1 rfl (by omega) (by omega) (by omega) (fun h d => by simp))
    · intro a most hM ha h0 h64
      have hl1 : (gr a 4).length ≤ 1048576 := (ha.gr 4).1
      have hl2 : (gr a 5).length ≤ 1048576 := (ha.gr 5).1
      refine orielref12_sizeFilter_up _ _ _ _ _ _ _ (Tot.congr ?_ (fun k _ _ => orielref12_sizeFilter_q (lv k) k (gi a 0) (gs a 1) (gs a 2) (gs a 3) (gr a 4) (gr a 5) most))
      have l1 : ∀ (d i : Nat) (v : Int), (gr a 5).length - i = d → i ≤ (gr a 5).length → 1 ≤ v → v ≤ most + 1 → (v ≤ most → ∀ d, 1 + (((gr a 4).map (sz d false)).sum : Int) + (((gr a 5).take i).map (sz d true)).sum ≤ v) → Tot (fun k x y => orielref12_sizeFilter_l1 (lv k) k (gi a 0) (gs a 1) (gs a 2) (gs a 3) (gr a 4) (gr a 5) most x v i) (SizeQ false a most) := by
        intro d
        induction d using Nat.strongRecOn with | _ d ihd => ?_
        intro i v hd hi g1 g2 g3
        have hend : i = (gr a 5).length ∨ ¬ v ≤ most → SizeQ false a most v := fun h => ⟨g1, g2, fun hv d => by
          rcases h with h | h
          · have := g3 hv (d - 1)
            rw [h, List.take_length] at this
            cases d with
            | zero => simp only [sz]; omega
            | succ d => simp only [sz]; simp only [Nat.add_sub_cancel] at this; omega
          · exact absurd hv h⟩
        refine Tot.step0 (fun k x y => orielref12_sizeFilter_l1_q (lv k) k (gi a 0) (gs a 1) (gs a 2) (gs a 3) (gr a 4) (gr a 5) most x v (i : Int)) ?_
        rw [wrap_id (x := most - v) (by omega) (by omega), wrap_id (x := (i : Int) + 1) (by omega) (by omega), Int.toNat_natCast]
        refine Tot.cond (fun hc => Tot.cond (fun hc2 => ?_) (fun hc2 => Tot.ret (hend (.inr (of_decide_eq_false hc2))))) (fun hc => Tot.ret (hend (.inl ?_)))
        · have hc := of_decide_eq_true hc
          have hc2 := of_decide_eq_true hc2
          refine Tot.t (decide_eq_true (by omega)) (Tot.t (decide_eq_true (by omega)) ?_)
          refine Tot.bind (ih.1 _ _ (part_lt hM (by omega : i < (gr a 5).length)) ((ha.gr 5).get i) (by omega) (by omega)) fun r hr => ?_
          obtain ⟨r1, r2, r3⟩ := hr
          rw [wrap_id (x := v + r) (by omega) (by omega)]
          refine ihd _ (by omega) (i + 1) (v + r) rfl (by omega) (by omega) (by omega) (fun hv d => ?_)
          have h1 := g3 (by omega) d
          have h2 := r3 (by omega) d
          rw [sum_take _ _ _ [] (by omega)]
          omega
        · have hc := of_decide_eq_false hc
          omega
      have l0 : ∀ (d i : Nat) (v : Int), (gr a 4).length - i = d → i ≤ (gr a 4).length → 1 ≤ v → v ≤ most + 1 → (v ≤ most → ∀ d, 1 + ((((gr a 4).take i).map (sz d false)).sum : Int) ≤ v) → Tot (fun k x y => orielref12_sizeFilter_l0 (lv k) k (gi a 0) (gs a 1) (gs a 2) (gs a 3) (gr a 4) (gr a 5) most x v i) (SizeQ false a most) := by
        intro d
        induction d using Nat.strongRecOn with | _ d ihd => ?_
        intro i v hd hi g1 g2 g3
        have hend : i = (gr a 4).length ∨ ¬ v ≤ most → Tot (fun k x y => orielref12_sizeFilter_l1 (lv k) k (gi a 0) (gs a 1) (gs a 2) (gs a 3) (gr a 4) (gr a 5) most k v 0) (SizeQ false a most) := fun h => Tot.in0 (l1 _ 0 v rfl (by omega) g1 g2 (fun hv d => by
          rcases h with h | h
          · have := g3 hv d
            rw [h, List.take_length] at this
            simpa using this
          · exact absurd hv h))
        refine Tot.step0 (fun k x y => orielref12_sizeFilter_l0_q (lv k) k (gi a 0) (gs a 1) (gs a 2) (gs a 3) (gr a 4) (gr a 5) most x v (i : Int)) ?_
        rw [wrap_id (x := most - v) (by omega) (by omega), wrap_id (x := (i : Int) + 1) (by omega) (by omega), Int.toNat_natCast]
        refine Tot.cond (fun hc => Tot.cond (fun hc2 => ?_) (fun hc2 => hend (.inr (of_decide_eq_false hc2)))) (fun hc => hend (.inl ?_))
        · have hc := of_decide_eq_true hc
          have hc2 := of_decide_eq_true hc2
          refine Tot.t (decide_eq_true (by omega)) (Tot.t (decide_eq_true (by omega)) ?_)
          refine Tot.bind (ih.2 _ _ (part_lt hM (by omega : i < (gr a 4).length)) ((ha.gr 4).get i) (by omega) (by omega)) fun r hr => ?_
          obtain ⟨r1, r2, r3⟩ := hr
          rw [wrap_id (x := v + r) (by omega) (by omega)]
          refine ihd _ (by omega) (i + 1) (v + r) rfl (by omega) (by omega) (by omega) (fun hv d => ?_)
          have h1 := g3 (by omega) d
          have h2 := r3 (by omega) d
          rw [sum_take _ _ _ [] (by omega)]
          omega
        · have hc := of_decide_eq_false hc
          omega
      exact Tot.in0 (l0 _ 0 1 rfl (by omega) (by omega) (by omega) (fun h d => by simp))
theorem right_tots : ∀ d : Nat, d ≤ 100 →
    (∀ (a : List C), SmR BB a → Tot (fun k _ _ => (lv k).orielref12_path (gi a 0) (gr a 1) (gr a 2) d) (fun r => r = true → ok d true a)) ∧
    (∀ (a : List C), SmR BB a → Tot (fun k _ _ => (lv k).orielref12_filter (gi a 0) (gs a 1) (gs a 2) (gs a 3) (gr a 4) (gr a 5) d) (fun r => r = true → ok d false a)) := by
  intro d
  induction d with
  | zero =>
    intro _
    constructor
    · intro a _
      refine orielref12_path_up _ _ _ _ (Tot.congr ?_ (fun k _ _ => orielref12_path_q (lv k) k (gi a 0) (gr a 1) (gr a 2) ((0 : Nat) : Int)))
      exact Tot.t (by rfl) (Tot.ret (fun h => by cases h))
    · intro a _
      refine orielref12_filter_up _ _ _ _ _ _ _ (Tot.congr ?_ (fun k _ _ => orielref12_filter_q (lv k) k (gi a 0) (gs a 1) (gs a 2) (gs a 3) (gr a 4) (gr a 5) ((0 : Nat) : Int)))
      exact Tot.t (by rfl) (Tot.ret (fun h => by cases h))
  | succ d ih =>
    intro hd
    have ih := ih (by omega)
    have hw : IntKind.i64.wrap (((d + 1 : Nat) : Int) - 1) = d := by rw [wrap_id (by omega) (by omega)]; omega
    have hne : (((d + 1 : Nat) : Int) == (0 : Int)) = false := by rw [beq_eq_false_iff_ne]; omega
    have iff_of : ∀ {x y m n : Int}, ¬ ((!((x == m) == (y == n))) = true) → (x = m ↔ y = n) := fun {x y m n} h => by
      have h : (x == m) = (y == n) := by simpa using h
      constructor
      · intro e
        have : (y == n) = true := by rw [← h, e]; simp
        exact eq_of_beq this
      · intro e
        have : (x == m) = true := by rw [h, e]; simp
        exact eq_of_beq this
    constructor
    · intro a ha
      have hl1 : (gr a 1).length ≤ 1048576 := (ha.gr 1).1
      have hl2 : (gr a 2).length ≤ 1048576 := (ha.gr 2).1
      refine orielref12_path_up _ _ _ _ (Tot.congr ?_ (fun k _ _ => orielref12_path_q (lv k) k (gi a 0) (gr a 1) (gr a 2) ((d + 1 : Nat) : Int)))
      refine Tot.f hne (Tot.cond (fun _ => Tot.ret (fun h => by cases h)) (fun h1 => Tot.cond (fun _ => Tot.ret (fun h => by cases h)) (fun h7 => ?_)))
      have h1 := of_decide_eq_false h1
      have h7 := of_decide_eq_false h7
      have key : ∀ v1 v2 : Int, (gi a 0 = 4 ∨ gi a 0 = 5 → v1 = 2 ∧ v2 = 64) → (gi a 0 = 6 → v1 = 1 ∧ v2 = 1) → (gi a 0 ≠ 4 → gi a 0 ≠ 5 → gi a 0 ≠ 6 → v1 = 0 ∧ v2 = 0) → Tot (fun k x y => orielref12_path_l0 (lv k) k (gi a 0) (gr a 1) (gr a 2) ((d + 1 : Nat) : Int) v1 v2) (fun r => r = true → ok (d + 1) true a) := by
        intro v1 v2 e1 e2 e3
        refine Tot.congr ?_ (fun k _ _ => orielref12_path_l0_q (lv k) k (gi a 0) (gr a 1) (gr a 2) ((d + 1 : Nat) : Int) v1 v2)
        refine Tot.cond (fun _ => Tot.ret (fun h => by cases h)) (fun g1 => Tot.cond (fun _ => Tot.ret (fun h => by cases h)) (fun g2 => Tot.cond (fun _ => Tot.ret (fun h => by cases h)) (fun g3 => Tot.cond (fun _ => Tot.ret (fun h => by cases h)) (fun g4 => ?_))))
        have g1 := of_decide_eq_false g1
        have g2 := of_decide_eq_false g2
        have g4 := of_decide_eq_false g4
        have g3 := iff_of (by rw [g3]; exact Bool.false_ne_true)
        have fin : (∀ j, j < (gr a 1).length → ok d true ((gr a 1).getD j [])) → (∀ j, j < (gr a 2).length → ok d false ((gr a 2).getD j [])) → ok (d + 1) true a := fun hs ht =>
          ⟨by omega, by omega, fun h => by have := e1 h; omega, fun h => by have := e2 h; omega, by rw [g3]; omega, by omega, by
            by_cases a4 : gi a 0 = 4 ∨ gi a 0 = 5
            · have := e1 a4; omega
            · by_cases a6 : gi a 0 = 6
              · have := e2 a6; omega
              · have := e3 (fun h => a4 (.inl h)) (fun h => a4 (.inr h)) a6; omega, fun a b c => by have := e3 a b c; omega, hs, ht⟩
        have loop : ∀ (n i : Nat), (gr a 1).length - i = n → i ≤ (gr a 1).length → (∀ j, j < i → ok d true ((gr a 1).getD j [])) → Tot (fun k x y => orielref12_path_l1 (lv k) k (gi a 0) (gr a 1) (gr a 2) ((d + 1 : Nat) : Int) x i) (fun r => r = true → ok (d + 1) true a) := by
          intro n
          induction n using Nat.strongRecOn with | _ n ihn => ?_
          intro i hn hi hj
          refine Tot.step0 (fun k x y => orielref12_path_l1_q (lv k) k (gi a 0) (gr a 1) (gr a 2) ((d + 1 : Nat) : Int) x i) ?_
          rw [hw, wrap_id (x := (i : Int) + 1) (by omega) (by omega), Int.toNat_natCast]
          refine Tot.cond (fun hc => ?_) (fun hc => Tot.cond (fun ht0 => ?_) (fun ht0 => ?_))
          · have hc := of_decide_eq_true hc
            refine Tot.t (decide_eq_true (by omega)) (Tot.t (decide_eq_true (by omega)) ?_)
            refine Tot.bind (ih.1 _ ((ha.gr 1).get i)) fun r hr1 => Tot.cond (fun _ => Tot.ret (fun h => by cases h)) (fun hb => ?_)
            have hb : r = true := by simpa using hb
            refine ihn _ (by omega) (i + 1) rfl (by omega) (fun j hjl => ?_)
            by_cases hjv : j = i
            · rw [hjv]; exact hr1 hb
            · exact hj j (by omega)
          · have hc := of_decide_eq_false hc
            have ht0 : (gr a 2).length = 0 := by simpa using ht0
            exact Tot.ret (fun _ => fin (fun j h => hj j (by omega)) (fun j h => by omega))
          · have hc := of_decide_eq_false hc
            have ht0 : (gr a 2).length ≠ 0 := by simpa using ht0
            refine Tot.t (decide_eq_true (by omega)) ?_
            refine Tot.bind (ih.2 _ ((ha.gr 2).get 0)) fun r hr => Tot.ret (fun hb => fin (fun j h => hj j (by omega)) (fun j h => ?_))
            rw [show j = 0 by omega]
            exact hr hb
        exact Tot.in0 (loop _ 0 rfl (by omega) (fun j hj => by omega))
      refine Tot.cond (fun h4 => ?_) (fun h4 => Tot.cond (fun h5 => ?_) (fun h5 => Tot.cond (fun h6 => ?_) (fun h6 => ?_)))
      · have h4 : gi a 0 = 4 := by simpa using h4
        exact Tot.f (by rw [beq_eq_false_iff_ne]; omega) (key 2 64 (fun _ => ⟨rfl, rfl⟩) (fun h => by omega) (fun h => by omega))
      · have h5 : gi a 0 = 5 := by simpa using h5
        exact Tot.f (by rw [beq_eq_false_iff_ne]; omega) (key 2 64 (fun _ => ⟨rfl, rfl⟩) (fun h => by omega) (fun _ h => by omega))
      · have h6 : gi a 0 = 6 := by simpa using h6
        exact key 1 1 (fun h => by omega) (fun _ => ⟨rfl, rfl⟩) (fun _ _ h => by omega)
      · have h4 : gi a 0 ≠ 4 := by simpa using h4
        have h5 : gi a 0 ≠ 5 := by simpa using h5
        have h6 : gi a 0 ≠ 6 := by simpa using h6
        exact key 0 0 (fun h => by omega) (fun h => by omega) (fun _ _ _ => ⟨rfl, rfl⟩)
    · intro a ha
      have hl1 : (gr a 4).length ≤ 1048576 := (ha.gr 4).1
      have hl2 : (gr a 5).length ≤ 1048576 := (ha.gr 5).1
      have no : Tot (fun _ _ _ => some false) (fun r => r = true → ok (d + 1) false a) := Tot.ret (fun h => by cases h)
      refine orielref12_filter_up _ _ _ _ _ _ _ (Tot.congr ?_ (fun k _ _ => orielref12_filter_q (lv k) k (gi a 0) (gs a 1) (gs a 2) (gs a 3) (gr a 4) (gr a 5) ((d + 1 : Nat) : Int)))
      refine Tot.f hne (Tot.cond (fun _ => no) (fun h1 => Tot.cond (fun _ => no) (fun h11 => ?_)))
      have h1 := of_decide_eq_false h1
      have h11 := of_decide_eq_false h11
      have l3 : ∀ v1 v2 : Int, (gi a 0 = 9 ∨ gi a 0 = 10 → v1 = 2 ∧ v2 = 64) → (gi a 0 = 8 → v1 = 1 ∧ v2 = 1) → (gi a 0 ≠ 8 → gi a 0 ≠ 9 → gi a 0 ≠ 10 → v1 = 0 ∧ v2 = 0) → Tot (fun k x y => orielref12_filter_l3 (lv k) k (gi a 0) (gs a 1) (gs a 2) (gs a 3) (gr a 4) (gr a 5) ((d + 1 : Nat) : Int) v1 v2) (fun r => r = true → ok (d + 1) false a) := by
        intro v1 v2 e1 e2 e3
        refine Tot.congr ?_ (fun k p_ q_ => orielref12_filter_l3_q (lv k) k (gi a 0) (gs a 1) (gs a 2) (gs a 3) (gr a 4) (gr a 5) ((d + 1 : Nat) : Int) v1 v2 )
        refine Tot.cond (fun _ => no) (fun g1 => Tot.cond (fun _ => no) (fun g2 => Tot.cond (fun _ => no) (fun g3 => Tot.cond (fun _ => no) (fun g4 => ?_))))
        have g1 := of_decide_eq_false g1
        have g2 := of_decide_eq_false g2
        have g4 := of_decide_eq_false g4
        have g3 := iff_of (by rw [g3]; exact Bool.false_ne_true)
        have fin : (∀ j, j < (gr a 4).length → ok d false ((gr a 4).getD j [])) → (∀ j, j < (gr a 5).length → ok d true ((gr a 5).getD j [])) → ok (d + 1) false a := fun hs ht =>
          ⟨by omega, by omega, fun h => by have := e2 h; omega, by
            by_cases a4 : gi a 0 = 9 ∨ gi a 0 = 10
            · have := e1 a4; omega
            · by_cases a6 : gi a 0 = 8
              · have := e2 a6; omega
              · have := e3 a6 (fun h => a4 (.inl h)) (fun h => a4 (.inr h)); omega, fun h => by have := e1 h; omega, fun a b c => by have := e3 a b c; omega, by rw [g3]; omega, by omega, hs, ht⟩
        refine Tot.in0 (Tot.loop (H := fun k x y v (_ : Unit) => orielref12_filter_l4 (lv k) k (gi a 0) (gs a 1) (gs a 2) (gs a 3) (gr a 4) (gr a 5) ((d + 1 : Nat) : Int) x v) (n := (gr a 4).length) (fun i _ => ∀ j, j < i → ok d false ((gr a 4).getD j [])) (by omega) (fun _ h => ?_) (fun i _ hi h next => ?_) _ 0 () rfl (by omega) (fun j hj => by omega))
        · refine Tot.step0 (fun k p_ q_ => orielref12_filter_l4_q (lv k) k (gi a 0) (gs a 1) (gs a 2) (gs a 3) (gr a 4) (gr a 5) ((d + 1 : Nat) : Int) p_ _) ?_
          refine Tot.f (decide_eq_false (by omega)) (Tot.cond (fun ht0 => ?_) (fun ht0 => ?_))
          · have ht0 : (gr a 5).length = 0 := by simpa using ht0
            exact Tot.ret (fun _ => fin h (fun j h => by omega))
          · have ht0 : (gr a 5).length ≠ 0 := by simpa using ht0
            refine Tot.t (decide_eq_true (by omega)) ?_
            rw [hw]
            refine Tot.bind (ih.1 _ ((ha.gr 5).get 0)) fun r hr => Tot.ret (fun hb => fin h (fun j h => ?_))
            rw [show j = 0 by omega]
            exact hr hb
        · refine Tot.step0 (fun k p_ q_ => orielref12_filter_l4_q (lv k) k (gi a 0) (gs a 1) (gs a 2) (gs a 3) (gr a 4) (gr a 5) ((d + 1 : Nat) : Int) p_ _) ?_
          rw [hw, Int.toNat_natCast]
          repeat (refine Tot.t (decide_eq_true (by omega)) ?_)
          refine Tot.bind (ih.2 _ ((ha.gr 4).get i)) fun r hr1 => Tot.cond (fun _ => no) (fun hb => next () (fun j hj => ?_))
          have hb : r = true := by simpa using hb
          rcases Nat.lt_or_ge j i with h2 | h2
          · exact h j h2
          · rw [show j = i by omega]; exact hr1 hb
      have l2 : ∀ v1 v2 : Int, (gi a 0 = 8 → v1 = 1 ∧ v2 = 1) → (gi a 0 ≠ 8 → v1 = 0 ∧ v2 = 0) → Tot (fun k x y => orielref12_filter_l2 (lv k) k (gi a 0) (gs a 1) (gs a 2) (gs a 3) (gr a 4) (gr a 5) ((d + 1 : Nat) : Int) v1 v2) (fun r => r = true → ok (d + 1) false a) := by
        intro v1 v2 e1 e2
        refine Tot.congr ?_ (fun k p_ q_ => orielref12_filter_l2_q (lv k) k (gi a 0) (gs a 1) (gs a 2) (gs a 3) (gr a 4) (gr a 5) ((d + 1 : Nat) : Int) v1 v2 )
        refine Tot.cond (fun h9 => ?_) (fun h9 => Tot.cond (fun h10 => ?_) (fun h10 => ?_))
        · have h9 : gi a 0 = 9 := by simpa using h9
          exact l3 2 64 (fun _ => ⟨rfl, rfl⟩) (fun h => by omega) (fun _ h => by omega)
        · have h10 : gi a 0 = 10 := by simpa using h10
          exact l3 2 64 (fun _ => ⟨rfl, rfl⟩) (fun h => by omega) (fun _ _ h => by omega)
        · have h9 : gi a 0 ≠ 9 := by simpa using h9
          have h10 : gi a 0 ≠ 10 := by simpa using h10
          exact l3 v1 v2 (fun h => by omega) e1 (fun h _ _ => e2 h)
      have e8 : Tot (fun k x y => cond (gi a 0 == (8 : Int)) (orielref12_filter_l2 (lv k) k (gi a 0) (gs a 1) (gs a 2) (gs a 3) (gr a 4) (gr a 5) ((d + 1 : Nat) : Int) 1 1) (orielref12_filter_l2 (lv k) k (gi a 0) (gs a 1) (gs a 2) (gs a 3) (gr a 4) (gr a 5) ((d + 1 : Nat) : Int) 0 0)) (fun r => r = true → ok (d + 1) false a) := by
        refine Tot.cond (fun h8 => ?_) (fun h8 => ?_)
        · have h8 : gi a 0 = 8 := by simpa using h8
          exact l2 1 1 (fun _ => ⟨rfl, rfl⟩) (fun h => absurd h8 h)
        · have h8 : gi a 0 ≠ 8 := by simpa using h8
          exact l2 0 0 (fun h => absurd h h8) (fun _ => ⟨rfl, rfl⟩)
      have l1 : ∀ v1, Tot (fun k x y => orielref12_filter_l1 (lv k) k (gi a 0) (gs a 1) (gs a 2) (gs a 3) (gr a 4) (gr a 5) ((d + 1 : Nat) : Int) v1) (fun r => r = true → ok (d + 1) false a) := fun v1 => by
        refine Tot.congr ?_ (fun k p_ q_ => orielref12_filter_l1_q (lv k) k (gi a 0) (gs a 1) (gs a 2) (gs a 3) (gr a 4) (gr a 5) ((d + 1 : Nat) : Int) v1 )
        repeat' first
          | exact no
          | exact e8
          | refine Tot.cond (fun _ => ?_) (fun _ => ?_)
          | refine Tot.bind (right4_tot _ (ha.gs 3)) fun _ _ => ?_
      have l0 : ∀ v1 v2, Tot (fun k x y => orielref12_filter_l0 (lv k) k (gi a 0) (gs a 1) (gs a 2) (gs a 3) (gr a 4) (gr a 5) ((d + 1 : Nat) : Int) v1 v2) (fun r => r = true → ok (d + 1) false a) := fun v1 v2 => by
        refine Tot.congr ?_ (fun k p_ q_ => orielref12_filter_l0_q (lv k) k (gi a 0) (gs a 1) (gs a 2) (gs a 3) (gr a 4) (gr a 5) ((d + 1 : Nat) : Int) v1 v2 )
        exact Tot.cond (fun _ => no) (fun _ => Tot.cond (fun _ => Tot.bind (named_tot _ _ (ha.gs 1) (ha.gs 2)) fun r _ => Tot.cond (fun _ => no) (fun _ => l1 _)) (fun _ => l1 _))
      repeat' first
        | exact l0 _ _
        | refine Tot.cond (fun _ => ?_) (fun _ => ?_)
theorem right_tot (a : List C) (ha : SmR BB a) : Tot (fun k _ _ => (lv k).orielref12_Right (gi a 0) (gr a 1) (gr a 2)) (fun r => r = true → ok 16 true a ∧ ∀ d, sz d true a ≤ 64) := by
  refine orielref12_Right_up _ _ _ (Tot.congr ?_ (fun k _ _ => orielref12_Right_q (lv k) k (gi a 0) (gr a 1) (gr a 2)))
  refine Tot.bind (R := SizeQ true a 64) (orielref12_Size_up _ _ _ (Tot.congr (Tot.bind ((size_tot _).1 a 64 (Nat.lt_succ_self _) ha (by omega) (by omega)) fun r hr => Tot.ret hr) (fun k _ _ => orielref12_Size_q (lv k) k (gi a 0) (gr a 1) (gr a 2)))) fun r hr => ?_
  refine Tot.cond (fun h => ?_) (fun _ => Tot.ret (fun h => by cases h))
  have h := of_decide_eq_true h
  exact Tot.bind ((right_tots 16 (by omega)).1 a ha) fun b hb => Tot.ret (fun hbt => ⟨hb hbt, fun d => by have := hr.2.2 h d; omega⟩)
-- Fil
theorem bytes33 : Tryd.prog.bytesOf 33 ≤ 1024 := of_decide_eq_true (by kernel_rfl)
theorem mem_getD {l : List (List C)} {r : List C} (h : r ∈ l) : ∃ i, i < l.length ∧ l.getD i [] = r := by
  obtain ⟨i, hi, rfl⟩ := List.getElem_of_mem h
  exact ⟨i, hi, by rw [List.getD_eq_getElem?_getD, List.getElem?_eq_getElem hi]; rfl⟩
def nf (r : List C) : List C := [C.int .i64 (gi r 0), C.str (gs r 1), C.str (gs r 2), C.str (gs r 3), C.row 33 (gr r 4), C.row 25 (gr r 5)]
theorem ok_mono : ∀ {d : Nat} {k : Bool} {a : List C}, ok d k a → ok (d + 1) k a := by
  intro d
  induction d with
  | zero => intro k a h; exact h.elim
  | succ d ih =>
    intro k a h
    cases k with
    | true =>
      obtain ⟨h1, h2, h3, h4, h5, h6, h7, h8, h9, h10⟩ := h
      exact ⟨h1, h2, h3, h4, h5, h6, h7, h8, fun i hi => ih (h9 i hi), fun i hi => ih (h10 i hi)⟩
    | false =>
      obtain ⟨h1, h2, h3, h4, h5, h6, h7, h8, h9, h10⟩ := h
      exact ⟨h1, h2, h3, h4, h5, h6, h7, h8, fun i hi => ih (h9 i hi), fun i hi => ih (h10 i hi)⟩
theorem ok_le {d e : Nat} (h : d ≤ e) {k : Bool} {a : List C} (ha : ok d k a) : ok e k a := by
  induction h with
  | refl => exact ha
  | step _ ih => exact ok_mono ih
theorem sz_sub {l : List (List C)} {f : List C → Nat} {i : Nat} (hi : i < l.length) : f (l.getD i []) ≤ (l.map f).sum := by
  induction l generalizing i with
  | nil => simp at hi
  | cons x l ih =>
    cases i with
    | zero => simp
    | succ i => have := ih (i := i) (by simpa using hi); simp at this ⊢; omega
theorem len_flat {l : List (List C)} {f : List C → List (List C)} {g : List C → Nat} (h : ∀ x, x ∈ l → (f x).length ≤ g x) : (l.flatMap f).length ≤ (l.map g).sum := by
  induction l with
  | nil => simp
  | cons x l ih =>
    rw [List.flatMap_cons, List.length_append, List.map_cons, List.sum_cons]
    have h1 := h x List.mem_cons_self
    have h2 := ih fun y hy => h y (List.mem_cons_of_mem _ hy)
    omega
theorem flat_take {l : List (List C)} {f : List C → List (List C)} {i : Nat} (h : i < l.length) : (l.take (i + 1)).flatMap f = (l.take i).flatMap f ++ f (l.getD i []) := by
  rw [List.take_add_one, List.getElem?_eq_getElem h, List.getD_eq_getElem?_getD, List.getElem?_eq_getElem h, List.flatMap_append]
  simp
theorem wf_i64' {n : Int} (h : 0 ≤ n) (h' : n ≤ 1000000) : (Lit.int .i64 n).wf = true := by
  simp only [Lit.wf, Bool.and_eq_true, decide_eq_true_eq]
  have h1 : IntKind.i64.min = -9223372036854775808 := rfl
  have h2 : IntKind.i64.max = 9223372036854775807 := rfl
  omega
theorem take_flat {l : List (List C)} {f : List C → List (List C)} {i : Nat} : ((l.take i).flatMap f).length ≤ (l.flatMap f).length := by
  have := List.take_append_drop i l
  have h : (l.flatMap f).length = ((l.take i).flatMap f).length + ((l.drop i).flatMap f).length := by
    rw [← List.length_append, ← List.flatMap_append, this]
  omega
theorem take_flat1 {l : List (List C)} {f : List C → List (List C)} {i : Nat} (hi : i < l.length) : ((l.take i).flatMap f).length + (f (l.getD i [])).length ≤ (l.flatMap f).length := by
  have := take_flat (l := l) (f := f) (i := i + 1)
  rw [flat_take hi, List.length_append] at this
  exact this
theorem sub_sz {a : List C} {k : Bool} (hz : ∀ e, sz e k a ≤ 64) (j : Nat) (k' : Bool) (hj : (k, j, k') = (true, 1, true) ∨ (k, j, k') = (true, 2, false) ∨ (k, j, k') = (false, 4, false) ∨ (k, j, k') = (false, 5, true)) {i : Nat} (hi : i < (gr a j).length) : ∀ e, sz e k' ((gr a j).getD i []) ≤ 64 := by
  intro e
  have h1 := hz (e + 1)
  have h2 := sz_sub (f := sz e k') hi
  rcases hj with hj | hj | hj | hj <;> cases hj <;> simp only [sz] at h1 <;> omega
structure OkF (f : List C) : Prop where
  ok : ok 16 false f
  sm : SmR BB f
theorem OkF.nf {f : List C} (h : OkF f) : OkF (nf f) := ⟨h.ok, fun c hc => by
  have h1 := h.ok.1
  have h2 := h.ok.2.1
  simp only [Go.Vm.T.nf, List.mem_cons, List.not_mem_nil, or_false] at hc
  rcases hc with rfl | rfl | rfl | rfl | rfl | rfl
  · exact .int _ _ (wf_i64' (by omega) (by omega))
  · exact .str _ (h.sm.gs 1)
  · exact .str _ (h.sm.gs 2)
  · exact .str _ (h.sm.gs 3)
  · exact .row _ _ (h.sm.gr 4).1 (h.sm.gr 4).2
  · exact .row _ _ (h.sm.gr 5).1 (h.sm.gr 5).2⟩
def fl : Nat → Bool → List C → List (List C)
  | 0, _, _ => []
  | d + 1, true, a => (gr a 1).flatMap (fl d true) ++ (gr a 2).flatMap (fl d false)
  | d + 1, false, a => [nf a] ++ (gr a 4).flatMap (fl d false) ++ (gr a 5).flatMap (fl d true)
theorem fl_len : ∀ (d : Nat) (k : Bool) (a : List C), (fl d k a).length ≤ sz d k a := by
  intro d
  induction d with
  | zero => intro k a; cases k <;> exact Nat.zero_le _
  | succ d ih =>
    intro k a
    cases k with
    | true =>
      have h1 := len_flat (l := gr a 1) (f := fl d true) (g := sz d true) fun x _ => ih true x
      have h2 := len_flat (l := gr a 2) (f := fl d false) (g := sz d false) fun x _ => ih false x
      simp only [fl, List.length_append, sz]
      omega
    | false =>
      have h1 := len_flat (l := gr a 4) (f := fl d false) (g := sz d false) fun x _ => ih false x
      have h2 := len_flat (l := gr a 5) (f := fl d true) (g := sz d true) fun x _ => ih true x
      simp only [fl, List.length_append, List.length_singleton, sz]
      omega
theorem fl_ok : ∀ {d : Nat}, d ≤ 16 → ∀ {k : Bool} {a : List C}, ok d k a → SmR BB a → ∀ x, x ∈ fl d k a → OkF x := by
  intro d
  induction d with
  | zero => intro _ k a h; exact h.elim
  | succ d ih =>
    intro hd k a h hs x hx
    have ih := @ih (by omega)
    cases k with
    | true =>
      obtain ⟨_, _, _, _, _, _, _, _, h9, h10⟩ := h
      rcases List.mem_append.1 hx with hx | hx
      · obtain ⟨y, hy, hxy⟩ := List.mem_flatMap.1 hx
        obtain ⟨i, hi, rfl⟩ := mem_getD hy
        exact ih (h9 i hi) ((hs.gr 1).get i) x hxy
      · obtain ⟨y, hy, hxy⟩ := List.mem_flatMap.1 hx
        obtain ⟨i, hi, rfl⟩ := mem_getD hy
        exact ih (h10 i hi) ((hs.gr 2).get i) x hxy
    | false =>
      have hself : OkF a := ⟨ok_le hd h, hs⟩
      obtain ⟨_, _, _, _, _, _, _, _, h9, h10⟩ := h
      rcases List.mem_append.1 hx with hx | hx
      · rcases List.mem_append.1 hx with hx | hx
        · rw [List.mem_singleton.1 hx]; exact hself.nf
        · obtain ⟨y, hy, hxy⟩ := List.mem_flatMap.1 hx
          obtain ⟨i, hi, rfl⟩ := mem_getD hy
          exact ih (h9 i hi) ((hs.gr 4).get i) x hxy
      · obtain ⟨y, hy, hxy⟩ := List.mem_flatMap.1 hx
        obtain ⟨i, hi, rfl⟩ := mem_getD hy
        exact ih (h10 i hi) ((hs.gr 5).get i) x hxy
def RF (k : Bool) (a : List C) (d : Nat) : Prop := match k with
  | true => Tot (fun k _ _ => (lv k).orielref12_Filters (gi a 0) (gr a 1) (gr a 2)) (fun r => r = fl d true a)
  | false => Tot (fun k _ _ => (lv k).orielref12_within (gi a 0) (gs a 1) (gs a 2) (gs a 3) (gr a 4) (gr a 5)) (fun r => r = fl d false a)
theorem rfilters : ∀ d, d ≤ 16 → ∀ (k : Bool) (a : List C), ok d k a → (∀ e, sz e k a ≤ 64) → SmR BB a → RF k a d := by
  intro d
  induction d with
  | zero => intro _ k a h; exact h.elim
  | succ d ih =>
    intro hd k a ha hz hs
    have ih := @ih (by omega)
    have hlen := fl_len (d + 1) k a
    have hz' := hz (d + 1)
    have ha' := ha
    cases k with
    | true =>
      obtain ⟨_, _, _, _, _, _, _, _, h9, h10⟩ := ha'
      have e0 : fl (d + 1) true a = (gr a 1).flatMap (fl d true) ++ (gr a 2).flatMap (fl d false) := rfl
      show Tot _ _
      rw [e0] at hlen ⊢
      rw [List.length_append] at hlen
      have hl1 : (gr a 1).length ≤ 1048576 := (hs.gr 1).1
      have hl2 : (gr a 2).length ≤ 1048576 := (hs.gr 2).1
      refine orielref12_Filters_up _ _ _ (Tot.congr ?_ (fun k _ _ => orielref12_Filters_q (lv k) k (gi a 0) (gr a 1) (gr a 2)))
      have l3 : ∀ (i : Nat) s, i ≤ (gr a 2).length → s = (gr a 1).flatMap (fl d true) ++ ((gr a 2).take i).flatMap (fl d false) → Tot (fun k p q => orielref12_Filters_l3 (lv k) k (gi a 0) (gr a 1) (gr a 2) p (i : Int) s) (fun r => r = (gr a 1).flatMap (fl d true) ++ (gr a 2).flatMap (fl d false)) := fun i s hi hs' =>
        Tot.loop (H := fun k p q v s => orielref12_Filters_l3 (lv k) k (gi a 0) (gr a 1) (gr a 2) p v s) (n := (gr a 2).length) (fun i s => s = (gr a 1).flatMap (fl d true) ++ ((gr a 2).take i).flatMap (fl d false)) (by omega) (fun s hs' => by
          subst hs'
          refine Tot.step0 (fun k p_ q_ => orielref12_Filters_l3_q (lv k) k (gi a 0) (gr a 1) (gr a 2) p_ _ _) ?_
          rw [List.take_length]
          exact Tot.f (decide_eq_false (by omega)) (Tot.ret rfl)) (fun i s hi hs' next => by
          subst hs'
          refine Tot.step0 (fun k p_ q_ => orielref12_Filters_l3_q (lv k) k (gi a 0) (gr a 1) (gr a 2) p_ _ _) ?_
          rw [Int.toNat_natCast]
          repeat (refine Tot.t (decide_eq_true (by omega)) ?_)
          have q3 := take_flat1 (f := fl d false) hi
          refine Tot.bind (ih false _ (h10 i hi) (sub_sz hz 2 false (by simp) hi) ((hs.gr 2).get i)) fun r hr => ?_
          subst hr
          exact Tot.t (roomy_of bytes33 (by rw [List.length_append]; omega)) (next _ (by rw [flat_take hi, List.append_assoc]))) _ i s rfl hi hs'
      have l2 : ∀ (i : Nat) s, i ≤ (gr a 1).length → s = ((gr a 1).take i).flatMap (fl d true) → Tot (fun k p q => orielref12_Filters_l2 (lv k) k (gi a 0) (gr a 1) (gr a 2) p (i : Int) s) (fun r => r = (gr a 1).flatMap (fl d true) ++ (gr a 2).flatMap (fl d false)) := fun i s hi hs' =>
        Tot.loop (H := fun k p q v s => orielref12_Filters_l2 (lv k) k (gi a 0) (gr a 1) (gr a 2) p v s) (n := (gr a 1).length) (fun i s => s = ((gr a 1).take i).flatMap (fl d true)) (by omega) (fun s hs' => by
          subst hs'
          refine Tot.step0 (fun k p_ q_ => orielref12_Filters_l2_q (lv k) k (gi a 0) (gr a 1) (gr a 2) p_ _ _) ?_
          rw [List.take_length]
          exact Tot.f (decide_eq_false (by omega)) (Tot.in0 (l3 0 _ (by omega) (by simp)))) (fun i s hi hs' next => by
          subst hs'
          refine Tot.step0 (fun k p_ q_ => orielref12_Filters_l2_q (lv k) k (gi a 0) (gr a 1) (gr a 2) p_ _ _) ?_
          rw [Int.toNat_natCast]
          repeat (refine Tot.t (decide_eq_true (by omega)) ?_)
          have q3 := take_flat1 (f := fl d true) hi
          refine Tot.bind (ih true _ (h9 i hi) (sub_sz hz 1 true (by simp) hi) ((hs.gr 1).get i)) fun r hr => ?_
          subst hr
          exact Tot.t (roomy_of bytes33 (by omega)) (next _ (by rw [flat_take hi]))) _ i s rfl hi hs'
      refine Tot.in0 (g := fun k p_ q_ => orielref12_Filters_l0 (lv k) k (gi a 0) (gr a 1) (gr a 2) p_ ) ?_
      refine Tot.step0 (fun k p_ q_ => orielref12_Filters_l0_q (lv k) k (gi a 0) (gr a 1) (gr a 2) p_ ) ?_
      refine Tot.cond (fun h0 => ?_) (fun h0 => ?_)
      · have h0 := of_decide_eq_true h0
        refine Tot.t (decide_eq_true (by omega)) (Tot.bind (ih true _ (h9 0 (by omega)) (sub_sz hz 1 true (by simp) (show 0 < (gr a 1).length by omega)) ((hs.gr 1).get 0)) fun r hr => ?_)
        subst hr
        have q3 := take_flat1 (f := fl d true) (show 0 < (gr a 1).length by omega)
        refine Tot.t (roomy_of bytes33 (by omega)) (l2 1 _ (by omega) ?_)
        rw [flat_take (show 0 < (gr a 1).length by omega)]
        simp
      · have h0 := of_decide_eq_false h0
        have e1 : gr a 1 = [] := List.length_eq_zero_iff.1 (by omega)
        refine Tot.in0 (g := fun k p_ q_ => orielref12_Filters_l1 (lv k) k (gi a 0) (gr a 1) (gr a 2) p_ ) ?_
        refine Tot.step0 (fun k p_ q_ => orielref12_Filters_l1_q (lv k) k (gi a 0) (gr a 1) (gr a 2) p_ ) ?_
        refine Tot.cond (fun h0 => ?_) (fun h0 => ?_)
        · have h0 := of_decide_eq_true h0
          refine Tot.t (decide_eq_true (by omega)) (Tot.bind (ih false _ (h10 0 (by omega)) (sub_sz hz 2 false (by simp) (show 0 < (gr a 2).length by omega)) ((hs.gr 2).get 0)) fun r hr => ?_)
          subst hr
          have q3 := take_flat1 (f := fl d false) (show 0 < (gr a 2).length by omega)
          refine Tot.t (roomy_of bytes33 (by omega)) (l3 1 _ (by omega) ?_)
          rw [flat_take (show 0 < (gr a 2).length by omega)]
          simp [e1]
        · have h0 := of_decide_eq_false h0
          have e2 : gr a 2 = [] := List.length_eq_zero_iff.1 (by omega)
          exact Tot.ret (by simp [e1, e2])
    | false =>
      obtain ⟨_, _, _, _, _, _, h7, h8, h9, h10⟩ := ha'
      have e0 : fl (d + 1) false a = [nf a] ++ (gr a 4).flatMap (fl d false) ++ (gr a 5).flatMap (fl d true) := rfl
      show Tot _ _
      rw [e0] at hlen ⊢
      simp only [List.length_append, List.length_singleton] at hlen
      have hl1 : (gr a 4).length ≤ 1048576 := (hs.gr 4).1
      have hl2 : (gr a 5).length ≤ 1048576 := (hs.gr 5).1
      refine orielref12_within_up _ _ _ _ _ _ (Tot.congr ?_ (fun k _ _ => orielref12_within_q (lv k) k (gi a 0) (gs a 1) (gs a 2) (gs a 3) (gr a 4) (gr a 5)))
      refine Tot.in0 (Tot.loop (H := fun k p q v s => orielref12_within_l0 (lv k) k (gi a 0) (gs a 1) (gs a 2) (gs a 3) (gr a 4) (gr a 5) p v s) (n := (gr a 4).length) (fun i s => s = [nf a] ++ ((gr a 4).take i).flatMap (fl d false)) (by omega) (fun s hs' => ?_) (fun i s hi hs' next => ?_) _ 0 _ rfl (by omega) (by simp [nf]))
      · subst hs'
        refine Tot.step0 (fun k p_ q_ => orielref12_within_l0_q (lv k) k (gi a 0) (gs a 1) (gs a 2) (gs a 3) (gr a 4) (gr a 5) p_ _ _) ?_
        rw [List.take_length]
        refine Tot.f (decide_eq_false (by omega)) (Tot.in0 (Tot.loop (H := fun k p q v s => orielref12_within_l1 (lv k) k (gi a 0) (gs a 1) (gs a 2) (gs a 3) (gr a 4) (gr a 5) p v s) (n := (gr a 5).length) (fun i s => s = [nf a] ++ (gr a 4).flatMap (fl d false) ++ ((gr a 5).take i).flatMap (fl d true)) (by omega) (fun s hs' => ?_) (fun i s hi hs' next => ?_) _ 0 _ rfl (by omega) (by simp)))
        · subst hs'
          refine Tot.step0 (fun k p_ q_ => orielref12_within_l1_q (lv k) k (gi a 0) (gs a 1) (gs a 2) (gs a 3) (gr a 4) (gr a 5) p_ _ _) ?_
          rw [List.take_length]
          exact Tot.f (decide_eq_false (by omega)) (Tot.ret rfl)
        · subst hs'
          refine Tot.step0 (fun k p_ q_ => orielref12_within_l1_q (lv k) k (gi a 0) (gs a 1) (gs a 2) (gs a 3) (gr a 4) (gr a 5) p_ _ _) ?_
          rw [Int.toNat_natCast]
          repeat (refine Tot.t (decide_eq_true (by omega)) ?_)
          have q3 := take_flat1 (f := fl d true) hi
          refine Tot.bind (ih true _ (h10 i hi) (sub_sz hz 5 true (by simp) hi) ((hs.gr 5).get i)) fun r hr => ?_
          subst hr
          exact Tot.t (roomy_of bytes33 (by simp only [List.length_append, List.length_singleton]; omega)) (next _ (by rw [flat_take hi, List.append_assoc]))
      · subst hs'
        refine Tot.step0 (fun k p_ q_ => orielref12_within_l0_q (lv k) k (gi a 0) (gs a 1) (gs a 2) (gs a 3) (gr a 4) (gr a 5) p_ _ _) ?_
        rw [Int.toNat_natCast]
        repeat (refine Tot.t (decide_eq_true (by omega)) ?_)
        have q3 := take_flat1 (f := fl d false) hi
        refine Tot.bind (ih false _ (h9 i hi) (sub_sz hz 4 false (by simp) hi) ((hs.gr 4).get i)) fun r hr => ?_
        subst hr
        exact Tot.t (roomy_of bytes33 (by simp only [List.length_append, List.length_singleton]; omega)) (next _ (by rw [flat_take hi, List.append_assoc]))
-- Txt
def bl (a : ByteArray) : List UInt8 := a.data.toList
theorem bl_len (a : ByteArray) : (bl a).length = a.size := by simp [bl]
theorem bl_app (a b : ByteArray) : bl (a ++ b) = bl a ++ bl b := by simp [bl, ByteArray.data_append]
theorem bl_inj {a b : ByteArray} (h : bl a = bl b) : a = b := by
  cases a; cases b
  simp only [bl] at h
  congr 1
  exact Array.toList_inj.1 h
theorem bl_eq {a b : ByteArray} (h : bl a = bl b) : (a.toList == b.toList) = true := by rw [bl_inj h]; exact str_eq.2 rfl
theorem join_snoc {l : List (List UInt8)} {y sep : List UInt8} (h : l ≠ []) : Lib.join (l ++ [y]) sep = Lib.join l sep ++ sep ++ y := by
  cases l with
  | nil => exact absurd rfl h
  | cons x r =>
    rw [List.cons_append, Lib.join_cons, Lib.join_cons]
    simp [Lib.joinTail, List.append_assoc]
theorem join_le (sep : List UInt8) : ∀ l : List (List UInt8), (Lib.join l sep).length ≤ (l.map (fun x => x.length + sep.length)).sum := by
  intro l
  cases l with
  | nil => exact Nat.zero_le _
  | cons x r =>
    rw [Lib.join_cons]
    have : (Lib.joinTail sep r).length ≤ (r.map (fun x => x.length + sep.length)).sum := by
      induction r with
      | nil => exact Nat.zero_le _
      | cons y r ih =>
        have e : Lib.joinTail sep (y :: r) = (sep ++ y) ++ Lib.joinTail sep r := by simp [Lib.joinTail]
        rw [e]
        simp only [List.length_append, List.map_cons, List.sum_cons]
        omega
    simp only [List.length_append, List.map_cons, List.sum_cons]
    omega
/-- brackets around a text -/
def par (b : Bool) (t : List UInt8) : List UInt8 := cond b (40 :: t ++ [41]) t
theorem par_len {b : Bool} {t : List UInt8} : (par b t).length ≤ t.length + 2 := by cases b <;> simp [par]
/-- the first n of some texts -/
def upto (p : Nat → List UInt8) (n : Nat) : List (List UInt8) := (List.range n).map p
theorem upto_succ (p : Nat → List UInt8) (n : Nat) : upto p (n + 1) = upto p n ++ [p n] := by simp [upto, List.range_succ]
theorem upto_ne (p : Nat → List UInt8) {n : Nat} (h : 0 < n) : upto p n ≠ [] := by
  intro e
  have := congrArg List.length e
  simp [upto] at this
  omega
theorem join_upto (p : Nat → List UInt8) (sep : List UInt8) {n : Nat} (h : 0 < n) : Lib.join (upto p (n + 1)) sep = Lib.join (upto p n) sep ++ sep ++ p n := by rw [upto_succ, join_snoc (upto_ne p h)]
theorem join_upto1 (p : Nat → List UInt8) (sep : List UInt8) : Lib.join (upto p 1) sep = p 0 := by
  show Lib.join [p 0] sep = p 0
  exact Lib.join_one _ _
/-- a text's size by its parts -/
def WW : Nat := 8388608
theorem upto_sum {l : List (List C)} {f : List C → Nat} {p : Nat → List UInt8} (sep : List UInt8) (hs : sep.length ≤ 5) (hp : ∀ i, i < l.length → (p i).length ≤ WW * f (l.getD i []) + 2) : ∀ m, m ≤ l.length → ((upto p m).map (fun x => x.length + sep.length)).sum ≤ WW * ((l.take m).map f).sum + 7 * m := by
  intro m
  induction m with
  | zero => intro _; exact Nat.zero_le _
  | succ m ih =>
    intro hm
    have h1 := ih (by omega)
    have h2 := hp m (by omega)
    have h3 := sum_take l f m [] (by omega)
    rw [upto_succ, List.map_append, List.sum_append, h3, Nat.mul_add]
    simp only [List.map_cons, List.map_nil, List.sum_cons, List.sum_nil]
    omega
theorem join_bd {l : List (List C)} {f : List C → Nat} {p : Nat → List UInt8} {sep : List UInt8} (hs : sep.length ≤ 5) (hp : ∀ i, i < l.length → (p i).length ≤ WW * f (l.getD i []) + 2) {m : Nat} (hm : m ≤ l.length) : (Lib.join (upto p m) sep).length ≤ WW * (l.map f).sum + 7 * l.length := by
  have h1 := join_le sep (upto p m)
  have h2 := upto_sum sep hs hp m hm
  have h3 : ((l.take m).map f).sum ≤ (l.map f).sum := by
    have := List.take_append_drop m (l.map f)
    have h4 : (l.map f).sum = ((l.map f).take m).sum + ((l.map f).drop m).sum := by rw [← List.sum_append, this]
    rw [List.map_take]
    omega
  have h5 := Nat.mul_le_mul_left WW h3
  omega
/-- each quote twice -/
def dbl (l : List UInt8) : List UInt8 := l.flatMap fun b => if b = 34 then [34, 34] else [b]
theorem dbl_cons (b : UInt8) (l : List UInt8) : dbl (b :: l) = (if b = 34 then [34, 34] else [b]) ++ dbl l := by
  unfold dbl
  rw [List.flatMap_cons]
theorem dbl_app (l m : List UInt8) : dbl (l ++ m) = dbl l ++ dbl m := by
  unfold dbl
  rw [List.flatMap_append]
theorem dbl_len (l : List UInt8) : (dbl l).length ≤ 2 * l.length := by
  induction l with
  | nil => exact Nat.le_refl _
  | cons b l ih =>
    rw [dbl_cons, List.length_append, List.length_cons]
    split
    · simp only [List.length_cons, List.length_nil]; omega
    · simp only [List.length_cons, List.length_nil]; omega
theorem repl_dbl : ∀ s : List UInt8, Lib.replaceK [34] [34, 34] (Lib.count s [34]) s = dbl s := by
  intro s
  induction s with
  | nil => rfl
  | cons b l ih =>
    rw [dbl_cons]
    by_cases hb : b = 34
    · subst hb
      rw [if_pos rfl, Lib.count_cons_eq, Nat.add_comm, Lib.replaceK_hit _ _ _ _ 0 (by unfold Lib.index; rw [if_pos (by rfl)]; rfl)]
      simp only [List.take_zero, List.nil_append, List.length_cons, List.length_nil, Nat.zero_add, List.drop_succ_cons, List.drop_zero]
      rw [ih]
    · rw [if_neg hb, Lib.count_cons_ne _ _ _ hb]
      rcases Nat.eq_zero_or_pos (Lib.count l [34]) with h0 | h0
      · rw [h0] at ih ⊢
        show b :: l = [b] ++ dbl l
        rw [← ih]
        rfl
      · obtain ⟨i, hi⟩ := Lib.index_of_count h0
        obtain ⟨k, hk⟩ : ∃ k, Lib.count l [34] = k + 1 := ⟨Lib.count l [34] - 1, by omega⟩
        rw [hk] at ih ⊢
        have h1 : Lib.index (b :: l) [34] = ((i + 1 : Nat) : Int) := by
          have hp : ([34] : List UInt8).isPrefixOf (b :: l) = false := by
            simp only [List.isPrefixOf, Bool.and_true]
            exact beq_false_of_ne (Ne.symm hb)
          have hm : ((i : Int) == -1) = false := by rw [beq_eq_false_iff_ne]; omega
          unfold Lib.index
          rw [hp, hi, hm]
          simp
        rw [Lib.replaceK_hit _ _ _ _ _ h1, ← ih, Lib.replaceK_hit _ _ _ _ _ hi]
        simp [List.append_assoc]
theorem replV_dbl {s : ByteArray} (hs : s.size ≤ 1048576) : ∃ r, replV s ⟨#[34]⟩ ⟨#[34, 34]⟩ = some r ∧ bl r = dbl (bl s) := by
  have hc := Lib.count_le s.data.toList [34]
  have hl : s.data.toList.length = s.size := bl_len s
  refine ⟨⟨(Lib.replaceAll s.data.toList [34] [34, 34]).toArray⟩, ?_, ?_⟩
  · unfold replV
    rw [show (decide (s.size < 4294967281) && decide (1 ≤ (⟨#[34]⟩ : ByteArray).size) && decide (s.size + Lib.countB s ⟨#[34]⟩ * (⟨#[34, 34]⟩ : ByteArray).size ≤ 140737488355328)) = true from by
      rw [Bool.and_eq_true, Bool.and_eq_true, decide_eq_true_eq, decide_eq_true_eq, decide_eq_true_eq]
      refine ⟨⟨by omega, by decide⟩, ?_⟩
      show s.size + Lib.count s.data.toList [34] * 2 ≤ _
      omega]
    rfl
  · show Lib.replaceAll s.data.toList [34] [34, 34] = _
    unfold Lib.replaceAll Lib.replace Lib.replaceNum
    rw [if_neg (by decide), if_pos (.inl (by decide))]
    exact repl_dbl _
-- Show
theorem sza (a b : ByteArray) : (a ++ b).size = a.size + b.size := ByteArray.size_append
theorem szl (l : List UInt8) : (ByteArray.mk l.toArray).size = l.length := by simp [ByteArray.size]
theorem bytes9 : Tryd.prog.bytesOf 9 ≤ 1024 := of_decide_eq_true (by kernel_rfl)
theorem Tot.giv {α : Type} {o : Option α} {r : α} {Q : α → Prop} (h : o = some r) (hq : Q r) : Tot (fun _ _ _ => o) Q := ⟨r, hq, 0, fun _ _ _ _ _ _ => h⟩
def inOps (ops : LL) (x : Int) : Bool := ops.any fun r => x == gi r 0
theorem contains_tot (l : LL) (x : Int) (hl : l.length ≤ 64) : Tot (fun k _ _ => (lv k).slices_Contains_int_int l x) (fun r => r = inOps l x) := by
  refine slices_Contains_int_int_up _ _ (Tot.congr ?_ (fun k _ _ => slices_Contains_int_int_q (lv k) k l x))
  refine Tot.bind (R := Fst l.length (fun j => x = gi (l.getD j []) 0)) ?_ fun r hr => Tot.ret ?_
  · refine slices_Index_int_int_up _ _ (Tot.congr ?_ (fun k _ _ => slices_Index_int_int_q (lv k) k l x))
    refine Tot.in0 (Tot.first (H := fun k p q v => slices_Index_int_int_l0 (lv k) k l x p v) (n := l.length) (by omega) ?_ (fun i Q hi hy hn => ?_))
    · refine Tot.step0 (fun k p_ q_ => slices_Index_int_int_l0_q (lv k) k l x p_ _) ?_
      exact Tot.f (decide_eq_false (by omega)) (Tot.ret rfl)
    · refine Tot.step0 (fun k p_ q_ => slices_Index_int_int_l0_q (lv k) k l x p_ _) ?_
      rw [Int.toNat_natCast]
      repeat (refine Tot.t (decide_eq_true (by omega)) ?_)
      exact Tot.cond (fun c => Tot.ret (hy (eq_of_beq c))) (fun c => hn (ne_of_beq_false c))
  · unfold inOps
    rcases hr with ⟨rfl, hh⟩ | ⟨i, rfl, h1, h2, _⟩
    · rw [decide_eq_false (by omega)]
      symm
      rw [List.any_eq_false]
      intro r hr
      obtain ⟨j, hj, rfl⟩ := mem_getD hr
      simpa using hh j hj
    · rw [decide_eq_true (by omega)]
      symm
      rw [List.any_eq_true]
      exact ⟨l.getD i [], getD_mem h1, by rw [← h2]; simp⟩
theorem bracketed_tot (t : ByteArray) (x : Int) (ops : LL) (hl : ops.length ≤ 64) (ht : t.size ≤ 1099511627776) : Tot (fun k _ _ => (lv k).show_bracketed t x ops) (fun r => bl r = par (inOps ops x) (bl t)) := by
  refine show_bracketed_up _ _ _ (Tot.congr ?_ (fun k _ _ => show_bracketed_q (lv k) k t x ops))
  refine Tot.bind (contains_tot ops x hl) fun r hr => ?_
  subst hr
  refine Tot.cond (fun c => ?_) (fun c => Tot.ret (by rw [c]; rfl))
  rw [c]
  exact Tot.t (decide_eq_true (by simp only [sza, szl, List.length_cons, List.length_nil]; omega)) (Tot.t (decide_eq_true (by simp only [sza, szl, List.length_cons, List.length_nil]; omega)) (Tot.ret (by rw [bl_app, bl_app]; rfl)))
theorem brackets_tot (t : ByteArray) (b : Bool) (ht : t.size ≤ 1099511627776) : Tot (fun k _ _ => (lv k).orielref15_brackets t b) (fun r => bl r = par b (bl t)) := by
  refine orielref15_brackets_up _ _ (Tot.congr ?_ (fun k _ _ => orielref15_brackets_q (lv k) k t b))
  refine Tot.cond (fun c => ?_) (fun c => Tot.ret (by rw [c]; rfl))
  rw [c]
  exact Tot.t (decide_eq_true (by simp only [sza, szl, List.length_cons, List.length_nil]; omega)) (Tot.t (decide_eq_true (by simp only [sza, szl, List.length_cons, List.length_nil]; omega)) (Tot.ret (by rw [bl_app, bl_app]; rfl)))
theorem joinV_some {v : LL} {sep : ByteArray} {p : Nat → List UInt8} {n : Nat} (h : v.map (fun r => bl (gs r 0)) = upto p n) (hl : v.length ≤ 64) (hb : (Lib.join (upto p n) (bl sep)).length ≤ 140737488355328) : ∃ r, joinV v sep = some r ∧ bl r = Lib.join (upto p n) (bl sep) := by
  have e : (v.map fun r => (gs r 0).data.toList) = upto p n := h
  refine ⟨⟨(Lib.join (upto p n) (bl sep)).toArray⟩, ?_, by simp [bl]⟩
  unfold joinV
  rw [e, show (decide (v.length ≤ 140737488355328) && decide ((Lib.join (upto p n) sep.data.toList).length ≤ 140737488355328)) = true from by
    rw [Bool.and_eq_true, decide_eq_true_eq, decide_eq_true_eq]
    exact ⟨by omega, hb⟩]
  rfl
theorem show_joined_tot (l : LL) (sep : ByteArray) (ops : LL) (T : Nat → List UInt8) (f : List C → Nat) (hl : l.length ≤ 64) (hops : ops.length ≤ 64) (hsep : sep.size ≤ 5)
    (hT : ∀ i, i < l.length → Tot (fun k _ _ => (lv k).show_Path (gi (l.getD i []) 0) (gr (l.getD i []) 1) (gr (l.getD i []) 2)) (fun r => bl r = T i)) (hb : ∀ i, i < l.length → (T i).length ≤ WW * f (l.getD i [])) (hf : (l.map f).sum ≤ 64) :
    Tot (fun k _ _ => (lv k).show_joined l sep ops) (fun r => bl r = Lib.join (upto (fun i => par (inOps ops (gi (l.getD i []) 0)) (T i)) l.length) (bl sep)) := by
  have hs5 : (bl sep).length ≤ 5 := by rw [bl_len]; exact hsep
  have hbp : ∀ i, i < l.length → (par (inOps ops (gi (l.getD i []) 0)) (T i)).length ≤ WW * f (l.getD i []) + 2 := fun i hi => by
    have := par_len (b := inOps ops (gi (l.getD i []) 0)) (t := T i)
    have := hb i hi
    omega
  have hw : WW * (l.map f).sum ≤ WW * 64 := Nat.mul_le_mul_left _ hf
  have hWW : WW = 8388608 := rfl
  have hsz : ∀ i, i < l.length → (T i).length ≤ 1099511627776 := fun i hi => by
    have h1 := hb i hi
    have h2 := sz_sub (f := f) hi
    have h3 := Nat.mul_le_mul_left WW h2
    omega
  have fin : ∀ v : LL, v.length ≤ 64 → v.map (fun r => bl (gs r 0)) = upto (fun i => par (inOps ops (gi (l.getD i []) 0)) (T i)) l.length → Tot (fun _ _ _ => (joinV v sep).bind fun r => some r) (fun r => bl r = Lib.join (upto (fun i => par (inOps ops (gi (l.getD i []) 0)) (T i)) l.length) (bl sep)) := fun v hv h => by
    obtain ⟨r, h1, h2⟩ := joinV_some (sep := sep) h hv (by have := join_bd (f := f) hs5 hbp (Nat.le_refl _); omega)
    exact Tot.giv (by rw [h1]; rfl) h2
  refine show_joined_up _ _ _ (Tot.congr ?_ (fun k _ _ => show_joined_q (lv k) k l sep ops))
  refine Tot.in0 (g := fun k p_ q_ => show_joined_l0 (lv k) k l sep ops p_ ) ?_
  refine Tot.step0 (fun k p_ q_ => show_joined_l0_q (lv k) k l sep ops p_ ) ?_
  refine Tot.cond (fun h0 => ?_) (fun h0 => fin [] (by decide) ?_)
  · have h0 := of_decide_eq_true h0
    refine Tot.t (decide_eq_true h0) (Tot.bind (hT 0 (by omega)) fun r1 hr1 => ?_)
    refine Tot.bind (bracketed_tot r1 _ ops hops (by rw [← bl_len, hr1]; exact hsz 0 (by omega))) fun r2 hr2 => ?_
    rw [hr1] at hr2
    refine Tot.loop (H := fun k q u v w => show_joined_l1 (lv k) k l sep ops q v w) (n := l.length) (fun i v => v.length = i ∧ v.map (fun r => bl (gs r 0)) = upto (fun i => par (inOps ops (gi (l.getD i []) 0)) (T i)) i) (by omega) (fun v hv => ?_) (fun i v hi hv next => ?_) _ 1 [[C.str r2]] rfl (by omega) ⟨rfl, by
      show [bl r2] = [_]
      rw [hr2]⟩
    · refine Tot.step0 (fun k p_ q_ => show_joined_l1_q (lv k) k l sep ops p_ _ _) ?_
      exact Tot.f (decide_eq_false (by omega)) (fin v (by rw [hv.1]; exact hl) hv.2)
    · obtain ⟨hv1, hv2⟩ := hv
      refine Tot.step0 (fun k p_ q_ => show_joined_l1_q (lv k) k l sep ops p_ _ _) ?_
      rw [Int.toNat_natCast]
      repeat (refine Tot.t (decide_eq_true (by omega)) ?_)
      refine Tot.bind (hT i hi) fun r1 hr1 => ?_
      refine Tot.bind (bracketed_tot r1 _ ops hops (by rw [← bl_len, hr1]; exact hsz i hi)) fun r2 hr2 => ?_
      rw [hr1] at hr2
      refine Tot.t (roomy_of bytes9 (by omega)) (next _ ⟨by simp [hv1], ?_⟩)
      rw [List.map_append, hv2, upto_succ]
      show _ ++ [bl r2] = _
      rw [hr2]
  · have h0 := of_decide_eq_false h0
    rw [show l.length = 0 by omega]
    rfl
theorem show_all_tot (l : LL) (sep : ByteArray) (ops : LL) (T : Nat → List UInt8) (f : List C → Nat) (hl : l.length ≤ 64) (hops : ops.length ≤ 64) (hsep : sep.size ≤ 5)
    (hT : ∀ i, i < l.length → Tot (fun k _ _ => (lv k).show_Filter (gi (l.getD i []) 0) (gs (l.getD i []) 1) (gs (l.getD i []) 2) (gs (l.getD i []) 3) (gr (l.getD i []) 4) (gr (l.getD i []) 5)) (fun r => bl r = T i)) (hb : ∀ i, i < l.length → (T i).length ≤ WW * f (l.getD i [])) (hf : (l.map f).sum ≤ 64) :
    Tot (fun k _ _ => (lv k).show_all l sep ops) (fun r => bl r = Lib.join (upto (fun i => par (inOps ops (gi (l.getD i []) 0)) (T i)) l.length) (bl sep)) := by
  have hs5 : (bl sep).length ≤ 5 := by rw [bl_len]; exact hsep
  have hbp : ∀ i, i < l.length → (par (inOps ops (gi (l.getD i []) 0)) (T i)).length ≤ WW * f (l.getD i []) + 2 := fun i hi => by
    have := par_len (b := inOps ops (gi (l.getD i []) 0)) (t := T i)
    have := hb i hi
    omega
  have hw : WW * (l.map f).sum ≤ WW * 64 := Nat.mul_le_mul_left _ hf
  have hWW : WW = 8388608 := rfl
  have hsz : ∀ i, i < l.length → (T i).length ≤ 1099511627776 := fun i hi => by
    have h1 := hb i hi
    have h2 := sz_sub (f := f) hi
    have h3 := Nat.mul_le_mul_left WW h2
    omega
  have fin : ∀ v : LL, v.length ≤ 64 → v.map (fun r => bl (gs r 0)) = upto (fun i => par (inOps ops (gi (l.getD i []) 0)) (T i)) l.length → Tot (fun _ _ _ => (joinV v sep).bind fun r => some r) (fun r => bl r = Lib.join (upto (fun i => par (inOps ops (gi (l.getD i []) 0)) (T i)) l.length) (bl sep)) := fun v hv h => by
    obtain ⟨r, h1, h2⟩ := joinV_some (sep := sep) h hv (by have := join_bd (f := f) hs5 hbp (Nat.le_refl _); omega)
    exact Tot.giv (by rw [h1]; rfl) h2
  refine show_all_up _ _ _ (Tot.congr ?_ (fun k _ _ => show_all_q (lv k) k l sep ops))
  refine Tot.in0 (g := fun k p_ q_ => show_all_l0 (lv k) k l sep ops p_ ) ?_
  refine Tot.step0 (fun k p_ q_ => show_all_l0_q (lv k) k l sep ops p_ ) ?_
  refine Tot.cond (fun h0 => ?_) (fun h0 => fin [] (by decide) ?_)
  · have h0 := of_decide_eq_true h0
    refine Tot.t (decide_eq_true h0) (Tot.bind (hT 0 (by omega)) fun r1 hr1 => ?_)
    refine Tot.bind (bracketed_tot r1 _ ops hops (by rw [← bl_len, hr1]; exact hsz 0 (by omega))) fun r2 hr2 => ?_
    rw [hr1] at hr2
    refine Tot.loop (H := fun k q u v w => show_all_l1 (lv k) k l sep ops q v w) (n := l.length) (fun i v => v.length = i ∧ v.map (fun r => bl (gs r 0)) = upto (fun i => par (inOps ops (gi (l.getD i []) 0)) (T i)) i) (by omega) (fun v hv => ?_) (fun i v hi hv next => ?_) _ 1 [[C.str r2]] rfl (by omega) ⟨rfl, by
      show [bl r2] = [_]
      rw [hr2]⟩
    · refine Tot.step0 (fun k p_ q_ => show_all_l1_q (lv k) k l sep ops p_ _ _) ?_
      exact Tot.f (decide_eq_false (by omega)) (fin v (by rw [hv.1]; exact hl) hv.2)
    · obtain ⟨hv1, hv2⟩ := hv
      refine Tot.step0 (fun k p_ q_ => show_all_l1_q (lv k) k l sep ops p_ _ _) ?_
      rw [Int.toNat_natCast]
      repeat (refine Tot.t (decide_eq_true (by omega)) ?_)
      refine Tot.bind (hT i hi) fun r1 hr1 => ?_
      refine Tot.bind (bracketed_tot r1 _ ops hops (by rw [← bl_len, hr1]; exact hsz i hi)) fun r2 hr2 => ?_
      rw [hr1] at hr2
      refine Tot.t (roomy_of bytes9 (by omega)) (next _ ⟨by simp [hv1], ?_⟩)
      rw [List.map_append, hv2, upto_succ]
      show _ ++ [bl r2] = _
      rw [hr2]
  · have h0 := of_decide_eq_false h0
    rw [show l.length = 0 by omega]
    rfl
def nmT (a b : ByteArray) : List UInt8 := cond (a.toList == (⟨#[]⟩ : ByteArray).toList) (bl b) (123 :: bl a ++ 125 :: bl b)
theorem nmT_len (a b : ByteArray) : (nmT a b).length ≤ a.size + b.size + 2 := by
  rw [← bl_len, ← bl_len]
  unfold nmT
  cases (a.toList == (⟨#[]⟩ : ByteArray).toList)
  · simp; omega
  · simp; omega
theorem sname_tot (a b : ByteArray) (ha : a.size ≤ 1048576) (hb : b.size ≤ 1048576) : Tot (fun k _ _ => (lv k).show_name a b) (fun r => bl r = nmT a b) := by
  refine show_name_up _ _ (Tot.congr ?_ (fun k _ _ => show_name_q (lv k) k a b))
  refine Tot.cond (fun c => Tot.ret (by unfold nmT; rw [c]; rfl)) (fun c => ?_)
  refine Tot.bind (R := fun r => bl r = nmT a b) ?_ fun r hr => Tot.ret hr
  refine lex_Write_up _ _ _ _ (Tot.congr ?_ (fun k _ _ => lex_Write_q (lv k) k 2 b a 0))
  repeat (first | refine Tot.t (by rfl) ?_ | refine Tot.f (by rfl) ?_)
  exact Tot.t (decide_eq_true (by simp only [sza, szl, List.length_cons, List.length_nil]; omega)) (Tot.t (decide_eq_true (by simp only [sza, szl, List.length_cons, List.length_nil]; omega)) (Tot.t (decide_eq_true (by simp only [sza, szl, List.length_cons, List.length_nil]; omega)) (Tot.ret (by unfold nmT; rw [c, bl_app, bl_app, bl_app]; simp [bl]))))
theorem rname_tot (a b : ByteArray) (ha : a.size ≤ 1048576) (hb : b.size ≤ 1048576) : Tot (fun k _ _ => (lv k).orielref15_name a b) (fun r => bl r = nmT a b) := by
  refine orielref15_name_up _ _ (Tot.congr ?_ (fun k _ _ => orielref15_name_q (lv k) k a b))
  refine Tot.cond (fun c => Tot.ret (by unfold nmT; rw [c]; rfl)) (fun c => ?_)
  exact Tot.t (decide_eq_true (by simp only [sza, szl, List.length_cons, List.length_nil]; omega)) (Tot.t (decide_eq_true (by simp only [sza, szl, List.length_cons, List.length_nil]; omega)) (Tot.t (decide_eq_true (by simp only [sza, szl, List.length_cons, List.length_nil]; omega)) (Tot.ret (by unfold nmT; rw [c, bl_app, bl_app, bl_app]; simp [bl]))))
def qtT (s : ByteArray) : List UInt8 := 34 :: dbl (bl s) ++ [34]
theorem qtT_len (s : ByteArray) : (qtT s).length ≤ 2 * s.size + 2 := by
  have := dbl_len (bl s)
  rw [bl_len] at this
  simp [qtT]
  omega
theorem squoted_tot (s : ByteArray) (hs : s.size ≤ 1048576) : Tot (fun k _ _ => (lv k).show_quoted s) (fun r => bl r = qtT s) := by
  refine show_quoted_up _ (Tot.congr ?_ (fun k _ _ => show_quoted_q (lv k) k s))
  refine Tot.bind (R := fun r => bl r = qtT s) ?_ fun r hr => Tot.ret hr
  refine lex_Write_up _ _ _ _ (Tot.congr ?_ (fun k _ _ => lex_Write_q (lv k) k 3 s ⟨#[]⟩ 0))
  repeat (first | refine Tot.t (by rfl) ?_ | refine Tot.f (by rfl) ?_)
  obtain ⟨r, h1, h2⟩ := replV_dbl hs
  refine Tot.bind (Tot.giv (Q := fun x => x = r) h1 rfl) fun x hx => ?_
  subst hx
  have h3 : x.size ≤ 2097152 := by
    have := dbl_len (bl s)
    rw [← h2, bl_len, bl_len] at this
    omega
  exact Tot.t (decide_eq_true (by simp only [sza, szl, List.length_cons, List.length_nil]; omega)) (Tot.t (decide_eq_true (by simp only [sza, szl, List.length_cons, List.length_nil]; omega)) (Tot.ret (by rw [bl_app, bl_app, h2]; rfl)))
theorem bl_extract1 {s : ByteArray} {i : Nat} (h : i < s.size) : bl (s.extract i (i + 1)) = [s.data.getD i 0] := by
  have h' : i < s.data.size := h
  unfold bl
  rw [ByteArray.data_extract]
  simp only [Array.toList_extract, List.extract_eq_take_drop]
  rw [show i + 1 - i = 1 by omega, List.drop_eq_getElem_cons (by simpa using h')]
  simp [Array.getD, h, h']
theorem rquoted_tot (s : ByteArray) (hs : s.size ≤ 1048576) : Tot (fun k _ _ => (lv k).orielref15_quoted s) (fun r => bl r = qtT s) := by
  refine orielref15_quoted_up _ (Tot.congr ?_ (fun k _ _ => orielref15_quoted_q (lv k) k s))
  refine Tot.bind (R := fun r => bl r = qtT s) ?_ fun r hr => Tot.ret hr
  refine orielref13_Write_up _ _ _ _ (Tot.congr ?_ (fun k _ _ => orielref13_Write_q (lv k) k 3 s ⟨#[]⟩ 0))
  repeat (first | refine Tot.t (by rfl) ?_ | refine Tot.f (by rfl) ?_)
  refine Tot.in0 (Tot.loop (H := fun k p q v w => orielref13_Write_l0 (lv k) k 3 s ⟨#[]⟩ 0 p w v) (n := s.size) (fun i w => bl w = 34 :: dbl ((bl s).take i)) (by omega) (fun w hw => ?_) (fun i w hi hw next => ?_) _ 0 _ rfl (by omega) rfl)
  · have hw2 : w.size ≤ 2097153 := by
      have := dbl_len ((bl s).take s.size)
      have h1 := congrArg List.length hw
      have h2 : ((bl s).take s.size).length ≤ s.size := by rw [List.length_take]; omega
      rw [bl_len, List.length_cons] at h1
      omega
    refine Tot.step0 (fun k p_ q_ => orielref13_Write_l0_q (lv k) k 3 s ⟨#[]⟩ 0 p_ _ _) ?_
    refine Tot.f (decide_eq_false (by omega)) (Tot.t (decide_eq_true (by simp only [sza, szl, List.length_cons, List.length_nil]; omega)) (Tot.ret ?_))
    rw [bl_app, hw, List.take_of_length_le (by rw [bl_len]; exact Nat.le_refl _)]
    rfl
  · have hw2 : w.size ≤ 2097153 := by
      have := dbl_len ((bl s).take i)
      have h1 := congrArg List.length hw
      have h2 : ((bl s).take i).length ≤ s.size := by rw [List.length_take, bl_len]; omega
      rw [bl_len, List.length_cons] at h1
      omega
    have hx := bl_extract1 hi
    have hxs : (s.extract i (i + 1)).size = 1 := by rw [← bl_len, hx]; rfl
    have htk : (bl s).take (i + 1) = (bl s).take i ++ [s.data.getD i 0] := by
      rw [List.take_add_one]
      congr 1
      have h' : i < s.data.size := hi
      unfold bl
      simp [Array.getD, hi, h']
    have hwr : IntKind.i64.wrap ((i : Int) + 1) = ((i + 1 : Nat) : Int) := by rw [wrap_id (by omega) (by omega)]; omega
    refine Tot.step0 (fun k p_ q_ => orielref13_Write_l0_q (lv k) k 3 s ⟨#[]⟩ 0 p_ _ _) ?_
    rw [hwr, Int.toNat_natCast, Int.toNat_natCast]
    rw [hwr] at next
    repeat (refine Tot.t (decide_eq_true (by omega)) ?_)
    refine Tot.cond (fun c => ?_) (fun c => next _ ?_)
    · have c : s.data.getD i 0 = 34 := UInt8.toNat_inj.1 (by have := eq_of_beq c; show _ = 34; omega)
      refine Tot.t (decide_eq_true (by simp only [sza, hxs]; show w.size + 1 + 1 ≤ 4611686018427387904; omega)) (next _ ?_)
      rw [bl_app, bl_app, hx, hw, htk, dbl_app, c]
      simp [bl, dbl]
    · have c : s.data.getD i 0 ≠ 34 := fun e => by rw [e] at c; simp at c
      rw [bl_app, hx, hw, htk, dbl_app, dbl_cons, if_neg c]
      rfl
end Go.Vm.T
