/- The plain law. -/
import Derived.Test.YtfogiadkbdogcaaVmEq
import Derived.Test.YtfogiadkbdogcaaVmThree
import Derived.Laws.BitsLemmas
import Derived.Lib.RuneCountTail
/- The document's runes: each function of them comes to an answer. -/

set_option linter.unusedVariables false
set_option linter.unusedSimpArgs false
namespace Go.Vm.T
open Go Go.Vm Go.Proofs
attribute [local irreducible] lv oriellaw12_PathRights_b oriellaw12_awake_b oriellaw12_named_b path_Speaks_b path_Speaks_l0 path_Speaks_l1 path_gather_path_b path_gather_path_l0 path_gather_path_l1 path_gather_filter_b path_gather_filter_l0 path_gather_filter_l1 api_Name_b path_gather_attr_b path_add_string_b api_Name_2_b api_Name_3_b api_Name_3_l0 slices_Contains_string_string_b slices_Index_string_string_b slices_Index_string_string_l0 path_Right_b path_measured_b path_measure_path_b path_measure_path_l0 path_measure_path_l1 path_measure_path_l2 path_measure_path_l3 path_measure_part_b path_add_string_2_b path_measure_filter_b path_measure_filter_l0 path_measure_filter_l1 path_shape_b path_shape_l0 path_shape_l1 path_shape_l2 path_named_b path_value_b name_Plain_b name_Plain_l0 utf_All_b utf_All_l0 utf_All_l1 char_Start_b utf_Rune_b utf_Rune_l0 utf_Rune_l1 utf_Rune_l2 utf_Rune_l3 char_in_b char_in_l0 utf_forms_b char_All_b char_All_l0 char_All_l1 utf_span_b char_Char_b char_Blank_b char_Part_b path_Size_b orielref12_Size_b path_Same_b orielref12_size_b orielref12_size_l0 orielref12_size_l1 api_Path_b api_Path_l0 orielref12_sizeFilter_b orielref12_sizeFilter_l0 orielref12_sizeFilter_l1 api_Filter_b api_Filter_l0 path_sameFilter_b orielref12_Right_b orielref12_path_b orielref12_path_l0 orielref12_path_l1 orielref12_filter_b orielref12_filter_l0 orielref12_filter_l1 orielref12_filter_l2 orielref12_filter_l3 orielref12_filter_l4 orielref12_named_b orielref04_Right_b orielref04_Right_l0 orielref03_Plain_b orielref03_Plain_l0 orielref01_All_b orielref01_All_l0 orielref01_All_l1 orielref02_Start_b orielref01_Rune_b orielref01_Rune_l0 orielref01_Put_b orielref01_cut_b orielref01_cut_l0 orielref01_cut_l1 orielref01_cut_l2 orielref01_cut_l3 orielref01_cut_l4 orielref01_value_b orielref01_value_l0 orielref01_value_l1 orielref12_Same_b orielref12_Same_l0 orielref12_Same_l1 orielref02_Char_b orielref02_Part_b orielref01_begins_b orielref01_begins_l0 orielref12_SameFilter_b orielref12_SameFilter_l0 orielref12_SameFilter_l1 orielref02_Blank_b orielref05_Find_b orielref05_Find_l0
theorem value_tot (s : ByteArray) (at_ n : Int) (h0 : 0 ≤ at_) (h1 : at_ + n ≤ s.size) (h2 : 0 ≤ n) (hn : n ≤ 4) (hs : s.size ≤ 2097152) : Tot (fun k _ _ => (lv k).orielref01_value s at_ n) (fun _ => True) := by
  have hl : ∀ (d : Nat) (v3 v4 : Int), 0 ≤ v4 → (n - v4).toNat = d → Tot (fun k a b => orielref01_value_l0 (lv k) k s at_ n a v3 v4) (fun _ => True) := by
    intro d
    induction d with
    | zero =>
      intro v3 v4 h3 h4
      refine Tot.step0 (fun k a b => orielref01_value_l0_q (lv k) k s at_ n a v3 v4) ?_
      exact Tot.f (decide_eq_false (by omega)) (Tot.ret trivial)
    | succ d ih =>
      intro v3 v4 h3 h4
      have hi : ∀ v, Tot (fun k a b => orielref01_value_l0 (lv k) k s at_ n a v (IntKind.i64.wrap (v4 + 1))) (fun _ => True) := fun v => by
        rw [wrap_id (by omega) (by omega)]
        exact ih v (v4 + 1) (by omega) (by omega)
      have hm : ∀ v5, Tot (fun k a b => orielref01_value_l1 (lv k) k s at_ n a v3 v4 v5) (fun _ => True) := fun v5 => by
        refine Tot.congr ?_ (fun k a b => orielref01_value_l1_q (lv k) k s at_ n a v3 v4 v5)
        repeat' first
          | refine Tot.cond (fun _ => ?_) (fun _ => ?_)
          | exact hi _
      refine Tot.step0 (fun k a b => orielref01_value_l0_q (lv k) k s at_ n a v3 v4) ?_
      have hw : IntKind.i64.wrap (at_ + v4) = at_ + v4 := wrap_id (by omega) (by omega)
      refine Tot.t (decide_eq_true (by omega)) (Tot.t (decide_eq_true (by omega)) (Tot.t (decide_eq_true (by omega)) ?_))
      repeat' first
        | refine Tot.cond (fun _ => ?_) (fun _ => ?_)
        | exact hm _
  exact orielref01_value_up _ _ _ (Tot.congr (Tot.in0 (hl _ 0 0 (by omega) rfl)) (fun k _ _ => orielref01_value_q (lv k) k s at_ n))
theorem put_tot (r : Int) : Tot (fun k _ _ => (lv k).orielref01_Put r) (fun l => l.length ≤ 4) := by
  refine orielref01_Put_up _ (Tot.congr ?_ (fun k _ _ => orielref01_Put_q (lv k) k r))
  repeat' first
    | refine Tot.cond (fun _ => ?_) (fun _ => ?_)
    | exact Tot.ret (by simp)
theorem begins_tot (s : ByteArray) (at_ : Int) (l : List (List C)) (h0 : 0 ≤ at_) (h1 : at_ ≤ s.size) (hl : l.length ≤ 2097152) (hs : s.size ≤ 2097160) : Tot (fun k _ _ => (lv k).orielref01_begins s at_ l) (fun _ => True) := by
  refine orielref01_begins_up _ _ _ (Tot.congr ?_ (fun k _ _ => orielref01_begins_q (lv k) k s at_ l))
  have hw : IntKind.i64.wrap (at_ + (l.length : Int)) = at_ + l.length := wrap_id (by omega) (by omega)
  rw [hw]
  refine Tot.cond (fun _ => Tot.ret trivial) (fun _ => Tot.cond (fun _ => Tot.ret trivial) (fun hc => ?_))
  have hc := of_decide_eq_false hc
  have hl : ∀ (d : Nat) (v3 : Int), 0 ≤ v3 → ((l.length : Int) - v3).toNat = d → Tot (fun k a b => orielref01_begins_l0 (lv k) k s at_ l a v3) (fun _ => True) := by
    intro d
    induction d with
    | zero =>
      intro v3 h3 h4
      refine Tot.step0 (fun k a b => orielref01_begins_l0_q (lv k) k s at_ l a v3) ?_
      exact Tot.f (decide_eq_false (by omega)) (Tot.ret trivial)
    | succ d ih =>
      intro v3 h3 h4
      refine Tot.step0 (fun k a b => orielref01_begins_l0_q (lv k) k s at_ l a v3) ?_
      have hw : IntKind.i64.wrap (at_ + v3) = at_ + v3 := wrap_id (by omega) (by omega)
      rw [hw, wrap_id (x := v3 + 1) (by omega) (by omega)]
      refine Tot.t (decide_eq_true (by omega)) (Tot.t (decide_eq_true (by omega)) (Tot.t (decide_eq_true (by omega)) (Tot.t (decide_eq_true (by omega)) (Tot.t (decide_eq_true (by omega)) ?_))))
      exact Tot.cond (fun _ => Tot.ret trivial) (fun _ => ih _ (by omega) (by omega))
  exact Tot.in0 (hl _ 0 (by omega) rfl)
-- UtfB
theorem size_rowBytes (l : List (List C)) : (rowBytes l).size = l.length := by
  unfold rowBytes
  show (List.toArray _).size = _
  rw [List.size_toArray, List.length_map]
theorem len_bytesRow (s : ByteArray) : (bytesRow s).length = s.size := by
  unfold bytesRow
  rw [List.length_map, Array.length_toList]
  rfl
theorem size_app (a b : ByteArray) : (a ++ b).size = a.size + b.size := by simp
theorem size_extract (s : ByteArray) (a b : Nat) : (s.extract a b).size = min b s.size - a := by simp
set_option maxRecDepth 100000 in
theorem cut_tot (s : ByteArray) (at_ : Int) (h0 : 0 ≤ at_) (h1 : at_ ≤ s.size) (hs : s.size ≤ 1048576) : Tot (fun k _ _ => (lv k).orielref01_cut s at_) (fun _ => True) := by
  have hw : IntKind.i64.wrap ((s.size : Int) - at_) = s.size - at_ := wrap_id (by omega) (by omega)
  refine orielref01_cut_up _ _ (Tot.congr ?_ (fun k _ _ => orielref01_cut_q (lv k) k s at_))
  rw [hw]
  refine Tot.cond (fun _ => Tot.ret trivial) (fun hn => Tot.cond (fun _ => Tot.ret trivial) (fun hn2 => ?_))
  have hn := of_decide_eq_false hn
  have hn2 := of_decide_eq_false hn2
  rw [wrap_id (x := (s.size : Int) - at_ + 1) (by omega) (by omega)]
  have hx : (s.extract at_.toNat ((s.size : Int).toNat)).size = s.size - at_.toNat := by rw [size_extract]; omega
  have key : ∀ (d : Nat) (v3 : Int), (s.size : Int) - at_ + 1 ≤ v3 → (5 - v3).toNat = d → Tot (fun k a b => orielref01_cut_l0 (lv k) k s at_ a v3) (fun _ => True) := by
    intro d
    induction d with
    | zero =>
      intro v3 h3 h4
      refine Tot.step0 (fun k a b => orielref01_cut_l0_q (lv k) k s at_ a v3) ?_
      exact Tot.f (decide_eq_false (by omega)) (Tot.ret trivial)
    | succ d ih =>
      intro v3 h3 h4
      have hnext : Tot (fun k a b => orielref01_cut_l0 (lv k) k s at_ a (IntKind.i64.wrap (v3 + 1))) (fun _ => True) := by
        rw [wrap_id (by omega) (by omega)]
        exact ih _ (by omega) (by omega)
      have h4l : ∀ (d : Nat) (v5 v6 v7 : Int), 0 ≤ v7 → (64 - v7).toNat = d → Tot (fun k a b => orielref01_cut_l4 (lv k) k s at_ a b v3 v5 v6 v7) (fun _ => True) := by
        intro d
        induction d with
        | zero =>
          intro v5 v6 v7 h5 h6
          refine Tot.step1 (fun k a b => orielref01_cut_l4_q (lv k) k s at_ a b v3 v5 v6 v7) ?_
          exact Tot.f (decide_eq_false (by omega)) hnext
        | succ d ihd =>
          intro v5 v6 v7 h5 h6
          refine Tot.step1 (fun k a b => orielref01_cut_l4_q (lv k) k s at_ a b v3 v5 v6 v7) ?_
          have hi : Tot (fun k a b => orielref01_cut_l4 (lv k) k s at_ a b v3 v5 v6 (IntKind.i64.wrap (v7 + 1))) (fun _ => True) := by
            rw [wrap_id (by omega) (by omega)]
            exact ihd v5 v6 _ (by omega) (by omega)
          have hp : ∀ r, Tot (fun k a b => ((lv k).orielref01_Put r).bind fun r1 => cond ((r1.length : Int) == v3) (cond (decide ((rowBytes r1).size + (⟨#[120]⟩ : ByteArray).size ≤ 4611686018427387904)) (cond (roomy Try.prog 5 ((s.extract at_.toNat ((s.size : Int).toNat)).size)) (((lv k).orielref01_begins ((rowBytes r1) ++ (⟨#[120]⟩ : ByteArray)) 0 (bytesRow (s.extract at_.toNat ((s.size : Int).toNat)))).bind fun r2 => cond r2 (some true) (orielref01_cut_l4 (lv k) k s at_ a b v3 v5 v6 (IntKind.i64.wrap (v7 + 1)))) none) none) (orielref01_cut_l4 (lv k) k s at_ a b v3 v5 v6 (IntKind.i64.wrap (v7 + 1)))) (fun _ => True) := fun r => by
            refine Tot.bind (put_tot r) fun r1 hr1 => Tot.cond (fun _ => ?_) (fun _ => hi)
            have e1 : (⟨#[120]⟩ : ByteArray).size = 1 := rfl
            refine Tot.t (decide_eq_true (by rw [size_rowBytes, e1]; omega)) (Tot.t (roomy_of (by have : Try.prog.bytesOf 5 = 1 := by kernel_rfl
                                                                                                  omega) (by omega)) ?_)
            refine Tot.bind (begins_tot _ 0 _ (by omega) (by omega) (by rw [len_bytesRow]; omega) (by rw [size_app, size_rowBytes, e1]; omega)) fun r2 _ => Tot.cond (fun _ => Tot.ret trivial) (fun _ => hi)
          refine Tot.t (decide_eq_true (by omega)) (Tot.cond (fun _ => hp _) (fun _ => hp _))
      have h3l : ∀ v5 v6 v7 v8, Tot (fun k a b => orielref01_cut_l3 (lv k) k s at_ a v3 v5 v6 v7 v8) (fun _ => True) := fun v5 v6 v7 v8 => by
        refine Tot.congr ?_ (fun k a b => orielref01_cut_l3_q (lv k) k s at_ a v3 v5 v6 v7 v8)
        exact Tot.cond (fun _ => hnext) (fun _ => Tot.cond (fun _ => hnext) (fun _ => Tot.in1 (h4l _ v5 v6 0 (by omega) rfl)))
      have h2l : ∀ (d : Nat) (v5 v6 : Int) (v7 : Bool) (v8 : Int), 1 ≤ v8 → ((s.size : Int) - at_ - v8).toNat = d → Tot (fun k a b => orielref01_cut_l2 (lv k) k s at_ a b v3 v5 v6 v7 v8) (fun _ => True) := by
        intro d
        induction d with
        | zero =>
          intro v5 v6 v7 v8 h5 h6
          refine Tot.step1 (fun k a b => orielref01_cut_l2_q (lv k) k s at_ a b v3 v5 v6 v7 v8) ?_
          rw [hw]
          refine Tot.f (decide_eq_false (by omega)) ?_
          have g1 : decide ((0 : Int) ≤ at_) = true := decide_eq_true h0
          have g2 : decide (at_ < (s.size : Int)) = true := decide_eq_true (by omega)
          repeat' first
            | exact h3l _ _ _ _
            | refine Tot.t g1 ?_
            | refine Tot.t g2 ?_
            | refine Tot.cond (fun _ => ?_) (fun _ => ?_)
        | succ d ihd =>
          intro v5 v6 v7 v8 h5 h6
          refine Tot.step1 (fun k a b => orielref01_cut_l2_q (lv k) k s at_ a b v3 v5 v6 v7 v8) ?_
          rw [hw, wrap_id (x := at_ + v8) (by omega) (by omega), wrap_id (x := v8 + 1) (by omega) (by omega)]
          refine Tot.t (decide_eq_true (by omega)) ?_
          have g1 : decide ((0 : Int) ≤ at_ + v8) = true := decide_eq_true (by omega)
          have g2 : decide (at_ + v8 < (s.size : Int)) = true := decide_eq_true (by omega)
          repeat' first
            | exact ihd _ _ _ _ (by omega) (by omega)
            | refine Tot.t g1 ?_
            | refine Tot.t g2 ?_
            | refine Tot.cond (fun _ => ?_) (fun _ => ?_)
      have h1l : ∀ (d : Nat) (v5 v6 : ByteArray), v5.size = v6.size → v5.size ≤ 2097152 → (v3 - v5.size).toNat = d → Tot (fun k a b => orielref01_cut_l1 (lv k) k s at_ a b v3 v5 v6) (fun _ => True) := by
        intro d
        induction d with
        | zero =>
          intro v5 v6 h5 h6 h7
          refine Tot.step1 (fun k a b => orielref01_cut_l1_q (lv k) k s at_ a b v3 v5 v6) ?_
          refine Tot.f (decide_eq_false (by omega)) ?_
          exact Tot.bind (value_tot v5 0 v3 (by omega) (by omega) (by omega) (by omega) h6) fun r1 _ => Tot.bind (value_tot v6 0 v3 (by omega) (by omega) (by omega) (by omega) (by omega)) fun r2 _ => Tot.in1 (h2l _ r1 r2 true 1 (by omega) rfl)
        | succ d ihd =>
          intro v5 v6 h5 h6 h7
          refine Tot.step1 (fun k a b => orielref01_cut_l1_q (lv k) k s at_ a b v3 v5 v6) ?_
          have e1 : (⟨#[128]⟩ : ByteArray).size = 1 := rfl
          have e2 : (⟨#[191]⟩ : ByteArray).size = 1 := rfl
          refine Tot.t (decide_eq_true (by omega)) (Tot.t (decide_eq_true (by rw [e1]; omega)) (Tot.t (decide_eq_true (by rw [e2]; omega)) ?_))
          exact ihd _ _ (by rw [size_app, size_app, e1, e2]; omega) (by rw [size_app, e1]; omega) (by rw [size_app, e1]; omega)
      refine Tot.step0 (fun k a b => orielref01_cut_l0_q (lv k) k s at_ a v3) ?_
      refine Tot.t (decide_eq_true (by omega)) (Tot.t (decide_eq_true (by omega)) (Tot.t (decide_eq_true (by omega)) (Tot.t (decide_eq_true (by omega)) (Tot.t (decide_eq_true (by omega)) ?_))))
      exact Tot.in1 (h1l _ _ _ rfl (by rw [hx]; omega) rfl)
  exact Tot.in0 (key _ _ (by omega) rfl)
theorem len_runesRow (s : ByteArray) : (runesRow s).length ≤ s.size := by
  unfold runesRow
  rw [List.length_map]
  exact runesAux_length s s.size 0
-- Right
abbrev BB : Nat := 1048576
/-- a right path (true), a right filter (false), as far as d parts lie within one another -/
def ok : Nat → Bool → List C → Prop
  | 0, _, _ => False
  | d + 1, true, a => 1 ≤ gi a 0 ∧ gi a 0 ≤ 7 ∧ (gi a 0 = 4 ∨ gi a 0 = 5 → 2 ≤ (gr a 1).length) ∧ (gi a 0 = 6 → (gr a 1).length = 1) ∧ (gi a 0 = 7 ↔ (gr a 2).length = 1) ∧ (gr a 2).length ≤ 1 ∧ (gr a 1).length ≤ 64 ∧ (gi a 0 ≠ 4 → gi a 0 ≠ 5 → gi a 0 ≠ 6 → (gr a 1).length = 0) ∧ (∀ i, i < (gr a 1).length → ok d true ((gr a 1).getD i [])) ∧ (∀ i, i < (gr a 2).length → ok d false ((gr a 2).getD i []))
  | d + 1, false, a => 1 ≤ gi a 0 ∧ gi a 0 ≤ 11 ∧ (gi a 0 = 8 → (gr a 4).length = 1) ∧ (gr a 4).length ≤ 64 ∧ (gi a 0 = 9 ∨ gi a 0 = 10 → 2 ≤ (gr a 4).length) ∧ (gi a 0 ≠ 8 → gi a 0 ≠ 9 → gi a 0 ≠ 10 → (gr a 4).length = 0) ∧ (gi a 0 = 11 ↔ (gr a 5).length = 1) ∧ (gr a 5).length ≤ 1 ∧ (∀ i, i < (gr a 4).length → ok d false ((gr a 4).getD i [])) ∧ (∀ i, i < (gr a 5).length → ok d true ((gr a 5).getD i []))
/-- how many parts -/
def sz : Nat → Bool → List C → Nat
  | 0, _, _ => 1
  | d + 1, true, a => 1 + ((gr a 1).map (sz d true)).sum + ((gr a 2).map (sz d false)).sum
  | d + 1, false, a => 1 + ((gr a 4).map (sz d false)).sum + ((gr a 5).map (sz d true)).sum
theorem sum_take {α : Type} (l : List α) (f : α → Nat) (i : Nat) (d : α) (h : i < l.length) : ((l.take (i + 1)).map f).sum = ((l.take i).map f).sum + f (l.getD i d) := by
  rw [List.take_add_one, List.map_append, List.sum_append, List.getElem?_eq_getElem h]
  simp [List.getD, List.getElem?_eq_getElem h]
theorem part_lt {a : List C} {j i M : Nat} (h : SizeOf.sizeOf a < M + 1) (hi : i < (gr a j).length) : SizeOf.sizeOf ((gr a j).getD i []) < M := by
  have h1 := gr_size j a
  have h2 := List.sizeOf_lt_of_mem (getD_mem (d := []) hi)
  omega
def SizeQ (k : Bool) (a : List C) (most r : Int) : Prop := 1 ≤ r ∧ r ≤ most + 1 ∧ (r ≤ most → ∀ d, (sz d k a : Int) ≤ r)
theorem size_tot : ∀ M : Nat,
    (∀ (a : List C) (most : Int), SizeOf.sizeOf a < M → SmR BB a → 0 ≤ most → most ≤ 64 → Tot (fun k _ _ => (lv k).orielref12_size (gi a 0) (gr a 1) (gr a 2) most) (SizeQ true a most)) ∧
    (∀ (a : List C) (most : Int), SizeOf.sizeOf a < M → SmR BB a → 0 ≤ most → most ≤ 64 → Tot (fun k _ _ => (lv k).orielref12_sizeFilter (gi a 0) (gs a 1) (gs a 2) (gs a 3) (gr a 4) (gr a 5) most) (SizeQ false a most)) := by
  intro M
  induction M with
  | zero => exact ⟨fun _ _ h => by omega, fun _ _ h => by omega⟩
  | succ M ih =>
    constructor
    · intro a most hM ha h0 h64
      have hl1 : (gr a 1).length ≤ 1048576 := (ha.gr 1).1
      have hl2 : (gr a 2).length ≤ 1048576 := (ha.gr 2).1
      refine orielref12_size_up _ _ _ _ (Tot.congr ?_ (fun k _ _ => orielref12_size_q (lv k) k (gi a 0) (gr a 1) (gr a 2) most))
      have l1 : ∀ (d i : Nat) (v : Int), (gr a 2).length - i = d → i ≤ (gr a 2).length → 1 ≤ v → v ≤ most + 1 → (v ≤ most → ∀ d, 1 + (((gr a 1).map (sz d true)).sum : Int) + (((gr a 2).take i).map (sz d false)).sum ≤ v) → Tot (fun k x y => orielref12_size_l1 (lv k) k (gi a 0) (gr a 1) (gr a 2) most x v i) (SizeQ true a most) := by
        intro d
        induction d using Nat.strongRecOn with | _ d ihd => ?_
        intro i v hd hi g1 g2 g3
        have hend : i = (gr a 2).length ∨ ¬ v ≤ most → SizeQ true a most v := fun h => ⟨g1, g2, fun hv d => by
          rcases h with h | h
          · have := g3 hv (d - 1)
            rw [h, List.take_length] at this
            cases d with
            | zero => simp only [sz]; omega
            | succ d => simp only [sz]; simp only [Nat.add_sub_cancel] at this; omega
          · exact absurd hv h⟩
        refine Tot.step0 (fun k x y => orielref12_size_l1_q (lv k) k (gi a 0) (gr a 1) (gr a 2) most x v (i : Int)) ?_
        rw [wrap_id (x := most - v) (by omega) (by omega), wrap_id (x := (i : Int) + 1) (by omega) (by omega), Int.toNat_natCast]
        refine Tot.cond (fun hc => Tot.cond (fun hc2 => ?_) (fun hc2 => Tot.ret (hend (.inr (of_decide_eq_false hc2))))) (fun hc => Tot.ret (hend (.inl ?_)))
        · have hc := of_decide_eq_true hc
          have hc2 := of_decide_eq_true hc2
          refine Tot.t (decide_eq_true (by omega)) (Tot.t (decide_eq_true (by omega)) ?_)
          refine Tot.bind (ih.2 _ _ (part_lt hM (by omega : i < (gr a 2).length)) ((ha.gr 2).get i) (by omega) (by omega)) fun r hr => ?_
          obtain ⟨r1, r2, r3⟩ := hr
          rw [wrap_id (x := v + r) (by omega) (by omega)]
          refine ihd _ (by omega) (i + 1) (v + r) rfl (by omega) (by omega) (by omega) (fun hv d => ?_)
          have h1 := g3 (by omega) d
          have h2 := r3 (by omega) d
          rw [sum_take _ _ _ [] (by omega)]
          omega
        · have hc := of_decide_eq_false hc
          omega
      have l0 : ∀ (d i : Nat) (v : Int), (gr a 1).length - i = d → i ≤ (gr a 1).length → 1 ≤ v → v ≤ most + 1 → (v ≤ most → ∀ d, 1 + ((((gr a 1).take i).map (sz d true)).sum : Int) ≤ v) → Tot (fun k x y => orielref12_size_l0 (lv k) k (gi a 0) (gr a 1) (gr a 2) most x v i) (SizeQ true a most) := by
        intro d
        induction d using Nat.strongRecOn with | _ d ihd => ?_
        intro i v hd hi g1 g2 g3
        have hend : i = (gr a 1).length ∨ ¬ v ≤ most → Tot (fun k x y => orielref12_size_l1 (lv k) k (gi a 0) (gr a 1) (gr a 2) most k v 0) (SizeQ true a most) := fun h => Tot.in0 (l1 _ 0 v rfl (by omega) g1 g2 (fun hv d => by
          rcases h with h | h
          · have := g3 hv d
            rw [h, List.take_length] at this
            simpa using this
          · exact absurd hv h))
        refine Tot.step0 (fun k x y => orielref12_size_l0_q (lv k) k (gi a 0) (gr a 1) (gr a 2) most x v (i : Int)) ?_
        rw [wrap_id (x := most - v) (by omega) (by omega), wrap_id (x := (i : Int) + 1) (by omega) (by omega), Int.toNat_natCast]
        refine Tot.cond (fun hc => Tot.cond (fun hc2 => ?_) (fun hc2 => hend (.inr (of_decide_eq_false hc2)))) (fun hc => hend (.inl ?_))
        · have hc := of_decide_eq_true hc
          have hc2 := of_decide_eq_true hc2
          refine Tot.t (decide_eq_true (by omega)) (Tot.t (decide_eq_true (by omega)) ?_)
          refine Tot.bind (ih.1 _ _ (part_lt hM (by omega : i < (gr a 1).length)) ((ha.gr 1).get i) (by omega) (by omega)) fun r hr => ?_
          obtain ⟨r1, r2, r3⟩ := hr
          rw [wrap_id (x := v + r) (by omega) (by omega)]
          refine ihd _ (by omega) (i + 1) (v + r) rfl (by omega) (by omega) (by omega) (fun hv d => ?_)
          have h1 := g3 (by omega) d
          have h2 := r3 (by omega) d
          rw [sum_take _ _ _ [] (by omega)]
          omega
        · have hc := of_decide_eq_false hc
          omega
      exact Tot.in0 (l0 _ 0 1 rfl (by omega) (by omega) (by omega) (fun h d => by simp))
    · intro a most hM ha h0 h64
      have hl1 : (gr a 4).length ≤ 1048576 := (ha.gr 4).1
      have hl2 : (gr a 5).length ≤ 1048576 := (ha.gr 5).1
      refine orielref12_sizeFilter_up _ _ _ _ _ _ _ (Tot.congr ?_ (fun k _ _ => orielref12_sizeFilter_q (lv k) k (gi a 0) (gs a 1) (gs a 2) (gs a 3) (gr a 4) (gr a 5) most))
      have l1 : ∀ (d i : Nat) (v : Int), (gr a 5).length - i = d → i ≤ (gr a 5).length → 1 ≤ v → v ≤ most + 1 → (v ≤ most → ∀ d, 1 + (((gr a 4).map (sz d false)).sum : Int) + (((gr a 5).take i).map (sz d true)).sum ≤ v) → Tot (fun k x y => orielref12_sizeFilter_l1 (lv k) k (gi a 0) (gs a 1) (gs a 2) (gs a 3) (gr a 4) (gr a 5) most x v i) (SizeQ false a most) := by
        intro d
        induction d using Nat.strongRecOn with | _ d ihd => ?_
        intro i v hd hi g1 g2 g3
        have hend : i = (gr a 5).length ∨ ¬ v ≤ most → SizeQ false a most v := fun h => ⟨g1, g2, fun hv d => by
          rcases h with h | h
          · have := g3 hv (d - 1)
            rw [h, List.take_length] at this
            cases d with
            | zero => simp only [sz]; omega
            | succ d => simp only [sz]; simp only [Nat.add_sub_cancel] at this; omega
          · exact absurd hv h⟩
        refine Tot.step0 (fun k x y => orielref12_sizeFilter_l1_q (lv k) k (gi a 0) (gs a 1) (gs a 2) (gs a 3) (gr a 4) (gr a 5) most x v (i : Int)) ?_
        rw [wrap_id (x := most - v) (by omega) (by omega), wrap_id (x := (i : Int) + 1) (by omega) (by omega), Int.toNat_natCast]
        refine Tot.cond (fun hc => Tot.cond (fun hc2 => ?_) (fun hc2 => Tot.ret (hend (.inr (of_decide_eq_false hc2))))) (fun hc => Tot.ret (hend (.inl ?_)))
        · have hc := of_decide_eq_true hc
          have hc2 := of_decide_eq_true hc2
          refine Tot.t (decide_eq_true (by omega)) (Tot.t (decide_eq_true (by omega)) ?_)
          refine Tot.bind (ih.1 _ _ (part_lt hM (by omega : i < (gr a 5).length)) ((ha.gr 5).get i) (by omega) (by omega)) fun r hr => ?_
          obtain ⟨r1, r2, r3⟩ := hr
          rw [wrap_id (x := v + r) (by omega) (by omega)]
          refine ihd _ (by omega) (i + 1) (v + r) rfl (by omega) (by omega) (by omega) (fun hv d => ?_)
          have h1 := g3 (by omega) d
          have h2 := r3 (by omega) d
          rw [sum_take _ _ _ [] (by omega)]
          omega
        · have hc := of_decide_eq_false hc
          omega
      have l0 : ∀ (d i : Nat) (v : Int), (gr a 4).length - i = d → i ≤ (gr a 4).length → 1 ≤ v → v ≤ most + 1 → (v ≤ most → ∀ d, 1 + ((((gr a 4).take i).map (sz d false)).sum : Int) ≤ v) → Tot (fun k x y => orielref12_sizeFilter_l0 (lv k) k (gi a 0) (gs a 1) (gs a 2) (gs a 3) (gr a 4) (gr a 5) most x v i) (SizeQ false a most) := by
        intro d
        induction d using Nat.strongRecOn with | _ d ihd => ?_
        intro i v hd hi g1 g2 g3
        have hend : i = (gr a 4).length ∨ ¬ v ≤ most → Tot (fun k x y => orielref12_sizeFilter_l1 (lv k) k (gi a 0) (gs a 1) (gs a 2) (gs a 3) (gr a 4) (gr a 5) most k v 0) (SizeQ false a most) := fun h => Tot.in0 (l1 _ 0 v rfl (by omega) g1 g2 (fun hv d => by
          rcases h with h | h
          · have := g3 hv d
            rw [h, List.take_length] at this
            simpa using this
          · exact absurd hv h))
        refine Tot.step0 (fun k x y => orielref12_sizeFilter_l0_q (lv k) k (gi a 0) (gs a 1) (gs a 2) (gs a 3) (gr a 4) (gr a 5) most x v (i : Int)) ?_
        rw [wrap_id (x := most - v) (by omega) (by omega), wrap_id (x := (i : Int) + 1) (by omega) (by omega), Int.toNat_natCast]
        refine Tot.cond (fun hc => Tot.cond (fun hc2 => ?_) (fun hc2 => hend (.inr (of_decide_eq_false hc2)))) (fun hc => hend (.inl ?_))
        · have hc := of_decide_eq_true hc
          have hc2 := of_decide_eq_true hc2
          refine Tot.t (decide_eq_true (by omega)) (Tot.t (decide_eq_true (by omega)) ?_)
          refine Tot.bind (ih.2 _ _ (part_lt hM (by omega : i < (gr a 4).length)) ((ha.gr 4).get i) (by omega) (by omega)) fun r hr => ?_
          obtain ⟨r1, r2, r3⟩ := hr
          rw [wrap_id (x := v + r) (by omega) (by omega)]
          refine ihd _ (by omega) (i + 1) (v + r) rfl (by omega) (by omega) (by omega) (fun hv d => ?_)
          have h1 := g3 (by omega) d
          have h2 := r3 (by omega) d
          rw [sum_take _ _ _ [] (by omega)]
          omega
        · have hc := of_decide_eq_false hc
          omega
      exact Tot.in0 (l0 _ 0 1 rfl (by omega) (by omega) (by omega) (fun h d => by simp))
-- Alike
theorem lenb {a b : Nat} (h : (!((a : Int) == (b : Int))) = false) : a = b := by
  have : ((a : Int)) = b := by simpa using h
  omega
theorem lent {a b : Nat} (h : (!((a : Int) == (b : Int))) = true) : a ≠ b := by
  intro e
  subst e
  simp at h
abbrev AlQ (k : Bool) (a b : List C) : Bool → Prop := fun r => r = true ↔ Alike k a b
theorem al_no {k : Bool} {a b : List C} (h : ¬ Alike k a b) : AlQ k a b false := ⟨fun e => (by cases e), fun e => absurd e h⟩
theorem psame_tots : ∀ M : Nat,
    (∀ (a b : List C), SizeOf.sizeOf a < M → SmR BB a → SmR BB b → Tot (fun k _ _ => (lv k).path_Same (gi a 0) (gr a 1) (gr a 2) (gi b 0) (gr b 1) (gr b 2)) (AlQ true a b)) ∧
    (∀ (a b : List C), SizeOf.sizeOf a < M → SmR BB a → SmR BB b → Tot (fun k _ _ => (lv k).path_sameFilter (gi a 0) (gs a 1) (gs a 2) (gs a 3) (gr a 4) (gr a 5) (gi b 0) (gs b 1) (gs b 2) (gs b 3) (gr b 4) (gr b 5)) (AlQ false a b)) := by
  intro M
  induction M with
  | zero => exact ⟨fun _ _ h => by omega, fun _ _ h => by omega⟩
  | succ M ih =>
    have eqp : ∀ (j : Nat) (a b : List C), SizeOf.sizeOf a < M + 1 → SmR BB a → SmR BB b → Tot (fun k _ _ => (lv k).api_Path (gr a j) (gr b j)) (fun r => r = true ↔ (gr a j).length = (gr b j).length ∧ ∀ i, i < (gr a j).length → Alike true ((gr a j).getD i []) ((gr b j).getD i [])) := by
      intro j a b hM ha hb
      have hl1 : (gr a j).length ≤ 1048576 := (ha.gr j).1
      refine api_Path_up _ _ (Tot.congr ?_ (fun k _ _ => api_Path_q (lv k) k (gr a j) (gr b j)))
      refine Tot.cond (fun h => Tot.ret ⟨fun e => (by cases e), fun e => absurd e.1 (lent h)⟩) (fun h1 => ?_)
      have h1 := lenb h1
      refine Tot.in0 (Tot.every (H := fun k x y v => api_Path_l0 (lv k) k (gr a j) (gr b j) x v) (n := (gr a j).length) (p := fun i => Alike true ((gr a j).getD i []) ((gr b j).getD i [])) (by omega) (fun h => h.2) (fun hs => ?_) (fun i Q hi hf ht => ?_))
      · refine Tot.step0 (fun k p_ q_ => api_Path_l0_q (lv k) k (gr a j) (gr b j) p_ _) ?_
        exact Tot.f (decide_eq_false (by omega)) (Tot.ret ⟨fun _ => ⟨h1, hs⟩, fun _ => rfl⟩)
      · refine Tot.step0 (fun k p_ q_ => api_Path_l0_q (lv k) k (gr a j) (gr b j) p_ _) ?_
        rw [Int.toNat_natCast]
        repeat (refine Tot.t (decide_eq_true (by omega)) ?_)
        exact Tot.bind (ih.1 _ _ (part_lt hM hi) ((ha.gr j).get i) ((hb.gr j).get i)) fun r hr => Tot.cond (fun hn => Tot.ret (hf fun h => by rw [hr.2 h] at hn; cases hn)) (fun hn => ht (hr.1 (by simpa using hn)))
    have eqf : ∀ (j : Nat) (a b : List C), SizeOf.sizeOf a < M + 1 → SmR BB a → SmR BB b → Tot (fun k _ _ => (lv k).api_Filter (gr a j) (gr b j)) (fun r => r = true ↔ (gr a j).length = (gr b j).length ∧ ∀ i, i < (gr a j).length → Alike false ((gr a j).getD i []) ((gr b j).getD i [])) := by
      intro j a b hM ha hb
      have hl1 : (gr a j).length ≤ 1048576 := (ha.gr j).1
      refine api_Filter_up _ _ (Tot.congr ?_ (fun k _ _ => api_Filter_q (lv k) k (gr a j) (gr b j)))
      refine Tot.cond (fun h => Tot.ret ⟨fun e => (by cases e), fun e => absurd e.1 (lent h)⟩) (fun h1 => ?_)
      have h1 := lenb h1
      refine Tot.in0 (Tot.every (H := fun k x y v => api_Filter_l0 (lv k) k (gr a j) (gr b j) x v) (n := (gr a j).length) (p := fun i => Alike false ((gr a j).getD i []) ((gr b j).getD i [])) (by omega) (fun h => h.2) (fun hs => ?_) (fun i Q hi hf ht => ?_))
      · refine Tot.step0 (fun k p_ q_ => api_Filter_l0_q (lv k) k (gr a j) (gr b j) p_ _) ?_
        exact Tot.f (decide_eq_false (by omega)) (Tot.ret ⟨fun _ => ⟨h1, hs⟩, fun _ => rfl⟩)
      · refine Tot.step0 (fun k p_ q_ => api_Filter_l0_q (lv k) k (gr a j) (gr b j) p_ _) ?_
        rw [Int.toNat_natCast]
        repeat (refine Tot.t (decide_eq_true (by omega)) ?_)
        exact Tot.bind (ih.2 _ _ (part_lt hM hi) ((ha.gr j).get i) ((hb.gr j).get i)) fun r hr => Tot.cond (fun hn => Tot.ret (hf fun h => by rw [hr.2 h] at hn; cases hn)) (fun hn => ht (hr.1 (by simpa using hn)))
    constructor
    · intro a b hM ha hb
      have no : ¬ Alike true a b → Tot (fun _ _ _ => some false) (AlQ true a b) := fun h => Tot.ret (al_no h)
      refine path_Same_up _ _ _ _ _ _ (Tot.congr ?_ (fun k _ _ => path_Same_q (lv k) k (gi a 0) (gr a 1) (gr a 2) (gi b 0) (gr b 1) (gr b 2)))
      refine Tot.cond (fun h0 => Tot.bind (eqp 1 a b hM ha hb) fun r1 hr1 => Tot.cond (fun h1 => Tot.bind (eqf 2 a b hM ha hb) fun r2 hr2 => Tot.ret ⟨fun e => ?_, fun e => ?_⟩) (fun h1 => no fun h => ?_)) (fun h0 => no fun h => ?_)
      · obtain ⟨q1, q2⟩ := hr1.1 h1
        obtain ⟨q3, q4⟩ := hr2.1 e
        exact .path (eq_of_beq h0) q1 q3 q2 q4
      · cases e with
        | path e1 e2 e3 e4 e5 => exact hr2.2 ⟨e3, e5⟩
      · cases h with
        | path e1 e2 e3 e4 e5 => rw [hr1.2 ⟨e2, e4⟩] at h1; cases h1
      · cases h with
        | path e1 e2 e3 e4 e5 => rw [e1] at h0; simp at h0
    · intro a b hM ha hb
      have no : ¬ Alike false a b → Tot (fun _ _ _ => some false) (AlQ false a b) := fun h => Tot.ret (al_no h)
      refine path_sameFilter_up _ _ _ _ _ _ _ _ _ _ _ _ (Tot.congr ?_ (fun k _ _ => path_sameFilter_q (lv k) k (gi a 0) (gs a 1) (gs a 2) (gs a 3) (gr a 4) (gr a 5) (gi b 0) (gs b 1) (gs b 2) (gs b 3) (gr b 4) (gr b 5)))
      refine Tot.cond (fun h0 => Tot.cond (fun g1 => Tot.cond (fun g2 => Tot.bind (eqf 4 a b hM ha hb) fun r1 hr1 => Tot.cond (fun h1 => Tot.bind (eqp 5 a b hM ha hb) fun r2 hr2 => Tot.ret ⟨fun e => ?_, fun e => ?_⟩) (fun h1 => no fun h => ?_)) (fun g2 => no fun h => ?_)) (fun g1 => no fun h => ?_)) (fun h0 => no fun h => ?_)
      · obtain ⟨q1, q2⟩ := hr1.1 h1
        obtain ⟨q3, q4⟩ := hr2.1 e
        obtain ⟨q5, q6⟩ := name_eq.1 g1
        exact .filter (eq_of_beq h0) q5 q6 (str_eq.1 g2) q1 q3 q2 q4
      · cases e with
        | filter e1 e2 e3 e4 e5 e6 e7 e8 => exact hr2.2 ⟨e6, e8⟩
      · cases h with
        | filter e1 e2 e3 e4 e5 e6 e7 e8 => rw [hr1.2 ⟨e5, e7⟩] at h1; cases h1
      · cases h with
        | filter e1 e2 e3 e4 e5 e6 e7 e8 => rw [str_eq.2 e4] at g2; cases g2
      · cases h with
        | filter e1 e2 e3 e4 e5 e6 e7 e8 => rw [name_eq.2 ⟨e2, e3⟩] at g1; cases g1
      · cases h with
        | filter e1 e2 e3 e4 e5 e6 e7 e8 => rw [e1] at h0; simp at h0
theorem psame_tot (a b : List C) (ha : SmR BB a) (hb : SmR BB b) : Tot (fun k _ _ => (lv k).path_Same (gi a 0) (gr a 1) (gr a 2) (gi b 0) (gr b 1) (gr b 2)) (AlQ true a b) := (psame_tots _).1 a b (Nat.lt_succ_self _) ha hb
-- Utf
/-- byte p, 0 behind the end -/
def bt (s : ByteArray) (p : Int) : Int := ((s.data.getD p.toNat 0).toNat : Int)
theorem bt_range (s : ByteArray) (p : Int) : 0 ≤ bt s p ∧ bt s p ≤ 255 := by
  have := (s.data.getD p.toNat 0).toNat_lt
  unfold bt
  omega
def cls (b : Int) : Nat := if b < 128 then 0 else if b < 192 then 4 else if b < 224 then 1 else if b < 240 then 2 else if b < 248 then 3 else 4
def msk : Nat → Int
  | 0 => 128 | 1 => 224 | 2 => 240 | _ => 248
def mrk : Nat → Int
  | 0 => 0 | 1 => 192 | 2 => 224 | _ => 240
def lst : Nat → Int
  | 0 => 0 | 1 => 128 | 2 => 2048 | _ => 65536
def rTail (s : ByteArray) (p : Int) : Nat → Int → Int → Int × Int
  | 0, v, h => (v, h)
  | k + 1, v, h => if p + h < (s.size : Int) ∧ 128 ≤ bt s (p + h) ∧ bt s (p + h) < 192 then rTail s p k (v * 64 + bt s (p + h) % 64) (h + 1) else (v, h)
def rEnd (s : ByteArray) (p : Int) (n : Nat) (v h : Int) : Int × Int × Int :=
  if v * 64 ^ (n + 1 - h).toNat + (64 ^ (n + 1 - h).toNat - 1) < lst n then (0, 0, 2)
  else if v * 64 ^ (n + 1 - h).toNat > 1114111 then (0, 0, 2)
  else if v * 64 ^ (n + 1 - h).toNat ≥ 55296 ∧ v * 64 ^ (n + 1 - h).toNat + (64 ^ (n + 1 - h).toNat - 1) ≤ 57343 then (0, 0, 2)
  else if h = n + 1 then (v, h, 0)
  else if p + h = s.size then (0, 0, 7)
  else (0, 0, 2)
def runeP (s : ByteArray) (p : Int) : Int × Int × Int :=
  if p < 0 ∨ (s.size : Int) ≤ p then (0, 0, 7)
  else if cls (bt s p) ≤ 3 then rEnd s p (cls (bt s p)) (rTail s p (cls (bt s p)) (bt s p - mrk (cls (bt s p))) 1).1 (rTail s p (cls (bt s p)) (bt s p - mrk (cls (bt s p))) 1).2
  else (0, 0, 2)

theorem and_fin : ∀ b : Fin 256, ∀ n : Fin 4, (bits .and .u8 (b.val : Int) (msk n.val) != mrk n.val) = !decide (cls b.val = n.val) := by decide +kernel
theorem and_ne (b : Int) (h0 : 0 ≤ b) (h1 : b ≤ 255) (n : Nat) (hn : n ≤ 3) (h : cls b ≠ n) : (bits .and .u8 b (msk n) != mrk n) = true := by
  obtain ⟨b, rfl⟩ := Int.eq_ofNat_of_zero_le h0
  rw [and_fin ⟨b, by omega⟩ ⟨n, by omega⟩]; simpa using h
theorem and_eq (b : Int) (h0 : 0 ≤ b) (h1 : b ≤ 255) (n : Nat) (hn : n ≤ 3) (h : cls b = n) : (bits .and .u8 b (msk n) != mrk n) = false := by
  obtain ⟨b, rfl⟩ := Int.eq_ofNat_of_zero_le h0
  rw [and_fin ⟨b, by omega⟩ ⟨n, by omega⟩]; simpa using h
theorem not_fin : ∀ b : Fin 256, ∀ n : Fin 4, cls b.val = n.val → bits .andNot .u8 (b.val : Int) (msk n.val) = b.val - mrk n.val := by decide +kernel
theorem andNot_eq (b : Int) (h0 : 0 ≤ b) (h1 : b ≤ 255) (n : Nat) (hn : n ≤ 3) (h : cls b = n) : bits .andNot .u8 b (msk n) = b - mrk n := by
  obtain ⟨b, rfl⟩ := Int.eq_ofNat_of_zero_le h0
  exact not_fin ⟨b, by omega⟩ ⟨n, by omega⟩ h
theorem tail_fin : ∀ b : Fin 256, (bits .and .u8 (b.val : Int) 192 == 128) = decide (128 ≤ b.val ∧ b.val < 192) := by decide +kernel
theorem tail_yes (b : Int) (h : 128 ≤ b ∧ b < 192) : (bits .and .u8 b 192 == 128) = true := by
  obtain ⟨b, rfl⟩ := Int.eq_ofNat_of_zero_le (a := b) (by omega)
  rw [tail_fin ⟨b, by omega⟩]; simp; omega
theorem tail_no (b : Int) (h0 : 0 ≤ b) (h1 : b ≤ 255) (h : ¬ (128 ≤ b ∧ b < 192)) : (bits .and .u8 b 192 == 128) = false := by
  obtain ⟨b, rfl⟩ := Int.eq_ofNat_of_zero_le (a := b) (by omega)
  rw [tail_fin ⟨b, by omega⟩]; simp; omega
theorem cls_lo (b : Int) (h0 : 0 ≤ b) (h1 : b ≤ 255) (h : cls b ≤ 3) : 0 ≤ b - mrk (cls b) ∧ b - mrk (cls b) < 128 ∧ (cls b ≤ 2 ∧ 1 ≤ cls b → b - mrk (cls b) < 32) ∧ (cls b = 2 → b - mrk (cls b) < 16) ∧ (cls b = 3 → b - mrk (cls b) < 8) := by
  unfold cls at *
  repeat' split at h <;> simp [*, mrk] <;> try omega
  all_goals (simp [*, mrk]; try omega)
/-- the runeP (or why there is none) of the bytes that stand there; n: how many there are -/
def Rn (b0 b1 b2 b3 n : Int) : Int × Int × Int :=
  if b0 < 128 then (b0, 1, 0)
  else if b0 < 194 then (0, 0, 2)
  else if b0 < 224 then
    if n = 1 then (0, 0, 7) else if 128 ≤ b1 ∧ b1 < 192 then ((b0 - 192) * 64 + (b1 - 128), 2, 0) else (0, 0, 2)
  else if b0 < 240 then
    if n = 1 then (0, 0, 7) else if ¬ (128 ≤ b1 ∧ b1 < 192) then (0, 0, 2)
    else if b0 = 224 ∧ b1 < 160 ∨ b0 = 237 ∧ 160 ≤ b1 then (0, 0, 2)
    else if n = 2 then (0, 0, 7) else if 128 ≤ b2 ∧ b2 < 192 then ((b0 - 224) * 4096 + (b1 - 128) * 64 + (b2 - 128), 3, 0) else (0, 0, 2)
  else if b0 < 245 then
    if n = 1 then (0, 0, 7) else if ¬ (128 ≤ b1 ∧ b1 < 192) then (0, 0, 2)
    else if b0 = 240 ∧ b1 < 144 ∨ b0 = 244 ∧ 144 ≤ b1 then (0, 0, 2)
    else if n = 2 then (0, 0, 7) else if ¬ (128 ≤ b2 ∧ b2 < 192) then (0, 0, 2)
    else if n = 3 then (0, 0, 7) else if 128 ≤ b3 ∧ b3 < 192 then ((b0 - 240) * 262144 + (b1 - 128) * 4096 + (b2 - 128) * 64 + (b3 - 128), 4, 0) else (0, 0, 2)
  else (0, 0, 2)
def runeAt (s : ByteArray) (p : Int) : Int × Int × Int :=
  if p < 0 ∨ (s.size : Int) ≤ p then (0, 0, 7) else Rn (bt s p) (bt s (p + 1)) (bt s (p + 2)) (bt s (p + 3)) (s.size - p)
theorem rEnd_at (s : ByteArray) (p : Int) (n : Nat) (v h : Int) (t : Nat) (L H : Int) (ht : ((n : Int) + 1 - h).toNat = t) (hL : v * 64 ^ t = L) (hH : L + (64 ^ t - 1) = H) :
    rEnd s p n v h = if H < lst n then (0, 0, 2) else if L > 1114111 then (0, 0, 2) else if L ≥ 55296 ∧ H ≤ 57343 then (0, 0, 2) else if h = n + 1 then (v, h, 0) else if p + h = s.size then (0, 0, 7) else (0, 0, 2) := by
  unfold rEnd
  rw [ht, hL, hH]
theorem runeP_eq (s : ByteArray) (p : Int) : runeP s p = runeAt s p := by
  unfold runeP runeAt
  split
  · rfl
  rename_i hp
  have r0 := bt_range s p
  have r1 := bt_range s (p + 1)
  have r2 := bt_range s (p + 2)
  have r3 := bt_range s (p + 3)
  have e2 : p + (1 + 1) = p + 2 := by omega
  have e3 : p + (1 + 1 + 1) = p + 3 := by omega
  generalize hb0 : bt s p = b0 at *
  generalize hb1 : bt s (p + 1) = b1 at *
  generalize hb2 : bt s (p + 2) = b2 at *
  generalize hb3 : bt s (p + 3) = b3 at *
  have hc : (b0 < 128 ∧ cls b0 = 0) ∨ (128 ≤ b0 ∧ b0 < 192 ∧ cls b0 = 4) ∨ (192 ≤ b0 ∧ b0 < 224 ∧ cls b0 = 1) ∨ (224 ≤ b0 ∧ b0 < 240 ∧ cls b0 = 2) ∨ (240 ≤ b0 ∧ b0 < 248 ∧ cls b0 = 3) ∨ (248 ≤ b0 ∧ cls b0 = 4) := by
    unfold cls
    by_cases h1 : b0 < 128
    · simp [h1]
    by_cases h2 : b0 < 192
    · simp [h1, h2]; omega
    by_cases h3 : b0 < 224
    · simp [h1, h2, h3]; omega
    by_cases h4 : b0 < 240
    · simp [h1, h2, h3, h4]; omega
    by_cases h5 : b0 < 248
    · simp [h1, h2, h3, h4, h5]; omega
    · simp [h1, h2, h3, h4, h5]; omega
  rcases hc with ⟨h, hc⟩ | ⟨h, h', hc⟩ | ⟨h, h', hc⟩ | ⟨h, h', hc⟩ | ⟨h, h', hc⟩ | ⟨h, hc⟩
  · rw [hc, if_pos (by omega)]
    simp only [rTail, mrk]
    rw [rEnd_at s p 0 (b0 - 0) 1 0 (b0 - 0) (b0 - 0) (by decide) (by simp) (by simp)]
    simp only [lst, Rn]
    rw [if_neg (by omega), if_neg (by omega), if_neg (by omega), if_pos (by decide), if_pos h]
    simp
  · rw [hc, if_neg (by omega)]
    simp only [Rn]
    rw [if_neg (by omega), if_pos (by omega)]
  · rw [hc, if_pos (by omega)]
    simp only [rTail, mrk]
    by_cases ht : p + 1 < (s.size : Int) ∧ 128 ≤ b1 ∧ b1 < 192
    · rw [hb1, if_pos ht]
      simp only
      rw [rEnd_at s p 1 _ (1 + 1) 0 _ _ (by decide) (Int.mul_one _) (by simp; rfl)]
      simp only [lst, Rn]
      rw [if_neg (show ¬ b0 < 128 by omega)]
      by_cases hl : b0 < 194
      · rw [if_pos (by omega), if_pos hl]
      · rw [if_neg (by omega), if_neg (by omega), if_neg (by omega), if_pos (by decide), if_neg hl, if_pos h', if_neg (by omega), if_pos ht.2]
        simp only [Prod.mk.injEq, and_true]
        omega
    · rw [hb1, if_neg ht]
      simp only
      rw [rEnd_at s p 1 _ 1 1 _ _ (by decide) rfl rfl]
      simp only [lst, Rn]
      rw [if_neg (show ¬ b0 < 128 by omega)]
      by_cases hl : b0 < 194
      · rw [if_pos (by omega), if_pos hl]
      · rw [if_neg (by omega), if_neg (by omega), if_neg (by omega), if_neg (by decide), if_neg hl, if_pos h']
        by_cases hn : p + 1 = s.size
        · rw [if_pos hn, if_pos (by omega)]
        · rw [if_neg hn, if_neg (by omega), if_neg (by omega)]
  · rw [hc, if_pos (by omega)]
    simp only [rTail, mrk]
    simp only [Rn]
    rw [if_neg (show ¬ b0 < 128 by omega), if_neg (show ¬ b0 < 194 by omega), if_neg (show ¬ b0 < 224 by omega), if_pos h']
    by_cases t1 : p + 1 < (s.size : Int) ∧ 128 ≤ b1 ∧ b1 < 192
    · rw [hb1, if_pos t1, e2, hb2]
      by_cases t2 : p + 2 < (s.size : Int) ∧ 128 ≤ b2 ∧ b2 < 192
      · rw [if_pos t2, if_neg (by omega), if_neg (by omega)]
        simp only
        rw [rEnd_at s p 2 _ (1 + 1 + 1) 0 _ _ (by decide) (Int.mul_one _) (by simp; rfl)]
        simp only [lst]
        by_cases bad : b0 = 224 ∧ b1 < 160 ∨ b0 = 237 ∧ 160 ≤ b1
        · rw [if_pos bad]
          by_cases z : b0 = 224
          · rw [if_pos (by omega)]
          · rw [if_neg (by omega), if_neg (by omega), if_pos (by omega)]
        · rw [if_neg bad, if_neg (show ¬ (s.size : Int) - p = 2 by omega), if_pos t2.2, if_neg (by omega), if_neg (by omega), if_neg (by omega), if_pos (by decide)]
          simp only [Prod.mk.injEq, and_true]
          omega
      · rw [if_neg t2, if_neg (by omega), if_neg (by omega)]
        simp only
        rw [rEnd_at s p 2 _ (1 + 1) 1 _ _ (by decide) rfl rfl]
        simp only [lst]
        by_cases bad : b0 = 224 ∧ b1 < 160 ∨ b0 = 237 ∧ 160 ≤ b1
        · rw [if_pos bad]
          by_cases z : b0 = 224
          · rw [if_pos (by omega)]
          · rw [if_neg (by omega), if_neg (by omega), if_pos (by omega)]
        · rw [if_neg bad, if_neg (by omega), if_neg (by omega), if_neg (by omega), if_neg (by decide)]
          by_cases hn : p + 2 = s.size
          · rw [if_pos (by omega), if_pos (by omega)]
          · rw [if_neg (by omega), if_neg (by omega), if_neg (by omega)]
    · rw [hb1, if_neg t1]
      simp only
      rw [rEnd_at s p 2 _ 1 2 _ _ (by decide) rfl rfl]
      simp only [lst]
      rw [if_neg (by omega), if_neg (by omega), if_neg (by omega), if_neg (by decide)]
      by_cases hn : p + 1 = s.size
      · rw [if_pos hn, if_pos (by omega)]
      · rw [if_neg hn, if_neg (by omega), if_pos (by omega)]
  · rw [hc, if_pos (by omega)]
    simp only [rTail, mrk]
    simp only [Rn]
    rw [if_neg (show ¬ b0 < 128 by omega), if_neg (show ¬ b0 < 194 by omega), if_neg (show ¬ b0 < 224 by omega), if_neg (show ¬ b0 < 240 by omega)]
    by_cases big : b0 < 245
    · rw [if_pos big]
      by_cases t1 : p + 1 < (s.size : Int) ∧ 128 ≤ b1 ∧ b1 < 192
      · rw [hb1, if_pos t1, e2, hb2]
        by_cases t2 : p + 2 < (s.size : Int) ∧ 128 ≤ b2 ∧ b2 < 192
        · rw [if_pos t2, e3, hb3]
          by_cases t3 : p + 3 < (s.size : Int) ∧ 128 ≤ b3 ∧ b3 < 192
          · rw [if_pos t3, if_neg (by omega), if_neg (by omega)]
            simp only
            rw [rEnd_at s p 3 _ (1 + 1 + 1 + 1) 0 _ _ (by decide) (Int.mul_one _) (by simp; rfl)]
            simp only [lst]
            by_cases bad : b0 = 240 ∧ b1 < 144 ∨ b0 = 244 ∧ 144 ≤ b1
            · rw [if_pos bad]
              by_cases z : b0 = 240
              · rw [if_pos (by omega)]
              · rw [if_neg (by omega), if_pos (by omega)]
            · rw [if_neg bad, if_neg (show ¬ (s.size : Int) - p = 2 by omega), if_neg (show ¬ ¬ (128 ≤ b2 ∧ b2 < 192) by omega), if_neg (show ¬ (s.size : Int) - p = 3 by omega), if_pos t3.2, if_neg (by omega), if_neg (by omega), if_neg (by omega), if_pos (by decide)]
              simp only [Prod.mk.injEq, and_true]
              omega
          · rw [if_neg t3, if_neg (by omega), if_neg (by omega)]
            simp only
            rw [rEnd_at s p 3 _ (1 + 1 + 1) 1 _ _ (by decide) rfl rfl]
            simp only [lst]
            by_cases bad : b0 = 240 ∧ b1 < 144 ∨ b0 = 244 ∧ 144 ≤ b1
            · rw [if_pos bad]
              by_cases z : b0 = 240
              · rw [if_pos (by omega)]
              · rw [if_neg (by omega), if_pos (by omega)]
            · rw [if_neg bad, if_neg (show ¬ (s.size : Int) - p = 2 by omega), if_neg (show ¬ ¬ (128 ≤ b2 ∧ b2 < 192) by omega), if_neg (by omega), if_neg (by omega), if_neg (by omega), if_neg (by decide)]
              by_cases hn : p + 3 = s.size
              · rw [if_pos (by omega), if_pos (by omega)]
              · rw [if_neg (by omega), if_neg (by omega), if_neg (by omega)]
        · rw [if_neg t2, if_neg (by omega), if_neg (by omega)]
          simp only
          rw [rEnd_at s p 3 _ (1 + 1) 2 _ _ (by decide) rfl rfl]
          simp only [lst]
          by_cases bad : b0 = 240 ∧ b1 < 144 ∨ b0 = 244 ∧ 144 ≤ b1
          · rw [if_pos bad]
            by_cases z : b0 = 240
            · rw [if_pos (by omega)]
            · rw [if_neg (by omega), if_pos (by omega)]
          · rw [if_neg bad, if_neg (by omega), if_neg (by omega), if_neg (by omega), if_neg (by decide)]
            by_cases hn : p + 2 = s.size
            · rw [if_pos (by omega), if_pos (by omega)]
            · rw [if_neg (by omega), if_neg (by omega), if_pos (by omega)]
      · rw [hb1, if_neg t1]
        simp only
        rw [rEnd_at s p 3 _ 1 3 _ _ (by decide) rfl rfl]
        simp only [lst]
        rw [if_neg (by omega), if_neg (by omega), if_neg (by omega), if_neg (by decide)]
        by_cases hn : p + 1 = s.size
        · rw [if_pos hn, if_pos (by omega)]
        · rw [if_neg hn, if_neg (by omega), if_pos (by omega)]
    · rw [if_neg big]
      by_cases t1 : p + 1 < (s.size : Int) ∧ 128 ≤ b1 ∧ b1 < 192
      · rw [hb1, if_pos t1, e2, hb2]
        by_cases t2 : p + 2 < (s.size : Int) ∧ 128 ≤ b2 ∧ b2 < 192
        · rw [if_pos t2, e3, hb3]
          by_cases t3 : p + 3 < (s.size : Int) ∧ 128 ≤ b3 ∧ b3 < 192
          · rw [if_pos t3]
            simp only
            rw [rEnd_at s p 3 _ (1 + 1 + 1 + 1) 0 _ _ (by decide) (Int.mul_one _) (by simp; rfl)]
            simp only [lst]
            rw [if_neg (by omega), if_pos (by omega)]
          · rw [if_neg t3]
            simp only
            rw [rEnd_at s p 3 _ (1 + 1 + 1) 1 _ _ (by decide) rfl rfl]
            simp only [lst]
            rw [if_neg (by omega), if_pos (by omega)]
        · rw [if_neg t2]
          simp only
          rw [rEnd_at s p 3 _ (1 + 1) 2 _ _ (by decide) rfl rfl]
          simp only [lst]
          rw [if_neg (by omega), if_pos (by omega)]
      · rw [hb1, if_neg t1]
        simp only
        rw [rEnd_at s p 3 _ 1 3 _ _ (by decide) rfl rfl]
        simp only [lst]
        rw [if_neg (by omega), if_pos (by omega)]
  · rw [hc, if_neg (by omega)]
    simp only [Rn]
    rw [if_neg (by omega), if_neg (by omega), if_neg (by omega), if_neg (by omega), if_neg (by omega)]
def putL (r : Int) : List Int :=
  if r < 0 ∨ r > 1114111 ∨ (55296 ≤ r ∧ r ≤ 57343) then [] else if r < 128 then [r] else if r < 2048 then [192 + r / 64, 128 + r % 64]
  else if r < 65536 then [224 + r / 4096, 128 + r / 64 % 64, 128 + r % 64] else [240 + r / 262144, 128 + r / 4096 % 64, 128 + r / 64 % 64, 128 + r % 64]
def beg (s : ByteArray) (p : Int) (l : List Int) : Bool := decide (l ≠ []) && decide (p + l.length ≤ s.size) && (List.range l.length).all fun i => bt s (p + i) == l.getD i 0
def cutS (b0 b1 b2 n : Int) : Bool :=
  if n = 1 then decide (194 ≤ b0 ∧ b0 < 245)
  else if n = 2 then decide ((128 ≤ b1 ∧ b1 < 192) ∧ ((224 ≤ b0 ∧ b0 < 240 ∧ ¬ (b0 = 224 ∧ b1 < 160) ∧ ¬ (b0 = 237 ∧ 160 ≤ b1)) ∨ (240 ≤ b0 ∧ b0 < 245 ∧ ¬ (b0 = 240 ∧ b1 < 144) ∧ ¬ (b0 = 244 ∧ 144 ≤ b1))))
  else if n = 3 then decide ((128 ≤ b1 ∧ b1 < 192) ∧ (128 ≤ b2 ∧ b2 < 192) ∧ (240 ≤ b0 ∧ b0 < 245 ∧ ¬ (b0 = 240 ∧ b1 < 144) ∧ ¬ (b0 = 244 ∧ 144 ≤ b1)))
  else false
theorem putL2 (r : Int) (h : (putL r).length = 2) : 128 ≤ r ∧ r < 2048 := by
  unfold putL at h
  repeat' split at h
  all_goals first | (simp at h; done) | omega
theorem putL3 (r : Int) (h : (putL r).length = 3) : 2048 ≤ r ∧ r < 65536 ∧ ¬ (55296 ≤ r ∧ r ≤ 57343) := by
  unfold putL at h
  repeat' split at h
  all_goals first | (simp at h; done) | omega
theorem putL4 (r : Int) (h : (putL r).length = 4) : 65536 ≤ r ∧ r ≤ 1114111 := by
  unfold putL at h
  repeat' split at h
  all_goals first | (simp at h; done) | omega
theorem putL1 (r : Int) (h : (putL r).length = 1) : 0 ≤ r ∧ r < 128 := by
  unfold putL at h
  repeat' split at h
  all_goals first | (simp at h; done) | omega
theorem put1 (r : Int) (h : 0 ≤ r ∧ r < 128) : putL r = [r] := by
  unfold putL; rw [if_neg (by omega), if_pos (by omega)]
theorem put2 (r : Int) (h : 128 ≤ r ∧ r < 2048) : putL r = [192 + r / 64, 128 + r % 64] := by
  unfold putL; rw [if_neg (by omega), if_neg (by omega), if_pos (by omega)]
theorem put3 (r : Int) (h : 2048 ≤ r ∧ r < 65536 ∧ ¬ (55296 ≤ r ∧ r ≤ 57343)) : putL r = [224 + r / 4096, 128 + r / 64 % 64, 128 + r % 64] := by
  unfold putL; rw [if_neg (by omega), if_neg (by omega), if_neg (by omega), if_pos (by omega)]
theorem put4 (r : Int) (h : 65536 ≤ r ∧ r ≤ 1114111) : putL r = [240 + r / 262144, 128 + r / 4096 % 64, 128 + r / 64 % 64, 128 + r % 64] := by
  unfold putL; rw [if_neg (by omega), if_neg (by omega), if_neg (by omega), if_neg (by omega)]
theorem beg_iff (s : ByteArray) (p : Int) (l : List Int) : beg s p l = true ↔ l ≠ [] ∧ p + l.length ≤ s.size ∧ ∀ i : Nat, i < l.length → bt s (p + i) = l.getD i 0 := by
  unfold beg
  simp only [Bool.and_eq_true, decide_eq_true_eq, List.all_eq_true, List.mem_range, beq_iff_eq, and_assoc]
theorem put_one (b : Int) (h0 : 0 ≤ b) (h1 : b ≤ 255) : (putL b).length = 1 ↔ b < 128 := by
  constructor
  · intro h; exact (putL1 b h).2
  · intro h; rw [put1 b ⟨h0, h⟩]; rfl
theorem hit2 (s : ByteArray) (p : Int) (hf : p + 2 ≤ s.size) : (((putL ((bt s p - 192) * 64 + (bt s (p + 1) - 128))).length : Int) = 2 ∧ beg s p (putL ((bt s p - 192) * 64 + (bt s (p + 1) - 128))) = true) ↔
    (194 ≤ bt s p ∧ bt s p < 224 ∧ 128 ≤ bt s (p + 1) ∧ bt s (p + 1) < 192) := by
  have b0 := bt_range s p
  have b1 := bt_range s (p + 1)
  rw [beg_iff]
  constructor
  · rintro ⟨hl, _, _, hb⟩
    have hr := putL2 _ (show (putL ((bt s p - 192) * 64 + (bt s (p + 1) - 128))).length = 2 by omega)
    rw [put2 _ hr] at hb
    have e0 := hb 0 (by simp)
    have e1 := hb 1 (by simp)
    simp at e0 e1
    omega
  · intro h
    rw [put2 _ (by omega)]
    refine ⟨rfl, by simp, by simp; omega, fun i hi => ?_⟩
    have : i = 0 ∨ i = 1 := by simp at hi; omega
    rcases this with rfl | rfl
    · simp; omega
    · simp; omega
theorem hit3 (s : ByteArray) (p : Int) (hf : p + 3 ≤ s.size) : (((putL (((bt s p - 224) * 64 + (bt s (p + 1) - 128)) * 64 + (bt s (p + 2) - 128))).length : Int) = 3 ∧ beg s p (putL (((bt s p - 224) * 64 + (bt s (p + 1) - 128)) * 64 + (bt s (p + 2) - 128))) = true) ↔
    (224 ≤ bt s p ∧ bt s p < 240 ∧ (128 ≤ bt s (p + 1) ∧ bt s (p + 1) < 192) ∧ ¬ (bt s p = 224 ∧ bt s (p + 1) < 160 ∨ bt s p = 237 ∧ 160 ≤ bt s (p + 1)) ∧ 128 ≤ bt s (p + 2) ∧ bt s (p + 2) < 192) := by
  have b0 := bt_range s p
  have b1 := bt_range s (p + 1)
  have b2 := bt_range s (p + 2)
  rw [beg_iff]
  constructor
  · rintro ⟨hl, _, _, hb⟩
    have hr := putL3 _ (show (putL (((bt s p - 224) * 64 + (bt s (p + 1) - 128)) * 64 + (bt s (p + 2) - 128))).length = 3 by omega)
    rw [put3 _ hr] at hb
    have e0 := hb 0 (by simp)
    have e1 := hb 1 (by simp)
    have e2 := hb 2 (by simp)
    simp at e0 e1 e2
    omega
  · intro h
    rw [put3 _ (by omega)]
    refine ⟨rfl, by simp, by simp; omega, fun i hi => ?_⟩
    have : i = 0 ∨ i = 1 ∨ i = 2 := by simp at hi; omega
    rcases this with rfl | rfl | rfl
    · simp; omega
    · simp; omega
    · simp; omega
theorem hit4 (s : ByteArray) (p : Int) (hf : p + 4 ≤ s.size) : (((putL ((((bt s p - 240) * 64 + (bt s (p + 1) - 128)) * 64 + (bt s (p + 2) - 128)) * 64 + (bt s (p + 3) - 128))).length : Int) = 4 ∧ beg s p (putL ((((bt s p - 240) * 64 + (bt s (p + 1) - 128)) * 64 + (bt s (p + 2) - 128)) * 64 + (bt s (p + 3) - 128))) = true) ↔
    (240 ≤ bt s p ∧ bt s p < 245 ∧ (128 ≤ bt s (p + 1) ∧ bt s (p + 1) < 192) ∧ ¬ (bt s p = 240 ∧ bt s (p + 1) < 144 ∨ bt s p = 244 ∧ 144 ≤ bt s (p + 1)) ∧ (128 ≤ bt s (p + 2) ∧ bt s (p + 2) < 192) ∧ 128 ≤ bt s (p + 3) ∧ bt s (p + 3) < 192) := by
  have b0 := bt_range s p
  have b1 := bt_range s (p + 1)
  have b2 := bt_range s (p + 2)
  have b3 := bt_range s (p + 3)
  rw [beg_iff]
  constructor
  · rintro ⟨hl, _, _, hb⟩
    have hr := putL4 _ (show (putL ((((bt s p - 240) * 64 + (bt s (p + 1) - 128)) * 64 + (bt s (p + 2) - 128)) * 64 + (bt s (p + 3) - 128))).length = 4 by omega)
    rw [put4 _ hr] at hb
    have e0 := hb 0 (by simp)
    have e1 := hb 1 (by simp)
    have e2 := hb 2 (by simp)
    have e3 := hb 3 (by simp)
    simp at e0 e1 e2 e3
    omega
  · intro h
    rw [put4 _ (by omega)]
    refine ⟨rfl, by simp, by simp; omega, fun i hi => ?_⟩
    have : i = 0 ∨ i = 1 ∨ i = 2 ∨ i = 3 := by simp at hi; omega
    rcases this with rfl | rfl | rfl | rfl
    · simp; omega
    · simp; omega
    · simp; omega
    · simp; omega
theorem Rn_ref (b0 b1 b2 b3 n : Int) (h0 : 0 ≤ b0) (h0' : b0 ≤ 255) (hn : 1 ≤ n) : Rn b0 b1 b2 b3 n =
    if b0 < 128 then (b0, 1, 0) else if 2 ≤ n ∧ 194 ≤ b0 ∧ b0 < 224 ∧ 128 ≤ b1 ∧ b1 < 192 then ((b0 - 192) * 64 + (b1 - 128), 2, 0)
    else if 3 ≤ n ∧ 224 ≤ b0 ∧ b0 < 240 ∧ (128 ≤ b1 ∧ b1 < 192) ∧ ¬ (b0 = 224 ∧ b1 < 160 ∨ b0 = 237 ∧ 160 ≤ b1) ∧ 128 ≤ b2 ∧ b2 < 192 then (((b0 - 224) * 64 + (b1 - 128)) * 64 + (b2 - 128), 3, 0)
    else if 4 ≤ n ∧ 240 ≤ b0 ∧ b0 < 245 ∧ (128 ≤ b1 ∧ b1 < 192) ∧ ¬ (b0 = 240 ∧ b1 < 144 ∨ b0 = 244 ∧ 144 ≤ b1) ∧ (128 ≤ b2 ∧ b2 < 192) ∧ 128 ≤ b3 ∧ b3 < 192 then ((((b0 - 240) * 64 + (b1 - 128)) * 64 + (b2 - 128)) * 64 + (b3 - 128), 4, 0)
    else if cutS b0 b1 b2 n = true then (0, 0, 7) else (0, 0, 2) := by
  have hc : cutS b0 b1 b2 n = true ↔ (n = 1 ∧ 194 ≤ b0 ∧ b0 < 245) ∨ (n = 2 ∧ (128 ≤ b1 ∧ b1 < 192) ∧ ((224 ≤ b0 ∧ b0 < 240 ∧ ¬ (b0 = 224 ∧ b1 < 160) ∧ ¬ (b0 = 237 ∧ 160 ≤ b1)) ∨ (240 ≤ b0 ∧ b0 < 245 ∧ ¬ (b0 = 240 ∧ b1 < 144) ∧ ¬ (b0 = 244 ∧ 144 ≤ b1))))
      ∨ (n = 3 ∧ (128 ≤ b1 ∧ b1 < 192) ∧ (128 ≤ b2 ∧ b2 < 192) ∧ (240 ≤ b0 ∧ b0 < 245 ∧ ¬ (b0 = 240 ∧ b1 < 144) ∧ ¬ (b0 = 244 ∧ 144 ≤ b1))) := by
    unfold cutS
    by_cases h1 : n = 1
    · rw [if_pos h1, decide_eq_true_eq]; omega
    by_cases h2 : n = 2
    · rw [if_neg h1, if_pos h2, decide_eq_true_eq]; omega
    by_cases h3 : n = 3
    · rw [if_neg h1, if_neg h2, if_pos h3, decide_eq_true_eq]; omega
    · rw [if_neg h1, if_neg h2, if_neg h3]; simp [h1, h2, h3]
  unfold Rn
  by_cases a1 : b0 < 128
  · rw [if_pos a1, if_pos a1]
  rw [if_neg a1, if_neg a1]
  by_cases a2 : b0 < 194
  · rw [if_pos a2, if_neg (by omega), if_neg (by omega), if_neg (by omega), if_neg (by rw [hc]; omega)]
  rw [if_neg a2]
  by_cases a3 : b0 < 224
  · rw [if_pos a3]
    by_cases hn1 : n = 1
    · rw [if_pos hn1, if_neg (by omega), if_neg (by omega), if_neg (by omega), if_pos (by rw [hc]; omega)]
    rw [if_neg hn1]
    by_cases t1 : 128 ≤ b1 ∧ b1 < 192
    · rw [if_pos t1, if_pos (by omega)]
    · rw [if_neg t1, if_neg (by omega), if_neg (by omega), if_neg (by omega), if_neg (by rw [hc]; omega)]
  rw [if_neg a3]
  by_cases a4 : b0 < 240
  · rw [if_pos a4]
    by_cases hn1 : n = 1
    · rw [if_pos hn1, if_neg (by omega), if_neg (by omega), if_neg (by omega), if_pos (by rw [hc]; omega)]
    rw [if_neg hn1]
    by_cases t1 : 128 ≤ b1 ∧ b1 < 192
    · rw [if_neg (by omega)]
      by_cases bad : b0 = 224 ∧ b1 < 160 ∨ b0 = 237 ∧ 160 ≤ b1
      · rw [if_pos bad, if_neg (by omega), if_neg (by omega), if_neg (by omega), if_neg (by rw [hc]; omega)]
      rw [if_neg bad]
      by_cases hn2 : n = 2
      · rw [if_pos hn2, if_neg (by omega), if_neg (by omega), if_neg (by omega), if_pos (by rw [hc]; omega)]
      rw [if_neg hn2]
      by_cases t2 : 128 ≤ b2 ∧ b2 < 192
      · rw [if_pos t2, if_neg (by omega), if_pos (by omega)]
        simp only [Prod.mk.injEq, and_true]
        omega
      · rw [if_neg t2, if_neg (by omega), if_neg (by omega), if_neg (by omega), if_neg (by rw [hc]; omega)]
    · rw [if_pos t1, if_neg (by omega), if_neg (by omega), if_neg (by omega), if_neg (by rw [hc]; omega)]
  rw [if_neg a4]
  by_cases a5 : b0 < 245
  · rw [if_pos a5]
    by_cases hn1 : n = 1
    · rw [if_pos hn1, if_neg (by omega), if_neg (by omega), if_neg (by omega), if_pos (by rw [hc]; omega)]
    rw [if_neg hn1]
    by_cases t1 : 128 ≤ b1 ∧ b1 < 192
    · rw [if_neg (by omega)]
      by_cases bad : b0 = 240 ∧ b1 < 144 ∨ b0 = 244 ∧ 144 ≤ b1
      · rw [if_pos bad, if_neg (by omega), if_neg (by omega), if_neg (by omega), if_neg (by rw [hc]; omega)]
      rw [if_neg bad]
      by_cases hn2 : n = 2
      · rw [if_pos hn2, if_neg (by omega), if_neg (by omega), if_neg (by omega), if_pos (by rw [hc]; omega)]
      rw [if_neg hn2]
      by_cases t2 : 128 ≤ b2 ∧ b2 < 192
      · rw [if_neg (by omega)]
        by_cases hn3 : n = 3
        · rw [if_pos hn3, if_neg (by omega), if_neg (by omega), if_neg (by omega), if_pos (by rw [hc]; omega)]
        rw [if_neg hn3]
        by_cases t3 : 128 ≤ b3 ∧ b3 < 192
        · rw [if_pos t3, if_neg (by omega), if_neg (by omega), if_pos (by omega)]
          simp only [Prod.mk.injEq, and_true]
          omega
        · rw [if_neg t3, if_neg (by omega), if_neg (by omega), if_neg (by omega), if_neg (by rw [hc]; omega)]
      · rw [if_pos t2, if_neg (by omega), if_neg (by omega), if_neg (by omega), if_neg (by rw [hc]; omega)]
    · rw [if_pos t1, if_neg (by omega), if_neg (by omega), if_neg (by omega), if_neg (by rw [hc]; omega)]
  · rw [if_neg a5, if_neg (by omega), if_neg (by omega), if_neg (by omega), if_neg (by rw [hc]; omega)]
-- Run
theorem i32_id {x : Int} (h0 : 0 ≤ x) (h1 : x < 2147483648) : IntKind.i32.wrap x = x := wraps_i32 x h0 (by omega)
theorem span_tot (v t L : Int) (P : Int) (ht : (t = 0 ∧ P = 1) ∨ (t = 1 ∧ P = 64) ∨ (t = 2 ∧ P = 4096) ∨ (t = 3 ∧ P = 262144)) (hv : 0 ≤ v) (hb : (v + 1) * P ≤ 2097152) (hL : v * P = L) : Tot (fun k _ _ => (lv k).utf_span v t) (fun r => r = (L, L + (P - 1))) := by
  refine utf_span_up _ _ (Tot.congr ?_ (fun k _ _ => utf_span_q (lv k) k v t))
  have hm : ∀ (i : Nat), (2 : Int) ^ i = P → i ≤ 18 → IntKind.i32.wrap (v * 2 ^ i) = L ∧ IntKind.i32.wrap ((BitVec.ofInt IntKind.i32.bits (IntKind.i32.wrap (v * 2 ^ i)) ||| BitVec.ofInt IntKind.i32.bits (P - 1)).toNat : Int) = L + (P - 1) := fun i hP hi => by
    have hPp : 1 ≤ P := by rcases ht with h | h | h | h <;> omega
    have hmul : (v + 1) * P = v * P + P := by rw [Int.add_mul, Int.one_mul]
    have hL0 : 0 ≤ v * P := Int.mul_nonneg hv (by omega)
    have e1 : IntKind.i32.wrap (v * 2 ^ i) = L := by rw [hP, hL]; exact i32_id (by omega) (by omega)
    refine ⟨e1, ?_⟩
    rw [e1]
    exact bits_join .i32 31 (by decide) wraps_i32 i L (P - 1) (by omega) (by rw [hP, ← hL]; exact Int.mul_emod_left _ _) (by omega) (by omega) (by rw [hP]; omega) (by omega)
  rcases ht with ⟨rfl, hP⟩ | ⟨rfl, hP⟩ | ⟨rfl, hP⟩ | ⟨rfl, hP⟩
  · obtain ⟨a, b⟩ := hm 0 (by rw [hP]; rfl) (by omega)
    subst hP
    refine Tot.f (by rfl) (Tot.f (by rfl) (Tot.ret ?_))
    exact Prod.ext a b
  · obtain ⟨a, b⟩ := hm 6 (by rw [hP]; rfl) (by omega)
    subst hP
    refine Tot.f (by rfl) (Tot.f (by rfl) (Tot.ret ?_))
    exact Prod.ext a b
  · obtain ⟨a, b⟩ := hm 12 (by rw [hP]; rfl) (by omega)
    subst hP
    refine Tot.f (by rfl) (Tot.f (by rfl) (Tot.ret ?_))
    exact Prod.ext a b
  · obtain ⟨a, b⟩ := hm 18 (by rw [hP]; rfl) (by omega)
    subst hP
    refine Tot.f (by rfl) (Tot.f (by rfl) (Tot.ret ?_))
    exact Prod.ext a b
theorem and63 : ∀ b : Fin 256, bits .and .u8 (b.val : Int) 63 = (b.val : Int) % 64 := by decide +kernel
theorem pow_cases (t : Nat) (h : t ≤ 3) : ((t : Int) = 0 ∧ (64 : Int) ^ t = 1) ∨ ((t : Int) = 1 ∧ (64 : Int) ^ t = 64) ∨ ((t : Int) = 2 ∧ (64 : Int) ^ t = 4096) ∨ ((t : Int) = 3 ∧ (64 : Int) ^ t = 262144) := by
  rcases (show t = 0 ∨ t = 1 ∨ t = 2 ∨ t = 3 by omega) with rfl | rfl | rfl | rfl
  · exact .inl ⟨rfl, rfl⟩
  · exact .inr (.inl ⟨rfl, rfl⟩)
  · exact .inr (.inr (.inl ⟨rfl, rfl⟩))
  · exact .inr (.inr (.inr ⟨rfl, rfl⟩))
theorem forms_tot : Tot (fun k _ _ => (lv k).utf_forms) (fun r => r = (128, 0, 0, 224, 192, 128, 240, 224, 2048, 248, 240, 65536)) := by
  refine utf_forms_up (Tot.congr ?_ (fun k _ _ => utf_forms_q (lv k) k ))
  exact Tot.ret rfl
section
variable (s : ByteArray) (p : Int) (h0 : 0 ≤ p) (hp : p < s.size) (hz : s.size ≤ 1000000000)
include h0 hp hz
theorem rEnd_tot (j : Nat) (hj : j ≤ 3) (v h a b : Int) (t P : Int) (ht : (j : Int) + 1 - h = t) (hP : (t = 0 ∧ P = 1) ∨ (t = 1 ∧ P = 64) ∨ (t = 2 ∧ P = 4096) ∨ (t = 3 ∧ P = 262144)) (hv : 0 ≤ v) (hb : (v + 1) * P ≤ 2097152) (h1 : 1 ≤ h) (hh : p + h ≤ s.size) : Tot (fun k m m' => utf_Rune_l3 (lv k) k s p m (j : Int) v h a b (lst j)) (fun r => r = rEnd s p j v h) := by
  refine Tot.congr ?_ (fun k p_ q_ => utf_Rune_l3_q (lv k) k s p p_ (j : Int) v h a b (lst j))
  rw [wrap_id (x := (j : Int) + 1) (by omega) (by omega), wrap_id (x := (j : Int) + 1 - h) (by omega) (by omega), wrap_id (x := p + h) (by omega) (by omega), ht]
  refine Tot.bind (span_tot v t (v * P) P hP hv hb rfl) fun r hr => ?_
  subst hr
  have hpow : (64 : Int) ^ t.toNat = P := by rcases hP with ⟨rfl, rfl⟩ | ⟨rfl, rfl⟩ | ⟨rfl, rfl⟩ | ⟨rfl, rfl⟩ <;> rfl
  rw [rEnd_at s p j v h t.toNat (v * P) (v * P + (P - 1)) (by rw [ht]) (by rw [hpow]) (by rw [hpow])]
  have tail : Tot (fun _ _ _ => cond (h == (j : Int) + 1) (some (v, h, (0 : Int))) (cond (p + h == (s.size : Int)) (some (0, 0, 7)) (some (0, 0, 2)))) (fun r => r = if h = (j : Int) + 1 then (v, h, 0) else if p + h = s.size then (0, 0, 7) else (0, 0, 2)) := by
    refine Tot.cond (fun c => Tot.ret ?_) (fun c => Tot.cond (fun c' => Tot.ret ?_) (fun c' => Tot.ret ?_))
    · rw [if_pos (eq_of_beq c)]
    · rw [if_neg (ne_of_beq_false c), if_pos (eq_of_beq c')]
    · rw [if_neg (ne_of_beq_false c), if_neg (ne_of_beq_false c')]
  refine Tot.cond (fun c1 => Tot.ret ?_) (fun c1 => Tot.cond (fun c2 => Tot.ret ?_) (fun c2 => Tot.cond (fun c3 => Tot.cond (fun c4 => Tot.ret ?_) (fun c4 => ?_)) (fun c3 => ?_)))
  · rw [if_pos (of_decide_eq_true c1)]
  · rw [if_neg (of_decide_eq_false c1), if_pos (of_decide_eq_true c2)]
  · rw [if_neg (of_decide_eq_false c1), if_neg (of_decide_eq_false c2), if_pos ⟨of_decide_eq_true c3, of_decide_eq_true c4⟩]
  · rw [if_neg (of_decide_eq_false c1), if_neg (of_decide_eq_false c2), if_neg (fun h => of_decide_eq_false c4 h.2)]
    exact tail
  · rw [if_neg (of_decide_eq_false c1), if_neg (of_decide_eq_false c2), if_neg (fun h => of_decide_eq_false c3 h.1)]
    exact tail
theorem rTail_tot (j : Nat) (hj : j ≤ 3) (a b : Int) : ∀ (d : Nat) (v h : Int), (j : Int) + 1 - h = d → 0 ≤ v → (v + 1) * 64 ^ d ≤ 2097152 → 1 ≤ h → p + h ≤ s.size → Tot (fun k m m' => utf_Rune_l2 (lv k) k s p m m' (j : Int) v h a b (lst j)) (fun r => r = rEnd s p j (rTail s p d v h).1 (rTail s p d v h).2) := by
  intro d
  induction d with
  | zero =>
    intro v h hd hv hb h1 hh
    refine Tot.step1 (fun k p_ q_ => utf_Rune_l2_q (lv k) k s p p_ q_ (j : Int) v h a b (lst j)) ?_
    refine Tot.f (decide_eq_false (by omega)) ?_
    exact rEnd_tot s p h0 hp hz j hj v h a b 0 1 (by omega) (.inl ⟨rfl, rfl⟩) hv (by simpa using hb) h1 hh
  | succ d ih =>
    intro v h hd hv hb h1 hh
    have hd3 : d ≤ 2 := by omega
    have hend : Tot (fun k m m' => utf_Rune_l3 (lv k) k s p m (j : Int) v h a b (lst j)) (fun r => r = rEnd s p j v h) :=
      rEnd_tot s p h0 hp hz j hj v h a b ((d + 1 : Nat) : Int) (64 ^ (d + 1)) (by omega) (pow_cases (d + 1) (by omega)) hv hb h1 hh
    refine Tot.step1 (fun k p_ q_ => utf_Rune_l2_q (lv k) k s p p_ q_ (j : Int) v h a b (lst j)) ?_
    rw [wrap_id (x := p + h) (by omega) (by omega), wrap_id (x := h + 1) (by omega) (by omega)]
    rw [rTail]
    refine Tot.t (decide_eq_true (by omega)) (Tot.cond (fun c1 => ?_) (fun c1 => ?_))
    · have c1 := of_decide_eq_true c1
      have hr := bt_range s (p + h)
      have hbt : ((s.data.getD (p + h).toNat 0).toNat : Int) = bt s (p + h) := rfl
      rw [hbt]
      refine Tot.t (decide_eq_true (by omega)) (Tot.t (decide_eq_true (by omega)) ?_)
      by_cases ht : 128 ≤ bt s (p + h) ∧ bt s (p + h) < 192
      · refine Tot.t (tail_yes _ ht) (Tot.t (decide_eq_true (by omega)) (Tot.t (decide_eq_true (by omega)) ?_))
        rw [if_pos ⟨c1, ht⟩]
        have hx : IntKind.u8.wrap ((BitVec.ofInt IntKind.u8.bits (bt s (p + h)) &&& BitVec.ofInt IntKind.u8.bits 63).toNat : Int) = bt s (p + h) % 64 := by
          obtain ⟨n, hn⟩ := Int.eq_ofNat_of_zero_le hr.1
          rw [hn]
          exact and63 ⟨n, by omega⟩
        have hpow : (64 : Int) ^ (d + 1) = 64 * 64 ^ d := by rw [Int.pow_succ, Int.mul_comm]
        have hd1 : (1 : Int) ≤ 64 ^ d := by rcases pow_cases d (by omega) with ⟨_, e⟩ | ⟨_, e⟩ | ⟨_, e⟩ | ⟨_, e⟩ <;> rw [e] <;> omega
        have hvb : (v + 1) * 64 ≤ 2097152 := by
          have h2 : (v + 1) * 64 * 1 ≤ (v + 1) * 64 * 64 ^ d := Int.mul_le_mul_of_nonneg_left hd1 (by omega)
          rw [hpow, ← Int.mul_assoc] at hb
          omega
        have hsh : IntKind.i32.wrap (v * 2 ^ 6) = v * 64 := i32_id (x := v * 64) (by omega) (by omega)
        rw [hx, i32_id (x := bt s (p + h) % 64) (by omega) (by omega), hsh]
        have hj : IntKind.i32.wrap ((BitVec.ofInt IntKind.i32.bits (v * 64) ||| BitVec.ofInt IntKind.i32.bits (bt s (p + h) % 64)).toNat : Int) = v * 64 + bt s (p + h) % 64 :=
          bits_join .i32 31 (by decide) wraps_i32 6 (v * 64) (bt s (p + h) % 64) (by omega) (by omega) (by omega) (by omega) (by omega) (by omega)
        rw [hj]
        refine ih (v * 64 + bt s (p + h) % 64) (h + 1) (by omega) (by omega) ?_ (by omega) (by omega)
        have h2 : (v * 64 + bt s (p + h) % 64 + 1) * 64 ^ d ≤ ((v + 1) * 64) * 64 ^ d := Int.mul_le_mul_of_nonneg_right (by omega) (by omega)
        rw [hpow, ← Int.mul_assoc] at hb
        omega
      · refine Tot.f (tail_no _ hr.1 hr.2 ht) ?_
        rw [if_neg (fun h => ht h.2)]
        exact hend
    · have c1 := of_decide_eq_false c1
      rw [if_neg (fun h => c1 h.1)]
      exact hend
theorem rune_in : Tot (fun k _ _ => (lv k).utf_Rune s p) (fun r => r = runeAt s p) := by
  rw [← runeP_eq]
  have hr := bt_range s p
  have hbt : ((s.data.getD p.toNat 0).toNat : Int) = bt s p := rfl
  refine utf_Rune_up _ _ (Tot.congr ?_ (fun k _ _ => utf_Rune_q (lv k) k s p))
  refine Tot.f (decide_eq_false (by omega)) (Tot.f (decide_eq_false (by omega)) ?_)
  have e : runeP s p = if cls (bt s p) ≤ 3 then rEnd s p (cls (bt s p)) (rTail s p (cls (bt s p)) (bt s p - mrk (cls (bt s p))) 1).1 (rTail s p (cls (bt s p)) (bt s p - mrk (cls (bt s p))) 1).2 else (0, 0, 2) := by
    rw [runeP, if_neg (by omega)]
  rw [e]
  refine Tot.bind forms_tot fun f hf => ?_
  subst hf
  -- one round: the form j
  have l1 : ∀ (j : Nat), j ≤ 3 → (cls (bt s p) ≠ j → Tot (fun k m m' => utf_Rune_l0 (lv k) k s p m 128 0 0 224 192 128 240 224 2048 248 240 65536 ((j : Int) + 1)) (fun r => r = if cls (bt s p) ≤ 3 then rEnd s p (cls (bt s p)) (rTail s p (cls (bt s p)) (bt s p - mrk (cls (bt s p))) 1).1 (rTail s p (cls (bt s p)) (bt s p - mrk (cls (bt s p))) 1).2 else (0, 0, 2))) →
      Tot (fun k m m' => utf_Rune_l1 (lv k) k s p m (j : Int) 128 0 0 224 192 128 240 224 2048 248 240 65536 (j : Int) (msk j) (mrk j) (lst j)) (fun r => r = if cls (bt s p) ≤ 3 then rEnd s p (cls (bt s p)) (rTail s p (cls (bt s p)) (bt s p - mrk (cls (bt s p))) 1).1 (rTail s p (cls (bt s p)) (bt s p - mrk (cls (bt s p))) 1).2 else (0, 0, 2)) := fun j hj next => by
    refine Tot.congr ?_ (fun k p_ q_ => utf_Rune_l1_q (lv k) k s p p_ (j : Int) 128 0 0 224 192 128 240 224 2048 248 240 65536 (j : Int) (msk j) (mrk j) (lst j))
    rw [hbt, wrap_id (x := (j : Int) + 1) (by omega) (by omega)]
    refine Tot.t (decide_eq_true (by omega)) (Tot.t (decide_eq_true (by omega)) ?_)
    by_cases hc : cls (bt s p) = j
    · refine Tot.f (and_eq _ hr.1 hr.2 j hj hc) (Tot.t (decide_eq_true (by omega)) (Tot.t (decide_eq_true (by omega)) ?_))
      have hx : IntKind.u8.wrap ((BitVec.ofInt IntKind.u8.bits (bt s p) &&& ~~~ BitVec.ofInt IntKind.u8.bits (msk j)).toNat : Int) = bt s p - mrk j := andNot_eq _ hr.1 hr.2 j hj hc
      have lo := cls_lo _ hr.1 hr.2 (by omega : cls (bt s p) ≤ 3)
      rw [hc] at lo
      rw [hx, i32_id (x := bt s p - mrk j) (by omega) (by omega), hc, if_pos hj]
      refine Tot.in1 (rTail_tot s p h0 hp hz j hj (msk j) (mrk j) j (bt s p - mrk j) 1 (by omega) (by omega) ?_ (by omega) (by omega))
      rcases pow_cases j hj with ⟨ej, e⟩ | ⟨ej, e⟩ | ⟨ej, e⟩ | ⟨ej, e⟩ <;> rw [e]
      · omega
      · have := lo.2.2.1 ⟨by omega, by omega⟩; omega
      · have := lo.2.2.2.1 (by omega); omega
      · have := lo.2.2.2.2 (by omega); omega
    · refine Tot.t (and_ne _ hr.1 hr.2 j hj hc) (next hc)
  refine Tot.in0 (g := fun k m m' => utf_Rune_l0 (lv k) k s p m 128 0 0 224 192 128 240 224 2048 248 240 65536 0) ?_
  refine Tot.step0 (fun k p_ q_ => utf_Rune_l0_q (lv k) k s p p_ 128 0 0 224 192 128 240 224 2048 248 240 65536 0) ?_
  refine Tot.t (by rfl) (Tot.t (by rfl) (l1 0 (by omega) fun n0 => ?_))
  refine Tot.step0 (fun k p_ q_ => utf_Rune_l0_q (lv k) k s p p_ 128 0 0 224 192 128 240 224 2048 248 240 65536 (((0 : Nat) : Int) + 1)) ?_
  refine Tot.t (by rfl) (Tot.f (by rfl) (Tot.t (by rfl) (l1 1 (by omega) fun n1 => ?_)))
  refine Tot.step0 (fun k p_ q_ => utf_Rune_l0_q (lv k) k s p p_ 128 0 0 224 192 128 240 224 2048 248 240 65536 (((1 : Nat) : Int) + 1)) ?_
  refine Tot.t (by rfl) (Tot.f (by rfl) (Tot.f (by rfl) (Tot.t (by rfl) (l1 2 (by omega) fun n2 => ?_))))
  refine Tot.step0 (fun k p_ q_ => utf_Rune_l0_q (lv k) k s p p_ 128 0 0 224 192 128 240 224 2048 248 240 65536 (((2 : Nat) : Int) + 1)) ?_
  refine Tot.t (by rfl) (Tot.f (by rfl) (Tot.f (by rfl) (Tot.f (by rfl) (Tot.t (by rfl) (l1 3 (by omega) fun n3 => ?_)))))
  refine Tot.step0 (fun k p_ q_ => utf_Rune_l0_q (lv k) k s p p_ 128 0 0 224 192 128 240 224 2048 248 240 65536 (((3 : Nat) : Int) + 1)) ?_
  refine Tot.f (by rfl) (Tot.ret ?_)
  rw [if_neg (by omega)]
end
-- Ref
def bs (n : Int) : Int := if n = 2 then 192 else if n = 3 then 224 else 240
def rowsB (l : List Int) : LL := l.map fun x => [C.int .u8 x]
theorem tdiv_id {x n : Int} (h : 0 ≤ x) : Int.tdiv x n = x / n := Int.tdiv_eq_ediv_of_nonneg h
theorem tmod_id {x n : Int} (h : 0 ≤ x) : Int.tmod x n = x % n := Int.tmod_eq_emod_of_nonneg h
theorem u8_w {x : Int} (h0 : 0 ≤ x) (h1 : x < 256) : IntKind.u8.wrap (IntKind.i64.wrap x) = x := by rw [wrap_id (by omega) (by omega)]; exact wraps_u8 x h0 (by omega)
theorem putE_tot (r : Int) : Tot (fun k _ _ => (lv k).orielref01_Put r) (fun l => l = rowsB (putL r)) := by
  refine orielref01_Put_up _ (Tot.congr ?_ (fun k _ _ => orielref01_Put_q (lv k) k r))
  have none1 : ∀ {l : LL}, (r < 0 ∨ r > 1114111 ∨ (55296 ≤ r ∧ r ≤ 57343)) → l = [] → l = rowsB (putL r) := fun h e => by rw [e, putL, if_pos h]; rfl
  refine Tot.cond (fun c => Tot.ret (none1 (.inl (of_decide_eq_true c)) rfl)) (fun c => Tot.cond (fun c' => Tot.ret (none1 (.inr (.inl (of_decide_eq_true c'))) rfl)) (fun c' => ?_))
  have c := of_decide_eq_false c
  have c' := of_decide_eq_false c'
  have w64 : IntKind.i64.wrap (Int.tdiv r 64) = r / 64 := by rw [tdiv_id (by omega), wrap_id (by omega) (by omega)]
  have w12 : IntKind.i64.wrap (Int.tdiv r 4096) = r / 4096 := by rw [tdiv_id (by omega), wrap_id (by omega) (by omega)]
  have w18 : IntKind.i64.wrap (Int.tdiv r 262144) = r / 262144 := by rw [tdiv_id (by omega), wrap_id (by omega) (by omega)]
  rw [w64, w12, w18, tmod_id (x := r) (by omega), tmod_id (x := r / 64) (by omega), tmod_id (x := r / 4096) (by omega)]
  have main : ¬ (55296 ≤ r ∧ r ≤ 57343) → Tot (fun _ _ _ => cond (decide (r < (128 : Int))) (some [[C.int .u8 (IntKind.u8.wrap r)]]) (cond (decide (r < (2048 : Int))) (some [[C.int .u8 (IntKind.u8.wrap (IntKind.i64.wrap ((192 : Int) + r / 64)))], [C.int .u8 (IntKind.u8.wrap (IntKind.i64.wrap ((128 : Int) + r % 64)))]]) (cond (decide (r < (65536 : Int))) (some [[C.int .u8 (IntKind.u8.wrap (IntKind.i64.wrap ((224 : Int) + r / 4096)))], [C.int .u8 (IntKind.u8.wrap (IntKind.i64.wrap ((128 : Int) + r / 64 % 64)))], [C.int .u8 (IntKind.u8.wrap (IntKind.i64.wrap ((128 : Int) + r % 64)))]]) (some [[C.int .u8 (IntKind.u8.wrap (IntKind.i64.wrap ((240 : Int) + r / 262144)))], [C.int .u8 (IntKind.u8.wrap (IntKind.i64.wrap ((128 : Int) + r / 4096 % 64)))], [C.int .u8 (IntKind.u8.wrap (IntKind.i64.wrap ((128 : Int) + r / 64 % 64)))], [C.int .u8 (IntKind.u8.wrap (IntKind.i64.wrap ((128 : Int) + r % 64)))]])))) (fun l => l = rowsB (putL r)) := fun hs => by
    have e : rowsB (putL r) = rowsB (if r < 128 then [r] else if r < 2048 then [192 + r / 64, 128 + r % 64] else if r < 65536 then [224 + r / 4096, 128 + r / 64 % 64, 128 + r % 64] else [240 + r / 262144, 128 + r / 4096 % 64, 128 + r / 64 % 64, 128 + r % 64]) := by
      rw [putL, if_neg (by omega)]
    rw [e]
    refine Tot.cond (fun a => Tot.ret ?_) (fun a => Tot.cond (fun a' => Tot.ret ?_) (fun a' => Tot.cond (fun a'' => Tot.ret ?_) (fun a'' => Tot.ret ?_)))
    · have a := of_decide_eq_true a
      rw [if_pos a, wraps_u8 r (by omega) (by omega)]; rfl
    · have a := of_decide_eq_false a; have a' := of_decide_eq_true a'
      rw [if_neg a, if_pos a', u8_w (by omega) (by omega), u8_w (by omega) (by omega)]; rfl
    · have a := of_decide_eq_false a; have a' := of_decide_eq_false a'; have a'' := of_decide_eq_true a''
      rw [if_neg a, if_neg a', if_pos a'', u8_w (by omega) (by omega), u8_w (by omega) (by omega), u8_w (by omega) (by omega)]; rfl
    · have a := of_decide_eq_false a; have a' := of_decide_eq_false a'; have a'' := of_decide_eq_false a''
      rw [if_neg a, if_neg a', if_neg a'', u8_w (by omega) (by omega), u8_w (by omega) (by omega), u8_w (by omega) (by omega), u8_w (by omega) (by omega)]; rfl
  refine Tot.cond (fun d => Tot.cond (fun d' => Tot.ret (none1 (.inr (.inr ⟨of_decide_eq_true d, of_decide_eq_true d'⟩)) rfl)) (fun d' => main fun h => of_decide_eq_false d' h.2)) (fun d => main fun h => of_decide_eq_false d h.1)
theorem gi_rowsB (l : List Int) (i : Nat) (h : i < l.length) : gi ((rowsB l).getD i []) 0 = l.getD i 0 := by
  have h' : i < (rowsB l).length := by simpa [rowsB] using h
  rw [List.getD_eq_getElem?_getD, List.getElem?_eq_getElem h', List.getD_eq_getElem?_getD, List.getElem?_eq_getElem h]
  simp [rowsB, gi, fc, C.it]
section
variable (s : ByteArray) (p : Int) (h0 : 0 ≤ p) (hp : p < s.size) (hz : s.size ≤ 1048576)
include h0 hp hz
theorem beginsE_tot (l : List Int) (hl : l.length ≤ 4) : Tot (fun k _ _ => (lv k).orielref01_begins s p (rowsB l)) (fun r => r = beg s p l) := by
  have hlen : (rowsB l).length = l.length := by simp [rowsB]
  refine orielref01_begins_up _ _ _ (Tot.congr ?_ (fun k _ _ => orielref01_begins_q (lv k) k s p (rowsB l)))
  rw [hlen, wrap_id (x := p + (l.length : Int)) (by omega) (by omega)]
  refine Tot.cond (fun c => Tot.ret ?_) (fun c => Tot.cond (fun c' => Tot.ret ?_) (fun c' => ?_))
  · have : l = [] := List.length_eq_zero_iff.1 (by simpa using c)
    subst this; rfl
  · have c' := of_decide_eq_true c'
    symm
    unfold beg
    rw [decide_eq_false (show ¬ p + (l.length : Int) ≤ s.size by omega), Bool.and_false, Bool.false_and]
  · have c : l.length ≠ 0 := by simpa using c
    have c' := of_decide_eq_false c'
    have hne : l ≠ [] := fun e => c (by rw [e]; rfl)
    have hbeg : ∀ r : Bool, (r = true ↔ ∀ i : Nat, i < l.length → bt s (p + i) = l.getD i 0) → r = beg s p l := fun r h => by
      have h2 := beg_iff s p l
      cases r <;> cases hb : beg s p l
      · rfl
      · exact absurd (h.2 ((h2.1 hb).2.2)) (by simp)
      · exact absurd (h2.2 ⟨hne, by omega, h.1 rfl⟩) (by rw [hb]; simp)
      · rfl
    refine Tot.in0 (Tot.loop (H := fun k x y v (_ : Unit) => orielref01_begins_l0 (lv k) k s p (rowsB l) x v) (n := l.length) (fun i _ => ∀ j : Nat, j < i → bt s (p + j) = l.getD j 0) (by omega) (fun _ h => ?_) (fun i _ hi h next => ?_) _ 0 () rfl (by omega) (fun j hj => by omega))
    · refine Tot.step0 (fun k p_ q_ => orielref01_begins_l0_q (lv k) k s p (rowsB l) p_ _) ?_
      rw [hlen]
      exact Tot.f (decide_eq_false (by omega)) (Tot.ret (hbeg true ⟨fun _ => h, fun _ => rfl⟩))
    · refine Tot.step0 (fun k p_ q_ => orielref01_begins_l0_q (lv k) k s p (rowsB l) p_ _) ?_
      rw [hlen, wrap_id (x := p + (i : Int)) (by omega) (by omega), Int.toNat_natCast, gi_rowsB l i hi, show ((s.data.getD (p + (i : Int)).toNat 0).toNat : Int) = bt s (p + i) from rfl]
      repeat (refine Tot.t (decide_eq_true (by omega)) ?_)
      refine Tot.cond (fun d => Tot.ret (hbeg false ⟨fun e => (by cases e), fun e => ?_⟩)) (fun d => next () (fun j hj => ?_))
      · rw [e i hi] at d; simp at d
      · rcases Nat.lt_or_ge j i with h2 | h2
        · exact h j h2
        · rw [show j = i by omega]; simpa using d
theorem val_round (n : Int) (hn : n = 2 ∨ n = 3 ∨ n = 4) (i : Nat) (hi : (i : Int) < n) (hs : p + n ≤ s.size) (v : Int) (hv : -100000000 ≤ v) (hv2 : v ≤ 100000000) {Q : Int → Prop} (h : Tot (fun k m m' => orielref01_value_l0 (lv k) k s p n m (v * 64 + (bt s (p + i) - (if i = 0 then bs n else 128))) ((i : Int) + 1)) Q) : Tot (fun k m m' => orielref01_value_l0 (lv k) k s p n m v (i : Int)) Q := by
  have hr := bt_range s (p + i)
  have e : ((s.data.getD (p + (i : Int)).toNat 0).toNat : Int) = bt s (p + i) := rfl
  have l1 : ∀ x : Int, x - (if i = 0 then (if n = 4 then 240 else 0) else 128) = bt s (p + i) - (if i = 0 then bs n else 128) → Tot (fun k m m' => orielref01_value_l1 (lv k) k s p n m v (i : Int) x) Q := fun x hx => by
    refine Tot.congr ?_ (fun k p_ q_ => orielref01_value_l1_q (lv k) k s p n p_ v (i : Int) x)
    rw [wrap_id (x := (i : Int) + 1) (by omega) (by omega), wrap_id (x := v * 64) (by omega) (by omega)]
    rcases Nat.eq_zero_or_pos i with rfl | hp'
    · rw [if_pos rfl, if_pos rfl] at hx
      rw [if_pos rfl] at h
      have hb : bs n = 192 ∨ bs n = 224 ∨ bs n = 240 := by unfold bs; split; · exact .inl rfl
                                                           split; · exact .inr (.inl rfl)
                                                           exact .inr (.inr rfl)
      refine Tot.t (by rfl) ?_
      rcases hn with rfl | rfl | rfl
      · rw [if_neg (by omega)] at hx
        refine Tot.f (by rfl) (Tot.f (by rfl) ?_)
        rw [wrap_id (x := v * 64 + x) (by omega) (by omega), show x = bt s (p + ((0 : Nat) : Int)) - bs 2 by omega]
        exact h
      · rw [if_neg (by omega)] at hx
        refine Tot.f (by rfl) (Tot.f (by rfl) ?_)
        rw [wrap_id (x := v * 64 + x) (by omega) (by omega), show x = bt s (p + ((0 : Nat) : Int)) - bs 3 by omega]
        exact h
      · rw [if_pos rfl] at hx
        refine Tot.t (by rfl) (Tot.f (by rfl) ?_)
        rw [wrap_id (x := x - 240) (by omega) (by omega), wrap_id (x := v * 64 + (x - 240)) (by omega) (by omega), hx]
        exact h
    · have hi0 : ¬ i = 0 := by omega
      rw [if_neg hi0, if_neg hi0] at hx
      rw [if_neg hi0] at h
      refine Tot.f (by rw [beq_eq_false_iff_ne]; omega) (Tot.t (decide_eq_true (by omega)) ?_)
      rw [wrap_id (x := x - 128) (by omega) (by omega), wrap_id (x := v * 64 + (x - 128)) (by omega) (by omega), hx]
      exact h
  refine Tot.step0 (fun k p_ q_ => orielref01_value_l0_q (lv k) k s p n p_ v (i : Int)) ?_
  rw [wrap_id (x := p + (i : Int)) (by omega) (by omega), e, wrap_id (x := bt s (p + (i : Int))) (by omega) (by omega), wrap_id (x := bt s (p + (i : Int)) - 192) (by omega) (by omega), wrap_id (x := bt s (p + (i : Int)) - 192 - 224) (by omega) (by omega), wrap_id (x := bt s (p + (i : Int)) - 224) (by omega) (by omega)]
  refine Tot.t (decide_eq_true hi) (Tot.t (decide_eq_true (by omega)) (Tot.t (decide_eq_true (by omega)) ?_))
  rcases Nat.eq_zero_or_pos i with rfl | hp'
  · refine Tot.t (by rfl) ?_
    rcases hn with rfl | rfl | rfl
    · exact Tot.t (by rfl) (Tot.t (by rfl) (Tot.f (by rfl) (l1 _ (by simp [bs]))))
    · exact Tot.f (by rfl) (Tot.t (by rfl) (Tot.t (by rfl) (l1 _ (by simp [bs]))))
    · exact Tot.f (by rfl) (Tot.t (by rfl) (Tot.f (by rfl) (l1 _ (by simp [bs]))))
  · have hi0 : ¬ i = 0 := by omega
    have hb : ((i : Int) == (0 : Int)) = false := by rw [beq_eq_false_iff_ne]; omega
    exact Tot.f hb (Tot.f hb (l1 _ (by rw [if_neg hi0, if_neg hi0])))
omit h0 hp hz in
theorem val_end (n v i : Int) (h : n ≤ i) : Tot (fun k m m' => orielref01_value_l0 (lv k) k s p n m v i) (fun r => r = v) := by
  refine Tot.step0 (fun k p_ q_ => orielref01_value_l0_q (lv k) k s p n p_ v i) ?_
  exact Tot.f (decide_eq_false (by omega)) (Tot.ret rfl)
theorem value2 (hs : p + 2 ≤ s.size) : Tot (fun k _ _ => (lv k).orielref01_value s p 2) (fun r => r = (bt s p - 192) * 64 + (bt s (p + 1) - 128)) := by
  have b0 := bt_range s p
  refine orielref01_value_up _ _ _ (Tot.congr ?_ (fun k _ _ => orielref01_value_q (lv k) k s p 2))
  refine Tot.in0 (val_round s p h0 hp hz 2 (.inl rfl) 0 (by omega) hs 0 (by omega) (by omega) ?_)
  rw [if_pos rfl, show p + ((0 : Nat) : Int) = p by omega]
  refine val_round s p h0 hp hz 2 (.inl rfl) 1 (by omega) hs _ (by simp only [bs]; simp; omega) (by simp only [bs]; simp; omega) ?_
  rw [if_neg (by omega)]
  refine (val_end s p 2 _ _ (by omega)).mono fun r hr => ?_
  rw [hr]
  simp [bs]
theorem value3 (hs : p + 3 ≤ s.size) : Tot (fun k _ _ => (lv k).orielref01_value s p 3) (fun r => r = ((bt s p - 224) * 64 + (bt s (p + 1) - 128)) * 64 + (bt s (p + 2) - 128)) := by
  have b0 := bt_range s p
  have b1 := bt_range s (p + 1)
  refine orielref01_value_up _ _ _ (Tot.congr ?_ (fun k _ _ => orielref01_value_q (lv k) k s p 3))
  refine Tot.in0 (val_round s p h0 hp hz 3 (.inr (.inl rfl)) 0 (by omega) hs 0 (by omega) (by omega) ?_)
  rw [if_pos rfl, show p + ((0 : Nat) : Int) = p by omega]
  refine val_round s p h0 hp hz 3 (.inr (.inl rfl)) 1 (by omega) hs _ (by simp only [bs]; simp; omega) (by simp only [bs]; simp; omega) ?_
  rw [if_neg (by omega), show p + ((1 : Nat) : Int) = p + 1 by omega]
  refine val_round s p h0 hp hz 3 (.inr (.inl rfl)) 2 (by omega) hs _ (by simp only [bs]; simp; omega) (by simp only [bs]; simp; omega) ?_
  rw [if_neg (by omega)]
  refine (val_end s p 3 _ _ (by omega)).mono fun r hr => ?_
  rw [hr]
  simp [bs]
theorem value4 (hs : p + 4 ≤ s.size) : Tot (fun k _ _ => (lv k).orielref01_value s p 4) (fun r => r = (((bt s p - 240) * 64 + (bt s (p + 1) - 128)) * 64 + (bt s (p + 2) - 128)) * 64 + (bt s (p + 3) - 128)) := by
  have b0 := bt_range s p
  have b1 := bt_range s (p + 1)
  have b2 := bt_range s (p + 2)
  refine orielref01_value_up _ _ _ (Tot.congr ?_ (fun k _ _ => orielref01_value_q (lv k) k s p 4))
  refine Tot.in0 (val_round s p h0 hp hz 4 (.inr (.inr rfl)) 0 (by omega) hs 0 (by omega) (by omega) ?_)
  rw [if_pos rfl, show p + ((0 : Nat) : Int) = p by omega]
  refine val_round s p h0 hp hz 4 (.inr (.inr rfl)) 1 (by omega) hs _ (by simp only [bs]; simp; omega) (by simp only [bs]; simp; omega) ?_
  rw [if_neg (by omega), show p + ((1 : Nat) : Int) = p + 1 by omega]
  refine val_round s p h0 hp hz 4 (.inr (.inr rfl)) 2 (by omega) hs _ (by simp only [bs]; simp; omega) (by simp only [bs]; simp; omega) ?_
  rw [if_neg (by omega), show p + ((2 : Nat) : Int) = p + 2 by omega]
  refine val_round s p h0 hp hz 4 (.inr (.inr rfl)) 3 (by omega) hs _ (by simp only [bs]; simp; omega) (by simp only [bs]; simp; omega) ?_
  rw [if_neg (by omega)]
  refine (val_end s p 4 _ _ (by omega)).mono fun r hr => ?_
  rw [hr]
  simp [bs]
/-- what the document's Rune has to do with the bytes: the rune, if there is one; else why there is none -/
def RQ (s : ByteArray) (p : Int) (r : Int × Int × Int) : Prop := ((runeAt s p).2.2 = 0 → r = runeAt s p) ∧ ((runeAt s p).2.2 ≠ 0 → r.2.2 ≠ 0)
theorem rr_more (n v : Int) (hn : 1 < n) (hn4 : n ≤ 4) (hf : p + n ≤ s.size) (hv : Tot (fun k _ _ => (lv k).orielref01_value s p n) (fun r => r = v)) {Q : Int × Int × Int → Prop} (yes : ((putL v).length : Int) = n → beg s p (putL v) = true → Q (v, n, 0))
    (no : ¬ (((putL v).length : Int) = n ∧ beg s p (putL v) = true) → Tot (fun k m m' => orielref01_Rune_l0 (lv k) k s p m (n + 1)) Q) : Tot (fun k m m' => orielref01_Rune_l0 (lv k) k s p m n) Q := by
  refine Tot.step0 (fun k p_ q_ => orielref01_Rune_l0_q (lv k) k s p p_ n) ?_
  rw [wrap_id (x := p + n) (by omega) (by omega), wrap_id (x := n + 1) (by omega) (by omega)]
  refine Tot.t (decide_eq_true (by omega)) (Tot.t (decide_eq_true (by omega)) (Tot.t (decide_eq_true (by omega)) (Tot.t (decide_eq_true (by omega)) (Tot.t (decide_eq_true (by omega)) ?_))))
  refine Tot.bind hv fun r1 h1 => Tot.bind (putE_tot r1) fun r2 h2 => ?_
  subst h1 h2
  have hlen : (rowsB (putL r1)).length = (putL r1).length := by simp [rowsB]
  rw [hlen]
  refine Tot.cond (fun c => ?_) (fun c => no fun h => by rw [h.1] at c; simp at c)
  have c := eq_of_beq c
  refine Tot.bind (beginsE_tot s p h0 hp hz (putL r1) (by omega)) fun r3 h3 => ?_
  subst h3
  exact Tot.cond (fun d => Tot.ret (yes c d)) (fun d => no fun h => by rw [h.2] at d; cases d)
theorem rr_cut (n : Int) (hn1 : 1 ≤ n) (hn5 : n ≤ 5) (h : n = 5 ∨ (s.size : Int) < p + n) {Q : Int × Int × Int → Prop} (q1 : Q (0, 0, 7)) (q2 : Q (0, 0, 2)) : Tot (fun k m m' => orielref01_Rune_l0 (lv k) k s p m n) Q := by
  have fin : Tot (fun k m m' => ((lv k).orielref01_cut s p).bind fun r6 => cond r6 (some ((0 : Int), (0 : Int), (7 : Int))) (some (0, 0, 2))) Q := Tot.bind (cut_tot s p h0 (by omega) hz) fun r _ => Tot.cond (fun _ => Tot.ret q1) (fun _ => Tot.ret q2)
  refine Tot.step0 (fun k p_ q_ => orielref01_Rune_l0_q (lv k) k s p p_ n) ?_
  rw [wrap_id (x := p + n) (by omega) (by omega)]
  by_cases h5 : n = 5
  · exact Tot.f (decide_eq_false (by omega)) fin
  · exact Tot.t (decide_eq_true (by omega)) (Tot.f (decide_eq_false (by omega)) fin)
theorem refRune_tot : Tot (fun k _ _ => (lv k).orielref01_Rune s p) (RQ s p) := by
  have b0 := bt_range s p
  have hrun : runeAt s p = Rn (bt s p) (bt s (p + 1)) (bt s (p + 2)) (bt s (p + 3)) (s.size - p) := by rw [runeAt, if_neg (by omega)]
  have hR := Rn_ref (bt s p) (bt s (p + 1)) (bt s (p + 2)) (bt s (p + 3)) (s.size - p) b0.1 b0.2 (by omega)
  rw [← hrun] at hR
  have ok : ∀ {r : Int × Int × Int}, runeAt s p = r → RQ s p r := fun h => ⟨fun _ => h.symm, fun h' => by rw [← h]; exact h'⟩
  have bad : (runeAt s p).2.2 ≠ 0 → RQ s p (0, 0, 7) ∧ RQ s p (0, 0, 2) := fun h => ⟨⟨fun e => absurd e h, fun _ => by decide⟩, ⟨fun e => absurd e h, fun _ => by decide⟩⟩
  refine orielref01_Rune_up _ _ (Tot.congr ?_ (fun k _ _ => orielref01_Rune_q (lv k) k s p))
  refine Tot.f (decide_eq_false (by omega)) (Tot.f (decide_eq_false (by omega)) (Tot.in0 (g := fun k m m' => orielref01_Rune_l0 (lv k) k s p m 1) ?_))
  -- one byte
  have e : ((s.data.getD p.toNat 0).toNat : Int) = bt s p := rfl
  refine Tot.step0 (fun k p_ q_ => orielref01_Rune_l0_q (lv k) k s p p_ 1) ?_
  rw [wrap_id (x := p + 1) (by omega) (by omega), e, wrap_id (x := bt s p) (by omega) (by omega)]
  refine Tot.t (by rfl) (Tot.t (decide_eq_true (by omega)) (Tot.t (decide_eq_true (by omega)) (Tot.t (decide_eq_true (by omega)) (Tot.f (by rfl) ?_))))
  refine Tot.bind (putE_tot (bt s p)) fun r4 h4 => ?_
  subst h4
  have hlen : (rowsB (putL (bt s p))).length = (putL (bt s p)).length := by simp [rowsB]
  rw [hlen]
  have rest : ¬ bt s p < 128 → Tot (fun k m m' => orielref01_Rune_l0 (lv k) k s p m (IntKind.i64.wrap (1 + 1))) (RQ s p) := fun n1 => by
    rw [show IntKind.i64.wrap (1 + 1) = 2 from rfl]
    rw [if_neg n1] at hR
    by_cases f2 : p + 2 ≤ s.size
    · refine rr_more s p h0 hp hz 2 _ (by omega) (by omega) f2 (value2 s p h0 hp hz f2) (fun hl hb => ?_) (fun no2 => ?_)
      · have := (hit2 s p f2).1 ⟨hl, hb⟩
        rw [if_pos (by omega)] at hR
        exact ok hR
      have n2 := fun hh => no2 ((hit2 s p f2).2 hh)
      rw [if_neg (fun hh => n2 ⟨hh.2.1, hh.2.2.1, hh.2.2.2.1, hh.2.2.2.2⟩)] at hR
      rw [show (2 : Int) + 1 = 3 from rfl]
      by_cases f3 : p + 3 ≤ s.size
      · refine rr_more s p h0 hp hz 3 _ (by omega) (by omega) f3 (value3 s p h0 hp hz f3) (fun hl hb => ?_) (fun no3 => ?_)
        · have := (hit3 s p f3).1 ⟨hl, hb⟩
          rw [if_pos ⟨by omega, this⟩] at hR
          exact ok hR
        have n3 := fun hh => no3 ((hit3 s p f3).2 hh)
        rw [if_neg (fun hh => n3 hh.2)] at hR
        rw [show (3 : Int) + 1 = 4 from rfl]
        by_cases f4 : p + 4 ≤ s.size
        · refine rr_more s p h0 hp hz 4 _ (by omega) (by omega) f4 (value4 s p h0 hp hz f4) (fun hl hb => ?_) (fun no4 => ?_)
          · have := (hit4 s p f4).1 ⟨hl, hb⟩
            rw [if_pos ⟨by omega, this⟩] at hR
            exact ok hR
          have n4 := fun hh => no4 ((hit4 s p f4).2 hh)
          rw [if_neg (fun hh => n4 hh.2)] at hR
          have hb := bad (by rw [hR]; split <;> simp)
          exact rr_cut s p h0 hp hz _ (by omega) (by omega) (.inl rfl) hb.1 hb.2
        · rw [if_neg (by omega)] at hR
          have hb := bad (by rw [hR]; split <;> simp)
          exact rr_cut s p h0 hp hz _ (by omega) (by omega) (.inr (by omega)) hb.1 hb.2
      · rw [if_neg (by omega), if_neg (by omega)] at hR
        have hb := bad (by rw [hR]; split <;> simp)
        exact rr_cut s p h0 hp hz _ (by omega) (by omega) (.inr (by omega)) hb.1 hb.2
    · rw [if_neg (by omega), if_neg (by omega), if_neg (by omega)] at hR
      have hb := bad (by rw [hR]; split <;> simp)
      exact rr_cut s p h0 hp hz _ (by omega) (by omega) (.inr (by omega)) hb.1 hb.2
  have one := put_one _ b0.1 b0.2
  refine Tot.cond (fun c => ?_) (fun c => rest fun h => by rw [one.2 h] at c; simp at c)
  have c : (putL (bt s p)).length = 1 := by have := eq_of_beq c; omega
  have n1 := one.1 c
  refine Tot.bind (beginsE_tot s p h0 hp hz (putL (bt s p)) (by omega)) fun r5 h5 => ?_
  have hb : beg s p (putL (bt s p)) = true := by
    have hp1 := put1 (bt s p) ⟨b0.1, n1⟩
    rw [beg_iff, hp1]
    refine ⟨by simp, by simp; omega, fun i hi => ?_⟩
    obtain rfl : i = 0 := by simp at hi; omega
    simp
  rw [h5, hb]
  rw [if_pos n1] at hR
  exact Tot.t rfl (Tot.ret (ok hR))
end
end Go.Vm.T
