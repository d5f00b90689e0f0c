/- What a right path is, its machine, and that the program and the document make the same. -/
import Derived.Test.YtmbbjdkcanoklaaVmEq
import Derived.Test.YtmbbjdkcanoklaaVmThree
import Derived.Test.YtmbbjdkcanoklaaVmTab
/- The document's runes: each function of them comes to an answer. -/
set_option linter.unusedVariables false
set_option linter.unusedSimpArgs false
namespace Go.Vm.T
open Go Go.Vm Go.Proofs
attribute [local irreducible] lv oriellaw17_ProgCompiles_b oriellaw17_ProgMoves_b oriellaw17_ProgMoves_l0 oriellaw17_ProgMoves_l1 oriellaw17_ProgKeeps_b oriellaw17_ProgKeeps_l0 oriellaw17_ProgKeeps_l1 oriellaw17_ProgShapes_b oriellaw17_ProgShapes_l0 oriellaw17_ProgShapes_l1 oriellaw17_awake_b prog_Compile_b prog_maker_path_b prog_maker_step_b prog_maker_seq_b prog_maker_seq_l0 prog_maker_alt_b prog_maker_alt_l0 prog_maker_alt_l1 prog_maker_alt_l2 prog_maker_alt_l3 prog_maker_state_b prog_maker_lay_b prog_maker_free_b prog_Closure_b prog_Closure_l0 prog_Closure_l1 prog_Closure_l2 prog_Closure_l3 orielref12_Right_b orielref17_SameBits_b orielref17_SameBits_l0 orielref12_Size_b orielref12_size_b orielref12_size_l0 orielref12_size_l1 orielref12_sizeFilter_b orielref12_sizeFilter_l0 orielref12_sizeFilter_l1 prog_Moves_b prog_Moves_l0 orielref12_path_b orielref12_path_l0 orielref12_path_l1 orielref12_filter_b orielref12_filter_l0 orielref12_filter_l1 orielref12_filter_l2 orielref12_filter_l3 orielref12_filter_l4 orielref12_named_b orielref04_Right_b orielref04_Right_l0 orielref03_Plain_b orielref03_Plain_l0 orielref01_All_b orielref01_All_l0 orielref01_All_l1 orielref02_Start_b orielref01_Rune_b orielref01_Rune_l0 orielref01_Put_b orielref01_cut_b orielref01_cut_l0 orielref01_cut_l1 orielref01_cut_l2 orielref01_cut_l3 orielref01_cut_l4 orielref01_value_b orielref01_value_l0 orielref01_value_l1 orielref17_Compile_b orielref02_Char_b orielref02_Part_b orielref01_begins_b orielref01_begins_l0 orielref17_add_b orielref17_add_l0 orielref17_add_l1 orielref17_add_l2 orielref17_add_l3 orielref17_add_l4 orielref17_add_l5 orielref17_add_l6 orielref02_Blank_b orielref17_edge_b orielref05_Find_b orielref05_Find_l0 orielref17_Same_b orielref17_Same_l0 orielref17_Same_l1 oriellaw17_bits_b oriellaw17_bits_l0 oriellaw17_bits_l1 orielref12_SameFilter_b orielref12_SameFilter_l0 orielref12_SameFilter_l1 orielref12_Same_b orielref12_Same_l0 orielref12_Same_l1 orielref17_Closure_b orielref17_Closure_l0 orielref17_Closure_l1 orielref17_Closure_l2 orielref17_Moves_b orielref17_Moves_l0
theorem value_tot (s : ByteArray) (at_ n : Int) (h0 : 0 ≤ at_) (h1 : at_ + n ≤ s.size) (h2 : 0 ≤ n) (hn : n ≤ 4) (hs : s.size ≤ 2097152) : Tot (fun k _ _ => (lv k).orielref01_value s at_ n) (fun _ => True) := by
  have hl : ∀ (d : Nat) (v3 v4 : Int), 0 ≤ v4 → (n - v4).toNat = d → Tot (fun k a b => orielref01_value_l0 (lv k) k s at_ n a v3 v4) (fun _ => True) := by
    intro d
    induction d with
    | zero =>
      intro v3 v4 h3 h4
      refine Tot.step0 (fun k a b => orielref01_value_l0_q (lv k) k s at_ n a v3 v4) ?_
      exact Tot.f (decide_eq_false (by omega)) (Tot.ret trivial)
    | succ d ih =>
      intro v3 v4 h3 h4
      have hi : ∀ v, Tot (fun k a b => orielref01_value_l0 (lv k) k s at_ n a v (IntKind.i64.wrap (v4 + 1))) (fun _ => True) := fun v => by
        rw [wrap_id (by omega) (by omega)]
        exact ih v (v4 + 1) (by omega) (by omega)
      have hm : ∀ v5, Tot (fun k a b => orielref01_value_l1 (lv k) k s at_ n a v3 v4 v5) (fun _ => True) := fun v5 => by
        refine Tot.congr ?_ (fun k a b => orielref01_value_l1_q (lv k) k s at_ n a v3 v4 v5)
        repeat' first
          | refine Tot.cond (fun _ => ?_) (fun _ => ?_)
          | exact hi _
      refine Tot.step0 (fun k a b => orielref01_value_l0_q (lv k) k s at_ n a v3 v4) ?_
      have hw : IntKind.i64.wrap (at_ + v4) = at_ + v4 := wrap_id (by omega) (by omega)
      refine Tot.t (decide_eq_true (by omega)) (Tot.t (decide_eq_true (by omega)) (Tot.t (decide_eq_true (by omega)) ?_))
      repeat' first
        | refine Tot.cond (fun _ => ?_) (fun _ => ?_)
        | exact hm _
  exact orielref01_value_up _ _ _ (Tot.congr (Tot.in0 (hl _ 0 0 (by omega) rfl)) (fun k _ _ => orielref01_value_q (lv k) k s at_ n))
theorem put_tot (r : Int) : Tot (fun k _ _ => (lv k).orielref01_Put r) (fun l => l.length ≤ 4) := by
  refine orielref01_Put_up _ (Tot.congr ?_ (fun k _ _ => orielref01_Put_q (lv k) k r))
  repeat' first
    | refine Tot.cond (fun _ => ?_) (fun _ => ?_)
    | exact Tot.ret (by simp)
theorem begins_tot (s : ByteArray) (at_ : Int) (l : List (List C)) (h0 : 0 ≤ at_) (h1 : at_ ≤ s.size) (hl : l.length ≤ 2097152) (hs : s.size ≤ 2097160) : Tot (fun k _ _ => (lv k).orielref01_begins s at_ l) (fun _ => True) := by
  refine orielref01_begins_up _ _ _ (Tot.congr ?_ (fun k _ _ => orielref01_begins_q (lv k) k s at_ l))
  have hw : IntKind.i64.wrap (at_ + (l.length : Int)) = at_ + l.length := wrap_id (by omega) (by omega)
  rw [hw]
  refine Tot.cond (fun _ => Tot.ret trivial) (fun _ => Tot.cond (fun _ => Tot.ret trivial) (fun hc => ?_))
  have hc := of_decide_eq_false hc
  have hl : ∀ (d : Nat) (v3 : Int), 0 ≤ v3 → ((l.length : Int) - v3).toNat = d → Tot (fun k a b => orielref01_begins_l0 (lv k) k s at_ l a v3) (fun _ => True) := by
    intro d
    induction d with
    | zero =>
      intro v3 h3 h4
      refine Tot.step0 (fun k a b => orielref01_begins_l0_q (lv k) k s at_ l a v3) ?_
      exact Tot.f (decide_eq_false (by omega)) (Tot.ret trivial)
    | succ d ih =>
      intro v3 h3 h4
      refine Tot.step0 (fun k a b => orielref01_begins_l0_q (lv k) k s at_ l a v3) ?_
      have hw : IntKind.i64.wrap (at_ + v3) = at_ + v3 := wrap_id (by omega) (by omega)
      rw [hw, wrap_id (x := v3 + 1) (by omega) (by omega)]
      refine Tot.t (decide_eq_true (by omega)) (Tot.t (decide_eq_true (by omega)) (Tot.t (decide_eq_true (by omega)) (Tot.t (decide_eq_true (by omega)) (Tot.t (decide_eq_true (by omega)) ?_))))
      exact Tot.cond (fun _ => Tot.ret trivial) (fun _ => ih _ (by omega) (by omega))
  exact Tot.in0 (hl _ 0 (by omega) rfl)
end Go.Vm.T
/- The document's runes, texts and names: each function comes to an answer. -/
set_option linter.unusedVariables false
set_option linter.unusedSimpArgs false
namespace Go.Vm.T
open Go Go.Vm Go.Proofs
attribute [local irreducible] lv oriellaw17_ProgCompiles_b oriellaw17_ProgMoves_b oriellaw17_ProgMoves_l0 oriellaw17_ProgMoves_l1 oriellaw17_ProgKeeps_b oriellaw17_ProgKeeps_l0 oriellaw17_ProgKeeps_l1 oriellaw17_ProgShapes_b oriellaw17_ProgShapes_l0 oriellaw17_ProgShapes_l1 oriellaw17_awake_b prog_Compile_b prog_maker_path_b prog_maker_step_b prog_maker_seq_b prog_maker_seq_l0 prog_maker_alt_b prog_maker_alt_l0 prog_maker_alt_l1 prog_maker_alt_l2 prog_maker_alt_l3 prog_maker_state_b prog_maker_lay_b prog_maker_free_b prog_Closure_b prog_Closure_l0 prog_Closure_l1 prog_Closure_l2 prog_Closure_l3 orielref12_Right_b orielref17_SameBits_b orielref17_SameBits_l0 orielref12_Size_b orielref12_size_b orielref12_size_l0 orielref12_size_l1 orielref12_sizeFilter_b orielref12_sizeFilter_l0 orielref12_sizeFilter_l1 prog_Moves_b prog_Moves_l0 orielref12_path_b orielref12_path_l0 orielref12_path_l1 orielref12_filter_b orielref12_filter_l0 orielref12_filter_l1 orielref12_filter_l2 orielref12_filter_l3 orielref12_filter_l4 orielref12_named_b orielref04_Right_b orielref04_Right_l0 orielref03_Plain_b orielref03_Plain_l0 orielref01_All_b orielref01_All_l0 orielref01_All_l1 orielref02_Start_b orielref01_Rune_b orielref01_Rune_l0 orielref01_Put_b orielref01_cut_b orielref01_cut_l0 orielref01_cut_l1 orielref01_cut_l2 orielref01_cut_l3 orielref01_cut_l4 orielref01_value_b orielref01_value_l0 orielref01_value_l1 orielref17_Compile_b orielref02_Char_b orielref02_Part_b orielref01_begins_b orielref01_begins_l0 orielref17_add_b orielref17_add_l0 orielref17_add_l1 orielref17_add_l2 orielref17_add_l3 orielref17_add_l4 orielref17_add_l5 orielref17_add_l6 orielref02_Blank_b orielref17_edge_b orielref05_Find_b orielref05_Find_l0 orielref17_Same_b orielref17_Same_l0 orielref17_Same_l1 oriellaw17_bits_b oriellaw17_bits_l0 oriellaw17_bits_l1 orielref12_SameFilter_b orielref12_SameFilter_l0 orielref12_SameFilter_l1 orielref12_Same_b orielref12_Same_l0 orielref12_Same_l1 orielref17_Closure_b orielref17_Closure_l0 orielref17_Closure_l1 orielref17_Closure_l2 orielref17_Moves_b orielref17_Moves_l0
theorem size_rowBytes (l : List (List C)) : (rowBytes l).size = l.length := by
  unfold rowBytes
  show (List.toArray _).size = _
  rw [List.size_toArray, List.length_map]
theorem len_bytesRow (s : ByteArray) : (bytesRow s).length = s.size := by
  unfold bytesRow
  rw [List.length_map, Array.length_toList]
  rfl
theorem size_app (a b : ByteArray) : (a ++ b).size = a.size + b.size := by simp
theorem size_extract (s : ByteArray) (a b : Nat) : (s.extract a b).size = min b s.size - a := by simp
set_option maxRecDepth 100000 in
theorem cut_tot (s : ByteArray) (at_ : Int) (h0 : 0 ≤ at_) (h1 : at_ ≤ s.size) (hs : s.size ≤ 1048576) : Tot (fun k _ _ => (lv k).orielref01_cut s at_) (fun _ => True) := by
  have hw : IntKind.i64.wrap ((s.size : Int) - at_) = s.size - at_ := wrap_id (by omega) (by omega)
  refine orielref01_cut_up _ _ (Tot.congr ?_ (fun k _ _ => orielref01_cut_q (lv k) k s at_))
  rw [hw]
  refine Tot.cond (fun _ => Tot.ret trivial) (fun hn => Tot.cond (fun _ => Tot.ret trivial) (fun hn2 => ?_))
  have hn := of_decide_eq_false hn
  have hn2 := of_decide_eq_false hn2
  rw [wrap_id (x := (s.size : Int) - at_ + 1) (by omega) (by omega)]
  have hx : (s.extract at_.toNat ((s.size : Int).toNat)).size = s.size - at_.toNat := by rw [size_extract]; omega
  have key : ∀ (d : Nat) (v3 : Int), (s.size : Int) - at_ + 1 ≤ v3 → (5 - v3).toNat = d → Tot (fun k a b => orielref01_cut_l0 (lv k) k s at_ a v3) (fun _ => True) := by
    intro d
    induction d with
    | zero =>
      intro v3 h3 h4
      refine Tot.step0 (fun k a b => orielref01_cut_l0_q (lv k) k s at_ a v3) ?_
      exact Tot.f (decide_eq_false (by omega)) (Tot.ret trivial)
    | succ d ih =>
      intro v3 h3 h4
      have hnext : Tot (fun k a b => orielref01_cut_l0 (lv k) k s at_ a (IntKind.i64.wrap (v3 + 1))) (fun _ => True) := by
        rw [wrap_id (by omega) (by omega)]
        exact ih _ (by omega) (by omega)
      have h4l : ∀ (d : Nat) (v5 v6 v7 : Int), 0 ≤ v7 → (64 - v7).toNat = d → Tot (fun k a b => orielref01_cut_l4 (lv k) k s at_ a b v3 v5 v6 v7) (fun _ => True) := by
        intro d
        induction d with
        | zero =>
          intro v5 v6 v7 h5 h6
          refine Tot.step1 (fun k a b => orielref01_cut_l4_q (lv k) k s at_ a b v3 v5 v6 v7) ?_
          exact Tot.f (decide_eq_false (by omega)) hnext
        | succ d ihd =>
          intro v5 v6 v7 h5 h6
          refine Tot.step1 (fun k a b => orielref01_cut_l4_q (lv k) k s at_ a b v3 v5 v6 v7) ?_
          have hi : Tot (fun k a b => orielref01_cut_l4 (lv k) k s at_ a b v3 v5 v6 (IntKind.i64.wrap (v7 + 1))) (fun _ => True) := by
            rw [wrap_id (by omega) (by omega)]
            exact ihd v5 v6 _ (by omega) (by omega)
          have hp : ∀ r, Tot (fun k a b => ((lv k).orielref01_Put r).bind fun r1 => cond ((r1.length : Int) == v3) (cond (decide ((rowBytes r1).size + (⟨#[120]⟩ : ByteArray).size ≤ 4611686018427387904)) (cond (roomy Try.prog 5 ((s.extract at_.toNat ((s.size : Int).toNat)).size)) (((lv k).orielref01_begins ((rowBytes r1) ++ (⟨#[120]⟩ : ByteArray)) 0 (bytesRow (s.extract at_.toNat ((s.size : Int).toNat)))).bind fun r2 => cond r2 (some true) (orielref01_cut_l4 (lv k) k s at_ a b v3 v5 v6 (IntKind.i64.wrap (v7 + 1)))) none) none) (orielref01_cut_l4 (lv k) k s at_ a b v3 v5 v6 (IntKind.i64.wrap (v7 + 1)))) (fun _ => True) := fun r => by
            refine Tot.bind (put_tot r) fun r1 hr1 => Tot.cond (fun _ => ?_) (fun _ => hi)
            have e1 : (⟨#[120]⟩ : ByteArray).size = 1 := rfl
            refine Tot.t (decide_eq_true (by rw [size_rowBytes, e1]; omega)) (Tot.t (roomy_of (by have : Try.prog.bytesOf 5 = 1 := by kernel_rfl
                                                                                                  omega) (by omega)) ?_)
            refine Tot.bind (begins_tot _ 0 _ (by omega) (by omega) (by rw [len_bytesRow]; omega) (by rw [size_app, size_rowBytes, e1]; omega)) fun r2 _ => Tot.cond (fun _ => Tot.ret trivial) (fun _ => hi)
          refine Tot.t (decide_eq_true (by omega)) (Tot.cond (fun _ => hp _) (fun _ => hp _))
      have h3l : ∀ v5 v6 v7 v8, Tot (fun k a b => orielref01_cut_l3 (lv k) k s at_ a v3 v5 v6 v7 v8) (fun _ => True) := fun v5 v6 v7 v8 => by
        refine Tot.congr ?_ (fun k a b => orielref01_cut_l3_q (lv k) k s at_ a v3 v5 v6 v7 v8)
        exact Tot.cond (fun _ => hnext) (fun _ => Tot.cond (fun _ => hnext) (fun _ => Tot.in1 (h4l _ v5 v6 0 (by omega) rfl)))
      have h2l : ∀ (d : Nat) (v5 v6 : Int) (v7 : Bool) (v8 : Int), 1 ≤ v8 → ((s.size : Int) - at_ - v8).toNat = d → Tot (fun k a b => orielref01_cut_l2 (lv k) k s at_ a b v3 v5 v6 v7 v8) (fun _ => True) := by
        intro d
        induction d with
        | zero =>
          intro v5 v6 v7 v8 h5 h6
          refine Tot.step1 (fun k a b => orielref01_cut_l2_q (lv k) k s at_ a b v3 v5 v6 v7 v8) ?_
          rw [hw]
          refine Tot.f (decide_eq_false (by omega)) ?_
          have g1 : decide ((0 : Int) ≤ at_) = true := decide_eq_true h0
          have g2 : decide (at_ < (s.size : Int)) = true := decide_eq_true (by omega)
          repeat' first
            | exact h3l _ _ _ _
            | refine Tot.t g1 ?_
            | refine Tot.t g2 ?_
            | refine Tot.cond (fun _ => ?_) (fun _ => ?_)
        | succ d ihd =>
          intro v5 v6 v7 v8 h5 h6
          refine Tot.step1 (fun k a b => orielref01_cut_l2_q (lv k) k s at_ a b v3 v5 v6 v7 v8) ?_
          rw [hw, wrap_id (x := at_ + v8) (by omega) (by omega), wrap_id (x := v8 + 1) (by omega) (by omega)]
          refine Tot.t (decide_eq_true (by omega)) ?_
          have g1 : decide ((0 : Int) ≤ at_ + v8) = true := decide_eq_true (by omega)
          have g2 : decide (at_ + v8 < (s.size : Int)) = true := decide_eq_true (by omega)
          repeat' first
            | exact ihd _ _ _ _ (by omega) (by omega)
            | refine Tot.t g1 ?_
            | refine Tot.t g2 ?_
            | refine Tot.cond (fun _ => ?_) (fun _ => ?_)
      have h1l : ∀ (d : Nat) (v5 v6 : ByteArray), v5.size = v6.size → v5.size ≤ 2097152 → (v3 - v5.size).toNat = d → Tot (fun k a b => orielref01_cut_l1 (lv k) k s at_ a b v3 v5 v6) (fun _ => True) := by
        intro d
        induction d with
        | zero =>
          intro v5 v6 h5 h6 h7
          refine Tot.step1 (fun k a b => orielref01_cut_l1_q (lv k) k s at_ a b v3 v5 v6) ?_
          refine Tot.f (decide_eq_false (by omega)) ?_
          exact Tot.bind (value_tot v5 0 v3 (by omega) (by omega) (by omega) (by omega) h6) fun r1 _ => Tot.bind (value_tot v6 0 v3 (by omega) (by omega) (by omega) (by omega) (by omega)) fun r2 _ => Tot.in1 (h2l _ r1 r2 true 1 (by omega) rfl)
        | succ d ihd =>
          intro v5 v6 h5 h6 h7
          refine Tot.step1 (fun k a b => orielref01_cut_l1_q (lv k) k s at_ a b v3 v5 v6) ?_
          have e1 : (⟨#[128]⟩ : ByteArray).size = 1 := rfl
          have e2 : (⟨#[191]⟩ : ByteArray).size = 1 := rfl
          refine Tot.t (decide_eq_true (by omega)) (Tot.t (decide_eq_true (by rw [e1]; omega)) (Tot.t (decide_eq_true (by rw [e2]; omega)) ?_))
          exact ihd _ _ (by rw [size_app, size_app, e1, e2]; omega) (by rw [size_app, e1]; omega) (by rw [size_app, e1]; omega)
      refine Tot.step0 (fun k a b => orielref01_cut_l0_q (lv k) k s at_ a v3) ?_
      refine Tot.t (decide_eq_true (by omega)) (Tot.t (decide_eq_true (by omega)) (Tot.t (decide_eq_true (by omega)) (Tot.t (decide_eq_true (by omega)) (Tot.t (decide_eq_true (by omega)) ?_))))
      exact Tot.in1 (h1l _ _ _ rfl (by rw [hx]; omega) rfl)
  exact Tot.in0 (key _ _ (by omega) rfl)
theorem rune_tot (s : ByteArray) (at_ : Int) (h0 : 0 ≤ at_) (hs : s.size ≤ 1048576) : Tot (fun k _ _ => (lv k).orielref01_Rune s at_) (fun r => r.2.2 = 0 → 1 ≤ r.2.1 ∧ r.2.1 ≤ 4 ∧ at_ + r.2.1 ≤ s.size) := by
  refine orielref01_Rune_up _ _ (Tot.congr ?_ (fun k _ _ => orielref01_Rune_q (lv k) k s at_))
  refine Tot.cond (fun _ => Tot.ret (fun h => by cases h)) (fun h1 => Tot.cond (fun _ => Tot.ret (fun h => by cases h)) (fun h2 => ?_))
  have h1 := of_decide_eq_false h1
  have h2 := of_decide_eq_false h2
  have hc : Tot (fun k a b => ((lv k).orielref01_cut s at_).bind fun r7 => cond r7 (some ((0 : Int), (0 : Int), (7 : Int))) (some (0, 0, 2))) (fun r => r.2.2 = 0 → 1 ≤ r.2.1 ∧ r.2.1 ≤ 4 ∧ at_ + r.2.1 ≤ s.size) :=
    Tot.bind (cut_tot s at_ h0 (by omega) hs) fun r _ => Tot.cond (fun _ => Tot.ret (fun h => by cases h)) (fun _ => Tot.ret (fun h => by cases h))
  have key : ∀ (d : Nat) (v2 : Int), 1 ≤ v2 → (5 - v2).toNat = d → Tot (fun k a b => orielref01_Rune_l0 (lv k) k s at_ a v2) (fun r => r.2.2 = 0 → 1 ≤ r.2.1 ∧ r.2.1 ≤ 4 ∧ at_ + r.2.1 ≤ s.size) := by
    intro d
    induction d with
    | zero =>
      intro v2 h3 h4
      refine Tot.step0 (fun k a b => orielref01_Rune_l0_q (lv k) k s at_ a v2) ?_
      exact Tot.f (decide_eq_false (by omega)) hc
    | succ d ih =>
      intro v2 h3 h4
      refine Tot.step0 (fun k a b => orielref01_Rune_l0_q (lv k) k s at_ a v2) ?_
      rw [wrap_id (x := at_ + v2) (by omega) (by omega), wrap_id (x := v2 + 1) (by omega) (by omega)]
      have hi := ih (v2 + 1) (by omega) (by omega)
      refine Tot.t (decide_eq_true (by omega)) (Tot.cond (fun h5 => ?_) (fun _ => hc))
      have h5 := of_decide_eq_true h5
      have hp : ∀ v, Tot (fun k a b => ((lv k).orielref01_Put v).bind fun r2 => cond ((r2.length : Int) == v2) (((lv k).orielref01_begins s at_ r2).bind fun r3 => cond r3 (some (v, v2, 0)) (orielref01_Rune_l0 (lv k) k s at_ a (v2 + 1))) (orielref01_Rune_l0 (lv k) k s at_ a (v2 + 1))) (fun r => r.2.2 = 0 → 1 ≤ r.2.1 ∧ r.2.1 ≤ 4 ∧ at_ + r.2.1 ≤ s.size) := fun v =>
        Tot.bind (put_tot v) fun r2 hr2 => Tot.cond (fun _ => Tot.bind (begins_tot s at_ r2 h0 (by omega) (by omega) (by omega)) fun r3 _ => Tot.cond (fun _ => Tot.ret (fun _ => ⟨h3, by show v2 ≤ 4; omega, h5⟩)) (fun _ => hi)) (fun _ => hi)
      refine Tot.t (decide_eq_true (by omega)) (Tot.t (decide_eq_true (by omega)) (Tot.cond (fun h6 => ?_) (fun _ => hp _)))
      exact Tot.bind (value_tot s at_ v2 h0 (by omega) (by omega) (by omega) (by omega)) fun r1 _ => hp r1
  exact Tot.in0 (key _ 1 (by omega) rfl)
theorem all_tot (s : ByteArray) (hs : s.size ≤ 1048576) : Tot (fun k _ _ => (lv k).orielref01_All s) (fun r => r.1.length ≤ 1048576) := by
  refine orielref01_All_up _ (Tot.congr ?_ (fun k _ _ => orielref01_All_q (lv k) k s))
  have key : ∀ (d : Nat) (v1 : Int) (v2 : List (List C)), 0 ≤ v1 → v1 ≤ s.size → (v2.length : Int) ≤ v1 → ((s.size : Int) - v1).toNat ≤ d → Tot (fun k a b => orielref01_All_l1 (lv k) k s a v1 v2) (fun r => r.1.length ≤ 1048576) := by
    intro d
    induction d with
    | zero =>
      intro v1 v2 h0 h1 h2 h3
      refine Tot.step0 (fun k a b => orielref01_All_l1_q (lv k) k s a v1 v2) ?_
      exact Tot.f (decide_eq_false (by omega)) (Tot.ret (by show v2.length ≤ 1048576; omega))
    | succ d ih =>
      intro v1 v2 h0 h1 h2 h3
      refine Tot.step0 (fun k a b => orielref01_All_l1_q (lv k) k s a v1 v2) ?_
      refine Tot.cond (fun h4 => ?_) (fun _ => Tot.ret (by show v2.length ≤ 1048576; omega))
      refine Tot.bind (rune_tot s v1 h0 hs) fun r hr => Tot.cond (fun _ => Tot.ret (by show v2.length ≤ 1048576; omega)) (fun h5 => ?_)
      have h5 : r.2.2 = 0 := by simpa using h5
      obtain ⟨h6, h7, h8⟩ := hr h5
      rw [wrap_id (by omega) (by omega)]
      refine Tot.t (roomy_of (by have : Try.prog.bytesOf 21 = 4 := by kernel_rfl
                                 omega) (by omega)) (ih _ _ (by omega) (by omega) (by rw [List.length_append]; simp; omega) (by omega))
  refine Tot.in0 (g := fun k a _ => orielref01_All_l0 (lv k) k s a) (Tot.step0 (fun k a b => orielref01_All_l0_q (lv k) k s a) ?_)
  refine Tot.cond (fun h4 => ?_) (fun _ => Tot.ret (by show ([] : List (List C)).length ≤ 1048576; simp))
  refine Tot.bind (rune_tot s 0 (by omega) hs) fun r hr => Tot.cond (fun _ => Tot.ret (by show ([] : List (List C)).length ≤ 1048576; simp)) (fun h5 => ?_)
  have h5 : r.2.2 = 0 := by simpa using h5
  obtain ⟨h6, h7, h8⟩ := hr h5
  rw [wrap_id (by omega) (by omega)]
  exact key _ _ _ (by omega) (by omega) (by simp; omega) (Nat.le_refl _)
theorem blank_tot (r : Int) : Tot (fun k _ _ => (lv k).orielref02_Blank r) (fun _ => True) := by
  refine orielref02_Blank_up _ (Tot.congr ?_ (fun k _ _ => orielref02_Blank_q (lv k) k r))
  repeat' first
    | refine Tot.cond (fun _ => ?_) (fun _ => ?_)
    | exact Tot.ret trivial
theorem char_tot (r : Int) : Tot (fun k _ _ => (lv k).orielref02_Char r) (fun _ => True) := by
  refine orielref02_Char_up _ (Tot.congr ?_ (fun k _ _ => orielref02_Char_q (lv k) k r))
  repeat' first
    | refine Tot.cond (fun _ => ?_) (fun _ => ?_)
    | exact Tot.ret trivial
    | refine Tot.bind (blank_tot _) fun _ _ => ?_
set_option maxRecDepth 100000 in
theorem start_tot (r : Int) : Tot (fun k _ _ => (lv k).orielref02_Start r) (fun _ => True) := by
  refine orielref02_Start_up _ (Tot.congr ?_ (fun k _ _ => orielref02_Start_q (lv k) k r))
  repeat' first
    | refine Tot.cond (fun _ => ?_) (fun _ => ?_)
    | exact Tot.ret trivial
set_option maxRecDepth 100000 in
theorem part_tot (r : Int) : Tot (fun k _ _ => (lv k).orielref02_Part r) (fun _ => True) := by
  refine orielref02_Part_up _ (Tot.congr ?_ (fun k _ _ => orielref02_Part_q (lv k) k r))
  repeat' first
    | refine Tot.cond (fun _ => ?_) (fun _ => ?_)
    | exact Tot.ret trivial
    | refine Tot.bind (start_tot _) fun _ _ => ?_
theorem right4_tot (s : ByteArray) (hs : s.size ≤ 1048576) : Tot (fun k _ _ => (lv k).orielref04_Right s) (fun _ => True) := by
  refine orielref04_Right_up _ (Tot.congr ?_ (fun k _ _ => orielref04_Right_q (lv k) k s))
  refine Tot.bind (all_tot s hs) fun r hr => ?_
  have key : ∀ (d : Nat) (v1 : Int), 0 ≤ v1 → ((r.1.length : Int) - v1).toNat = d → Tot (fun k a b => orielref04_Right_l0 (lv k) k s a r.2.2 v1 r.1) (fun _ => True) := by
    intro d
    induction d with
    | zero =>
      intro v1 h0 h1
      refine Tot.step0 (fun k a b => orielref04_Right_l0_q (lv k) k s a r.2.2 v1 r.1) ?_
      exact Tot.f (decide_eq_false (by omega)) (Tot.ret trivial)
    | succ d ih =>
      intro v1 h0 h1
      refine Tot.step0 (fun k a b => orielref04_Right_l0_q (lv k) k s a r.2.2 v1 r.1) ?_
      rw [wrap_id (x := v1 + 1) (by omega) (by omega)]
      refine Tot.t (decide_eq_true (by omega)) (Tot.t (decide_eq_true (by omega)) (Tot.t (decide_eq_true (by omega)) ?_))
      exact Tot.bind (char_tot _) fun r1 _ => Tot.cond (fun _ => Tot.ret trivial) (fun _ => ih _ (by omega) (by omega))
  exact Tot.in0 (key _ 0 (by omega) rfl)
theorem len_runesRow (s : ByteArray) : (runesRow s).length ≤ s.size := by
  unfold runesRow
  rw [List.length_map]
  exact runesAux_length s s.size 0
theorem plain_tot (s : ByteArray) (hs : s.size ≤ 1048576) : Tot (fun k _ _ => (lv k).orielref03_Plain s) (fun _ => True) := by
  refine orielref03_Plain_up _ (Tot.congr ?_ (fun k _ _ => orielref03_Plain_q (lv k) k s))
  have hl := len_runesRow s
  refine Tot.t (roomy_of (by have : Try.prog.bytesOf 21 = 4 := by kernel_rfl
                             omega) (by omega)) ?_
  refine Tot.cond (fun _ => Tot.ret trivial) (fun h1 => ?_)
  have h1 : (runesRow s).length ≠ 0 := by simpa using h1
  refine Tot.t (decide_eq_true (by omega)) (Tot.bind (start_tot _) fun r _ => Tot.cond (fun _ => Tot.ret trivial) (fun _ => ?_))
  have key : ∀ (d : Nat) (v1 : Int), 0 ≤ v1 → (((runesRow s).length : Int) - v1).toNat = d → Tot (fun k a b => orielref03_Plain_l0 (lv k) k s a v1) (fun _ => True) := by
    intro d
    induction d with
    | zero =>
      intro v1 h0 h1
      refine Tot.step0 (fun k a b => orielref03_Plain_l0_q (lv k) k s a v1) ?_
      exact Tot.f (decide_eq_false (by omega)) (Tot.ret trivial)
    | succ d ih =>
      intro v1 h0 h1
      refine Tot.step0 (fun k a b => orielref03_Plain_l0_q (lv k) k s a v1) ?_
      rw [wrap_id (x := v1 + 1) (by omega) (by omega)]
      refine Tot.t (decide_eq_true (by omega)) (Tot.t (decide_eq_true (by omega)) (Tot.t (decide_eq_true (by omega)) ?_))
      exact Tot.bind (part_tot _) fun r1 _ => Tot.cond (fun _ => Tot.ret trivial) (fun _ => ih _ (by omega) (by omega))
  exact Tot.in0 (key _ 0 (by omega) rfl)
theorem find_tot (s : ByteArray) (x : ByteArray) (hs : s.size ≤ 1048576) (hx : x.size ≤ 1048576) : Tot (fun k _ _ => (lv k).orielref05_Find s 0 x) (fun _ => True) := by
  refine orielref05_Find_up _ _ _ (Tot.congr ?_ (fun k _ _ => orielref05_Find_q (lv k) k s 0 x))
  have key : ∀ (d : Nat) (v2 : Int), 0 ≤ v2 → v2 ≤ 1048577 → ((s.size : Int) + 1 - v2).toNat = d → Tot (fun k a b => orielref05_Find_l0 (lv k) k s 0 x a v2) (fun _ => True) := by
    intro d
    induction d with
    | zero =>
      intro v2 h0 h1 h2
      refine Tot.step0 (fun k a b => orielref05_Find_l0_q (lv k) k s 0 x a v2) ?_
      rw [wrap_id (x := v2 + (x.size : Int)) (by omega) (by omega)]
      exact Tot.f (decide_eq_false (by omega)) (Tot.ret trivial)
    | succ d ih =>
      intro v2 h0 h1 h2
      refine Tot.step0 (fun k a b => orielref05_Find_l0_q (lv k) k s 0 x a v2) ?_
      rw [wrap_id (x := v2 + (x.size : Int)) (by omega) (by omega), wrap_id (x := v2 + 1) (by omega) (by omega)]
      refine Tot.cond (fun h3 => ?_) (fun _ => Tot.ret trivial)
      have h3 := of_decide_eq_true h3
      refine Tot.t (decide_eq_true (by omega)) (Tot.t (decide_eq_true (by omega)) (Tot.t (decide_eq_true (by omega)) (Tot.t (decide_eq_true (by omega)) ?_)))
      exact Tot.cond (fun _ => Tot.ret trivial) (fun _ => ih _ (by omega) (by omega) (by omega))
  exact Tot.in0 (key _ 0 (by omega) (by omega) rfl)
theorem named_tot (s t : ByteArray) (hs : s.size ≤ 1048576) (ht : t.size ≤ 1048576) : Tot (fun k _ _ => (lv k).orielref12_named s t) (fun _ => True) := by
  refine orielref12_named_up _ _ (Tot.congr ?_ (fun k _ _ => orielref12_named_q (lv k) k s t))
  refine Tot.cond (fun _ => Tot.bind (plain_tot t ht) fun r1 _ => Tot.cond (fun _ => Tot.bind (right4_tot t ht) fun r2 _ => Tot.cond (fun _ => Tot.bind (right4_tot s hs) fun r3 _ => Tot.cond (fun _ => Tot.bind (find_tot s _ hs ?_) fun r4 _ => Tot.cond (fun _ => Tot.bind (find_tot s _ hs ?_) fun r5 _ => Tot.ret trivial) (fun _ => Tot.ret trivial)) (fun _ => Tot.ret trivial)) (fun _ => Tot.ret trivial)) (fun _ => Tot.ret trivial)) (fun _ => Tot.ret trivial)
  · have : (⟨#[123]⟩ : ByteArray).size = 1 := rfl
    omega
  · have : (⟨#[125]⟩ : ByteArray).size = 1 := rfl
    omega
end Go.Vm.T
/- Whether a path is right: an answer comes; what a right path is. -/
set_option linter.unusedVariables false
set_option linter.unusedSimpArgs false
namespace Go.Vm.T
open Go Go.Vm Go.Proofs
attribute [local irreducible] lv oriellaw17_ProgCompiles_b oriellaw17_ProgMoves_b oriellaw17_ProgMoves_l0 oriellaw17_ProgMoves_l1 oriellaw17_ProgKeeps_b oriellaw17_ProgKeeps_l0 oriellaw17_ProgKeeps_l1 oriellaw17_ProgShapes_b oriellaw17_ProgShapes_l0 oriellaw17_ProgShapes_l1 oriellaw17_awake_b prog_Compile_b prog_maker_path_b prog_maker_step_b prog_maker_seq_b prog_maker_seq_l0 prog_maker_alt_b prog_maker_alt_l0 prog_maker_alt_l1 prog_maker_alt_l2 prog_maker_alt_l3 prog_maker_state_b prog_maker_lay_b prog_maker_free_b prog_Closure_b prog_Closure_l0 prog_Closure_l1 prog_Closure_l2 prog_Closure_l3 orielref12_Right_b orielref17_SameBits_b orielref17_SameBits_l0 orielref12_Size_b orielref12_size_b orielref12_size_l0 orielref12_size_l1 orielref12_sizeFilter_b orielref12_sizeFilter_l0 orielref12_sizeFilter_l1 prog_Moves_b prog_Moves_l0 orielref12_path_b orielref12_path_l0 orielref12_path_l1 orielref12_filter_b orielref12_filter_l0 orielref12_filter_l1 orielref12_filter_l2 orielref12_filter_l3 orielref12_filter_l4 orielref12_named_b orielref04_Right_b orielref04_Right_l0 orielref03_Plain_b orielref03_Plain_l0 orielref01_All_b orielref01_All_l0 orielref01_All_l1 orielref02_Start_b orielref01_Rune_b orielref01_Rune_l0 orielref01_Put_b orielref01_cut_b orielref01_cut_l0 orielref01_cut_l1 orielref01_cut_l2 orielref01_cut_l3 orielref01_cut_l4 orielref01_value_b orielref01_value_l0 orielref01_value_l1 orielref17_Compile_b orielref02_Char_b orielref02_Part_b orielref01_begins_b orielref01_begins_l0 orielref17_add_b orielref17_add_l0 orielref17_add_l1 orielref17_add_l2 orielref17_add_l3 orielref17_add_l4 orielref17_add_l5 orielref17_add_l6 orielref02_Blank_b orielref17_edge_b orielref05_Find_b orielref05_Find_l0 orielref17_Same_b orielref17_Same_l0 orielref17_Same_l1 oriellaw17_bits_b oriellaw17_bits_l0 oriellaw17_bits_l1 orielref12_SameFilter_b orielref12_SameFilter_l0 orielref12_SameFilter_l1 orielref12_Same_b orielref12_Same_l0 orielref12_Same_l1 orielref17_Closure_b orielref17_Closure_l0 orielref17_Closure_l1 orielref17_Closure_l2 orielref17_Moves_b orielref17_Moves_l0
abbrev BB : Nat := 1048576
/-- how many paths lie in a path -/
def pc : Nat → List (List C) → Nat
  | 0, _ => 1
  | d + 1, l => 1 + (l.map fun r => pc d (gr r 1)).sum
theorem sum_take {α : Type} (l : List α) (f : α → Nat) (i : Nat) (d : α) (h : i < l.length) : ((l.take (i + 1)).map f).sum = ((l.take i).map f).sum + f (l.getD i d) := by
  rw [List.take_add_one, List.map_append, List.sum_append, List.getElem?_eq_getElem h]
  simp [List.getD, List.getElem?_eq_getElem h]
def SizeQ (l : List (List C)) (most r : Int) : Prop := 1 ≤ r ∧ r ≤ most + 1 ∧ (r ≤ most → ∀ d, (pc d l : Int) ≤ r)
theorem size_tot : ∀ M : Nat,
    (∀ (op : Int) (subs tests : List (List C)) (most : Int), SizeOf.sizeOf subs + SizeOf.sizeOf tests < M → SmL BB subs → SmL BB tests → 0 ≤ most → most ≤ 64 → Tot (fun k _ _ => (lv k).orielref12_size op subs tests most) (SizeQ subs most)) ∧
    (∀ (op : Int) (a b c : ByteArray) (subs ways : List (List C)) (most : Int), SizeOf.sizeOf subs + SizeOf.sizeOf ways < M → SmL BB subs → SmL BB ways → 0 ≤ most → most ≤ 64 → Tot (fun k _ _ => (lv k).orielref12_sizeFilter op a b c subs ways most) (fun r => 1 ≤ r ∧ r ≤ most + 1)) := by
  intro M
  induction M with
  | zero => exact ⟨fun _ _ _ _ h => by omega, fun _ _ _ _ _ _ _ h => by omega⟩
  | succ M ih =>
    constructor
    · intro op subs tests most hM hs ht h0 h64
      refine orielref12_size_up _ _ _ _ (Tot.congr ?_ (fun k _ _ => orielref12_size_q (lv k) k op subs tests most))
      have h2 : ∀ (d : Nat) (v1 v2 : Int), 1 ≤ v1 → v1 ≤ most + 1 → (v1 ≤ most → ∀ d, (pc d subs : Int) ≤ v1) → 0 ≤ v2 → ((tests.length : Int) - v2).toNat = d → Tot (fun k a b => orielref12_size_l1 (lv k) k op subs tests most a v1 v2) (SizeQ subs most) := by
        intro d
        induction d with
        | zero =>
          intro v1 v2 g1 g2 g3 g4 g5
          refine Tot.step0 (fun k a b => orielref12_size_l1_q (lv k) k op subs tests most a v1 v2) ?_
          exact Tot.f (decide_eq_false (by omega)) (Tot.ret ⟨g1, g2, g3⟩)
        | succ d ihd =>
          intro v1 v2 g1 g2 g3 g4 g5
          have hlen : tests.length ≤ 1048576 := ht.1
          refine Tot.step0 (fun k a b => orielref12_size_l1_q (lv k) k op subs tests most a v1 v2) ?_
          rw [wrap_id (x := most - v1) (by omega) (by omega), wrap_id (x := v2 + 1) (by omega) (by omega)]
          refine Tot.t (decide_eq_true (by omega)) (Tot.cond (fun hc => ?_) (fun _ => Tot.ret ⟨g1, g2, g3⟩))
          have hc := of_decide_eq_true hc
          refine Tot.t (decide_eq_true (by omega)) (Tot.t (decide_eq_true (by omega)) ?_)
          have hmem : tests.getD v2.toNat [] ∈ tests := getD_mem (by omega)
          have hr := ht.get v2.toNat
          refine Tot.bind (ih.2 _ _ _ _ _ _ _ (by have := gr_lt (i := 4) (j := 5) hmem (by omega); omega) (hr.gr 4) (hr.gr 5) (by omega) (by omega)) fun r hr => ?_
          rw [wrap_id (x := v1 + r) (by omega) (by omega)]
          exact ihd _ _ (by omega) (by omega) (fun h d => by have := g3 (by omega) d; omega) (by omega) (by omega)
      have h1 : ∀ (n : Nat) (v1 v2 : Int), 1 ≤ v1 → v1 ≤ most + 1 → (v1 ≤ most → ∀ d, 1 + (((subs.take v2.toNat).map fun r => pc d (gr r 1)).sum : Int) ≤ v1) → 0 ≤ v2 → ((subs.length : Int) - v2).toNat = n → Tot (fun k a b => orielref12_size_l0 (lv k) k op subs tests most a v1 v2) (SizeQ subs most) := by
        intro n
        have hend : ∀ (v1 : Int), 1 ≤ v1 → v1 ≤ most + 1 → (v1 ≤ most → ∀ d, 1 + (((subs).map fun r => pc d (gr r 1)).sum : Int) ≤ v1) → Tot (fun k a b => orielref12_size_l1 (lv k) k op subs tests most k v1 0) (SizeQ subs most) := by
          intro v1 g1 g2 g3
          refine Tot.in0 (h2 _ v1 0 g1 g2 (fun h d => ?_) (by omega) rfl)
          cases d with
          | zero => simp only [pc]; omega
          | succ d => have := g3 h d; simp only [pc]; omega
        induction n with
        | zero =>
          intro v1 v2 g1 g2 g3 g4 g5
          refine Tot.step0 (fun k a b => orielref12_size_l0_q (lv k) k op subs tests most a v1 v2) ?_
          refine Tot.f (decide_eq_false (by omega)) (hend v1 g1 g2 fun h d => ?_)
          have := g3 h d
          rw [List.take_of_length_le (by omega)] at this
          exact this
        | succ n ihn =>
          intro v1 v2 g1 g2 g3 g4 g5
          have hlen : subs.length ≤ 1048576 := hs.1
          refine Tot.step0 (fun k a b => orielref12_size_l0_q (lv k) k op subs tests most a v1 v2) ?_
          rw [wrap_id (x := most - v1) (by omega) (by omega), wrap_id (x := v2 + 1) (by omega) (by omega)]
          refine Tot.t (decide_eq_true (by omega)) (Tot.cond (fun hc => ?_) (fun hc => ?_))
          · have hc := of_decide_eq_true hc
            refine Tot.t (decide_eq_true (by omega)) (Tot.t (decide_eq_true (by omega)) ?_)
            have hmem : subs.getD v2.toNat [] ∈ subs := getD_mem (by omega)
            have hr := hs.get v2.toNat
            refine Tot.bind (ih.1 _ _ _ _ (by have := gr_lt (i := 1) (j := 2) hmem (by omega); omega) (hr.gr 1) (hr.gr 2) (by omega) (by omega)) fun r hr => ?_
            obtain ⟨q1, q2, q3⟩ := hr
            rw [wrap_id (x := v1 + r) (by omega) (by omega)]
            refine ihn _ _ (by omega) (by omega) (fun h d => ?_) (by omega) (by omega)
            have h4 := g3 (by omega) d
            have h5 := q3 (by omega) d
            rw [show (v2 + 1).toNat = v2.toNat + 1 by omega, sum_take subs _ v2.toNat [] (by omega)]
            omega
          · have hc := of_decide_eq_false hc
            exact hend v1 g1 g2 fun h => absurd h hc
      exact Tot.in0 (h1 _ 1 0 (by omega) (by omega) (fun h d => by simp) (by omega) rfl)
    · intro op x y z subs ways most hM hs ht h0 h64
      refine orielref12_sizeFilter_up _ _ _ _ _ _ _ (Tot.congr ?_ (fun k _ _ => orielref12_sizeFilter_q (lv k) k op x y z subs ways most))
      have h2 : ∀ (d : Nat) (v1 v2 : Int), 1 ≤ v1 → v1 ≤ most + 1 → 0 ≤ v2 → ((ways.length : Int) - v2).toNat = d → Tot (fun k a b => orielref12_sizeFilter_l1 (lv k) k op x y z subs ways most a v1 v2) (fun r => 1 ≤ r ∧ r ≤ most + 1) := by
        intro d
        induction d with
        | zero =>
          intro v1 v2 g1 g2 g4 g5
          refine Tot.step0 (fun k a b => orielref12_sizeFilter_l1_q (lv k) k op x y z subs ways most a v1 v2) ?_
          exact Tot.f (decide_eq_false (by omega)) (Tot.ret ⟨g1, g2⟩)
        | succ d ihd =>
          intro v1 v2 g1 g2 g4 g5
          have hlen : ways.length ≤ 1048576 := ht.1
          refine Tot.step0 (fun k a b => orielref12_sizeFilter_l1_q (lv k) k op x y z subs ways most a v1 v2) ?_
          rw [wrap_id (x := most - v1) (by omega) (by omega), wrap_id (x := v2 + 1) (by omega) (by omega)]
          refine Tot.t (decide_eq_true (by omega)) (Tot.cond (fun hc => ?_) (fun _ => Tot.ret ⟨g1, g2⟩))
          have hc := of_decide_eq_true hc
          refine Tot.t (decide_eq_true (by omega)) (Tot.t (decide_eq_true (by omega)) ?_)
          have hmem : ways.getD v2.toNat [] ∈ ways := getD_mem (by omega)
          have hr := ht.get v2.toNat
          refine Tot.bind (ih.1 _ _ _ _ (by have := gr_lt (i := 1) (j := 2) hmem (by omega); omega) (hr.gr 1) (hr.gr 2) (by omega) (by omega)) fun r hr => ?_
          obtain ⟨q1, q2, q3⟩ := hr
          rw [wrap_id (x := v1 + r) (by omega) (by omega)]
          exact ihd _ _ (by omega) (by omega) (by omega) (by omega)
      have h1 : ∀ (n : Nat) (v1 v2 : Int), 1 ≤ v1 → v1 ≤ most + 1 → 0 ≤ v2 → ((subs.length : Int) - v2).toNat = n → Tot (fun k a b => orielref12_sizeFilter_l0 (lv k) k op x y z subs ways most a v1 v2) (fun r => 1 ≤ r ∧ r ≤ most + 1) := by
        intro n
        induction n with
        | zero =>
          intro v1 v2 g1 g2 g4 g5
          refine Tot.step0 (fun k a b => orielref12_sizeFilter_l0_q (lv k) k op x y z subs ways most a v1 v2) ?_
          exact Tot.f (decide_eq_false (by omega)) (Tot.in0 (h2 _ v1 0 g1 g2 (by omega) rfl))
        | succ n ihn =>
          intro v1 v2 g1 g2 g4 g5
          have hlen : subs.length ≤ 1048576 := hs.1
          refine Tot.step0 (fun k a b => orielref12_sizeFilter_l0_q (lv k) k op x y z subs ways most a v1 v2) ?_
          rw [wrap_id (x := most - v1) (by omega) (by omega), wrap_id (x := v2 + 1) (by omega) (by omega)]
          refine Tot.t (decide_eq_true (by omega)) (Tot.cond (fun hc => ?_) (fun hc => Tot.in0 (h2 _ v1 0 g1 g2 (by omega) rfl)))
          have hc := of_decide_eq_true hc
          refine Tot.t (decide_eq_true (by omega)) (Tot.t (decide_eq_true (by omega)) ?_)
          have hmem : subs.getD v2.toNat [] ∈ subs := getD_mem (by omega)
          have hr := hs.get v2.toNat
          refine Tot.bind (ih.2 _ _ _ _ _ _ _ (by have := gr_lt (i := 4) (j := 5) hmem (by omega); omega) (hr.gr 4) (hr.gr 5) (by omega) (by omega)) fun r hr => ?_
          rw [wrap_id (x := v1 + r) (by omega) (by omega)]
          exact ihn _ _ (by omega) (by omega) (by omega) (by omega)
      exact Tot.in0 (h1 _ 1 0 (by omega) (by omega) (by omega) rfl)
end Go.Vm.T
/- What a right path is. -/
set_option linter.unusedVariables false
set_option linter.unusedSimpArgs false
namespace Go.Vm.T
open Go Go.Vm Go.Proofs
attribute [local irreducible] lv oriellaw17_ProgCompiles_b oriellaw17_ProgMoves_b oriellaw17_ProgMoves_l0 oriellaw17_ProgMoves_l1 oriellaw17_ProgKeeps_b oriellaw17_ProgKeeps_l0 oriellaw17_ProgKeeps_l1 oriellaw17_ProgShapes_b oriellaw17_ProgShapes_l0 oriellaw17_ProgShapes_l1 oriellaw17_awake_b prog_Compile_b prog_maker_path_b prog_maker_step_b prog_maker_seq_b prog_maker_seq_l0 prog_maker_alt_b prog_maker_alt_l0 prog_maker_alt_l1 prog_maker_alt_l2 prog_maker_alt_l3 prog_maker_state_b prog_maker_lay_b prog_maker_free_b prog_Closure_b prog_Closure_l0 prog_Closure_l1 prog_Closure_l2 prog_Closure_l3 orielref12_Right_b orielref17_SameBits_b orielref17_SameBits_l0 orielref12_Size_b orielref12_size_b orielref12_size_l0 orielref12_size_l1 orielref12_sizeFilter_b orielref12_sizeFilter_l0 orielref12_sizeFilter_l1 prog_Moves_b prog_Moves_l0 orielref12_path_b orielref12_path_l0 orielref12_path_l1 orielref12_filter_b orielref12_filter_l0 orielref12_filter_l1 orielref12_filter_l2 orielref12_filter_l3 orielref12_filter_l4 orielref12_named_b orielref04_Right_b orielref04_Right_l0 orielref03_Plain_b orielref03_Plain_l0 orielref01_All_b orielref01_All_l0 orielref01_All_l1 orielref02_Start_b orielref01_Rune_b orielref01_Rune_l0 orielref01_Put_b orielref01_cut_b orielref01_cut_l0 orielref01_cut_l1 orielref01_cut_l2 orielref01_cut_l3 orielref01_cut_l4 orielref01_value_b orielref01_value_l0 orielref01_value_l1 orielref17_Compile_b orielref02_Char_b orielref02_Part_b orielref01_begins_b orielref01_begins_l0 orielref17_add_b orielref17_add_l0 orielref17_add_l1 orielref17_add_l2 orielref17_add_l3 orielref17_add_l4 orielref17_add_l5 orielref17_add_l6 orielref02_Blank_b orielref17_edge_b orielref05_Find_b orielref05_Find_l0 orielref17_Same_b orielref17_Same_l0 orielref17_Same_l1 oriellaw17_bits_b oriellaw17_bits_l0 oriellaw17_bits_l1 orielref12_SameFilter_b orielref12_SameFilter_l0 orielref12_SameFilter_l1 orielref12_Same_b orielref12_Same_l0 orielref12_Same_l1 orielref17_Closure_b orielref17_Closure_l0 orielref17_Closure_l1 orielref17_Closure_l2 orielref17_Moves_b orielref17_Moves_l0
def POk : Nat → Int → List (List C) → List (List C) → Prop
  | 0, _, _, _ => False
  | d + 1, op, subs, tests => 1 ≤ op ∧ op ≤ 7 ∧ (op = 4 ∨ op = 5 → 2 ≤ subs.length) ∧ (op = 6 → subs.length = 1) ∧ (op = 7 ↔ tests.length = 1) ∧ tests.length ≤ 1 ∧ subs.length ≤ 64 ∧ (op ≠ 4 → op ≠ 5 → op ≠ 6 → subs.length = 0) ∧ ∀ r, r ∈ subs → POk d (gi r 0) (gr r 1) (gr r 2)
theorem right_tots : ∀ d : Nat, d ≤ 100 →
    (∀ (op : Int) (subs tests : List (List C)), SmL BB subs → SmL BB tests → Tot (fun k _ _ => (lv k).orielref12_path op subs tests d) (fun r => r = true → POk d op subs tests)) ∧
    (∀ (op : Int) (a b c : ByteArray) (subs ways : List (List C)), a.size ≤ 1048576 → b.size ≤ 1048576 → c.size ≤ 1048576 → SmL BB subs → SmL BB ways → Tot (fun k _ _ => (lv k).orielref12_filter op a b c subs ways d) (fun _ => True)) := by
  intro d
  induction d with
  | zero =>
    intro _
    constructor
    · intro op subs tests _ _
      refine orielref12_path_up _ _ _ _ (Tot.congr ?_ (fun k _ _ => orielref12_path_q (lv k) k op subs tests ((0 : Nat) : Int)))
      exact Tot.t (by rfl) (Tot.ret (fun h => by cases h))
    · intro op a b c subs ways _ _ _ _ _
      refine orielref12_filter_up _ _ _ _ _ _ _ (Tot.congr ?_ (fun k _ _ => orielref12_filter_q (lv k) k op a b c subs ways ((0 : Nat) : Int)))
      exact Tot.t (by rfl) (Tot.ret trivial)
  | succ d ih =>
    intro hd
    have ih := ih (by omega)
    have hw : IntKind.i64.wrap (((d + 1 : Nat) : Int) - 1) = d := by rw [wrap_id (by omega) (by omega)]; omega
    have hne : (((d + 1 : Nat) : Int) == (0 : Int)) = false := by rw [beq_eq_false_iff_ne]; omega
    constructor
    · intro op subs tests hs ht
      have hsl : subs.length ≤ 1048576 := hs.1
      refine orielref12_path_up _ _ _ _ (Tot.congr ?_ (fun k _ _ => orielref12_path_q (lv k) k op subs tests ((d + 1 : Nat) : Int)))
      refine Tot.f hne (Tot.cond (fun _ => Tot.ret (fun h => by cases h)) (fun h1 => Tot.cond (fun _ => Tot.ret (fun h => by cases h)) (fun h7 => ?_)))
      have h1 := of_decide_eq_false h1
      have h7 := of_decide_eq_false h7
      have key : ∀ v1 v2 : Int, (op = 4 ∨ op = 5 → v1 = 2 ∧ v2 = 64) → (op = 6 → v1 = 1 ∧ v2 = 1) → (op ≠ 4 → op ≠ 5 → op ≠ 6 → v1 = 0 ∧ v2 = 0) → Tot (fun k a b => orielref12_path_l0 (lv k) k op subs tests ((d + 1 : Nat) : Int) v1 v2) (fun r => r = true → POk (d + 1) op subs tests) := by
        intro v1 v2 e1 e2 e3
        refine Tot.congr ?_ (fun k _ _ => orielref12_path_l0_q (lv k) k op subs tests ((d + 1 : Nat) : Int) v1 v2)
        refine Tot.cond (fun _ => Tot.ret (fun h => by cases h)) (fun g1 => Tot.cond (fun _ => Tot.ret (fun h => by cases h)) (fun g2 => Tot.cond (fun _ => Tot.ret (fun h => by cases h)) (fun g3 => Tot.cond (fun _ => Tot.ret (fun h => by cases h)) (fun g4 => ?_))))
        have g1 := of_decide_eq_false g1
        have g2 := of_decide_eq_false g2
        have g4 := of_decide_eq_false g4
        have g3 : op = 7 ↔ tests.length = 1 := by
          have g5 : (op == (7 : Int)) = ((tests.length : Int) == (1 : Int)) := by
            cases h1 : op == (7 : Int) <;> cases h2 : (tests.length : Int) == (1 : Int) <;> rw [h1, h2] at g3 <;> first | rfl | cases g3
          constructor
          · intro h
            have : ((tests.length : Int) == (1 : Int)) = true := by rw [← g5, h]; rfl
            have := eq_of_beq this
            omega
          · intro h
            have : (op == (7 : Int)) = true := by rw [g5, h]; rfl
            exact eq_of_beq this
        have fin : (∀ j, j < subs.length → POk d (gi (subs.getD j []) 0) (gr (subs.getD j []) 1) (gr (subs.getD j []) 2)) → POk (d + 1) op subs tests := fun hall =>
          ⟨by omega, by omega, fun h => by have := e1 h; omega, fun h => by have := e2 h; omega, g3, by omega, by
            by_cases a4 : op = 4 ∨ op = 5
            · have := e1 a4; omega
            · by_cases a6 : op = 6
              · have := e2 a6; omega
              · have := e3 (fun h => a4 (.inl h)) (fun h => a4 (.inr h)) a6; omega, fun a b c => by have := e3 a b c; omega, fun r hr => by
            obtain ⟨j, hj, rfl⟩ := List.getElem_of_mem hr
            have := hall j hj
            rwa [List.getD_eq_getElem?_getD, List.getElem?_eq_getElem hj] at this⟩
        have loop : ∀ (n : Nat) (v : Int), 0 ≤ v → (∀ j, j < v.toNat → POk d (gi (subs.getD j []) 0) (gr (subs.getD j []) 1) (gr (subs.getD j []) 2)) → ((subs.length : Int) - v).toNat = n → Tot (fun k a b => orielref12_path_l1 (lv k) k op subs tests ((d + 1 : Nat) : Int) a v) (fun r => r = true → POk (d + 1) op subs tests) := by
          intro n
          induction n with
          | zero =>
            intro v v0 vj vn
            refine Tot.step0 (fun k a b => orielref12_path_l1_q (lv k) k op subs tests ((d + 1 : Nat) : Int) a v) ?_
            have hfin := fin fun j hj => vj j (by omega)
            refine Tot.f (decide_eq_false (by omega)) (Tot.cond (fun _ => Tot.ret (fun _ => hfin)) (fun ht0 => ?_))
            have ht0 : tests.length ≠ 0 := by simpa using ht0
            refine Tot.t (decide_eq_true (by omega)) ?_
            rw [hw]
            have hr := ht.get 0
            exact Tot.bind (ih.2 _ _ _ _ _ _ (hr.gs 1) (hr.gs 2) (hr.gs 3) (hr.gr 4) (hr.gr 5)) fun r _ => Tot.ret (fun _ => hfin)
          | succ n ihn =>
            intro v v0 vj vn
            refine Tot.step0 (fun k a b => orielref12_path_l1_q (lv k) k op subs tests ((d + 1 : Nat) : Int) a v) ?_
            rw [hw, wrap_id (x := v + 1) (by omega) (by omega)]
            refine Tot.t (decide_eq_true (by omega)) (Tot.t (decide_eq_true (by omega)) (Tot.t (decide_eq_true (by omega)) ?_))
            have hr := hs.get v.toNat
            refine Tot.bind (ih.1 _ _ _ (hr.gr 1) (hr.gr 2)) fun r hr1 => Tot.cond (fun _ => Tot.ret (fun h => by cases h)) (fun hb => ?_)
            have hb : r = true := by simpa using hb
            refine ihn _ (by omega) (fun j hj => ?_) (by omega)
            by_cases hjv : j = v.toNat
            · rw [hjv]; exact hr1 hb
            · exact vj j (by omega)
        exact Tot.in0 (loop _ 0 (by omega) (fun j hj => by simp at hj) rfl)
      refine Tot.cond (fun h4 => ?_) (fun h4 => Tot.cond (fun h5 => ?_) (fun h5 => Tot.cond (fun h6 => ?_) (fun h6 => ?_)))
      · have h4 : op = 4 := by simpa using h4
        exact Tot.f (by rw [beq_eq_false_iff_ne]; omega) (key 2 64 (fun _ => ⟨rfl, rfl⟩) (fun h => by omega) (fun h => by omega))
      · have h5 : op = 5 := by simpa using h5
        exact Tot.f (by rw [beq_eq_false_iff_ne]; omega) (key 2 64 (fun _ => ⟨rfl, rfl⟩) (fun h => by omega) (fun _ h => by omega))
      · have h6 : op = 6 := by simpa using h6
        exact key 1 1 (fun h => by omega) (fun _ => ⟨rfl, rfl⟩) (fun _ _ h => by omega)
      · have h4 : op ≠ 4 := by simpa using h4
        have h5 : op ≠ 5 := by simpa using h5
        have h6 : op ≠ 6 := by simpa using h6
        exact key 0 0 (fun h => by omega) (fun h => by omega) (fun _ _ _ => ⟨rfl, rfl⟩)
    · intro op x y z subs ways hx hy hz hs ht
      have hsl : subs.length ≤ 1048576 := hs.1
      refine orielref12_filter_up _ _ _ _ _ _ _ (Tot.congr ?_ (fun k _ _ => orielref12_filter_q (lv k) k op x y z subs ways ((d + 1 : Nat) : Int)))
      have loop : ∀ (n : Nat) (v : Int), 0 ≤ v → ((subs.length : Int) - v).toNat = n → Tot (fun k a b => orielref12_filter_l4 (lv k) k op x y z subs ways ((d + 1 : Nat) : Int) a v) (fun _ => True) := by
        intro n
        induction n with
        | zero =>
          intro v v0 vn
          refine Tot.step0 (fun k a b => orielref12_filter_l4_q (lv k) k op x y z subs ways ((d + 1 : Nat) : Int) a v) ?_
          refine Tot.f (decide_eq_false (by omega)) (Tot.cond (fun _ => Tot.ret trivial) (fun ht0 => ?_))
          have ht0 : ways.length ≠ 0 := by simpa using ht0
          refine Tot.t (decide_eq_true (by omega)) ?_
          rw [hw]
          have hr := ht.get 0
          exact Tot.bind (ih.1 _ _ _ (hr.gr 1) (hr.gr 2)) fun r _ => Tot.ret trivial
        | succ n ihn =>
          intro v v0 vn
          refine Tot.step0 (fun k a b => orielref12_filter_l4_q (lv k) k op x y z subs ways ((d + 1 : Nat) : Int) a v) ?_
          rw [hw, wrap_id (x := v + 1) (by omega) (by omega)]
          refine Tot.t (decide_eq_true (by omega)) (Tot.t (decide_eq_true (by omega)) (Tot.t (decide_eq_true (by omega)) ?_))
          have hr := hs.get v.toNat
          exact Tot.bind (ih.2 _ _ _ _ _ _ (hr.gs 1) (hr.gs 2) (hr.gs 3) (hr.gr 4) (hr.gr 5)) fun r hr1 => Tot.cond (fun _ => Tot.ret trivial) (fun hb => ihn _ (by omega) (by omega))
      have l3 : ∀ v1 v2, Tot (fun k a b => orielref12_filter_l3 (lv k) k op x y z subs ways ((d + 1 : Nat) : Int) v1 v2) (fun _ => True) := fun v1 v2 => by
        refine Tot.congr ?_ (fun k _ _ => orielref12_filter_l3_q (lv k) k op x y z subs ways ((d + 1 : Nat) : Int) v1 v2)
        exact Tot.cond (fun _ => Tot.ret trivial) (fun _ => Tot.cond (fun _ => Tot.ret trivial) (fun _ => Tot.cond (fun _ => Tot.ret trivial) (fun _ => Tot.cond (fun _ => Tot.ret trivial) (fun _ => Tot.in0 (loop _ 0 (by omega) rfl)))))
      have l2 : ∀ v1 v2, Tot (fun k a b => orielref12_filter_l2 (lv k) k op x y z subs ways ((d + 1 : Nat) : Int) v1 v2) (fun _ => True) := fun v1 v2 => by
        refine Tot.congr ?_ (fun k _ _ => orielref12_filter_l2_q (lv k) k op x y z subs ways ((d + 1 : Nat) : Int) v1 v2)
        exact Tot.cond (fun _ => l3 _ _) (fun _ => Tot.cond (fun _ => l3 _ _) (fun _ => l3 _ _))
      have l1 : ∀ v1, Tot (fun k a b => orielref12_filter_l1 (lv k) k op x y z subs ways ((d + 1 : Nat) : Int) v1) (fun _ => True) := fun v1 => by
        refine Tot.congr ?_ (fun k _ _ => orielref12_filter_l1_q (lv k) k op x y z subs ways ((d + 1 : Nat) : Int) v1)
        repeat' first
          | refine Tot.cond (fun _ => ?_) (fun _ => ?_)
          | exact Tot.ret trivial
          | refine Tot.bind (right4_tot z hz) fun _ _ => ?_
          | exact l2 _ _
      have l0 : ∀ v1 v2, Tot (fun k a b => orielref12_filter_l0 (lv k) k op x y z subs ways ((d + 1 : Nat) : Int) v1 v2) (fun _ => True) := fun v1 v2 => by
        refine Tot.congr ?_ (fun k _ _ => orielref12_filter_l0_q (lv k) k op x y z subs ways ((d + 1 : Nat) : Int) v1 v2)
        repeat' first
          | refine Tot.cond (fun _ => ?_) (fun _ => ?_)
          | exact Tot.ret trivial
          | refine Tot.bind (named_tot x y hx hy) fun _ _ => ?_
          | exact l1 _
      repeat' first
        | refine Tot.cond (fun _ => ?_) (fun _ => ?_)
        | exact Tot.ret trivial
        | exact l0 _ _
theorem right_tot (op : Int) (subs tests : List (List C)) (hs : SmL BB subs) (ht : SmL BB tests) : Tot (fun k _ _ => (lv k).orielref12_Right op subs tests) (fun r => r = true → POk 16 op subs tests ∧ ∀ d, pc d subs ≤ 64) := by
  refine orielref12_Right_up _ _ _ (Tot.congr ?_ (fun k _ _ => orielref12_Right_q (lv k) k op subs tests))
  refine Tot.bind (R := SizeQ subs 64) (orielref12_Size_up _ _ _ (Tot.congr (Tot.bind ((size_tot _).1 op subs tests 64 (Nat.lt_succ_self _) hs ht (by omega) (by omega)) fun r hr => Tot.ret hr) (fun k _ _ => orielref12_Size_q (lv k) k op subs tests))) fun r hr => ?_
  refine Tot.cond (fun h => ?_) (fun _ => Tot.ret (fun h => by cases h))
  have h := of_decide_eq_true h
  exact Tot.bind ((right_tots 16 (by omega)).1 op subs tests hs ht) fun b hb => Tot.ret (fun hbt => ⟨hb hbt, fun d => by have := hr.2.2 h d; omega⟩)
end Go.Vm.T
/- The machine of a right path: what the program makes. -/
set_option linter.unusedVariables false
set_option linter.unusedSimpArgs false
namespace Go.Vm.T
open Go Go.Vm Go.Proofs
attribute [local irreducible] lv oriellaw17_ProgCompiles_b oriellaw17_ProgMoves_b oriellaw17_ProgMoves_l0 oriellaw17_ProgMoves_l1 oriellaw17_ProgKeeps_b oriellaw17_ProgKeeps_l0 oriellaw17_ProgKeeps_l1 oriellaw17_ProgShapes_b oriellaw17_ProgShapes_l0 oriellaw17_ProgShapes_l1 oriellaw17_awake_b prog_Compile_b prog_maker_path_b prog_maker_step_b prog_maker_seq_b prog_maker_seq_l0 prog_maker_alt_b prog_maker_alt_l0 prog_maker_alt_l1 prog_maker_alt_l2 prog_maker_alt_l3 prog_maker_state_b prog_maker_lay_b prog_maker_free_b prog_Closure_b prog_Closure_l0 prog_Closure_l1 prog_Closure_l2 prog_Closure_l3 orielref12_Right_b orielref17_SameBits_b orielref17_SameBits_l0 orielref12_Size_b orielref12_size_b orielref12_size_l0 orielref12_size_l1 orielref12_sizeFilter_b orielref12_sizeFilter_l0 orielref12_sizeFilter_l1 prog_Moves_b prog_Moves_l0 orielref12_path_b orielref12_path_l0 orielref12_path_l1 orielref12_filter_b orielref12_filter_l0 orielref12_filter_l1 orielref12_filter_l2 orielref12_filter_l3 orielref12_filter_l4 orielref12_named_b orielref04_Right_b orielref04_Right_l0 orielref03_Plain_b orielref03_Plain_l0 orielref01_All_b orielref01_All_l0 orielref01_All_l1 orielref02_Start_b orielref01_Rune_b orielref01_Rune_l0 orielref01_Put_b orielref01_cut_b orielref01_cut_l0 orielref01_cut_l1 orielref01_cut_l2 orielref01_cut_l3 orielref01_cut_l4 orielref01_value_b orielref01_value_l0 orielref01_value_l1 orielref17_Compile_b orielref02_Char_b orielref02_Part_b orielref01_begins_b orielref01_begins_l0 orielref17_add_b orielref17_add_l0 orielref17_add_l1 orielref17_add_l2 orielref17_add_l3 orielref17_add_l4 orielref17_add_l5 orielref17_add_l6 orielref02_Blank_b orielref17_edge_b orielref05_Find_b orielref05_Find_l0 orielref17_Same_b orielref17_Same_l0 orielref17_Same_l1 oriellaw17_bits_b oriellaw17_bits_l0 oriellaw17_bits_l1 orielref12_SameFilter_b orielref12_SameFilter_l0 orielref12_SameFilter_l1 orielref12_Same_b orielref12_Same_l0 orielref12_Same_l1 orielref17_Closure_b orielref17_Closure_l0 orielref17_Closure_l1 orielref17_Closure_l2 orielref17_Moves_b orielref17_Moves_l0
structure Mk where
  n : Int
  E : List (List C)
  T : List (List C)
  s : Int
  e : Int
def st4 (a b k t : Int) : List C := [C.int .i64 a, C.int .i64 b, C.int .i64 k, C.int .i64 t]
def seqF (f : List C → Int → Int → Mk) (t : Int) : List (List C) → Mk → Mk
  | [], m => m
  | r :: l, m => seqF f t l ⟨(f r m.n (t + m.T.length)).n, m.E ++ ((f r m.n (t + m.T.length)).E ++ [st4 m.e (f r m.n (t + m.T.length)).s 0 0]), m.T ++ (f r m.n (t + m.T.length)).T, m.s, (f r m.n (t + m.T.length)).e⟩
structure Al where
  n : Int
  E : List (List C)
  T : List (List C)
  es : List Int
def altF (f : List C → Int → Int → Mk) (t s : Int) : List (List C) → Al → Al
  | [], m => m
  | r :: l, m => altF f t s l ⟨(f r m.n (t + m.T.length)).n, m.E ++ ((f r m.n (t + m.T.length)).E ++ [st4 s (f r m.n (t + m.T.length)).s 0 0]), m.T ++ (f r m.n (t + m.T.length)).T, m.es ++ [(f r m.n (t + m.T.length)).e]⟩
def kindOf (op : Int) : Int := if op = 2 then 1 else if op = 3 then 2 else 0
def mk : Nat → Int → List (List C) → List (List C) → Int → Int → Mk
  | 0, _, _, _, n, _ => ⟨n, [], [], n, n⟩
  | d + 1, op, subs, tests, n, t =>
    if op = 4 then match subs with
      | [] => ⟨n, [], [], n, n⟩
      | r :: l => seqF (fun r => mk d (gi r 0) (gr r 1) (gr r 2)) t l (mk d (gi r 0) (gr r 1) (gr r 2) n t)
    else if op = 5 then
      let a := altF (fun r => mk d (gi r 0) (gr r 1) (gr r 2)) t n subs ⟨n + 1, [], [], []⟩
      ⟨a.n + 1, a.E ++ a.es.map (fun b => st4 b a.n 0 0), a.T, n, a.n⟩
    else if op = 6 then match subs with
      | [] => ⟨n, [], [], n, n⟩
      | r :: _ => ⟨(mk d (gi r 0) (gr r 1) (gr r 2) (n + 1) t).n, (mk d (gi r 0) (gr r 1) (gr r 2) (n + 1) t).E ++ [st4 n (mk d (gi r 0) (gr r 1) (gr r 2) (n + 1) t).s 0 0] ++ [st4 (mk d (gi r 0) (gr r 1) (gr r 2) (n + 1) t).e n 0 0], (mk d (gi r 0) (gr r 1) (gr r 2) (n + 1) t).T, n, n⟩
    else if op = 7 then ⟨n + 2, [st4 n (n + 1) 3 t], tests, n, n + 1⟩
    else ⟨n + 2, [st4 n (n + 1) (kindOf op) 0], [], n, n + 1⟩
structure MkB (c : Nat) (n : Int) (m : Mk) : Prop where
  lo : n ≤ m.n
  hi : m.n ≤ n + 2 * c
  e : m.E.length + 2 ≤ 3 * c
  t : m.T.length ≤ c
def pcs (d : Nat) (l : List (List C)) : Nat := (l.map fun r => pc d (gr r 1)).sum
theorem pcs_cons (d : Nat) (r : List C) (l : List (List C)) : pcs d (r :: l) = pc d (gr r 1) + pcs d l := by simp [pcs]
theorem pc_succ (d : Nat) (l : List (List C)) : pc (d + 1) l = 1 + pcs d l := rfl
theorem seqF_bd {f : List C → Int → Int → Mk} {d : Nat} {t : Int} : ∀ {l : List (List C)} {m : Mk}, (∀ r, r ∈ l → ∀ n t, MkB (pc d (gr r 1)) n (f r n t)) →
    m.n ≤ (seqF f t l m).n ∧ (seqF f t l m).n ≤ m.n + 2 * pcs d l ∧ (seqF f t l m).E.length ≤ m.E.length + 3 * pcs d l ∧ (seqF f t l m).T.length ≤ m.T.length + pcs d l := by
  intro l
  induction l with
  | nil => intro m _; simp [seqF, pcs]
  | cons r l ih =>
    intro m hf
    have h1 := hf r List.mem_cons_self m.n (t + m.T.length)
    have h2 := ih (m := ⟨(f r m.n (t + m.T.length)).n, m.E ++ ((f r m.n (t + m.T.length)).E ++ [st4 m.e (f r m.n (t + m.T.length)).s 0 0]), m.T ++ (f r m.n (t + m.T.length)).T, m.s, (f r m.n (t + m.T.length)).e⟩) (fun r hr => hf r (List.mem_cons_of_mem _ hr))
    obtain ⟨a1, a2, a3, a4⟩ := h1
    rw [pcs_cons]
    simp only [List.length_append, List.length_cons, List.length_nil] at h2
    show m.n ≤ (seqF f t l _).n ∧ (seqF f t l _).n ≤ _ ∧ (seqF f t l _).E.length ≤ _ ∧ (seqF f t l _).T.length ≤ _
    omega
theorem altF_bd {f : List C → Int → Int → Mk} {d : Nat} {t s : Int} : ∀ {l : List (List C)} {m : Al}, (∀ r, r ∈ l → ∀ n t, MkB (pc d (gr r 1)) n (f r n t)) →
    m.n ≤ (altF f t s l m).n ∧ (altF f t s l m).n ≤ m.n + 2 * pcs d l ∧ (altF f t s l m).E.length + (altF f t s l m).es.length ≤ m.E.length + m.es.length + 3 * pcs d l ∧ (altF f t s l m).T.length ≤ m.T.length + pcs d l ∧ (altF f t s l m).es.length = m.es.length + l.length := by
  intro l
  induction l with
  | nil => intro m _; simp [altF, pcs]
  | cons r l ih =>
    intro m hf
    have h1 := hf r List.mem_cons_self m.n (t + m.T.length)
    have h2 := ih (m := ⟨(f r m.n (t + m.T.length)).n, m.E ++ ((f r m.n (t + m.T.length)).E ++ [st4 s (f r m.n (t + m.T.length)).s 0 0]), m.T ++ (f r m.n (t + m.T.length)).T, m.es ++ [(f r m.n (t + m.T.length)).e]⟩) (fun r hr => hf r (List.mem_cons_of_mem _ hr))
    obtain ⟨a1, a2, a3, a4⟩ := h1
    rw [pcs_cons]
    simp only [List.length_append, List.length_cons, List.length_nil] at h2 ⊢
    show m.n ≤ (altF f t s l _).n ∧ (altF f t s l _).n ≤ _ ∧ (altF f t s l _).E.length + (altF f t s l _).es.length ≤ _ ∧ (altF f t s l _).T.length ≤ _ ∧ (altF f t s l _).es.length = _
    omega
theorem mk_bd : ∀ (d : Nat) (op : Int) (subs tests : List (List C)) (n t : Int), POk d op subs tests → MkB (pc d subs) n (mk d op subs tests n t) := by
  intro d
  induction d with
  | zero => intro op subs tests n t h; exact h.elim
  | succ d ih =>
    intro op subs tests n t h
    obtain ⟨h1, h7, h45, h6, h77, ht, hl, h0, hsub⟩ := h
    have hf : ∀ r, r ∈ subs → ∀ n t, MkB (pc d (gr r 1)) n (mk d (gi r 0) (gr r 1) (gr r 2) n t) := fun r hr n t => ih _ _ _ n t (hsub r hr)
    rw [pc_succ]
    unfold mk
    by_cases e4 : op = 4
    · rw [if_pos e4]
      cases subs with
      | nil => have := h45 (.inl e4); simp at this
      | cons r l =>
        have a := hf r List.mem_cons_self n t
        have b := seqF_bd (t := t) (m := mk d (gi r 0) (gr r 1) (gr r 2) n t) (fun r hr => hf r (List.mem_cons_of_mem _ hr))
        obtain ⟨a1, a2, a3, a4⟩ := a
        rw [pcs_cons]
        exact ⟨by show n ≤ (seqF _ _ _ _).n; omega, by show (seqF _ _ _ _).n ≤ _; omega, by show (seqF _ _ _ _).E.length + 2 ≤ _; omega, by show (seqF _ _ _ _).T.length ≤ _; omega⟩
    · rw [if_neg e4]
      by_cases e5 : op = 5
      · rw [if_pos e5]
        have b := altF_bd (t := t) (s := n) (m := ⟨n + 1, [], [], []⟩) hf
        simp only [List.length_nil] at b
        exact ⟨by show n ≤ (altF _ _ _ _ _).n + 1; omega, by show (altF _ _ _ _ _).n + 1 ≤ _; omega, by show ((altF _ _ _ _ _).E ++ _).length + 2 ≤ _; rw [List.length_append, List.length_map]; omega, by show (altF _ _ _ _ _).T.length ≤ _; omega⟩
      · rw [if_neg e5]
        by_cases e6 : op = 6
        · rw [if_pos e6]
          cases subs with
          | nil => have := h6 e6; simp at this
          | cons r l =>
            obtain ⟨a1, a2, a3, a4⟩ := hf r List.mem_cons_self (n + 1) t
            rw [pcs_cons]
            exact ⟨by show n ≤ (mk _ _ _ _ _ _).n; omega, by show (mk _ _ _ _ _ _).n ≤ _; omega, by simp only [List.length_append, List.length_cons, List.length_nil]; omega, by show (mk _ _ _ _ _ _).T.length ≤ _; omega⟩
        · rw [if_neg e6]
          by_cases e7 : op = 7
          · rw [if_pos e7]
            exact ⟨by show n ≤ n + 2; omega, by show n + 2 ≤ _; omega, by show 1 + 2 ≤ _; omega, by show tests.length ≤ _; omega⟩
          · rw [if_neg e7]
            exact ⟨by show n ≤ n + 2; omega, by show n + 2 ≤ _; omega, by show 1 + 2 ≤ _; omega, by show 0 ≤ _; omega⟩
theorem drop_cons {l rest : List (List C)} {r : List C} {i : Nat} (h : l.drop i = r :: rest) : i < l.length ∧ l.getD i [] = r ∧ l.drop (i + 1) = rest := by
  have h1 : i < l.length := by
    rcases Nat.lt_or_ge i l.length with h1 | h1
    · exact h1
    · rw [List.drop_eq_nil_of_le h1] at h; cases h
  rw [List.drop_eq_getElem_cons h1] at h
  obtain ⟨h2, h3⟩ := List.cons.inj h
  exact ⟨h1, by rw [List.getD_eq_getElem?_getD, List.getElem?_eq_getElem h1]; exact h2, h3⟩
end Go.Vm.T
/- The program makes the machine. -/
set_option linter.unusedVariables false
set_option linter.unusedSimpArgs false
namespace Go.Vm.T
open Go Go.Vm Go.Proofs
attribute [local irreducible] lv oriellaw17_ProgCompiles_b oriellaw17_ProgMoves_b oriellaw17_ProgMoves_l0 oriellaw17_ProgMoves_l1 oriellaw17_ProgKeeps_b oriellaw17_ProgKeeps_l0 oriellaw17_ProgKeeps_l1 oriellaw17_ProgShapes_b oriellaw17_ProgShapes_l0 oriellaw17_ProgShapes_l1 oriellaw17_awake_b prog_Compile_b prog_maker_path_b prog_maker_step_b prog_maker_seq_b prog_maker_seq_l0 prog_maker_alt_b prog_maker_alt_l0 prog_maker_alt_l1 prog_maker_alt_l2 prog_maker_alt_l3 prog_maker_state_b prog_maker_lay_b prog_maker_free_b prog_Closure_b prog_Closure_l0 prog_Closure_l1 prog_Closure_l2 prog_Closure_l3 orielref12_Right_b orielref17_SameBits_b orielref17_SameBits_l0 orielref12_Size_b orielref12_size_b orielref12_size_l0 orielref12_size_l1 orielref12_sizeFilter_b orielref12_sizeFilter_l0 orielref12_sizeFilter_l1 prog_Moves_b prog_Moves_l0 orielref12_path_b orielref12_path_l0 orielref12_path_l1 orielref12_filter_b orielref12_filter_l0 orielref12_filter_l1 orielref12_filter_l2 orielref12_filter_l3 orielref12_filter_l4 orielref12_named_b orielref04_Right_b orielref04_Right_l0 orielref03_Plain_b orielref03_Plain_l0 orielref01_All_b orielref01_All_l0 orielref01_All_l1 orielref02_Start_b orielref01_Rune_b orielref01_Rune_l0 orielref01_Put_b orielref01_cut_b orielref01_cut_l0 orielref01_cut_l1 orielref01_cut_l2 orielref01_cut_l3 orielref01_cut_l4 orielref01_value_b orielref01_value_l0 orielref01_value_l1 orielref17_Compile_b orielref02_Char_b orielref02_Part_b orielref01_begins_b orielref01_begins_l0 orielref17_add_b orielref17_add_l0 orielref17_add_l1 orielref17_add_l2 orielref17_add_l3 orielref17_add_l4 orielref17_add_l5 orielref17_add_l6 orielref02_Blank_b orielref17_edge_b orielref05_Find_b orielref05_Find_l0 orielref17_Same_b orielref17_Same_l0 orielref17_Same_l1 oriellaw17_bits_b oriellaw17_bits_l0 oriellaw17_bits_l1 orielref12_SameFilter_b orielref12_SameFilter_l0 orielref12_SameFilter_l1 orielref12_Same_b orielref12_Same_l0 orielref12_Same_l1 orielref17_Closure_b orielref17_Closure_l0 orielref17_Closure_l1 orielref17_Closure_l2 orielref17_Moves_b orielref17_Moves_l0
theorem bytes56 : Try.prog.bytesOf 56 ≤ 1024 := of_decide_eq_true (by kernel_rfl)
theorem bytes51 : Try.prog.bytesOf 51 ≤ 1024 := of_decide_eq_true (by kernel_rfl)
theorem bytes3 : Try.prog.bytesOf 3 ≤ 1024 := of_decide_eq_true (by kernel_rfl)
theorem state_tot (n s e : Int) (E T : List (List C)) (h0 : 0 ≤ n) (h1 : n ≤ 4000000000) : Tot (fun k _ _ => (lv k).prog_maker_state n s e E T) (fun r => r = (n, n + 1, s, e, E, T)) := by
  refine prog_maker_state_up _ _ _ _ _ (Tot.congr ?_ (fun k _ _ => prog_maker_state_q (lv k) k n s e E T))
  rw [wrap_id (x := n + 1) (by omega) (by omega), wrap_id (by omega) (by omega), show n + 1 - 1 = n by omega]
  exact Tot.ret rfl
theorem lay_tot (n s e : Int) (E T l : List (List C)) (h : E.length + l.length ≤ 4000000000) : Tot (fun k _ _ => (lv k).prog_maker_lay n s e E T l) (fun r => r = (n, s, e, E ++ l, T)) := by
  refine prog_maker_lay_up _ _ _ _ _ _ (Tot.congr ?_ (fun k _ _ => prog_maker_lay_q (lv k) k n s e E T l))
  exact Tot.t (roomy_of bytes56 (by omega)) (Tot.ret rfl)
theorem free_tot (n s e : Int) (E T : List (List C)) (a b : Int) (h : E.length ≤ 3000000000) : Tot (fun k _ _ => (lv k).prog_maker_free n s e E T a b) (fun r => r = (n, s, e, E ++ [st4 a b 0 0], T)) := by
  refine prog_maker_free_up _ _ _ _ _ _ _ (Tot.congr ?_ (fun k _ _ => prog_maker_free_q (lv k) k n s e E T a b))
  exact Tot.bind (lay_tot n s e E T _ (by simp; omega)) fun r hr => Tot.ret (by subst hr; rfl)
theorem step_tot (n s e : Int) (E T : List (List C)) (a b : Int) (h0 : 0 ≤ n) (h1 : n ≤ 3000000000) (h : E.length ≤ 3000000000) : Tot (fun k _ _ => (lv k).prog_maker_step n s e E T a b) (fun r => r = (n, n + 1, n + 2, s, e, E ++ [st4 n (n + 1) a b], T)) := by
  refine prog_maker_step_up _ _ _ _ _ _ _ (Tot.congr ?_ (fun k _ _ => prog_maker_step_q (lv k) k n s e E T a b))
  refine Tot.bind (state_tot n s e E T h0 (by omega)) fun r hr => ?_
  subst hr
  refine Tot.bind (state_tot (n + 1) s e E T (by omega) (by omega)) fun r hr => ?_
  subst hr
  refine Tot.bind (lay_tot (n + 1 + 1) s e E T _ (by simp; omega)) fun r hr => Tot.ret ?_
  subst hr
  rw [show n + 1 + 1 = n + 2 by omega]
  rfl
/-- what the making of a path's part is to come to -/
def PP (d : Nat) : Prop := ∀ (op : Int) (subs tests : List (List C)) (n s e : Int) (E T : List (List C)), POk d op subs tests → 0 ≤ n → n + 2 * pc d subs ≤ 1000000 → E.length + 3 * pc d subs ≤ 1000000 → T.length + pc d subs ≤ 1000000 →
  Tot (fun k _ _ => (lv k).prog_maker_path n s e E T op subs tests) (fun r => r = ((mk d op subs tests n T.length).s, (mk d op subs tests n T.length).e, (mk d op subs tests n T.length).n, s, e, E ++ (mk d op subs tests n T.length).E, T ++ (mk d op subs tests n T.length).T))
abbrev fr (d : Nat) (r : List C) (n t : Int) : Mk := mk d (gi r 0) (gr r 1) (gr r 2) n t
theorem take_all (l : List (List C)) : l.take ((l.length : Int).toNat) = l := by rw [Int.toNat_natCast, List.take_length]
theorem seq_tot {d : Nat} (ih : PP d) (r0 : List C) (l0 : List (List C)) (hsub : ∀ r, r ∈ r0 :: l0 → POk d (gi r 0) (gr r 1) (gr r 2)) (hlen : l0.length ≤ 1000) (n s e : Int) (E T : List (List C)) (h0 : 0 ≤ n) (hn : n + 2 * pcs d (r0 :: l0) ≤ 1000000) (hE : E.length + 3 * pcs d (r0 :: l0) ≤ 1000000) (hT : T.length + pcs d (r0 :: l0) ≤ 1000000) :
    Tot (fun k _ _ => (lv k).prog_maker_seq n s e E T (r0 :: l0)) (fun r => r = ((seqF (fr d) T.length l0 (fr d r0 n T.length)).s, (seqF (fr d) T.length l0 (fr d r0 n T.length)).e, (seqF (fr d) T.length l0 (fr d r0 n T.length)).n, s, e, E ++ (seqF (fr d) T.length l0 (fr d r0 n T.length)).E, T ++ (seqF (fr d) T.length l0 (fr d r0 n T.length)).T)) := by
  rw [pcs_cons] at hn hE hT
  have hd : ((r0 :: l0).take (((r0 :: l0).length : Int).toNat)).drop 1 = l0 := by rw [take_all]; rfl
  have loop : ∀ (rest : List (List C)) (m : Mk) (v : Int), 0 ≤ v → l0.drop v.toNat = rest → 0 ≤ m.n → m.n + 2 * pcs d rest ≤ 1000000 → E.length + m.E.length + 3 * pcs d rest ≤ 1000000 → T.length + m.T.length + pcs d rest ≤ 1000000 →
      Tot (fun k a b => prog_maker_seq_l0 (lv k) k n s e E T (r0 :: l0) a m.s m.e v m.n s e (E ++ m.E) (T ++ m.T)) (fun r => r = ((seqF (fr d) T.length rest m).s, (seqF (fr d) T.length rest m).e, (seqF (fr d) T.length rest m).n, s, e, E ++ (seqF (fr d) T.length rest m).E, T ++ (seqF (fr d) T.length rest m).T)) := by
    intro rest
    induction rest with
    | nil =>
      intro m v hv hr _ _ _ _
      refine Tot.step0 (fun k a b => prog_maker_seq_l0_q (lv k) k n s e E T (r0 :: l0) a m.s m.e v m.n s e (E ++ m.E) (T ++ m.T)) ?_
      rw [hd]
      have := List.drop_eq_nil_iff.1 hr
      exact Tot.f (decide_eq_false (by omega)) (Tot.ret rfl)
    | cons r rest ihr =>
      intro m v hv hr h1 h2 h3 h4
      obtain ⟨g1, g2, g3⟩ := drop_cons hr
      refine Tot.step0 (fun k a b => prog_maker_seq_l0_q (lv k) k n s e E T (r0 :: l0) a m.s m.e v m.n s e (E ++ m.E) (T ++ m.T)) ?_
      rw [hd, g2, wrap_id (x := v + 1) (by omega) (by omega)]
      have hok : POk d (gi r 0) (gr r 1) (gr r 2) := hsub r (List.mem_cons_of_mem _ (by rw [← g2]; exact getD_mem g1))
      rw [pcs_cons] at h2 h3 h4
      obtain ⟨b1, b2, b3, b4⟩ := (show MkB (pc d (gr r 1)) m.n (fr d r m.n (T.length + m.T.length)) from mk_bd d _ _ _ m.n _ hok)
      refine Tot.t (decide_eq_true (by omega)) (Tot.t (decide_eq_true (by omega)) (Tot.t (decide_eq_true (by omega)) ?_))
      have hp := ih _ _ _ m.n s e (E ++ m.E) (T ++ m.T) hok h1 (by omega) (by rw [List.length_append]; omega) (by rw [List.length_append]; omega)
      rw [show ((T ++ m.T).length : Int) = T.length + m.T.length by simp] at hp
      refine Tot.bind hp fun x hx => ?_
      subst hx
      have he : (E ++ m.E ++ (fr d r m.n (T.length + m.T.length)).E).length ≤ 3000000000 := by simp only [List.length_append]; omega
      refine Tot.bind (free_tot _ s e _ _ _ _ he) fun x hx => ?_
      subst hx
      have := ihr ⟨(fr d r m.n (T.length + m.T.length)).n, m.E ++ ((fr d r m.n (T.length + m.T.length)).E ++ [st4 m.e (fr d r m.n (T.length + m.T.length)).s 0 0]), m.T ++ (fr d r m.n (T.length + m.T.length)).T, m.s, (fr d r m.n (T.length + m.T.length)).e⟩ (v + 1) (by omega) (by rw [show (v + 1).toNat = v.toNat + 1 by omega]; exact g3)
      have := this (by show (0 : Int) ≤ (fr d r m.n (T.length + m.T.length)).n; omega) (by show (fr d r m.n (T.length + m.T.length)).n + _ ≤ _; omega) (by show E.length + (m.E ++ ((fr d r m.n (T.length + m.T.length)).E ++ [_])).length + _ ≤ _; simp only [List.length_append, List.length_cons, List.length_nil]; omega) (by show T.length + (m.T ++ (fr d r m.n (T.length + m.T.length)).T).length + _ ≤ _; simp only [List.length_append]; omega)
      simp only [List.append_assoc] at this ⊢
      exact this
  refine prog_maker_seq_up _ _ _ _ _ _ (Tot.congr ?_ (fun k _ _ => prog_maker_seq_q (lv k) k n s e E T (r0 :: l0)))
  have hok := hsub r0 List.mem_cons_self
  obtain ⟨b1, b2, b3, b4⟩ := (show MkB (pc d (gr r0 1)) n (fr d r0 n T.length) from mk_bd d _ _ _ n _ hok)
  have hl : ((r0 :: l0).length : Int) = l0.length + 1 := by simp
  refine Tot.t (decide_eq_true (by omega)) ?_
  refine Tot.bind (ih _ _ _ n s e E T hok h0 (by show n + 2 * (pc d (gr r0 1) : Int) ≤ _; omega) (by show E.length + 3 * pc d (gr r0 1) ≤ _; omega) (by show T.length + pc d (gr r0 1) ≤ _; omega)) fun x hx => ?_
  subst hx
  refine Tot.t (decide_eq_true (by omega)) (Tot.t (decide_eq_true (by omega)) (Tot.t (decide_eq_true (by omega)) ?_))
  exact Tot.in0 (loop l0 (fr d r0 n T.length) 0 (by omega) rfl (by omega) (by omega) (by omega) (by omega))
def ends (l : List Int) : List (List C) := l.map fun b => [C.int .i64 b]
theorem ends_get {l rest : List Int} {b : Int} {i : Nat} (h : l.drop i = b :: rest) : i < (ends l).length ∧ gi ((ends l).getD i []) 0 = b ∧ l.drop (i + 1) = rest := by
  have h1 : i < l.length := by
    rcases Nat.lt_or_ge i l.length with h1 | h1
    · exact h1
    · rw [List.drop_eq_nil_of_le h1] at h; cases h
  rw [List.drop_eq_getElem_cons h1] at h
  obtain ⟨h2, h3⟩ := List.cons.inj h
  refine ⟨by simpa [ends] using h1, ?_, h3⟩
  rw [List.getD_eq_getElem?_getD, ends, List.getElem?_map, List.getElem?_eq_getElem h1, h2]
  rfl
theorem alt_tot {d : Nat} (ih : PP d) (r0 : List C) (l0 : List (List C)) (hsub : ∀ r, r ∈ r0 :: l0 → POk d (gi r 0) (gr r 1) (gr r 2)) (hlen : l0.length ≤ 1000) (n s e : Int) (E T : List (List C)) (h0 : 0 ≤ n) (hn : n + 2 * (1 + pcs d (r0 :: l0)) ≤ 1000000) (hE : E.length + 3 * (1 + pcs d (r0 :: l0)) ≤ 1000000) (hT : T.length + pcs d (r0 :: l0) ≤ 1000000) (al : Al) (hal : al = altF (fr d) T.length n (r0 :: l0) ⟨n + 1, [], [], []⟩) :
    Tot (fun k _ _ => (lv k).prog_maker_alt n s e E T (r0 :: l0)) (fun r => r = (n, al.n, al.n + 1, s, e, E ++ (al.E ++ al.es.map (fun b => st4 b al.n 0 0)), T ++ al.T)) := by
  have hl : ((r0 :: l0).length : Int) = l0.length + 1 := by simp
  have l3 : ∀ (es rest : List Int) (v0 v1 w : Int) (n' : Int) (E' T' : List (List C)) (v : Int), 0 ≤ v → es.length ≤ 1000000 → es.drop v.toNat = rest → E'.length + rest.length ≤ 3000000 → Tot (fun k a b => prog_maker_alt_l3 (lv k) k n s e E T (r0 :: l0) a v0 v1 (es.length : Int) v n' s e (ends es) E' T') (fun r => r = (v0, v1, n', s, e, E' ++ rest.map (fun b => st4 b v1 0 0), T')) := by
    intro es rest
    induction rest with
    | nil =>
      intro v0 v1 w n' E' T' v hv he hr _
      refine Tot.step0 (fun k a b => prog_maker_alt_l3_q (lv k) k n s e E T (r0 :: l0) a v0 v1 (es.length : Int) v n' s e (ends es) E' T') ?_
      have := List.drop_eq_nil_iff.1 hr
      exact Tot.f (decide_eq_false (by omega)) (Tot.ret (by simp))
    | cons b rest ihr =>
      intro v0 v1 w n' E' T' v hv he hr hb
      obtain ⟨g1, g2, g3⟩ := ends_get hr
      have g1' : v.toNat < es.length := by simpa [ends] using g1
      refine Tot.step0 (fun k a b => prog_maker_alt_l3_q (lv k) k n s e E T (r0 :: l0) a v0 v1 (es.length : Int) v n' s e (ends es) E' T') ?_
      rw [g2, wrap_id (x := v + 1) (by omega) (by omega)]
      simp only [List.length_cons] at hb
      refine Tot.t (decide_eq_true (by omega)) (Tot.t (decide_eq_true (by omega)) (Tot.t (decide_eq_true (by omega)) ?_))
      refine Tot.bind (free_tot n' s e E' T' b v1 (by omega)) fun x hx => ?_
      subst hx
      have := ihr v0 v1 w n' (E' ++ [st4 b v1 0 0]) T' (v + 1) (by omega) he (by rw [show (v + 1).toNat = v.toNat + 1 by omega]; exact g3) (by simp; omega)
      rw [List.append_assoc] at this
      exact this
  have loop : ∀ (rest : List (List C)) (m : Al) (v : Int), al = altF (fr d) T.length n rest m → 0 ≤ v → (r0 :: l0).drop v.toNat = rest → 0 ≤ m.n → m.n + 2 * pcs d rest ≤ 1000000 → E.length + m.E.length + 3 * pcs d rest + m.es.length ≤ 1000000 → T.length + m.T.length + pcs d rest ≤ 1000000 → m.es.length + rest.length ≤ 2000 →
      Tot (fun k a b => prog_maker_alt_l2 (lv k) k n s e E T (r0 :: l0) a n v m.n s e (ends m.es) (E ++ m.E) (T ++ m.T)) (fun r => r = (n, al.n, al.n + 1, s, e, E ++ (al.E ++ al.es.map (fun b => st4 b al.n 0 0)), T ++ al.T)) := by
    intro rest
    induction rest with
    | nil =>
      intro m v hm hv hr g1 g2 g3 g4 g5
      obtain rfl : al = m := hm
      refine Tot.step0 (fun k a b => prog_maker_alt_l2_q (lv k) k n s e E T (r0 :: l0) a n v al.n s e (ends al.es) (E ++ al.E) (T ++ al.T)) ?_
      have := List.drop_eq_nil_iff.1 hr
      refine Tot.f (decide_eq_false (by omega)) ?_
      refine Tot.bind (state_tot al.n s e (E ++ al.E) (T ++ al.T) g1 (by omega)) fun x hx => ?_
      subst hx
      have := l3 al.es al.es n al.n 0 (al.n + 1) (E ++ al.E) (T ++ al.T) 0 (by omega) (by omega) rfl (by rw [List.length_append]; omega)
      rw [List.append_assoc] at this
      have e1 : ((ends al.es).length : Int) = al.es.length := by simp [ends]
      rw [e1]
      exact Tot.in0 this
    | cons r rest ihr =>
      intro m v hm hv hr h1 h2 h3 h4 h5
      obtain ⟨g1, g2, g3⟩ := drop_cons hr
      refine Tot.step0 (fun k a b => prog_maker_alt_l2_q (lv k) k n s e E T (r0 :: l0) a n v m.n s e (ends m.es) (E ++ m.E) (T ++ m.T)) ?_
      rw [g2, wrap_id (x := v + 1) (by omega) (by omega)]
      have hok : POk d (gi r 0) (gr r 1) (gr r 2) := hsub r (by rw [← g2]; exact getD_mem g1)
      rw [pcs_cons] at h2 h3 h4
      simp only [List.length_cons] at h5
      obtain ⟨b1, b2, b3, b4⟩ := (show MkB (pc d (gr r 1)) m.n (fr d r m.n (T.length + m.T.length)) from mk_bd d _ _ _ m.n _ hok)
      refine Tot.t (decide_eq_true (by omega)) (Tot.t (decide_eq_true (by omega)) (Tot.t (decide_eq_true (by omega)) ?_))
      have hp := ih _ _ _ m.n s e (E ++ m.E) (T ++ m.T) hok h1 (by omega) (by rw [List.length_append]; omega) (by rw [List.length_append]; omega)
      rw [show ((T ++ m.T).length : Int) = T.length + m.T.length by simp] at hp
      refine Tot.bind hp fun x hx => ?_
      subst hx
      have he : (E ++ m.E ++ (fr d r m.n (T.length + m.T.length)).E).length ≤ 3000000000 := by simp only [List.length_append]; omega
      refine Tot.bind (free_tot _ s e _ _ _ _ he) fun x hx => ?_
      subst hx
      refine Tot.t (roomy_of bytes3 (by simp [ends]; omega)) ?_
      have := ihr ⟨(fr d r m.n (T.length + m.T.length)).n, m.E ++ ((fr d r m.n (T.length + m.T.length)).E ++ [st4 n (fr d r m.n (T.length + m.T.length)).s 0 0]), m.T ++ (fr d r m.n (T.length + m.T.length)).T, m.es ++ [(fr d r m.n (T.length + m.T.length)).e]⟩ (v + 1) hm (by omega) (by rw [show (v + 1).toNat = v.toNat + 1 by omega]; exact g3)
      have := this (by show (0 : Int) ≤ (fr d r m.n (T.length + m.T.length)).n; omega) (by show (fr d r m.n (T.length + m.T.length)).n + _ ≤ _; omega) (by show E.length + (m.E ++ ((fr d r m.n (T.length + m.T.length)).E ++ [_])).length + _ + (m.es ++ [_]).length ≤ _; simp only [List.length_append, List.length_cons, List.length_nil]; omega) (by show T.length + (m.T ++ (fr d r m.n (T.length + m.T.length)).T).length + _ ≤ _; simp only [List.length_append]; omega) (by show (m.es ++ [_]).length + _ ≤ _; simp only [List.length_append, List.length_cons, List.length_nil]; omega)
      simp only [ends, List.map_append, List.map_cons, List.map_nil, List.append_assoc] at this ⊢
      exact this
  refine prog_maker_alt_up _ _ _ _ _ _ (Tot.congr ?_ (fun k _ _ => prog_maker_alt_q (lv k) k n s e E T (r0 :: l0)))
  refine Tot.bind (state_tot n s e E T h0 (by omega)) fun x hx => ?_
  subst hx
  refine Tot.in0 (g := fun k a _ => prog_maker_alt_l0 (lv k) k n s e E T (r0 :: l0) a n (n + 1) s e E T) (Tot.step0 (fun k a b => prog_maker_alt_l0_q (lv k) k n s e E T (r0 :: l0) a n (n + 1) s e E T) ?_)
  have hok : POk d (gi r0 0) (gr r0 1) (gr r0 2) := hsub r0 List.mem_cons_self
  rw [pcs_cons] at hn hE hT
  obtain ⟨b1, b2, b3, b4⟩ := (show MkB (pc d (gr r0 1)) (n + 1) (fr d r0 (n + 1) T.length) from mk_bd d _ _ _ (n + 1) _ hok)
  refine Tot.t (decide_eq_true (by omega)) (Tot.t (decide_eq_true (by omega)) ?_)
  refine Tot.bind (ih _ _ _ (n + 1) s e E T hok (by omega) (by show n + 1 + 2 * (pc d (gr r0 1) : Int) ≤ _; omega) (by show E.length + 3 * pc d (gr r0 1) ≤ _; omega) (by show T.length + pc d (gr r0 1) ≤ _; omega)) fun x hx => ?_
  subst hx
  refine Tot.bind (free_tot _ s e _ _ _ _ (by show (E ++ (fr d r0 (n + 1) T.length).E).length ≤ _; rw [List.length_append]; omega)) fun x hx => ?_
  subst hx
  have := loop l0 ⟨(fr d r0 (n + 1) T.length).n, (fr d r0 (n + 1) T.length).E ++ [st4 n (fr d r0 (n + 1) T.length).s 0 0], (fr d r0 (n + 1) T.length).T, [(fr d r0 (n + 1) T.length).e]⟩ 1 (by rw [hal]; simp [altF]) (by omega) rfl (by show (0 : Int) ≤ (fr d r0 (n + 1) T.length).n; omega) (by show (fr d r0 (n + 1) T.length).n + _ ≤ _; omega) (by show E.length + ((fr d r0 (n + 1) T.length).E ++ [_]).length + _ + 1 ≤ _; rw [List.length_append]; simp only [List.length_cons, List.length_nil]; omega) (by show T.length + (fr d r0 (n + 1) T.length).T.length + _ ≤ _; omega) (by show 1 + l0.length ≤ _; omega)
  simp only [ends, List.map_cons, List.map_nil, ← List.append_assoc] at this ⊢
  exact this
theorem mk_4 {d : Nat} {op : Int} {r : List C} {l tests : List (List C)} {n t : Int} (h : op = 4) : mk (d + 1) op (r :: l) tests n t = seqF (fr d) t l (fr d r n t) := by
  show (if op = 4 then _ else _) = _
  rw [if_pos h]
theorem mk_5 {d : Nat} {op : Int} {subs tests : List (List C)} {n t : Int} (h : op = 5) : mk (d + 1) op subs tests n t = ⟨(altF (fr d) t n subs ⟨n + 1, [], [], []⟩).n + 1, (altF (fr d) t n subs ⟨n + 1, [], [], []⟩).E ++ (altF (fr d) t n subs ⟨n + 1, [], [], []⟩).es.map (fun b => st4 b (altF (fr d) t n subs ⟨n + 1, [], [], []⟩).n 0 0), (altF (fr d) t n subs ⟨n + 1, [], [], []⟩).T, n, (altF (fr d) t n subs ⟨n + 1, [], [], []⟩).n⟩ := by
  show (if op = 4 then _ else if op = 5 then _ else _) = _
  rw [if_neg (by omega), if_pos h]
theorem mk_6 {d : Nat} {op : Int} {r : List C} {l tests : List (List C)} {n t : Int} (h : op = 6) : mk (d + 1) op (r :: l) tests n t = ⟨(fr d r (n + 1) t).n, (fr d r (n + 1) t).E ++ [st4 n (fr d r (n + 1) t).s 0 0] ++ [st4 (fr d r (n + 1) t).e n 0 0], (fr d r (n + 1) t).T, n, n⟩ := by
  show (if op = 4 then _ else if op = 5 then _ else if op = 6 then _ else _) = _
  rw [if_neg (by omega), if_neg (by omega), if_pos h]
theorem mk_7 {d : Nat} {op : Int} {subs tests : List (List C)} {n t : Int} (h : op = 7) : mk (d + 1) op subs tests n t = ⟨n + 2, [st4 n (n + 1) 3 t], tests, n, n + 1⟩ := by
  show (if op = 4 then _ else if op = 5 then _ else if op = 6 then _ else if op = 7 then _ else _) = _
  rw [if_neg (by omega), if_neg (by omega), if_neg (by omega), if_pos h]
theorem mk_0 {d : Nat} {op : Int} {subs tests : List (List C)} {n t : Int} (h4 : op ≠ 4) (h5 : op ≠ 5) (h6 : op ≠ 6) (h7 : op ≠ 7) : mk (d + 1) op subs tests n t = ⟨n + 2, [st4 n (n + 1) (kindOf op) 0], [], n, n + 1⟩ := by
  show (if op = 4 then _ else if op = 5 then _ else if op = 6 then _ else if op = 7 then _ else _) = _
  rw [if_neg h4, if_neg h5, if_neg h6, if_neg h7]
theorem path_tot : ∀ d, PP d := by
  intro d
  induction d with
  | zero => intro op subs tests n s e E T h; exact h.elim
  | succ d ih =>
    intro op subs tests n s e E T hok h0 hn hE hT
    obtain ⟨h1, h7, h45, h6, h77, ht, hl, hz, hsub⟩ := hok
    rw [pc_succ] at hn hE hT
    refine prog_maker_path_up _ _ _ _ _ _ _ _ (Tot.congr ?_ (fun k _ _ => prog_maker_path_q (lv k) k n s e E T op subs tests))
    have plain : ∀ kd, op ≠ 4 → op ≠ 5 → op ≠ 6 → op ≠ 7 → kindOf op = kd → Tot (fun k _ _ => ((lv k).prog_maker_step n s e E T kd 0).bind fun r1 => some (r1.1, r1.2.1, r1.2.2.1, r1.2.2.2.1, r1.2.2.2.2.1, r1.2.2.2.2.2.1, r1.2.2.2.2.2.2)) (fun r => r = ((mk (d + 1) op subs tests n T.length).s, (mk (d + 1) op subs tests n T.length).e, (mk (d + 1) op subs tests n T.length).n, s, e, E ++ (mk (d + 1) op subs tests n T.length).E, T ++ (mk (d + 1) op subs tests n T.length).T)) := by
      intro kd a4 a5 a6 a7 hk
      refine Tot.bind (step_tot n s e E T kd 0 h0 (by omega) (by omega)) fun x hx => Tot.ret ?_
      subst hx
      rw [mk_0 a4 a5 a6 a7, hk]
      simp
    refine Tot.cond (fun e2 => plain 1 ?_ ?_ ?_ ?_ ?_) (fun e2 => Tot.cond (fun e3 => plain 2 ?_ ?_ ?_ ?_ ?_) (fun e3 => Tot.cond (fun e4 => ?_) (fun e4 => Tot.cond (fun e5 => ?_) (fun e5 => Tot.cond (fun e6 => ?_) (fun e6 => Tot.cond (fun e7 => ?_) (fun e7 => plain 0 ?_ ?_ ?_ ?_ ?_))))))
    · have := eq_of_beq e2; omega
    · have := eq_of_beq e2; omega
    · have := eq_of_beq e2; omega
    · have := eq_of_beq e2; omega
    · have := eq_of_beq e2; simp [kindOf, this]
    · have := eq_of_beq e3; omega
    · have := eq_of_beq e3; omega
    · have := eq_of_beq e3; omega
    · have := eq_of_beq e3; omega
    · have := eq_of_beq e3; simp [kindOf, this]
    · have e4 := eq_of_beq e4
      cases subs with
      | nil => have := h45 (.inl e4); simp at this
      | cons r0 l0 =>
        refine Tot.bind (seq_tot ih r0 l0 hsub (by simp at hl; omega) n s e E T h0 (by omega) (by omega) (by omega)) fun x hx => Tot.ret ?_
        subst hx
        rw [mk_4 e4]
    · have e5 := eq_of_beq e5
      cases subs with
      | nil => have := h45 (.inr e5); simp at this
      | cons r0 l0 =>
        refine Tot.bind (alt_tot ih r0 l0 hsub (by simp at hl; omega) n s e E T h0 (by omega) (by omega) (by omega) _ rfl) fun x hx => Tot.ret ?_
        subst hx
        rw [mk_5 e5]
    · have e6 := eq_of_beq e6
      cases subs with
      | nil => have := h6 e6; simp at this
      | cons r0 l0 =>
        have hok : POk d (gi r0 0) (gr r0 1) (gr r0 2) := hsub r0 List.mem_cons_self
        rw [pcs_cons] at hn hE hT
        obtain ⟨b1, b2, b3, b4⟩ := (show MkB (pc d (gr r0 1)) (n + 1) (fr d r0 (n + 1) T.length) from mk_bd d _ _ _ (n + 1) _ hok)
        refine Tot.bind (state_tot n s e E T h0 (by omega)) fun x hx => ?_
        subst hx
        refine Tot.t (decide_eq_true (by simp only [List.length_cons]; omega)) ?_
        refine Tot.bind (ih _ _ _ (n + 1) s e E T hok (by omega) (by show n + 1 + 2 * (pc d (gr r0 1) : Int) ≤ _; omega) (by show E.length + 3 * pc d (gr r0 1) ≤ _; omega) (by show T.length + pc d (gr r0 1) ≤ _; omega)) fun x hx => ?_
        subst hx
        refine Tot.bind (free_tot _ s e _ _ _ _ (by show (E ++ (fr d r0 (n + 1) T.length).E).length ≤ _; rw [List.length_append]; omega)) fun x hx => ?_
        subst hx
        refine Tot.bind (free_tot _ s e _ _ _ _ (by show (E ++ (fr d r0 (n + 1) T.length).E ++ [_]).length ≤ _; simp only [List.length_append, List.length_cons, List.length_nil]; omega)) fun x hx => Tot.ret ?_
        subst hx
        rw [mk_6 e6]
        simp only [List.append_assoc]
        rfl
    · have e7 := eq_of_beq e7
      have htl := h77.1 e7
      have hlen : ((T ++ tests).length : Int) = T.length + 1 := by rw [List.length_append, htl]; rfl
      refine Tot.t (roomy_of bytes51 (by omega)) ?_
      rw [hlen, wrap_id (by omega) (by omega), show (T.length : Int) + 1 - 1 = T.length by omega]
      refine Tot.bind (step_tot n s e E (T ++ tests) 3 T.length h0 (by omega) (by omega)) fun x hx => Tot.ret ?_
      subst hx
      rw [mk_7 e7]
    · have := ne_of_beq_false e4; omega
    · have := ne_of_beq_false e5; omega
    · have := ne_of_beq_false e6; omega
    · have := ne_of_beq_false e7; omega
    · have := ne_of_beq_false e2; have := ne_of_beq_false e3; simp [kindOf, *]
theorem compile_tot (op : Int) (subs tests : List (List C)) (hok : POk 16 op subs tests) (hc : pc 16 subs ≤ 64) : Tot (fun k _ _ => (lv k).prog_Compile op subs tests) (fun r => r = ((mk 16 op subs tests 0 0).n, (mk 16 op subs tests 0 0).s, (mk 16 op subs tests 0 0).e, (mk 16 op subs tests 0 0).E, (mk 16 op subs tests 0 0).T)) := by
  refine prog_Compile_up _ _ _ (Tot.congr ?_ (fun k _ _ => prog_Compile_q (lv k) k op subs tests))
  refine Tot.bind (path_tot 16 op subs tests 0 0 0 [] [] hok (by omega) (by omega) (by simp; omega) (by simp; omega)) fun x hx => Tot.ret ?_
  subst hx
  simp
end Go.Vm.T
/- The document makes the same machine. -/
set_option linter.unusedVariables false
set_option linter.unusedSimpArgs false
namespace Go.Vm.T
open Go Go.Vm Go.Proofs
attribute [local irreducible] lv oriellaw17_ProgCompiles_b oriellaw17_ProgMoves_b oriellaw17_ProgMoves_l0 oriellaw17_ProgMoves_l1 oriellaw17_ProgKeeps_b oriellaw17_ProgKeeps_l0 oriellaw17_ProgKeeps_l1 oriellaw17_ProgShapes_b oriellaw17_ProgShapes_l0 oriellaw17_ProgShapes_l1 oriellaw17_awake_b prog_Compile_b prog_maker_path_b prog_maker_step_b prog_maker_seq_b prog_maker_seq_l0 prog_maker_alt_b prog_maker_alt_l0 prog_maker_alt_l1 prog_maker_alt_l2 prog_maker_alt_l3 prog_maker_state_b prog_maker_lay_b prog_maker_free_b prog_Closure_b prog_Closure_l0 prog_Closure_l1 prog_Closure_l2 prog_Closure_l3 orielref12_Right_b orielref17_SameBits_b orielref17_SameBits_l0 orielref12_Size_b orielref12_size_b orielref12_size_l0 orielref12_size_l1 orielref12_sizeFilter_b orielref12_sizeFilter_l0 orielref12_sizeFilter_l1 prog_Moves_b prog_Moves_l0 orielref12_path_b orielref12_path_l0 orielref12_path_l1 orielref12_filter_b orielref12_filter_l0 orielref12_filter_l1 orielref12_filter_l2 orielref12_filter_l3 orielref12_filter_l4 orielref12_named_b orielref04_Right_b orielref04_Right_l0 orielref03_Plain_b orielref03_Plain_l0 orielref01_All_b orielref01_All_l0 orielref01_All_l1 orielref02_Start_b orielref01_Rune_b orielref01_Rune_l0 orielref01_Put_b orielref01_cut_b orielref01_cut_l0 orielref01_cut_l1 orielref01_cut_l2 orielref01_cut_l3 orielref01_cut_l4 orielref01_value_b orielref01_value_l0 orielref01_value_l1 orielref17_Compile_b orielref02_Char_b orielref02_Part_b orielref01_begins_b orielref01_begins_l0 orielref17_add_b orielref17_add_l0 orielref17_add_l1 orielref17_add_l2 orielref17_add_l3 orielref17_add_l4 orielref17_add_l5 orielref17_add_l6 orielref02_Blank_b orielref17_edge_b orielref05_Find_b orielref05_Find_l0 orielref17_Same_b orielref17_Same_l0 orielref17_Same_l1 oriellaw17_bits_b oriellaw17_bits_l0 oriellaw17_bits_l1 orielref12_SameFilter_b orielref12_SameFilter_l0 orielref12_SameFilter_l1 orielref12_Same_b orielref12_Same_l0 orielref12_Same_l1 orielref17_Closure_b orielref17_Closure_l0 orielref17_Closure_l1 orielref17_Closure_l2 orielref17_Moves_b orielref17_Moves_l0
def nf (r : List C) : List C := [C.int .i64 (gi r 0), C.str (gs r 1), C.str (gs r 2), C.str (gs r 3), C.row 51 (gr r 4), C.row 25 (gr r 5)]
theorem edge_tot (n s e : Int) (E T : List (List C)) (a b kd t : Int) (h : E.length ≤ 3000000000) : Tot (fun k _ _ => (lv k).orielref17_edge n s e E T a b kd t) (fun r => r = (n, s, e, E ++ [st4 a b kd t], T)) := by
  refine orielref17_edge_up _ _ _ _ _ _ _ _ _ (Tot.congr ?_ (fun k _ _ => orielref17_edge_q (lv k) k n s e E T a b kd t))
  exact Tot.t (roomy_of bytes56 (by omega)) (Tot.t (roomy_of bytes56 (by omega)) (Tot.ret rfl))
def RA (d : Nat) : Prop := ∀ (op : Int) (subs tests : List (List C)) (n s e : Int) (E T : List (List C)), POk d op subs tests → 0 ≤ n → n + 2 * pc d subs ≤ 1000000 → E.length + 3 * pc d subs ≤ 1000000 → T.length + pc d subs ≤ 1000000 →
  Tot (fun k _ _ => (lv k).orielref17_add n s e E T op subs tests) (fun r => r = ((mk d op subs tests n T.length).n, s, e, E ++ (mk d op subs tests n T.length).E, T ++ (mk d op subs tests n T.length).T.map nf, (mk d op subs tests n T.length).s, (mk d op subs tests n T.length).e))
theorem radd_seq {d : Nat} (ih : RA d) (r0 r1 : List C) (l0 : List (List C)) (tests : List (List C)) (hsub : ∀ r, r ∈ r0 :: r1 :: l0 → POk d (gi r 0) (gr r 1) (gr r 2)) (hlen : l0.length ≤ 1000) (n s e : Int) (E T : List (List C)) (h0 : 0 ≤ n) (hn : n + 2 * pcs d (r0 :: r1 :: l0) ≤ 1000000) (hE : E.length + 3 * pcs d (r0 :: r1 :: l0) ≤ 1000000) (hT : T.length + pcs d (r0 :: r1 :: l0) ≤ 1000000) (al : Mk) (hal : al = seqF (fr d) T.length (r1 :: l0) (fr d r0 n T.length)) :
    Tot (fun k _ _ => ((lv k).orielref17_add n s e E T (gi r0 0) (gr r0 1) (gr r0 2)).bind fun q => orielref17_add_l3 (lv k) k n s e E T 4 (r0 :: r1 :: l0) tests k q.2.2.2.2.2.1 q.1 q.2.1 q.2.2.1 q.2.2.2.1 q.2.2.2.2.1 q.2.2.2.2.2.1 q.2.2.2.2.2.2) (fun r => r = (al.n, s, e, E ++ al.E, T ++ al.T.map nf, al.s, al.e)) := by
  have hl : ((r0 :: r1 :: l0).length : Int) = l0.length + 2 := by simp; omega
  rw [pcs_cons, pcs_cons] at hn hE hT
  have loop : ∀ (rest : List (List C)) (m : Mk) (v : Int), al = seqF (fr d) T.length rest m → 0 ≤ v → (r0 :: r1 :: l0).drop v.toNat = rest → 0 ≤ m.n → m.n + 2 * pcs d rest ≤ 1000000 → E.length + m.E.length + 3 * pcs d rest ≤ 1000000 → T.length + m.T.length + pcs d rest ≤ 1000000 →
      Tot (fun k a b => orielref17_add_l5 (lv k) k n s e E T 4 (r0 :: r1 :: l0) tests a m.s v m.n s e (T ++ m.T.map nf) m.s m.e (E ++ m.E)) (fun r => r = (al.n, s, e, E ++ al.E, T ++ al.T.map nf, al.s, al.e)) := by
    intro rest
    induction rest with
    | nil =>
      intro m v hm hv hr _ _ _ _
      obtain rfl : al = m := hm
      refine Tot.step0 (fun k a b => orielref17_add_l5_q (lv k) k n s e E T 4 (r0 :: r1 :: l0) tests a al.s v al.n s e (T ++ al.T.map nf) al.s al.e (E ++ al.E)) ?_
      have := List.drop_eq_nil_iff.1 hr
      exact Tot.f (decide_eq_false (by omega)) (Tot.ret rfl)
    | cons r rest ihr =>
      intro m v hm hv hr h1 h2 h3 h4
      obtain ⟨g1, g2, g3⟩ := drop_cons hr
      refine Tot.step0 (fun k a b => orielref17_add_l5_q (lv k) k n s e E T 4 (r0 :: r1 :: l0) tests a m.s v m.n s e (T ++ m.T.map nf) m.s m.e (E ++ m.E)) ?_
      rw [g2, wrap_id (x := v + 1) (by omega) (by omega)]
      have hok : POk d (gi r 0) (gr r 1) (gr r 2) := hsub r (by rw [← g2]; exact getD_mem g1)
      rw [pcs_cons] at h2 h3 h4
      obtain ⟨b1, b2, b3, b4⟩ := (show MkB (pc d (gr r 1)) m.n (fr d r m.n (T.length + m.T.length)) from mk_bd d _ _ _ m.n _ hok)
      refine Tot.t (decide_eq_true (by omega)) (Tot.t (decide_eq_true (by omega)) (Tot.t (decide_eq_true (by omega)) ?_))
      have hp := ih _ _ _ m.n s e (E ++ m.E) (T ++ m.T.map nf) hok h1 (by omega) (by rw [List.length_append]; omega) (by rw [List.length_append, List.length_map]; omega)
      rw [show ((T ++ m.T.map nf).length : Int) = T.length + m.T.length by simp] at hp
      refine Tot.bind hp fun x hx => ?_
      subst hx
      have he : (E ++ m.E ++ (fr d r m.n (T.length + m.T.length)).E).length ≤ 3000000000 := by simp only [List.length_append]; omega
      refine Tot.bind (edge_tot _ s e _ _ _ _ 0 0 he) fun x hx => ?_
      subst hx
      have := ihr ⟨(fr d r m.n (T.length + m.T.length)).n, m.E ++ ((fr d r m.n (T.length + m.T.length)).E ++ [st4 m.e (fr d r m.n (T.length + m.T.length)).s 0 0]), m.T ++ (fr d r m.n (T.length + m.T.length)).T, m.s, (fr d r m.n (T.length + m.T.length)).e⟩ (v + 1) hm (by omega) (by rw [show (v + 1).toNat = v.toNat + 1 by omega]; exact g3)
      have := this (by show (0 : Int) ≤ (fr d r m.n (T.length + m.T.length)).n; omega) (by show (fr d r m.n (T.length + m.T.length)).n + _ ≤ _; omega) (by show E.length + (m.E ++ ((fr d r m.n (T.length + m.T.length)).E ++ [_])).length + _ ≤ _; simp only [List.length_append, List.length_cons, List.length_nil]; omega) (by show T.length + (m.T ++ (fr d r m.n (T.length + m.T.length)).T).length + _ ≤ _; simp only [List.length_append]; omega)
      simp only [List.map_append, List.append_assoc] at this ⊢
      exact this
  have hok := hsub r0 List.mem_cons_self
  have hok1 := hsub r1 (List.mem_cons_of_mem _ List.mem_cons_self)
  obtain ⟨b1, b2, b3, b4⟩ := (show MkB (pc d (gr r0 1)) n (fr d r0 n T.length) from mk_bd d _ _ _ n _ hok)
  refine Tot.bind (ih _ _ _ n s e E T hok h0 (by omega) (by omega) (by omega)) fun x hx => ?_
  subst hx
  refine Tot.in0 (g := fun k a _ => orielref17_add_l3 (lv k) k n s e E T 4 (r0 :: r1 :: l0) tests a (fr d r0 n T.length).s (fr d r0 n T.length).n s e (E ++ (fr d r0 n T.length).E) (T ++ (fr d r0 n T.length).T.map nf) (fr d r0 n T.length).s (fr d r0 n T.length).e) (Tot.step0 (fun k a b => orielref17_add_l3_q (lv k) k n s e E T 4 (r0 :: r1 :: l0) tests a (fr d r0 n T.length).s (fr d r0 n T.length).n s e (E ++ (fr d r0 n T.length).E) (T ++ (fr d r0 n T.length).T.map nf) (fr d r0 n T.length).s (fr d r0 n T.length).e) ?_)
  refine Tot.t (decide_eq_true (by omega)) (Tot.t (decide_eq_true (by omega)) ?_)
  obtain ⟨c1, c2, c3, c4⟩ := (show MkB (pc d (gr r1 1)) (fr d r0 n T.length).n (fr d r1 (fr d r0 n T.length).n (T.length + (fr d r0 n T.length).T.length)) from mk_bd d _ _ _ _ _ hok1)
  have hp := ih _ _ _ (fr d r0 n T.length).n s e (E ++ (fr d r0 n T.length).E) (T ++ (fr d r0 n T.length).T.map nf) hok1 (by omega) (by omega) (by rw [List.length_append]; omega) (by rw [List.length_append, List.length_map]; omega)
  rw [show ((T ++ (fr d r0 n T.length).T.map nf).length : Int) = T.length + (fr d r0 n T.length).T.length by simp] at hp
  refine Tot.bind hp fun x hx => ?_
  subst hx
  generalize hm : fr d r0 n T.length = m at *
  have he : (E ++ m.E ++ (fr d r1 m.n (T.length + m.T.length)).E).length ≤ 3000000000 := by simp only [List.length_append]; omega
  refine Tot.bind (edge_tot _ s e _ _ _ _ 0 0 he) fun x hx => ?_
  subst hx
  have := loop l0 ⟨(fr d r1 m.n (T.length + m.T.length)).n, m.E ++ ((fr d r1 m.n (T.length + m.T.length)).E ++ [st4 m.e (fr d r1 m.n (T.length + m.T.length)).s 0 0]), m.T ++ (fr d r1 m.n (T.length + m.T.length)).T, m.s, (fr d r1 m.n (T.length + m.T.length)).e⟩ 2 hal (by omega) rfl (by show (0 : Int) ≤ (fr d r1 m.n (T.length + m.T.length)).n; omega) (by show (fr d r1 m.n (T.length + m.T.length)).n + _ ≤ _; omega) (by show E.length + (m.E ++ ((fr d r1 m.n (T.length + m.T.length)).E ++ [_])).length + _ ≤ _; simp only [List.length_append, List.length_cons, List.length_nil]; omega) (by show T.length + (m.T ++ (fr d r1 m.n (T.length + m.T.length)).T).length + _ ≤ _; simp only [List.length_append]; omega)
  simp only [List.map_append, List.append_assoc] at this ⊢
  exact this
theorem radd_alt {d : Nat} (ih : RA d) (r0 : List C) (l0 : List (List C)) (tests : List (List C)) (hsub : ∀ r, r ∈ r0 :: l0 → POk d (gi r 0) (gr r 1) (gr r 2)) (hlen : l0.length ≤ 1000) (n s e : Int) (E T : List (List C)) (h0 : 0 ≤ n) (hn : n + 2 * (1 + pcs d (r0 :: l0)) ≤ 1000000) (hE : E.length + 3 * (1 + pcs d (r0 :: l0)) ≤ 1000000) (hT : T.length + pcs d (r0 :: l0) ≤ 1000000) (al : Al) (hal : al = altF (fr d) T.length n (r0 :: l0) ⟨n + 1, [], [], []⟩) :
    Tot (fun k _ _ => orielref17_add_l0 (lv k) k n s e E T 5 (r0 :: l0) tests k) (fun r => r = (al.n + 1, s, e, E ++ (al.E ++ al.es.map (fun b => st4 b al.n 0 0)), T ++ al.T.map nf, n, al.n)) := by
  have hl : ((r0 :: l0).length : Int) = l0.length + 1 := by simp
  have l6 : ∀ (es rest : List Int) (v1 : Int) (n' : Int) (E' T' : List (List C)) (v : Int), 0 ≤ v → es.length ≤ 1000000 → es.drop v.toNat = rest → E'.length + rest.length ≤ 3000000 → Tot (fun k a b => orielref17_add_l6 (lv k) k n s e E T 5 (r0 :: l0) tests a v1 v n' s e T' (ends es) E') (fun r => r = (n', s, e, E' ++ rest.map (fun b => st4 b v1 0 0), T', n, v1)) := by
    intro es rest
    induction rest with
    | nil =>
      intro v1 n' E' T' v hv he hr _
      refine Tot.step0 (fun k a b => orielref17_add_l6_q (lv k) k n s e E T 5 (r0 :: l0) tests a v1 v n' s e T' (ends es) E') ?_
      have := List.drop_eq_nil_iff.1 hr
      have e1 : (ends es).length = es.length := by simp [ends]
      exact Tot.f (decide_eq_false (by omega)) (Tot.ret (by simp))
    | cons b rest ihr =>
      intro v1 n' E' T' v hv he hr hb
      obtain ⟨g1, g2, g3⟩ := ends_get hr
      have e1 : (ends es).length = es.length := by simp [ends]
      refine Tot.step0 (fun k a b => orielref17_add_l6_q (lv k) k n s e E T 5 (r0 :: l0) tests a v1 v n' s e T' (ends es) E') ?_
      rw [g2, wrap_id (x := v + 1) (by omega) (by omega)]
      simp only [List.length_cons] at hb
      refine Tot.t (decide_eq_true (by omega)) (Tot.t (decide_eq_true (by omega)) (Tot.t (decide_eq_true (by omega)) ?_))
      refine Tot.bind (edge_tot n' s e E' T' b v1 0 0 (by omega)) fun x hx => ?_
      subst hx
      have := ihr v1 n' (E' ++ [st4 b v1 0 0]) T' (v + 1) (by omega) he (by rw [show (v + 1).toNat = v.toNat + 1 by omega]; exact g3) (by simp; omega)
      rw [List.append_assoc] at this
      exact this
  have loop : ∀ (rest : List (List C)) (m : Al) (v : Int), al = altF (fr d) T.length n rest m → 0 ≤ v → (r0 :: l0).drop v.toNat = rest → 0 ≤ m.n → m.n + 2 * pcs d rest ≤ 1000000 → E.length + m.E.length + 3 * pcs d rest + m.es.length ≤ 1000000 → T.length + m.T.length + pcs d rest ≤ 1000000 → m.es.length + rest.length ≤ 2000 →
      Tot (fun k a b => orielref17_add_l4 (lv k) k n s e E T 5 (r0 :: l0) tests a v m.n s e (T ++ m.T.map nf) (ends m.es) (E ++ m.E)) (fun r => r = (al.n + 1, s, e, E ++ (al.E ++ al.es.map (fun b => st4 b al.n 0 0)), T ++ al.T.map nf, n, al.n)) := by
    intro rest
    induction rest with
    | nil =>
      intro m v hm hv hr g1 g2 g3 g4 g5
      obtain rfl : al = m := hm
      refine Tot.step0 (fun k a b => orielref17_add_l4_q (lv k) k n s e E T 5 (r0 :: l0) tests a v al.n s e (T ++ al.T.map nf) (ends al.es) (E ++ al.E)) ?_
      have := List.drop_eq_nil_iff.1 hr
      refine Tot.f (decide_eq_false (by omega)) ?_
      rw [wrap_id (x := al.n + 1) (by omega) (by omega)]
      have := l6 al.es al.es al.n (al.n + 1) (E ++ al.E) (T ++ al.T.map nf) 0 (by omega) (by omega) rfl (by rw [List.length_append]; omega)
      rw [List.append_assoc] at this
      exact Tot.in0 this
    | cons r rest ihr =>
      intro m v hm hv hr h1 h2 h3 h4 h5
      obtain ⟨g1, g2, g3⟩ := drop_cons hr
      refine Tot.step0 (fun k a b => orielref17_add_l4_q (lv k) k n s e E T 5 (r0 :: l0) tests a v m.n s e (T ++ m.T.map nf) (ends m.es) (E ++ m.E)) ?_
      rw [g2, wrap_id (x := v + 1) (by omega) (by omega)]
      have hok : POk d (gi r 0) (gr r 1) (gr r 2) := hsub r (by rw [← g2]; exact getD_mem g1)
      rw [pcs_cons] at h2 h3 h4
      simp only [List.length_cons] at h5
      obtain ⟨b1, b2, b3, b4⟩ := (show MkB (pc d (gr r 1)) m.n (fr d r m.n (T.length + m.T.length)) from mk_bd d _ _ _ m.n _ hok)
      refine Tot.t (decide_eq_true (by omega)) (Tot.t (decide_eq_true (by omega)) (Tot.t (decide_eq_true (by omega)) ?_))
      have hp := ih _ _ _ m.n s e (E ++ m.E) (T ++ m.T.map nf) hok h1 (by omega) (by rw [List.length_append]; omega) (by rw [List.length_append, List.length_map]; omega)
      rw [show ((T ++ m.T.map nf).length : Int) = T.length + m.T.length by simp] at hp
      refine Tot.bind hp fun x hx => ?_
      subst hx
      have he : (E ++ m.E ++ (fr d r m.n (T.length + m.T.length)).E).length ≤ 3000000000 := by simp only [List.length_append]; omega
      refine Tot.bind (edge_tot _ s e _ _ _ _ 0 0 he) fun x hx => ?_
      subst hx
      refine Tot.t (roomy_of bytes3 (by simp [ends]; omega)) ?_
      have := ihr ⟨(fr d r m.n (T.length + m.T.length)).n, m.E ++ ((fr d r m.n (T.length + m.T.length)).E ++ [st4 n (fr d r m.n (T.length + m.T.length)).s 0 0]), m.T ++ (fr d r m.n (T.length + m.T.length)).T, m.es ++ [(fr d r m.n (T.length + m.T.length)).e]⟩ (v + 1) hm (by omega) (by rw [show (v + 1).toNat = v.toNat + 1 by omega]; exact g3)
      have := this (by show (0 : Int) ≤ (fr d r m.n (T.length + m.T.length)).n; omega) (by show (fr d r m.n (T.length + m.T.length)).n + _ ≤ _; omega) (by show E.length + (m.E ++ ((fr d r m.n (T.length + m.T.length)).E ++ [_])).length + _ + (m.es ++ [_]).length ≤ _; simp only [List.length_append, List.length_cons, List.length_nil]; omega) (by show T.length + (m.T ++ (fr d r m.n (T.length + m.T.length)).T).length + _ ≤ _; simp only [List.length_append]; omega) (by show (m.es ++ [_]).length + _ ≤ _; simp only [List.length_append, List.length_cons, List.length_nil]; omega)
      simp only [ends, List.map_append, List.map_cons, List.map_nil, List.append_assoc] at this ⊢
      exact this
  refine Tot.in0 (g := fun k a _ => orielref17_add_l0 (lv k) k n s e E T 5 (r0 :: l0) tests a) (Tot.step0 (fun k a b => orielref17_add_l0_q (lv k) k n s e E T 5 (r0 :: l0) tests a) ?_)
  have hok : POk d (gi r0 0) (gr r0 1) (gr r0 2) := hsub r0 List.mem_cons_self
  rw [pcs_cons] at hn hE hT
  rw [wrap_id (x := n + 1) (by omega) (by omega)]
  obtain ⟨b1, b2, b3, b4⟩ := (show MkB (pc d (gr r0 1)) (n + 1) (fr d r0 (n + 1) T.length) from mk_bd d _ _ _ (n + 1) _ hok)
  refine Tot.t (decide_eq_true (by omega)) (Tot.t (decide_eq_true (by omega)) ?_)
  refine Tot.bind (ih _ _ _ (n + 1) s e E T hok (by omega) (by show n + 1 + 2 * (pc d (gr r0 1) : Int) ≤ _; omega) (by show E.length + 3 * pc d (gr r0 1) ≤ _; omega) (by show T.length + pc d (gr r0 1) ≤ _; omega)) fun x hx => ?_
  subst hx
  refine Tot.bind (edge_tot _ s e _ _ _ _ 0 0 (by show (E ++ (fr d r0 (n + 1) T.length).E).length ≤ _; rw [List.length_append]; omega)) fun x hx => ?_
  subst hx
  have := loop l0 ⟨(fr d r0 (n + 1) T.length).n, (fr d r0 (n + 1) T.length).E ++ [st4 n (fr d r0 (n + 1) T.length).s 0 0], (fr d r0 (n + 1) T.length).T, [(fr d r0 (n + 1) T.length).e]⟩ 1 (by rw [hal]; simp [altF]) (by omega) rfl (by show (0 : Int) ≤ (fr d r0 (n + 1) T.length).n; omega) (by show (fr d r0 (n + 1) T.length).n + _ ≤ _; omega) (by show E.length + ((fr d r0 (n + 1) T.length).E ++ [_]).length + _ + 1 ≤ _; rw [List.length_append]; simp only [List.length_cons, List.length_nil]; omega) (by show T.length + (fr d r0 (n + 1) T.length).T.length + _ ≤ _; omega) (by show 1 + l0.length ≤ _; omega)
  simp only [ends, List.map_cons, List.map_nil, ← List.append_assoc] at this ⊢
  exact this
theorem radd_tot : ∀ d, RA d := by
  intro d
  induction d with
  | zero => intro op subs tests n s e E T h; exact h.elim
  | succ d ih =>
    intro op subs tests n s e E T hok h0 hn hE hT
    obtain ⟨h1, h7, h45, h6, h77, ht, hl, hz, hsub⟩ := hok
    rw [pc_succ] at hn hE hT
    refine orielref17_add_up _ _ _ _ _ _ _ _ (Tot.congr ?_ (fun k _ _ => orielref17_add_q (lv k) k n s e E T op subs tests))
    have plain : ∀ kd, op ≠ 4 → op ≠ 5 → op ≠ 6 → (op ≠ 7 → kindOf op = kd) → Tot (fun k _ _ => orielref17_add_l1 (lv k) k n s e E T op subs tests kd) (fun r => r = ((mk (d + 1) op subs tests n T.length).n, s, e, E ++ (mk (d + 1) op subs tests n T.length).E, T ++ (mk (d + 1) op subs tests n T.length).T.map nf, (mk (d + 1) op subs tests n T.length).s, (mk (d + 1) op subs tests n T.length).e)) := by
      intro kd a4 a5 a6 hk
      refine Tot.congr ?_ (fun k _ _ => orielref17_add_l1_q (lv k) k n s e E T op subs tests kd)
      rw [wrap_id (x := n + 2) (by omega) (by omega), wrap_id (x := n + 1) (by omega) (by omega)]
      refine Tot.cond (fun e7 => ?_) (fun e7 => ?_)
      · have e7 := eq_of_beq e7
        have htl := h77.1 e7
        rw [mk_7 e7]
        refine Tot.t (roomy_of bytes51 (by omega)) (Tot.t (decide_eq_true (by omega)) (Tot.t (roomy_of bytes51 (by omega)) ?_))
        have e1 : tests.map nf = [nf (tests.getD 0 [])] := by
          cases tests with
          | nil => simp at htl
          | cons r l =>
            cases l with
            | nil => rfl
            | cons _ _ => simp at htl
        refine Tot.bind (edge_tot (n + 2) s e E _ n (n + 1) 3 (T.length : Int) (by omega)) fun x hx => Tot.ret ?_
        subst hx
        rw [e1]
        rfl
      · have e7 := ne_of_beq_false e7
        rw [mk_0 a4 a5 a6 e7]
        refine Tot.bind (edge_tot (n + 2) s e E T n (n + 1) kd 0 (by omega)) fun x hx => Tot.ret ?_
        subst hx
        rw [hk e7]
        simp
    refine Tot.cond (fun e4 => ?_) (fun e4 => Tot.cond (fun e5 => ?_) (fun e5 => Tot.cond (fun e6 => ?_) (fun e6 => ?_)))
    · have e4 := eq_of_beq e4
      subst e4
      cases subs with
      | nil => have := h45 (.inl rfl); simp at this
      | cons r0 l0 =>
        cases l0 with
        | nil => have := h45 (.inl rfl); simp at this
        | cons r1 l0 =>
          rw [mk_4 rfl]
          refine Tot.t (decide_eq_true (by simp only [List.length_cons]; omega)) ?_
          exact radd_seq ih r0 r1 l0 tests hsub (by simp at hl; omega) n s e E T h0 (by omega) (by omega) (by omega) _ rfl
    · have e5 := eq_of_beq e5
      subst e5
      cases subs with
      | nil => have := h45 (.inr rfl); simp at this
      | cons r0 l0 =>
        rw [mk_5 rfl]
        exact radd_alt ih r0 l0 tests hsub (by simp at hl; omega) n s e E T h0 (by omega) (by omega) (by omega) _ rfl
    · have e6 := eq_of_beq e6
      cases subs with
      | nil => have := h6 e6; simp at this
      | cons r0 l0 =>
        have hok : POk d (gi r0 0) (gr r0 1) (gr r0 2) := hsub r0 List.mem_cons_self
        rw [pcs_cons] at hn hE hT
        obtain ⟨b1, b2, b3, b4⟩ := (show MkB (pc d (gr r0 1)) (n + 1) (fr d r0 (n + 1) T.length) from mk_bd d _ _ _ (n + 1) _ hok)
        rw [wrap_id (x := n + 1) (by omega) (by omega), mk_6 e6]
        refine Tot.t (decide_eq_true (by simp only [List.length_cons]; omega)) ?_
        refine Tot.bind (ih _ _ _ (n + 1) s e E T hok (by omega) (by show n + 1 + 2 * (pc d (gr r0 1) : Int) ≤ _; omega) (by show E.length + 3 * pc d (gr r0 1) ≤ _; omega) (by show T.length + pc d (gr r0 1) ≤ _; omega)) fun x hx => ?_
        subst hx
        refine Tot.bind (edge_tot _ s e _ _ _ _ 0 0 (by show (E ++ (fr d r0 (n + 1) T.length).E).length ≤ _; rw [List.length_append]; omega)) fun x hx => ?_
        subst hx
        refine Tot.bind (edge_tot _ s e _ _ _ _ 0 0 (by show (E ++ (fr d r0 (n + 1) T.length).E ++ [_]).length ≤ _; simp only [List.length_append, List.length_cons, List.length_nil]; omega)) fun x hx => Tot.ret ?_
        subst hx
        simp only [List.append_assoc]
        rfl
    · have a4 := ne_of_beq_false e4
      have a5 := ne_of_beq_false e5
      have a6 := ne_of_beq_false e6
      refine Tot.cond (fun e2 => ?_) (fun e2 => Tot.cond (fun e3 => plain 2 a4 a5 a6 ?_) (fun e3 => plain 0 a4 a5 a6 ?_))
      · have e2 := eq_of_beq e2
        exact Tot.f (by rw [beq_eq_false_iff_ne]; omega) (plain 1 a4 a5 a6 (by intro _; simp [kindOf, e2]))
      · have e3 := eq_of_beq e3
        intro _
        simp [kindOf, e3]
      · have e2 := ne_of_beq_false e2
        have e3 := ne_of_beq_false e3
        intro _
        simp [kindOf, e2, e3]
theorem rcompile_tot (op : Int) (subs tests : List (List C)) (hok : POk 16 op subs tests) (hc : pc 16 subs ≤ 64) : Tot (fun k _ _ => (lv k).orielref17_Compile op subs tests) (fun r => r = ((mk 16 op subs tests 0 0).n, (mk 16 op subs tests 0 0).s, (mk 16 op subs tests 0 0).e, (mk 16 op subs tests 0 0).E, (mk 16 op subs tests 0 0).T.map nf)) := by
  refine orielref17_Compile_up _ _ _ (Tot.congr ?_ (fun k _ _ => orielref17_Compile_q (lv k) k op subs tests))
  refine Tot.bind (radd_tot 16 op subs tests 0 0 0 [] [] hok (by omega) (by omega) (by simp; omega) (by simp; omega)) fun x hx => Tot.ret ?_
  subst hx
  simp
end Go.Vm.T
/- The law's examples. -/
set_option linter.unusedVariables false
namespace Go.Vm.T
open Go Go.Vm Go.Proofs
theorem awake_at (m : Nat) : (lv (m + 24)).oriellaw17_awake = some true := by kernel_rfl
theorem awake_tot : Tot (fun k _ _ => (lv k).oriellaw17_awake) (fun r => r = true) :=
  ⟨true, rfl, 24, fun n _ _ hn _ _ => by
    obtain ⟨m, rfl⟩ : ∃ m, n = m + 24 := ⟨n - 24, by omega⟩
    exact awake_at m⟩
end Go.Vm.T
/- The same machine is the same; the law. -/
set_option linter.unusedVariables false
set_option linter.unusedSimpArgs false
namespace Go.Vm.T
open Go Go.Vm Go.Proofs
attribute [local irreducible] lv oriellaw17_ProgCompiles_b oriellaw17_ProgMoves_b oriellaw17_ProgMoves_l0 oriellaw17_ProgMoves_l1 oriellaw17_ProgKeeps_b oriellaw17_ProgKeeps_l0 oriellaw17_ProgKeeps_l1 oriellaw17_ProgShapes_b oriellaw17_ProgShapes_l0 oriellaw17_ProgShapes_l1 oriellaw17_awake_b prog_Compile_b prog_maker_path_b prog_maker_step_b prog_maker_seq_b prog_maker_seq_l0 prog_maker_alt_b prog_maker_alt_l0 prog_maker_alt_l1 prog_maker_alt_l2 prog_maker_alt_l3 prog_maker_state_b prog_maker_lay_b prog_maker_free_b prog_Closure_b prog_Closure_l0 prog_Closure_l1 prog_Closure_l2 prog_Closure_l3 orielref12_Right_b orielref17_SameBits_b orielref17_SameBits_l0 orielref12_Size_b orielref12_size_b orielref12_size_l0 orielref12_size_l1 orielref12_sizeFilter_b orielref12_sizeFilter_l0 orielref12_sizeFilter_l1 prog_Moves_b prog_Moves_l0 orielref12_path_b orielref12_path_l0 orielref12_path_l1 orielref12_filter_b orielref12_filter_l0 orielref12_filter_l1 orielref12_filter_l2 orielref12_filter_l3 orielref12_filter_l4 orielref12_named_b orielref04_Right_b orielref04_Right_l0 orielref03_Plain_b orielref03_Plain_l0 orielref01_All_b orielref01_All_l0 orielref01_All_l1 orielref02_Start_b orielref01_Rune_b orielref01_Rune_l0 orielref01_Put_b orielref01_cut_b orielref01_cut_l0 orielref01_cut_l1 orielref01_cut_l2 orielref01_cut_l3 orielref01_cut_l4 orielref01_value_b orielref01_value_l0 orielref01_value_l1 orielref17_Compile_b orielref02_Char_b orielref02_Part_b orielref01_begins_b orielref01_begins_l0 orielref17_add_b orielref17_add_l0 orielref17_add_l1 orielref17_add_l2 orielref17_add_l3 orielref17_add_l4 orielref17_add_l5 orielref17_add_l6 orielref02_Blank_b orielref17_edge_b orielref05_Find_b orielref05_Find_l0 orielref17_Same_b orielref17_Same_l0 orielref17_Same_l1 oriellaw17_bits_b oriellaw17_bits_l0 oriellaw17_bits_l1 orielref12_SameFilter_b orielref12_SameFilter_l0 orielref12_SameFilter_l1 orielref12_Same_b orielref12_Same_l0 orielref12_Same_l1 orielref17_Closure_b orielref17_Closure_l0 orielref17_Closure_l1 orielref17_Closure_l2 orielref17_Moves_b orielref17_Moves_l0
theorem beq_list (l : List UInt8) : (l == l) = true := by simp
theorem beq_bytes (a : ByteArray) : (a == a) = true := by
  cases a with
  | mk d => show (d == d) = true; simp
theorem beq_int (a : Int) : (a == a) = true := by simp
theorem same_tots : ∀ M : Nat,
    (∀ (op : Int) (subs tests : List (List C)), SizeOf.sizeOf subs + SizeOf.sizeOf tests < M → SmL BB subs → SmL BB tests → Tot (fun k _ _ => (lv k).orielref12_Same op subs tests op subs tests) (fun r => r = true)) ∧
    (∀ (op : Int) (a b c : ByteArray) (subs ways : List (List C)), SizeOf.sizeOf subs + SizeOf.sizeOf ways < M → SmL BB subs → SmL BB ways → Tot (fun k _ _ => (lv k).orielref12_SameFilter op a b c subs ways op a b c subs ways) (fun r => r = true)) := by
  intro M
  induction M with
  | zero => exact ⟨fun _ _ _ h => by omega, fun _ _ _ _ _ _ h => by omega⟩
  | succ M ih =>
    constructor
    · intro op subs tests hM hs ht
      have hsl : subs.length ≤ 1048576 := hs.1
      have htl : tests.length ≤ 1048576 := ht.1
      refine orielref12_Same_up _ _ _ _ _ _ (Tot.congr ?_ (fun k _ _ => orielref12_Same_q (lv k) k op subs tests op subs tests))
      rw [beq_int, beq_int, beq_int]
      refine Tot.f rfl (Tot.f rfl (Tot.f rfl ?_))
      have l1 : ∀ (n : Nat) (v : Int), 0 ≤ v → ((tests.length : Int) - v).toNat = n → Tot (fun k a b => orielref12_Same_l1 (lv k) k op subs tests op subs tests a v) (fun r => r = true) := by
        intro n
        induction n with
        | zero =>
          intro v h0 h1
          refine Tot.step0 (fun k a b => orielref12_Same_l1_q (lv k) k op subs tests op subs tests a v) ?_
          exact Tot.f (decide_eq_false (by omega)) (Tot.ret rfl)
        | succ n ihn =>
          intro v h0 h1
          refine Tot.step0 (fun k a b => orielref12_Same_l1_q (lv k) k op subs tests op subs tests a v) ?_
          rw [wrap_id (x := v + 1) (by omega) (by omega)]
          refine Tot.t (decide_eq_true (by omega)) (Tot.t (decide_eq_true (by omega)) (Tot.t (decide_eq_true (by omega)) (Tot.t (decide_eq_true (by omega)) (Tot.t (decide_eq_true (by omega)) ?_))))
          have hmem : tests.getD v.toNat [] ∈ tests := getD_mem (by omega)
          have hr := ht.get v.toNat
          refine Tot.bind (ih.2 _ _ _ _ _ _ (by have := gr_lt (i := 4) (j := 5) hmem (by omega); omega) (hr.gr 4) (hr.gr 5)) fun r hr => ?_
          subst hr
          exact Tot.f rfl (ihn _ (by omega) (by omega))
      have l0 : ∀ (n : Nat) (v : Int), 0 ≤ v → ((subs.length : Int) - v).toNat = n → Tot (fun k a b => orielref12_Same_l0 (lv k) k op subs tests op subs tests a v) (fun r => r = true) := by
        intro n
        induction n with
        | zero =>
          intro v h0 h1
          refine Tot.step0 (fun k a b => orielref12_Same_l0_q (lv k) k op subs tests op subs tests a v) ?_
          exact Tot.f (decide_eq_false (by omega)) (Tot.in0 (l1 _ 0 (by omega) rfl))
        | succ n ihn =>
          intro v h0 h1
          refine Tot.step0 (fun k a b => orielref12_Same_l0_q (lv k) k op subs tests op subs tests a v) ?_
          rw [wrap_id (x := v + 1) (by omega) (by omega)]
          refine Tot.t (decide_eq_true (by omega)) (Tot.t (decide_eq_true (by omega)) (Tot.t (decide_eq_true (by omega)) (Tot.t (decide_eq_true (by omega)) (Tot.t (decide_eq_true (by omega)) ?_))))
          have hmem : subs.getD v.toNat [] ∈ subs := getD_mem (by omega)
          have hr := hs.get v.toNat
          refine Tot.bind (ih.1 _ _ _ (by have := gr_lt (i := 1) (j := 2) hmem (by omega); omega) (hr.gr 1) (hr.gr 2)) fun r hr => ?_
          subst hr
          exact Tot.f rfl (ihn _ (by omega) (by omega))
      exact Tot.in0 (l0 _ 0 (by omega) rfl)
    · intro op x y z subs ways hM hs ht
      have hsl : subs.length ≤ 1048576 := hs.1
      have htl : ways.length ≤ 1048576 := ht.1
      refine orielref12_SameFilter_up _ _ _ _ _ _ _ _ _ _ _ _ (Tot.congr ?_ (fun k _ _ => orielref12_SameFilter_q (lv k) k op x y z subs ways op x y z subs ways))
      rw [beq_int, beq_int, beq_int, beq_bytes, beq_bytes, beq_list]
      refine Tot.f rfl (Tot.f rfl (Tot.f rfl (Tot.f rfl (Tot.f rfl ?_))))
      have l1 : ∀ (n : Nat) (v : Int), 0 ≤ v → ((ways.length : Int) - v).toNat = n → Tot (fun k a b => orielref12_SameFilter_l1 (lv k) k op x y z subs ways op x y z subs ways a v) (fun r => r = true) := by
        intro n
        induction n with
        | zero =>
          intro v h0 h1
          refine Tot.step0 (fun k a b => orielref12_SameFilter_l1_q (lv k) k op x y z subs ways op x y z subs ways a v) ?_
          exact Tot.f (decide_eq_false (by omega)) (Tot.ret rfl)
        | succ n ihn =>
          intro v h0 h1
          refine Tot.step0 (fun k a b => orielref12_SameFilter_l1_q (lv k) k op x y z subs ways op x y z subs ways a v) ?_
          rw [wrap_id (x := v + 1) (by omega) (by omega)]
          refine Tot.t (decide_eq_true (by omega)) (Tot.t (decide_eq_true (by omega)) (Tot.t (decide_eq_true (by omega)) (Tot.t (decide_eq_true (by omega)) (Tot.t (decide_eq_true (by omega)) ?_))))
          have hmem : ways.getD v.toNat [] ∈ ways := getD_mem (by omega)
          have hr := ht.get v.toNat
          refine Tot.bind (ih.1 _ _ _ (by have := gr_lt (i := 1) (j := 2) hmem (by omega); omega) (hr.gr 1) (hr.gr 2)) fun r hr => ?_
          subst hr
          exact Tot.f rfl (ihn _ (by omega) (by omega))
      have l0 : ∀ (n : Nat) (v : Int), 0 ≤ v → ((subs.length : Int) - v).toNat = n → Tot (fun k a b => orielref12_SameFilter_l0 (lv k) k op x y z subs ways op x y z subs ways a v) (fun r => r = true) := by
        intro n
        induction n with
        | zero =>
          intro v h0 h1
          refine Tot.step0 (fun k a b => orielref12_SameFilter_l0_q (lv k) k op x y z subs ways op x y z subs ways a v) ?_
          exact Tot.f (decide_eq_false (by omega)) (Tot.in0 (l1 _ 0 (by omega) rfl))
        | succ n ihn =>
          intro v h0 h1
          refine Tot.step0 (fun k a b => orielref12_SameFilter_l0_q (lv k) k op x y z subs ways op x y z subs ways a v) ?_
          rw [wrap_id (x := v + 1) (by omega) (by omega)]
          refine Tot.t (decide_eq_true (by omega)) (Tot.t (decide_eq_true (by omega)) (Tot.t (decide_eq_true (by omega)) (Tot.t (decide_eq_true (by omega)) (Tot.t (decide_eq_true (by omega)) ?_))))
          have hmem : subs.getD v.toNat [] ∈ subs := getD_mem (by omega)
          have hr := hs.get v.toNat
          refine Tot.bind (ih.2 _ _ _ _ _ _ (by have := gr_lt (i := 4) (j := 5) hmem (by omega); omega) (hr.gr 4) (hr.gr 5)) fun r hr => ?_
          subst hr
          exact Tot.f rfl (ihn _ (by omega) (by omega))
      exact Tot.in0 (l0 _ 0 (by omega) rfl)
theorem same17_tot (n s e : Int) (E T : List (List C)) (hE : E.length ≤ 1000000) (hT : SmL BB T) : Tot (fun k _ _ => (lv k).orielref17_Same n s e E T n s e E (T.map nf)) (fun r => r = true) := by
  have htl : T.length ≤ 1048576 := hT.1
  have hml : (T.map nf).length = T.length := List.length_map _
  refine orielref17_Same_up _ _ _ _ _ _ _ _ _ _ (Tot.congr ?_ (fun k _ _ => orielref17_Same_q (lv k) k n s e E T n s e E (T.map nf)))
  rw [hml, beq_int, beq_int, beq_int, beq_int, beq_int]
  refine Tot.f rfl (Tot.f rfl (Tot.f rfl (Tot.f rfl (Tot.f rfl ?_))))
  have l1 : ∀ (d : Nat) (v : Int), 0 ≤ v → ((T.length : Int) - v).toNat = d → Tot (fun k a b => orielref17_Same_l1 (lv k) k n s e E T n s e E (T.map nf) a v) (fun r => r = true) := by
    intro d
    induction d with
    | zero =>
      intro v h0 h1
      refine Tot.step0 (fun k a b => orielref17_Same_l1_q (lv k) k n s e E T n s e E (T.map nf) a v) ?_
      exact Tot.f (decide_eq_false (by omega)) (Tot.ret rfl)
    | succ d ihn =>
      intro v h0 h1
      refine Tot.step0 (fun k a b => orielref17_Same_l1_q (lv k) k n s e E T n s e E (T.map nf) a v) ?_
      have hget : (T.map nf).getD v.toNat [] = nf (T.getD v.toNat []) := by
        have hj : v.toNat < T.length := by omega
        simp [List.getD_eq_getElem?_getD, List.getElem?_map, List.getElem?_eq_getElem hj]
      rw [wrap_id (x := v + 1) (by omega) (by omega), hget]
      refine Tot.t (decide_eq_true (by omega)) (Tot.t (decide_eq_true (by omega)) (Tot.t (decide_eq_true (by omega)) (Tot.t (decide_eq_true (by omega)) (Tot.t (decide_eq_true (by omega)) ?_))))
      have hr := hT.get v.toNat
      refine Tot.bind ((same_tots _).2 _ _ _ _ _ _ (Nat.lt_succ_self _) (hr.gr 4) (hr.gr 5)) fun r hr => ?_
      subst hr
      exact Tot.f rfl (ihn _ (by omega) (by omega))
  have l0 : ∀ (d : Nat) (v : Int), 0 ≤ v → ((E.length : Int) - v).toNat = d → Tot (fun k a b => orielref17_Same_l0 (lv k) k n s e E T n s e E (T.map nf) a v) (fun r => r = true) := by
    intro d
    induction d with
    | zero =>
      intro v h0 h1
      refine Tot.step0 (fun k a b => orielref17_Same_l0_q (lv k) k n s e E T n s e E (T.map nf) a v) ?_
      exact Tot.f (decide_eq_false (by omega)) (Tot.in0 (l1 _ 0 (by omega) rfl))
    | succ d ihn =>
      intro v h0 h1
      refine Tot.step0 (fun k a b => orielref17_Same_l0_q (lv k) k n s e E T n s e E (T.map nf) a v) ?_
      rw [wrap_id (x := v + 1) (by omega) (by omega), beq_int, beq_int, beq_int, beq_int]
      refine Tot.t (decide_eq_true (by omega)) (Tot.t (decide_eq_true (by omega)) (Tot.t (decide_eq_true (by omega)) (Tot.t (decide_eq_true (by omega)) (Tot.t (decide_eq_true (by omega)) ?_))))
      exact Tot.f rfl (ihn _ (by omega) (by omega))
  exact Tot.in0 (l0 _ 0 (by omega) rfl)
/-- the tests of a machine are tests of the path -/
theorem seqF_sm {f : List C → Int → Int → Mk} {t : Int} : ∀ {l : List (List C)} {m : Mk}, (∀ r, r ∈ l → ∀ n t x, x ∈ (f r n t).T → SmR BB x) → (∀ x, x ∈ m.T → SmR BB x) → ∀ x, x ∈ (seqF f t l m).T → SmR BB x := by
  intro l
  induction l with
  | nil => intro m _ h; exact h
  | cons r l ih =>
    intro m hf hm
    refine ih (fun r hr => hf r (List.mem_cons_of_mem _ hr)) fun x hx => ?_
    rcases List.mem_append.1 hx with hx | hx
    · exact hm x hx
    · exact hf r List.mem_cons_self _ _ x hx
theorem altF_sm {f : List C → Int → Int → Mk} {t s : Int} : ∀ {l : List (List C)} {m : Al}, (∀ r, r ∈ l → ∀ n t x, x ∈ (f r n t).T → SmR BB x) → (∀ x, x ∈ m.T → SmR BB x) → ∀ x, x ∈ (altF f t s l m).T → SmR BB x := by
  intro l
  induction l with
  | nil => intro m _ h; exact h
  | cons r l ih =>
    intro m hf hm
    refine ih (fun r hr => hf r (List.mem_cons_of_mem _ hr)) fun x hx => ?_
    rcases List.mem_append.1 hx with hx | hx
    · exact hm x hx
    · exact hf r List.mem_cons_self _ _ x hx
theorem mk_sm : ∀ (d : Nat) (op : Int) (subs tests : List (List C)) (n t : Int), SmL BB subs → SmL BB tests → ∀ x, x ∈ (mk d op subs tests n t).T → SmR BB x := by
  intro d
  induction d with
  | zero => intro op subs tests n t _ _ x hx; cases hx
  | succ d ih =>
    intro op subs tests n t hs ht
    have hf : ∀ r, r ∈ subs → ∀ n t x, x ∈ (fr d r n t).T → SmR BB x := fun r hr n t => ih _ _ _ n t (SmR.gr (hs.2 r hr) 1) (SmR.gr (hs.2 r hr) 2)
    by_cases e4 : op = 4
    · cases subs with
      | nil => unfold mk; rw [if_pos e4]; intro x hx; cases hx
      | cons r l => rw [mk_4 e4]; exact seqF_sm (fun r hr => hf r (List.mem_cons_of_mem _ hr)) (hf r List.mem_cons_self n t)
    · by_cases e5 : op = 5
      · rw [mk_5 e5]; exact altF_sm hf fun x hx => by cases hx
      · by_cases e6 : op = 6
        · cases subs with
          | nil => unfold mk; rw [if_neg e4, if_neg e5, if_pos e6]; intro x hx; cases hx
          | cons r l => rw [mk_6 e6]; exact hf r List.mem_cons_self (n + 1) t
        · by_cases e7 : op = 7
          · rw [mk_7 e7]; exact ht.2
          · rw [mk_0 e4 e5 e6 e7]; intro x hx; cases hx
theorem compiles_tot (op : Int) (subs tests : List (List C)) (hs : SmL BB subs) (ht : SmL BB tests) : Tot (fun k _ _ => (lv k).oriellaw17_ProgCompiles op subs tests) (fun r => r = true) := by
  refine oriellaw17_ProgCompiles_up _ _ _ (Tot.congr ?_ (fun k _ _ => oriellaw17_ProgCompiles_q (lv k) k op subs tests))
  refine Tot.bind awake_tot fun r hr => ?_
  subst hr
  refine Tot.t rfl (Tot.bind (right_tot op subs tests hs ht) fun r hr => Tot.cond (fun _ => Tot.ret rfl) (fun hb => ?_))
  have hb : r = true := by simpa using hb
  obtain ⟨hok, hc⟩ := hr hb
  refine Tot.bind (compile_tot op subs tests hok (hc 16)) fun x hx => ?_
  subst hx
  refine Tot.bind (rcompile_tot op subs tests hok (hc 16)) fun x hx => ?_
  subst hx
  have hbd := mk_bd 16 op subs tests 0 0 hok
  have := hc 16
  refine Tot.bind (same17_tot _ _ _ _ _ (by have := hbd.e; show (mk 16 op subs tests 0 0).E.length ≤ _; omega) ⟨by have := hbd.t; show (mk 16 op subs tests 0 0).T.length ≤ 1048576; omega, mk_sm 16 op subs tests 0 0 hs ht⟩) fun x hx => Tot.ret hx
end Go.Vm.T
