/- The plain law. -/
import Derived.Test.YtljhnhodcgilaaaDoorVmPure
import Derived.Test.YtljhnhodcgilaaaDoorVmTbb
/- A path's text is the same, by the program and by the document. -/
set_option linter.unusedVariables false
set_option linter.unusedSimpArgs false
namespace Go.Vm.T
open Go Go.Vm Go.Proofs
attribute [local irreducible] lv oriellaw15_ShowPrints_b oriellaw15_ShowPrints_l0 oriellaw15_awake_b show_Path_b show_Path_l0 show_joined_b show_joined_l0 show_joined_l1 show_Filter_b show_bracketed_b show_name_b show_quoted_b show_all_b show_all_l0 show_all_l1 slices_Contains_int_int_b lex_Write_b slices_Index_int_int_b slices_Index_int_int_l0 orielref12_Right_b orielref12_Size_b orielref12_size_b orielref12_size_l0 orielref12_size_l1 orielref12_sizeFilter_b orielref12_sizeFilter_l0 orielref12_sizeFilter_l1 orielref12_path_b orielref12_path_l0 orielref12_path_l1 orielref12_filter_b orielref12_filter_l0 orielref12_filter_l1 orielref12_filter_l2 orielref12_filter_l3 orielref12_filter_l4 orielref12_named_b orielref04_Right_b orielref04_Right_l0 orielref03_Plain_b orielref03_Plain_l0 orielref01_All_b orielref01_All_l0 orielref01_All_l1 orielref02_Start_b orielref01_Rune_b orielref01_Rune_l0 orielref01_Put_b orielref01_cut_b orielref01_cut_l0 orielref01_cut_l1 orielref01_cut_l2 orielref01_cut_l3 orielref01_cut_l4 orielref01_value_b orielref01_value_l0 orielref01_value_l1 orielref12_Filters_b orielref12_Filters_l0 orielref12_Filters_l1 orielref12_Filters_l2 orielref12_Filters_l3 orielref02_Char_b orielref02_Part_b orielref01_begins_b orielref01_begins_l0 orielref12_within_b orielref12_within_l0 orielref12_within_l1 orielref02_Blank_b orielref15_Filter_b orielref15_Filter_l0 orielref15_Filter_l1 orielref15_Filter_l2 orielref15_Path_b orielref15_Path_l0 orielref15_Path_l1 orielref15_Path_l2 orielref05_Find_b orielref05_Find_l0 orielref15_name_b orielref15_quoted_b orielref15_brackets_b orielref13_Write_b orielref13_Write_l0
/-- both texts of a path, of a filter -/
structure SP (d : Nat) (a : List C) (t : List UInt8) : Prop where
  s : Tot (fun k _ _ => (lv k).show_Path (gi a 0) (gr a 1) (gr a 2)) (fun r => bl r = t)
  r : Tot (fun k _ _ => (lv k).orielref15_Path (gi a 0) (gr a 1) (gr a 2)) (fun r => bl r = t)
  b : t.length ≤ WW * sz d true a
structure SF (d : Nat) (a : List C) (t : List UInt8) : Prop where
  s : Tot (fun k _ _ => (lv k).show_Filter (gi a 0) (gs a 1) (gs a 2) (gs a 3) (gr a 4) (gr a 5)) (fun r => bl r = t)
  r : Tot (fun k _ _ => (lv k).orielref15_Filter (gi a 0) (gs a 1) (gs a 2) (gs a 3) (gr a 4) (gr a 5)) (fun r => bl r = t)
  b : t.length ≤ WW * sz d false a
theorem WW_is : WW = 8388608 := rfl
theorem rpath_loop {a : List C} {op : Int} (hop : op = 4 ∨ op = 5 ∨ op = 6) (T : Nat → List UInt8) (f : List C → Nat) (sep : ByteArray) (ops : LL) (end_ : List UInt8) (hl : (gr a 1).length ≤ 64) (h6 : op = 6 → (gr a 1).length = 1)
    (hsep : (op = 5 ∧ sep = ⟨#[124]⟩) ∨ (op = 4 ∧ sep = ⟨#[47]⟩) ∨ (op = 6 ∧ sep = ⟨#[]⟩)) (hops : ∀ x : Int, inOps ops x = (x == 5 || (x == 4 && !(op == 5)))) (hend : end_ = if op = 6 then [42] else [])
    (hT : ∀ i, i < (gr a 1).length → Tot (fun k _ _ => (lv k).orielref15_Path (gi ((gr a 1).getD i []) 0) (gr ((gr a 1).getD i []) 1) (gr ((gr a 1).getD i []) 2)) (fun r => bl r = T i)) (hb : ∀ i, i < (gr a 1).length → (T i).length ≤ WW * f ((gr a 1).getD i [])) (hf : ((gr a 1).map f).sum ≤ 64) :
    Tot (fun k _ _ => orielref15_Path_l0 (lv k) k op (gr a 1) (gr a 2) k ⟨#[]⟩ 0) (fun r => bl r = Lib.join (upto (fun i => par (inOps ops (gi ((gr a 1).getD i []) 0)) (T i)) (gr a 1).length) (bl sep) ++ end_) := by
  have hWW := WW_is
  have hs5 : (bl sep).length ≤ 5 := by rcases hsep with ⟨rfl, rfl⟩ | ⟨rfl, rfl⟩ | ⟨rfl, rfl⟩ <;> decide
  have hbp : ∀ i, i < (gr a 1).length → (par (inOps ops (gi ((gr a 1).getD i []) 0)) (T i)).length ≤ WW * f ((gr a 1).getD i []) + 2 := fun i hi => by
    have := par_len (b := inOps ops (gi ((gr a 1).getD i []) 0)) (t := T i)
    have := hb i hi
    omega
  have hw : WW * ((gr a 1).map f).sum ≤ WW * 64 := Nat.mul_le_mul_left _ hf
  have hsz : ∀ i, i < (gr a 1).length → (T i).length ≤ 1099511627776 := fun i hi => by
    have h1 := hb i hi
    have h2 := sz_sub (f := f) hi
    have h3 := Nat.mul_le_mul_left WW h2
    omega
  have hjn : ∀ m, m ≤ (gr a 1).length → (Lib.join (upto (fun i => par (inOps ops (gi ((gr a 1).getD i []) 0)) (T i)) m) (bl sep)).length ≤ 549755813888 := fun m hm => by
    have := join_bd (f := f) hs5 hbp hm
    omega
  refine Tot.in0 (Tot.loop (H := fun k p q v w => orielref15_Path_l0 (lv k) k op (gr a 1) (gr a 2) p w v) (n := (gr a 1).length) (fun i w => bl w = Lib.join (upto (fun i => par (inOps ops (gi ((gr a 1).getD i []) 0)) (T i)) i) (bl sep)) (by omega) (fun w hw => ?_) (fun i w hi hw next => ?_) _ 0 _ rfl (by omega) rfl)
  · have hwl : w.size ≤ 549755813888 := by rw [← bl_len, hw]; exact hjn _ (Nat.le_refl _)
    refine Tot.step0 (fun k p_ q_ => orielref15_Path_l0_q (lv k) k op (gr a 1) (gr a 2) p_ _ _) ?_
    refine Tot.f (decide_eq_false (by omega)) ?_
    refine Tot.cond (fun c => ?_) (fun c => Tot.ret (by rw [hend, if_neg (by intro e; rw [e] at c; cases c), hw, List.append_nil]))
    have c : op = 6 := eq_of_beq c
    refine Tot.t (decide_eq_true (by simp only [sza, szl, List.length_cons, List.length_nil]; omega)) (Tot.ret ?_)
    rw [bl_app, hw, hend, if_pos c]
    rfl
  · have hwl : w.size ≤ 549755813888 := by rw [← bl_len, hw]; exact hjn _ (by omega)
    -- the child's text behind
    have l2 : ∀ w2 : ByteArray, (bl w2 = if i = 0 then [] else Lib.join (upto (fun i => par (inOps ops (gi ((gr a 1).getD i []) 0)) (T i)) i) (bl sep) ++ bl sep) → w2.size ≤ 549755813900 → Tot (fun k p q => orielref15_Path_l2 (lv k) k op (gr a 1) (gr a 2) p w2 (i : Int)) (fun r => bl r = Lib.join (upto (fun i => par (inOps ops (gi ((gr a 1).getD i []) 0)) (T i)) (gr a 1).length) (bl sep) ++ end_) := fun w2 hw2 hs2 => by
      refine Tot.congr ?_ (fun k p_ q_ => orielref15_Path_l2_q (lv k) k op (gr a 1) (gr a 2) p_ w2 (i : Int))
      rw [Int.toNat_natCast]
      repeat (refine Tot.t (decide_eq_true (by omega)) ?_)
      refine Tot.bind (hT i hi) fun r1 hr1 => ?_
      have hr1s : r1.size ≤ 1099511627776 := by rw [← bl_len, hr1]; exact hsz i hi
      have go : ∀ b : Bool, b = inOps ops (gi ((gr a 1).getD i []) 0) → ∀ {kk : Nat → Nat → Nat → ByteArray → Option ByteArray}, (∀ r2 : ByteArray, bl r2 = par b (T i) → Tot (fun k p q => kk k p q r2) (fun r => bl r = Lib.join (upto (fun i => par (inOps ops (gi ((gr a 1).getD i []) 0)) (T i)) (gr a 1).length) (bl sep) ++ end_)) → Tot (fun k p q => ((lv k).orielref15_brackets r1 b).bind fun r2 => kk k p q r2) (fun r => bl r = Lib.join (upto (fun i => par (inOps ops (gi ((gr a 1).getD i []) 0)) (T i)) (gr a 1).length) (bl sep) ++ end_) := fun b hb2 kk h => Tot.bind (brackets_tot r1 b hr1s) fun r2 hr2 => h r2 (by rw [hr2, hr1])
      have tail : ∀ (b : Bool) (r2 : ByteArray), b = inOps ops (gi ((gr a 1).getD i []) 0) → bl r2 = par b (T i) → Tot (fun k p q => cond (decide (w2.size + r2.size ≤ 4611686018427387904)) (orielref15_Path_l0 (lv k) k op (gr a 1) (gr a 2) p (w2 ++ r2) (IntKind.i64.wrap ((i : Int) + 1))) none) (fun r => bl r = Lib.join (upto (fun i => par (inOps ops (gi ((gr a 1).getD i []) 0)) (T i)) (gr a 1).length) (bl sep) ++ end_) := fun b r2 hb2 hr2 => by
        have hr2s : r2.size ≤ 1099511627778 := by
          have h1 := par_len (b := b) (t := T i)
          have h2 := hsz i hi
          rw [← bl_len, hr2]
          omega
        refine Tot.t (decide_eq_true (by omega)) (next _ ?_)
        rw [bl_app, hr2, hw2, hb2]
        rcases Nat.eq_zero_or_pos i with e | e
        · subst e
          rw [if_pos rfl, join_upto1]
          rfl
        · rw [if_neg (by omega), join_upto _ _ e]
      have hin := hops (gi ((gr a 1).getD i []) 0)
      refine Tot.cond (fun c1 => go true (by rw [hin, c1]; rfl) fun r2 hr2 => tail true r2 (by rw [hin, c1]; rfl) hr2) (fun c1 => Tot.cond (fun c2 => ?_) (fun c2 => go false (by rw [hin, c1, c2]; rfl) fun r2 hr2 => tail false r2 (by rw [hin, c1, c2]; rfl) hr2))
      exact go _ (by rw [hin, c1, c2]; simp) fun r2 hr2 => tail _ r2 (by rw [hin, c1, c2]; simp) hr2
    have l1 : ∀ w1 : ByteArray, (bl w1 = if i = 0 ∨ ¬ op = 5 then bl w else bl w ++ bl sep) → w1.size ≤ 549755813894 → Tot (fun k p q => orielref15_Path_l1 (lv k) k op (gr a 1) (gr a 2) p w1 (i : Int)) (fun r => bl r = Lib.join (upto (fun i => par (inOps ops (gi ((gr a 1).getD i []) 0)) (T i)) (gr a 1).length) (bl sep) ++ end_) := fun w1 hw1 hs1 => by
      refine Tot.congr ?_ (fun k p_ q_ => orielref15_Path_l1_q (lv k) k op (gr a 1) (gr a 2) p_ w1 (i : Int))
      refine Tot.cond (fun ci => ?_) (fun ci => l2 w1 ?_ (by omega))
      · have ci := of_decide_eq_true ci
        rcases hsep with ⟨rfl, rfl⟩ | ⟨rfl, rfl⟩ | ⟨rfl, rfl⟩
        · rw [if_neg (by omega)] at hw1
          exact Tot.f (by rfl) (l2 w1 (by rw [if_neg (by omega), hw1, hw]) (by omega))
        · rw [if_pos (.inr (by omega))] at hw1
          exact Tot.t (by rfl) (Tot.t (decide_eq_true (by simp only [sza, szl, List.length_cons, List.length_nil]; omega)) (l2 _ (by rw [if_neg (by omega), bl_app, hw1, hw]) (by simp only [sza, szl, List.length_cons, List.length_nil]; omega)))
        · have := h6 rfl
          exact absurd ci (by omega)
      · have ci := of_decide_eq_false ci
        have e0 : i = 0 := by omega
        subst e0
        rw [if_pos (.inl rfl)] at hw1
        rw [if_pos rfl, hw1, hw]
        rfl
    refine Tot.step0 (fun k p_ q_ => orielref15_Path_l0_q (lv k) k op (gr a 1) (gr a 2) p_ _ _) ?_
    refine Tot.t (decide_eq_true (by omega)) (Tot.cond (fun ci => ?_) (fun ci => l1 w ?_ (by omega)))
    · have ci := of_decide_eq_true ci
      rcases hsep with ⟨rfl, rfl⟩ | ⟨rfl, rfl⟩ | ⟨rfl, rfl⟩
      · exact Tot.t (by rfl) (Tot.t (decide_eq_true (by simp only [sza, szl, List.length_cons, List.length_nil]; omega)) (l1 _ (by rw [if_neg (by omega), bl_app]) (by simp only [sza, szl, List.length_cons, List.length_nil]; omega)))
      · exact Tot.f (by rfl) (l1 w (by rw [if_pos (.inr (by omega))]) (by omega))
      · have := h6 rfl
        exact absurd ci (by omega)
    · have ci := of_decide_eq_false ci
      rw [if_pos (.inl (by omega))]
theorem rfilter_loop {a : List C} {op : Int} (hop : op = 9 ∨ op = 10) (T : Nat → List UInt8) (f : List C → Nat) (sep : ByteArray) (ops : LL) (end_ : List UInt8) (hl : (gr a 4).length ≤ 64) 
    (hsep : (op = 9 ∧ sep = ⟨#[32, 97, 110, 100, 32]⟩) ∨ (op = 10 ∧ sep = ⟨#[32, 111, 114, 32]⟩) ) (hops : ∀ x : Int, inOps ops x = (x == 10 || (x == 9 && (op == 9)))) (hend : end_ = [])
    (hT : ∀ i, i < (gr a 4).length → Tot (fun k _ _ => (lv k).orielref15_Filter (gi ((gr a 4).getD i []) 0) (gs ((gr a 4).getD i []) 1) (gs ((gr a 4).getD i []) 2) (gs ((gr a 4).getD i []) 3) (gr ((gr a 4).getD i []) 4) (gr ((gr a 4).getD i []) 5)) (fun r => bl r = T i)) (hb : ∀ i, i < (gr a 4).length → (T i).length ≤ WW * f ((gr a 4).getD i [])) (hf : ((gr a 4).map f).sum ≤ 64) :
    Tot (fun k _ _ => orielref15_Filter_l0 (lv k) k op (gs a 1) (gs a 2) (gs a 3) (gr a 4) (gr a 5) k ⟨#[]⟩ 0) (fun r => bl r = Lib.join (upto (fun i => par (inOps ops (gi ((gr a 4).getD i []) 0)) (T i)) (gr a 4).length) (bl sep) ++ end_) := by
  have hWW := WW_is
  have hs5 : (bl sep).length ≤ 5 := by rcases hsep with ⟨rfl, rfl⟩ | ⟨rfl, rfl⟩ <;> decide
  have hbp : ∀ i, i < (gr a 4).length → (par (inOps ops (gi ((gr a 4).getD i []) 0)) (T i)).length ≤ WW * f ((gr a 4).getD i []) + 2 := fun i hi => by
    have := par_len (b := inOps ops (gi ((gr a 4).getD i []) 0)) (t := T i)
    have := hb i hi
    omega
  have hw : WW * ((gr a 4).map f).sum ≤ WW * 64 := Nat.mul_le_mul_left _ hf
  have hsz : ∀ i, i < (gr a 4).length → (T i).length ≤ 1099511627776 := fun i hi => by
    have h1 := hb i hi
    have h2 := sz_sub (f := f) hi
    have h3 := Nat.mul_le_mul_left WW h2
    omega
  have hjn : ∀ m, m ≤ (gr a 4).length → (Lib.join (upto (fun i => par (inOps ops (gi ((gr a 4).getD i []) 0)) (T i)) m) (bl sep)).length ≤ 549755813888 := fun m hm => by
    have := join_bd (f := f) hs5 hbp hm
    omega
  refine Tot.in0 (Tot.loop (H := fun k p q v w => orielref15_Filter_l0 (lv k) k op (gs a 1) (gs a 2) (gs a 3) (gr a 4) (gr a 5) p w v) (n := (gr a 4).length) (fun i w => bl w = Lib.join (upto (fun i => par (inOps ops (gi ((gr a 4).getD i []) 0)) (T i)) i) (bl sep)) (by omega) (fun w hw => ?_) (fun i w hi hw next => ?_) _ 0 _ rfl (by omega) rfl)
  · have hwl : w.size ≤ 549755813888 := by rw [← bl_len, hw]; exact hjn _ (Nat.le_refl _)
    refine Tot.step0 (fun k p_ q_ => orielref15_Filter_l0_q (lv k) k op (gs a 1) (gs a 2) (gs a 3) (gr a 4) (gr a 5) p_ _ _) ?_
    refine Tot.f (decide_eq_false (by omega)) ?_
    exact Tot.ret (by rw [hw, hend, List.append_nil])
  · have hwl : w.size ≤ 549755813888 := by rw [← bl_len, hw]; exact hjn _ (by omega)
    -- the child's text behind
    have l2 : ∀ w2 : ByteArray, (bl w2 = if i = 0 then [] else Lib.join (upto (fun i => par (inOps ops (gi ((gr a 4).getD i []) 0)) (T i)) i) (bl sep) ++ bl sep) → w2.size ≤ 549755813900 → Tot (fun k p q => orielref15_Filter_l2 (lv k) k op (gs a 1) (gs a 2) (gs a 3) (gr a 4) (gr a 5) p w2 (i : Int)) (fun r => bl r = Lib.join (upto (fun i => par (inOps ops (gi ((gr a 4).getD i []) 0)) (T i)) (gr a 4).length) (bl sep) ++ end_) := fun w2 hw2 hs2 => by
      refine Tot.congr ?_ (fun k p_ q_ => orielref15_Filter_l2_q (lv k) k op (gs a 1) (gs a 2) (gs a 3) (gr a 4) (gr a 5) p_ w2 (i : Int))
      rw [Int.toNat_natCast]
      repeat (refine Tot.t (decide_eq_true (by omega)) ?_)
      refine Tot.bind (hT i hi) fun r1 hr1 => ?_
      have hr1s : r1.size ≤ 1099511627776 := by rw [← bl_len, hr1]; exact hsz i hi
      have go : ∀ b : Bool, b = inOps ops (gi ((gr a 4).getD i []) 0) → ∀ {kk : Nat → Nat → Nat → ByteArray → Option ByteArray}, (∀ r2 : ByteArray, bl r2 = par b (T i) → Tot (fun k p q => kk k p q r2) (fun r => bl r = Lib.join (upto (fun i => par (inOps ops (gi ((gr a 4).getD i []) 0)) (T i)) (gr a 4).length) (bl sep) ++ end_)) → Tot (fun k p q => ((lv k).orielref15_brackets r1 b).bind fun r2 => kk k p q r2) (fun r => bl r = Lib.join (upto (fun i => par (inOps ops (gi ((gr a 4).getD i []) 0)) (T i)) (gr a 4).length) (bl sep) ++ end_) := fun b hb2 kk h => Tot.bind (brackets_tot r1 b hr1s) fun r2 hr2 => h r2 (by rw [hr2, hr1])
      have tail : ∀ (b : Bool) (r2 : ByteArray), b = inOps ops (gi ((gr a 4).getD i []) 0) → bl r2 = par b (T i) → Tot (fun k p q => cond (decide (w2.size + r2.size ≤ 4611686018427387904)) (orielref15_Filter_l0 (lv k) k op (gs a 1) (gs a 2) (gs a 3) (gr a 4) (gr a 5) p (w2 ++ r2) (IntKind.i64.wrap ((i : Int) + 1))) none) (fun r => bl r = Lib.join (upto (fun i => par (inOps ops (gi ((gr a 4).getD i []) 0)) (T i)) (gr a 4).length) (bl sep) ++ end_) := fun b r2 hb2 hr2 => by
        have hr2s : r2.size ≤ 1099511627778 := by
          have h1 := par_len (b := b) (t := T i)
          have h2 := hsz i hi
          rw [← bl_len, hr2]
          omega
        refine Tot.t (decide_eq_true (by omega)) (next _ ?_)
        rw [bl_app, hr2, hw2, hb2]
        rcases Nat.eq_zero_or_pos i with e | e
        · subst e
          rw [if_pos rfl, join_upto1]
          rfl
        · rw [if_neg (by omega), join_upto _ _ e]
      have hin := hops (gi ((gr a 4).getD i []) 0)
      refine Tot.cond (fun c1 => go true (by rw [hin, c1]; rfl) fun r2 hr2 => tail true r2 (by rw [hin, c1]; rfl) hr2) (fun c1 => Tot.cond (fun c2 => ?_) (fun c2 => go false (by rw [hin, c1, c2]; rfl) fun r2 hr2 => tail false r2 (by rw [hin, c1, c2]; rfl) hr2))
      exact go _ (by rw [hin, c1, c2]; simp) fun r2 hr2 => tail _ r2 (by rw [hin, c1, c2]; simp) hr2
    have l1 : ∀ w1 : ByteArray, (bl w1 = if i = 0 ∨ ¬ op = 9 then bl w else bl w ++ bl sep) → w1.size ≤ 549755813894 → Tot (fun k p q => orielref15_Filter_l1 (lv k) k op (gs a 1) (gs a 2) (gs a 3) (gr a 4) (gr a 5) p w1 (i : Int)) (fun r => bl r = Lib.join (upto (fun i => par (inOps ops (gi ((gr a 4).getD i []) 0)) (T i)) (gr a 4).length) (bl sep) ++ end_) := fun w1 hw1 hs1 => by
      refine Tot.congr ?_ (fun k p_ q_ => orielref15_Filter_l1_q (lv k) k op (gs a 1) (gs a 2) (gs a 3) (gr a 4) (gr a 5) p_ w1 (i : Int))
      refine Tot.cond (fun ci => ?_) (fun ci => l2 w1 ?_ (by omega))
      · have ci := of_decide_eq_true ci
        rcases hsep with ⟨rfl, rfl⟩ | ⟨rfl, rfl⟩
        · rw [if_neg (by omega)] at hw1
          exact Tot.f (by rfl) (l2 w1 (by rw [if_neg (by omega), hw1, hw]) (by omega))
        · rw [if_pos (.inr (by omega))] at hw1
          exact Tot.t (by rfl) (Tot.t (decide_eq_true (by simp only [sza, szl, List.length_cons, List.length_nil]; omega)) (l2 _ (by rw [if_neg (by omega), bl_app, hw1, hw]) (by simp only [sza, szl, List.length_cons, List.length_nil]; omega)))
      · have ci := of_decide_eq_false ci
        have e0 : i = 0 := by omega
        subst e0
        rw [if_pos (.inl rfl)] at hw1
        rw [if_pos rfl, hw1, hw]
        rfl
    refine Tot.step0 (fun k p_ q_ => orielref15_Filter_l0_q (lv k) k op (gs a 1) (gs a 2) (gs a 3) (gr a 4) (gr a 5) p_ _ _) ?_
    refine Tot.t (decide_eq_true (by omega)) (Tot.cond (fun ci => ?_) (fun ci => l1 w ?_ (by omega)))
    · have ci := of_decide_eq_true ci
      rcases hsep with ⟨rfl, rfl⟩ | ⟨rfl, rfl⟩
      · exact Tot.t (by rfl) (Tot.t (decide_eq_true (by simp only [sza, szl, List.length_cons, List.length_nil]; omega)) (l1 _ (by rw [if_neg (by omega), bl_app]) (by simp only [sza, szl, List.length_cons, List.length_nil]; omega)))
      · exact Tot.f (by rfl) (l1 w (by rw [if_pos (.inr (by omega))]) (by omega))
    · have ci := of_decide_eq_false ci
      rw [if_pos (.inl (by omega))]
theorem show_tots : ∀ d, d ≤ 16 → (∀ a, ok d true a → SmR BB a → sz d true a ≤ 64 → ∃ t, SP d a t) ∧ (∀ a, ok d false a → SmR BB a → sz d false a ≤ 64 → ∃ t, SF d a t) := by
  intro d
  induction d with
  | zero => intro _; exact ⟨fun a h => h.elim, fun a h => h.elim⟩
  | succ d ih =>
    intro hd
    have ih := ih (by omega)
    have hWW := WW_is
    have chP : ∀ (a : List C) (j : Nat), SmR BB a → (∀ i, i < (gr a j).length → ok d true ((gr a j).getD i [])) → ((gr a j).map (sz d true)).sum ≤ 64 → ∃ T : Nat → List UInt8, ∀ i, i < (gr a j).length → SP d ((gr a j).getD i []) (T i) := fun a j hs h9 hz => by
      have : ∀ i, ∃ t, i < (gr a j).length → SP d ((gr a j).getD i []) t := fun i => by
        by_cases hi : i < (gr a j).length
        · have := sz_sub (f := sz d true) hi
          obtain ⟨t, ht⟩ := ih.1 _ (h9 i hi) ((hs.gr j).get i) (by omega)
          exact ⟨t, fun _ => ht⟩
        · exact ⟨[], fun h => absurd h hi⟩
      exact Classical.axiomOfChoice this
    have chF : ∀ (a : List C) (j : Nat), SmR BB a → (∀ i, i < (gr a j).length → ok d false ((gr a j).getD i [])) → ((gr a j).map (sz d false)).sum ≤ 64 → ∃ T : Nat → List UInt8, ∀ i, i < (gr a j).length → SF d ((gr a j).getD i []) (T i) := fun a j hs h9 hz => by
      have : ∀ i, ∃ t, i < (gr a j).length → SF d ((gr a j).getD i []) t := fun i => by
        by_cases hi : i < (gr a j).length
        · have := sz_sub (f := sz d false) hi
          obtain ⟨t, ht⟩ := ih.2 _ (h9 i hi) ((hs.gr j).get i) (by omega)
          exact ⟨t, fun _ => ht⟩
        · exact ⟨[], fun h => absurd h hi⟩
      exact Classical.axiomOfChoice this
    constructor
    · intro a ha hs hz
      obtain ⟨h1, h7, h45, h6, h77, ht1, h64, h0, h9, h10⟩ := ha
      have esz : sz (d + 1) true a = 1 + ((gr a 1).map (sz d true)).sum + ((gr a 2).map (sz d false)).sum := rfl
      have upS : ∀ {Q}, Tot _ Q → Tot (fun k _ _ => (lv k).show_Path (gi a 0) (gr a 1) (gr a 2)) Q := fun h => show_Path_up _ _ _ (Tot.congr h (fun k _ _ => show_Path_q (lv k) k (gi a 0) (gr a 1) (gr a 2)))
      have upR : ∀ {Q}, Tot _ Q → Tot (fun k _ _ => (lv k).orielref15_Path (gi a 0) (gr a 1) (gr a 2)) Q := fun h => orielref15_Path_up _ _ _ (Tot.congr h (fun k _ _ => orielref15_Path_q (lv k) k (gi a 0) (gr a 1) (gr a 2)))
      obtain ⟨T, hT⟩ := chP a 1 hs h9 (by omega)
      have hm := Nat.mul_le_mul_left WW (show ((gr a 1).map (sz d true)).sum + 1 ≤ sz (d + 1) true a by omega)
      rw [Nat.mul_add, Nat.mul_one] at hm
      have kids : ∀ (sep : ByteArray) (ops : LL) (end_ : List UInt8), (gi a 0 = 4 ∨ gi a 0 = 5 ∨ gi a 0 = 6) → ((gi a 0 = 5 ∧ sep = ⟨#[124]⟩) ∨ (gi a 0 = 4 ∧ sep = ⟨#[47]⟩) ∨ (gi a 0 = 6 ∧ sep = ⟨#[]⟩)) → ops.length ≤ 64 → (∀ x : Int, inOps ops x = (x == 5 || (x == 4 && !(gi a 0 == 5)))) → (end_ = if gi a 0 = 6 then [42] else []) →
          ∃ t : List UInt8, Tot (fun k _ _ => (lv k).show_joined (gr a 1) sep ops) (fun r => bl r = t) ∧ Tot (fun k _ _ => orielref15_Path_l0 (lv k) k (gi a 0) (gr a 1) (gr a 2) k ⟨#[]⟩ 0) (fun r => bl r = t ++ end_) ∧ t.length + 2 ≤ WW * sz (d + 1) true a := fun sep ops end_ hop hsep hops hin hend => by
        have hs5 : (bl sep).length ≤ 5 := by rcases hsep with ⟨_, rfl⟩ | ⟨_, rfl⟩ | ⟨_, rfl⟩ <;> decide
        have hbp : ∀ i, i < (gr a 1).length → (par (inOps ops (gi ((gr a 1).getD i []) 0)) (T i)).length ≤ WW * sz d true ((gr a 1).getD i []) + 2 := fun i hi => by
          have := par_len (b := inOps ops (gi ((gr a 1).getD i []) 0)) (t := T i)
          have := (hT i hi).b
          omega
        refine ⟨_, show_joined_tot (gr a 1) sep ops T (sz d true) h64 hops (by rw [← bl_len]; exact hs5) (fun i hi => (hT i hi).s) (fun i hi => (hT i hi).b) (by omega), rpath_loop hop T (sz d true) sep ops end_ h64 h6 hsep hin hend (fun i hi => (hT i hi).r) (fun i hi => (hT i hi).b) (by omega), ?_⟩
        have := join_bd (f := sz d true) hs5 hbp (Nat.le_refl _)
        omega
      have hop : gi a 0 = 1 ∨ gi a 0 = 2 ∨ gi a 0 = 3 ∨ gi a 0 = 4 ∨ gi a 0 = 5 ∨ gi a 0 = 6 ∨ gi a 0 = 7 := by omega
      rcases hop with e | e | e | e | e | e | e
      · exact ⟨[46], upS (by rw [e]; repeat (first | refine Tot.t (by rfl) ?_ | refine Tot.f (by rfl) ?_); exact Tot.ret rfl), upR (by rw [e]; repeat (first | refine Tot.t (by rfl) ?_ | refine Tot.f (by rfl) ?_); exact Tot.ret rfl), by simp only [List.length_cons, List.length_nil]; omega⟩
      · exact ⟨[102, 105, 114, 115, 116], upS (by rw [e]; repeat (first | refine Tot.t (by rfl) ?_ | refine Tot.f (by rfl) ?_); exact Tot.ret rfl), upR (by rw [e]; repeat (first | refine Tot.t (by rfl) ?_ | refine Tot.f (by rfl) ?_); exact Tot.ret rfl), by simp only [List.length_cons, List.length_nil]; omega⟩
      · exact ⟨[110, 101, 120, 116], upS (by rw [e]; repeat (first | refine Tot.t (by rfl) ?_ | refine Tot.f (by rfl) ?_); exact Tot.ret rfl), upR (by rw [e]; repeat (first | refine Tot.t (by rfl) ?_ | refine Tot.f (by rfl) ?_); exact Tot.ret rfl), by simp only [List.length_cons, List.length_nil]; omega⟩
      · obtain ⟨t, t1, t2, t3⟩ := kids ⟨#[47]⟩ [[C.int .i64 5], [C.int .i64 4]] [] (.inl e) (.inr (.inl ⟨e, rfl⟩)) (by decide) (fun x => by rw [e]; simp [inOps, gi, fc, C.it]) (by rw [if_neg (by omega)])
        rw [List.append_nil] at t2
        refine ⟨t, upS ?_, upR ?_, by omega⟩ <;> rw [e] at *
        · repeat (first | refine Tot.t (by rfl) ?_ | refine Tot.f (by rfl) ?_)
          exact Tot.bind t1 fun r hr => Tot.ret hr
        · repeat (first | refine Tot.t (by rfl) ?_ | refine Tot.f (by rfl) ?_)
          exact t2
      · obtain ⟨t, t1, t2, t3⟩ := kids ⟨#[124]⟩ [[C.int .i64 5]] [] (.inr (.inl e)) (.inl ⟨e, rfl⟩) (by decide) (fun x => by rw [e]; simp [inOps, gi, fc, C.it]) (by rw [if_neg (by omega)])
        rw [List.append_nil] at t2
        refine ⟨t, upS ?_, upR ?_, by omega⟩ <;> rw [e] at *
        · repeat (first | refine Tot.t (by rfl) ?_ | refine Tot.f (by rfl) ?_)
          exact Tot.bind t1 fun r hr => Tot.ret hr
        · repeat (first | refine Tot.t (by rfl) ?_ | refine Tot.f (by rfl) ?_)
          exact t2
      · obtain ⟨t, t1, t2, t3⟩ := kids ⟨#[]⟩ [[C.int .i64 5], [C.int .i64 4]] [42] (.inr (.inr e)) (.inr (.inr ⟨e, rfl⟩)) (by decide) (fun x => by rw [e]; simp [inOps, gi, fc, C.it]) (by rw [if_pos e])
        refine ⟨t ++ [42], upS ?_, upR ?_, by simp only [List.length_append, List.length_cons, List.length_nil]; omega⟩ <;> rw [e] at *
        · repeat (first | refine Tot.t (by rfl) ?_ | refine Tot.f (by rfl) ?_)
          refine Tot.bind t1 fun r hr => ?_
          have hrs : r.size ≤ 1099511627776 := by
            have h3 := Nat.mul_le_mul_left WW hz
            rw [← bl_len, hr]
            omega
          exact Tot.t (decide_eq_true (by simp only [sza, szl, List.length_cons, List.length_nil]; omega)) (Tot.ret (by rw [bl_app, hr]; rfl))
        · repeat (first | refine Tot.t (by rfl) ?_ | refine Tot.f (by rfl) ?_)
          exact t2
      · have hl2 := h77.1 e
        have hf0 := h10 0 (by omega)
        have hzs := sz_sub (f := sz d false) (l := gr a 2) (i := 0) (by omega)
        obtain ⟨t, ht⟩ := ih.2 _ hf0 ((hs.gr 2).get 0) (by omega)
        have htl : t.length ≤ 549755813888 := by
          have h3 := Nat.mul_le_mul_left WW (show sz d false ((gr a 2).getD 0 []) ≤ 64 by omega)
          have := ht.b
          omega
        refine ⟨63 :: 40 :: t ++ [41], upS ?_, upR ?_, ?_⟩
        · rw [e]
          repeat (first | refine Tot.t (by rfl) ?_ | refine Tot.f (by rfl) ?_)
          refine Tot.in0 (g := fun k p_ q_ => show_Path_l0 (lv k) k 7 (gr a 1) (gr a 2) p_ ⟨#[]⟩ 0) ?_
          refine Tot.step0 (fun k p_ q_ => show_Path_l0_q (lv k) k 7 (gr a 1) (gr a 2) p_ _ _) ?_
          repeat (refine Tot.t (decide_eq_true (by omega)) ?_)
          refine Tot.bind ht.s fun r hr => ?_
          have hrs : r.size ≤ 549755813888 := by rw [← bl_len, hr]; exact htl
          refine Tot.t (decide_eq_true (by simp only [sza, szl, List.length_cons, List.length_nil]; omega)) (Tot.t (decide_eq_true (by simp only [sza, szl, List.length_cons, List.length_nil]; omega)) (Tot.t (decide_eq_true (by simp only [sza, szl, List.length_cons, List.length_nil]; omega)) ?_))
          refine Tot.step0 (fun k p_ q_ => show_Path_l0_q (lv k) k 7 (gr a 1) (gr a 2) p_ _ _) ?_
          refine Tot.f (decide_eq_false (by rw [show IntKind.i64.wrap ((0 : Int) + 1) = 1 from rfl]; omega)) (Tot.ret ?_)
          rw [bl_app, bl_app, bl_app, hr]
          rfl
        · rw [e]
          repeat (first | refine Tot.t (by rfl) ?_ | refine Tot.f (by rfl) ?_)
          repeat (refine Tot.t (decide_eq_true (by omega)) ?_)
          refine Tot.bind ht.r fun r hr => ?_
          have hrs : r.size ≤ 549755813888 := by rw [← bl_len, hr]; exact htl
          refine Tot.t (decide_eq_true (by simp only [sza, szl, List.length_cons, List.length_nil]; omega)) (Tot.t (decide_eq_true (by simp only [sza, szl, List.length_cons, List.length_nil]; omega)) (Tot.ret ?_))
          rw [bl_app, bl_app, hr]
          rfl
        · have h3 := Nat.mul_le_mul_left WW (show sz d false ((gr a 2).getD 0 []) + 1 ≤ sz (d + 1) true a by omega)
          rw [Nat.mul_add, Nat.mul_one] at h3
          have := ht.b
          simp only [List.length_append, List.length_cons, List.length_nil]
          omega
    · intro a ha hs hz
      obtain ⟨h1, h11, h8, h64, h910, h0, h511, h51, h9, h10⟩ := ha
      have esz : sz (d + 1) false a = 1 + ((gr a 4).map (sz d false)).sum + ((gr a 5).map (sz d true)).sum := rfl
      have upS : ∀ {Q}, Tot _ Q → Tot (fun k _ _ => (lv k).show_Filter (gi a 0) (gs a 1) (gs a 2) (gs a 3) (gr a 4) (gr a 5)) Q := fun h => show_Filter_up _ _ _ _ _ _ (Tot.congr h (fun k _ _ => show_Filter_q (lv k) k (gi a 0) (gs a 1) (gs a 2) (gs a 3) (gr a 4) (gr a 5)))
      have upR : ∀ {Q}, Tot _ Q → Tot (fun k _ _ => (lv k).orielref15_Filter (gi a 0) (gs a 1) (gs a 2) (gs a 3) (gr a 4) (gr a 5)) Q := fun h => orielref15_Filter_up _ _ _ _ _ _ (Tot.congr h (fun k _ _ => orielref15_Filter_q (lv k) k (gi a 0) (gs a 1) (gs a 2) (gs a 3) (gr a 4) (gr a 5)))
      have z1 : (gs a 1).size ≤ 1048576 := hs.gs 1
      have z2 : (gs a 2).size ≤ 1048576 := hs.gs 2
      have z3 : (gs a 3).size ≤ 1048576 := hs.gs 3
      have hone : WW ≤ WW * sz (d + 1) false a := Nat.le_mul_of_pos_right _ (by omega)
      have nl := nmT_len (gs a 1) (gs a 2)
      have ql := qtT_len (gs a 3)
      have sn := sname_tot (gs a 1) (gs a 2) z1 z2
      have rn := rname_tot (gs a 1) (gs a 2) z1 z2
      have sq := squoted_tot (gs a 3) z3
      have rq := rquoted_tot (gs a 3) z3
      have hop : gi a 0 = 1 ∨ gi a 0 = 2 ∨ gi a 0 = 3 ∨ gi a 0 = 4 ∨ gi a 0 = 5 ∨ gi a 0 = 6 ∨ gi a 0 = 7 ∨ gi a 0 = 8 ∨ gi a 0 = 9 ∨ gi a 0 = 10 ∨ gi a 0 = 11 := by omega
      rcases hop with e | e | e | e | e | e | e | e | e | e | e
      · exact ⟨[116, 114, 117, 101], upS (by rw [e]; repeat (first | refine Tot.t (by rfl) ?_ | refine Tot.f (by rfl) ?_); exact Tot.ret rfl), upR (by rw [e]; repeat (first | refine Tot.t (by rfl) ?_ | refine Tot.f (by rfl) ?_); exact Tot.ret rfl), by simp only [List.length_cons, List.length_nil]; omega⟩
      · exact ⟨[101, 108, 101, 109, 101, 110, 116], upS (by rw [e]; repeat (first | refine Tot.t (by rfl) ?_ | refine Tot.f (by rfl) ?_); exact Tot.ret rfl), upR (by rw [e]; repeat (first | refine Tot.t (by rfl) ?_ | refine Tot.f (by rfl) ?_); exact Tot.ret rfl), by simp only [List.length_cons, List.length_nil]; omega⟩
      · exact ⟨[116, 101, 120, 116], upS (by rw [e]; repeat (first | refine Tot.t (by rfl) ?_ | refine Tot.f (by rfl) ?_); exact Tot.ret rfl), upR (by rw [e]; repeat (first | refine Tot.t (by rfl) ?_ | refine Tot.f (by rfl) ?_); exact Tot.ret rfl), by simp only [List.length_cons, List.length_nil]; omega⟩
      · refine ⟨[110, 97, 109, 101, 61] ++ nmT (gs a 1) (gs a 2), upS ?_, upR ?_, by simp only [List.length_append, List.length_cons, List.length_nil]; omega⟩ <;> rw [e]
        · repeat (first | refine Tot.t (by rfl) ?_ | refine Tot.f (by rfl) ?_)
          refine Tot.bind sn fun r hr => ?_
          have hrs : r.size ≤ 2097154 := by rw [← bl_len, hr]; omega
          exact Tot.t (decide_eq_true (by simp only [sza, szl, List.length_cons, List.length_nil]; omega)) (Tot.ret (by rw [bl_app, hr]; rfl))
        · repeat (first | refine Tot.t (by rfl) ?_ | refine Tot.f (by rfl) ?_)
          refine Tot.bind rn fun r hr => ?_
          have hrs : r.size ≤ 2097154 := by rw [← bl_len, hr]; omega
          exact Tot.t (decide_eq_true (by simp only [sza, szl, List.length_cons, List.length_nil]; omega)) (Tot.ret (by rw [bl_app, hr]; rfl))
      · refine ⟨[64] ++ nmT (gs a 1) (gs a 2), upS ?_, upR ?_, by simp only [List.length_append, List.length_cons, List.length_nil]; omega⟩ <;> rw [e]
        · repeat (first | refine Tot.t (by rfl) ?_ | refine Tot.f (by rfl) ?_)
          refine Tot.bind sn fun r hr => ?_
          have hrs : r.size ≤ 2097154 := by rw [← bl_len, hr]; omega
          exact Tot.t (decide_eq_true (by simp only [sza, szl, List.length_cons, List.length_nil]; omega)) (Tot.ret (by rw [bl_app, hr]; rfl))
        · repeat (first | refine Tot.t (by rfl) ?_ | refine Tot.f (by rfl) ?_)
          refine Tot.bind rn fun r hr => ?_
          have hrs : r.size ≤ 2097154 := by rw [← bl_len, hr]; omega
          exact Tot.t (decide_eq_true (by simp only [sza, szl, List.length_cons, List.length_nil]; omega)) (Tot.ret (by rw [bl_app, hr]; rfl))
      · refine ⟨(([64] ++ nmT (gs a 1) (gs a 2)) ++ [61]) ++ qtT (gs a 3), upS ?_, upR ?_, by simp only [List.length_append, List.length_cons, List.length_nil]; omega⟩ <;> rw [e]
        · repeat (first | refine Tot.t (by rfl) ?_ | refine Tot.f (by rfl) ?_)
          refine Tot.bind sn fun r hr => ?_
          have hrs : r.size ≤ 2097154 := by rw [← bl_len, hr]; omega
          refine Tot.t (decide_eq_true (by simp only [sza, szl, List.length_cons, List.length_nil]; omega)) (Tot.t (decide_eq_true (by simp only [sza, szl, List.length_cons, List.length_nil]; omega)) (Tot.bind sq fun q hq => ?_))
          have hqs : q.size ≤ 2097154 := by rw [← bl_len, hq]; omega
          exact Tot.t (decide_eq_true (by simp only [sza, szl, List.length_cons, List.length_nil]; omega)) (Tot.ret (by rw [bl_app, bl_app, bl_app, hr, hq]; rfl))
        · repeat (first | refine Tot.t (by rfl) ?_ | refine Tot.f (by rfl) ?_)
          refine Tot.bind rn fun r hr => ?_
          have hrs : r.size ≤ 2097154 := by rw [← bl_len, hr]; omega
          refine Tot.t (decide_eq_true (by simp only [sza, szl, List.length_cons, List.length_nil]; omega)) (Tot.t (decide_eq_true (by simp only [sza, szl, List.length_cons, List.length_nil]; omega)) (Tot.bind rq fun q hq => ?_))
          have hqs : q.size ≤ 2097154 := by rw [← bl_len, hq]; omega
          exact Tot.t (decide_eq_true (by simp only [sza, szl, List.length_cons, List.length_nil]; omega)) (Tot.ret (by rw [bl_app, bl_app, bl_app, hr, hq]; rfl))
      · refine ⟨[116, 101, 120, 116, 61] ++ qtT (gs a 3), upS ?_, upR ?_, by simp only [List.length_append, List.length_cons, List.length_nil]; omega⟩ <;> rw [e]
        · repeat (first | refine Tot.t (by rfl) ?_ | refine Tot.f (by rfl) ?_)
          refine Tot.bind sq fun r hr => ?_
          have hrs : r.size ≤ 2097154 := by rw [← bl_len, hr]; omega
          exact Tot.t (decide_eq_true (by simp only [sza, szl, List.length_cons, List.length_nil]; omega)) (Tot.ret (by rw [bl_app, hr]; rfl))
        · repeat (first | refine Tot.t (by rfl) ?_ | refine Tot.f (by rfl) ?_)
          refine Tot.bind rq fun r hr => ?_
          have hrs : r.size ≤ 2097154 := by rw [← bl_len, hr]; omega
          exact Tot.t (decide_eq_true (by simp only [sza, szl, List.length_cons, List.length_nil]; omega)) (Tot.ret (by rw [bl_app, hr]; rfl))
      · have hl4 := h8 e
        obtain ⟨T, hT⟩ := chF a 4 hs h9 (by omega)
        have hzs := sz_sub (f := sz d false) (l := gr a 4) (i := 0) (by omega)
        have htl : (T 0).length ≤ 549755813888 := by
          have h3 := Nat.mul_le_mul_left WW (show sz d false ((gr a 4).getD 0 []) ≤ 64 by omega)
          have := (hT 0 (by omega)).b
          omega
        have key := show_all_tot (gr a 4) ⟨#[]⟩ [] T (sz d false) h64 (by decide) (by decide) (fun i hi => (hT i hi).s) (fun i hi => (hT i hi).b) (by omega)
        rw [hl4, join_upto1] at key
        refine ⟨([110, 111, 116, 40] ++ T 0) ++ [41], upS ?_, upR ?_, ?_⟩
        · rw [e]
          repeat (first | refine Tot.t (by rfl) ?_ | refine Tot.f (by rfl) ?_)
          refine Tot.bind key fun r hr => ?_
          have hr : bl r = T 0 := hr
          have hrs : r.size ≤ 549755813888 := by rw [← bl_len, hr]; exact htl
          exact Tot.t (decide_eq_true (by simp only [sza, szl, List.length_cons, List.length_nil]; omega)) (Tot.t (decide_eq_true (by simp only [sza, szl, List.length_cons, List.length_nil]; omega)) (Tot.ret (by rw [bl_app, bl_app, hr]; rfl)))
        · rw [e]
          repeat (first | refine Tot.t (by rfl) ?_ | refine Tot.f (by rfl) ?_)
          repeat (refine Tot.t (decide_eq_true (by omega)) ?_)
          refine Tot.bind (hT 0 (by omega)).r fun r hr => ?_
          have hrs : r.size ≤ 549755813888 := by rw [← bl_len, hr]; exact htl
          exact Tot.t (decide_eq_true (by simp only [sza, szl, List.length_cons, List.length_nil]; omega)) (Tot.t (decide_eq_true (by simp only [sza, szl, List.length_cons, List.length_nil]; omega)) (Tot.ret (by rw [bl_app, bl_app, hr]; rfl)))
        · have h3 := Nat.mul_le_mul_left WW (show sz d false ((gr a 4).getD 0 []) + 1 ≤ sz (d + 1) false a by omega)
          rw [Nat.mul_add, Nat.mul_one] at h3
          have := (hT 0 (by omega)).b
          simp only [List.length_append, List.length_cons, List.length_nil]
          omega
      · obtain ⟨T, hT⟩ := chF a 4 hs h9 (by omega)
        have key := show_all_tot (gr a 4) (⟨#[32, 97, 110, 100, 32]⟩ : ByteArray) [[C.int .i64 9], [C.int .i64 10]] T (sz d false) h64 (by decide) (by decide) (fun i hi => (hT i hi).s) (fun i hi => (hT i hi).b) (by omega)
        have rkey := rfilter_loop (a := a) (op := 9) (by decide) T (sz d false) (⟨#[32, 97, 110, 100, 32]⟩ : ByteArray) [[C.int .i64 9], [C.int .i64 10]] [] h64 (by left; exact ⟨rfl, rfl⟩) (fun x => by simp [inOps, gi, fc, C.it]; exact Bool.or_comm _ _) rfl (fun i hi => (hT i hi).r) (fun i hi => (hT i hi).b) (by omega)
        rw [List.append_nil] at rkey
        refine ⟨Lib.join (upto (fun i => par (inOps [[C.int .i64 9], [C.int .i64 10]] (gi ((gr a 4).getD i []) 0)) (T i)) (gr a 4).length) (bl (⟨#[32, 97, 110, 100, 32]⟩ : ByteArray)), upS ?_, upR ?_, ?_⟩
        · rw [e]
          repeat (first | refine Tot.t (by rfl) ?_ | refine Tot.f (by rfl) ?_)
          exact Tot.bind key fun r hr => Tot.ret hr
        · rw [e]
          repeat (first | refine Tot.t (by rfl) ?_ | refine Tot.f (by rfl) ?_)
          exact rkey
        · have hbp : ∀ i, i < (gr a 4).length → (par (inOps [[C.int .i64 9], [C.int .i64 10]] (gi ((gr a 4).getD i []) 0)) (T i)).length ≤ WW * sz d false ((gr a 4).getD i []) + 2 := fun i hi => by
            have := par_len (b := inOps [[C.int .i64 9], [C.int .i64 10]] (gi ((gr a 4).getD i []) 0)) (t := T i)
            have := (hT i hi).b
            omega
          have h2 := join_bd (f := sz d false) (sep := bl (⟨#[32, 97, 110, 100, 32]⟩ : ByteArray)) (by decide) hbp (Nat.le_refl _)
          have h3 := Nat.mul_le_mul_left WW (show ((gr a 4).map (sz d false)).sum + 1 ≤ sz (d + 1) false a by omega)
          rw [Nat.mul_add, Nat.mul_one] at h3
          omega
      · obtain ⟨T, hT⟩ := chF a 4 hs h9 (by omega)
        have key := show_all_tot (gr a 4) (⟨#[32, 111, 114, 32]⟩ : ByteArray) [[C.int .i64 10]] T (sz d false) h64 (by decide) (by decide) (fun i hi => (hT i hi).s) (fun i hi => (hT i hi).b) (by omega)
        have rkey := rfilter_loop (a := a) (op := 10) (by decide) T (sz d false) (⟨#[32, 111, 114, 32]⟩ : ByteArray) [[C.int .i64 10]] [] h64 (by right; exact ⟨rfl, rfl⟩) (fun x => by simp [inOps, gi, fc, C.it]) rfl (fun i hi => (hT i hi).r) (fun i hi => (hT i hi).b) (by omega)
        rw [List.append_nil] at rkey
        refine ⟨Lib.join (upto (fun i => par (inOps [[C.int .i64 10]] (gi ((gr a 4).getD i []) 0)) (T i)) (gr a 4).length) (bl (⟨#[32, 111, 114, 32]⟩ : ByteArray)), upS ?_, upR ?_, ?_⟩
        · rw [e]
          repeat (first | refine Tot.t (by rfl) ?_ | refine Tot.f (by rfl) ?_)
          exact Tot.bind key fun r hr => Tot.ret hr
        · rw [e]
          repeat (first | refine Tot.t (by rfl) ?_ | refine Tot.f (by rfl) ?_)
          exact rkey
        · have hbp : ∀ i, i < (gr a 4).length → (par (inOps [[C.int .i64 10]] (gi ((gr a 4).getD i []) 0)) (T i)).length ≤ WW * sz d false ((gr a 4).getD i []) + 2 := fun i hi => by
            have := par_len (b := inOps [[C.int .i64 10]] (gi ((gr a 4).getD i []) 0)) (t := T i)
            have := (hT i hi).b
            omega
          have h2 := join_bd (f := sz d false) (sep := bl (⟨#[32, 111, 114, 32]⟩ : ByteArray)) (by decide) hbp (Nat.le_refl _)
          have h3 := Nat.mul_le_mul_left WW (show ((gr a 4).map (sz d false)).sum + 1 ≤ sz (d + 1) false a by omega)
          rw [Nat.mul_add, Nat.mul_one] at h3
          omega
      · have hl5 := h511.1 e
        obtain ⟨T, hT⟩ := chP a 5 hs h10 (by omega)
        have hzs := sz_sub (f := sz d true) (l := gr a 5) (i := 0) (by omega)
        have htl : (T 0).length ≤ 549755813888 := by
          have h3 := Nat.mul_le_mul_left WW (show sz d true ((gr a 5).getD 0 []) ≤ 64 by omega)
          have := (hT 0 (by omega)).b
          omega
        have key := show_joined_tot (gr a 5) ⟨#[]⟩ [] T (sz d true) (by omega) (by decide) (by decide) (fun i hi => (hT i hi).s) (fun i hi => (hT i hi).b) (by omega)
        rw [hl5, join_upto1] at key
        refine ⟨([104, 97, 115, 40] ++ T 0) ++ [41], upS ?_, upR ?_, ?_⟩
        · rw [e]
          repeat (first | refine Tot.t (by rfl) ?_ | refine Tot.f (by rfl) ?_)
          refine Tot.bind key fun r hr => ?_
          have hr : bl r = T 0 := hr
          have hrs : r.size ≤ 549755813888 := by rw [← bl_len, hr]; exact htl
          exact Tot.t (decide_eq_true (by simp only [sza, szl, List.length_cons, List.length_nil]; omega)) (Tot.t (decide_eq_true (by simp only [sza, szl, List.length_cons, List.length_nil]; omega)) (Tot.ret (by rw [bl_app, bl_app, hr]; rfl)))
        · rw [e]
          repeat (first | refine Tot.t (by rfl) ?_ | refine Tot.f (by rfl) ?_)
          repeat (refine Tot.t (decide_eq_true (by omega)) ?_)
          refine Tot.bind (hT 0 (by omega)).r fun r hr => ?_
          have hrs : r.size ≤ 549755813888 := by rw [← bl_len, hr]; exact htl
          exact Tot.t (decide_eq_true (by simp only [sza, szl, List.length_cons, List.length_nil]; omega)) (Tot.t (decide_eq_true (by simp only [sza, szl, List.length_cons, List.length_nil]; omega)) (Tot.ret (by rw [bl_app, bl_app, hr]; rfl)))
        · have h3 := Nat.mul_le_mul_left WW (show sz d true ((gr a 5).getD 0 []) + 1 ≤ sz (d + 1) false a by omega)
          rw [Nat.mul_add, Nat.mul_one] at h3
          have := (hT 0 (by omega)).b
          simp only [List.length_append, List.length_cons, List.length_nil]
          omega
-- Awake
set_option maxRecDepth 100000 in
theorem awake_at (m : Nat) : (lv (m + 40)).oriellaw15_awake = some true := by kernel_rfl
theorem awake_tot : Tot (fun k _ _ => (lv k).oriellaw15_awake) (fun r => r = true) := ⟨true, rfl, 40, fun n _ _ hn _ _ => by
  obtain ⟨m, rfl⟩ : ∃ m, n = m + 40 := ⟨n - 40, by omega⟩
  exact awake_at m⟩
theorem ext_ok : CallsOK Tryd.prog extG := extG_ok join_ok repl_ok
-- Law
theorem fl_sz : ∀ {d : Nat}, d ≤ 16 → ∀ {k : Bool} {a : List C}, ok d k a → (∀ e, sz e k a ≤ 64) → ∀ f, f ∈ fl d k a → ∀ e, sz e false f ≤ 64 := by
  intro d
  induction d with
  | zero => intro _ k a h; exact h.elim
  | succ d ih =>
    intro hd k a h hz f hf
    have ih := @ih (by omega)
    cases k with
    | true =>
      obtain ⟨_, _, _, _, _, _, _, _, h9, h10⟩ := h
      rcases List.mem_append.1 hf with hx | hx
      · obtain ⟨y, hy, hxy⟩ := List.mem_flatMap.1 hx
        obtain ⟨i, hi, rfl⟩ := mem_getD hy
        exact ih (h9 i hi) (sub_sz hz 1 true (by simp) hi) f hxy
      · obtain ⟨y, hy, hxy⟩ := List.mem_flatMap.1 hx
        obtain ⟨i, hi, rfl⟩ := mem_getD hy
        exact ih (h10 i hi) (sub_sz hz 2 false (by simp) hi) f hxy
    | false =>
      obtain ⟨_, _, _, _, _, _, _, _, h9, h10⟩ := h
      rcases List.mem_append.1 hf with hx | hx
      · rcases List.mem_append.1 hx with hx | hx
        · rw [List.mem_singleton.1 hx]
          exact fun e => by cases e with
            | zero => exact hz 0
            | succ e => exact hz (e + 1)
        · obtain ⟨y, hy, hxy⟩ := List.mem_flatMap.1 hx
          obtain ⟨i, hi, rfl⟩ := mem_getD hy
          exact ih (h9 i hi) (sub_sz hz 4 false (by simp) hi) f hxy
      · obtain ⟨y, hy, hxy⟩ := List.mem_flatMap.1 hx
        obtain ⟨i, hi, rfl⟩ := mem_getD hy
        exact ih (h10 i hi) (sub_sz hz 5 true (by simp) hi) f hxy
theorem prints_tot (p : List C) (hp : SmR BB p) : Tot (fun k _ _ => (lv k).oriellaw15_ShowPrints (gi p 0) (gr p 1) (gr p 2)) (fun r => r = true) := by
  have aw : Tot (fun n _ _ => ((lv n).oriellaw15_awake).bind fun r => some r) (fun r => r = true) := Tot.bind awake_tot fun r hr => Tot.ret hr
  refine oriellaw15_ShowPrints_up _ _ _ (Tot.congr ?_ (fun k _ _ => oriellaw15_ShowPrints_q (lv k) k (gi p 0) (gr p 1) (gr p 2)))
  refine Tot.bind awake_tot fun r hr => ?_
  subst hr
  refine Tot.f rfl (Tot.bind (right_tot p hp) fun r hr => Tot.cond (fun _ => aw) (fun hb => ?_))
  obtain ⟨hok, hsz⟩ := hr (by simpa using hb)
  refine Tot.bind (R := fun r => r = fl 16 true p) (rfilters 16 (Nat.le_refl _) true p hok hsz hp) fun l hl => ?_
  have hlen : l.length ≤ 64 := by rw [hl]; exact Nat.le_trans (fl_len 16 true p) (hsz 16)
  refine Tot.in0 (Tot.loop (H := fun k p' q v (_ : Unit) => oriellaw15_ShowPrints_l0 (lv k) k (gi p 0) (gr p 1) (gr p 2) p' v l) (n := l.length) (fun _ _ => True) (by omega) (fun _ _ => ?_) (fun i _ hi _ next => ?_) _ 0 () rfl (by omega) trivial)
  · refine Tot.step0 (fun k p_ q_ => oriellaw15_ShowPrints_l0_q (lv k) k (gi p 0) (gr p 1) (gr p 2) p_ _ _) ?_
    refine Tot.f (decide_eq_false (by omega)) ?_
    obtain ⟨t, ht⟩ := (show_tots 16 (Nat.le_refl _)).1 p hok hp (hsz 16)
    refine Tot.bind ht.s fun r3 h3 => Tot.bind ht.r fun r4 h4 => Tot.ret ?_
    exact bl_eq (h3.trans h4.symm)
  · have hm : l.getD i [] ∈ fl 16 true p := hl ▸ getD_mem hi
    have hf := fl_ok (Nat.le_refl _) hok hp _ hm
    obtain ⟨t, ht⟩ := (show_tots 16 (Nat.le_refl _)).2 _ hf.ok hf.sm (fl_sz (Nat.le_refl _) hok hsz _ hm 16)
    refine Tot.step0 (fun k p_ q_ => oriellaw15_ShowPrints_l0_q (lv k) k (gi p 0) (gr p 1) (gr p 2) p_ _ _) ?_
    rw [Int.toNat_natCast]
    repeat (refine Tot.t (decide_eq_true (by omega)) ?_)
    refine Tot.bind ht.s fun r1 h1 => ?_
    repeat (refine Tot.t (decide_eq_true (by omega)) ?_)
    refine Tot.bind ht.r fun r2 h2 => ?_
    exact Tot.f (by rw [bl_eq (h1.trans h2.symm)]; rfl) (next () trivial)
end Go.Vm.T
