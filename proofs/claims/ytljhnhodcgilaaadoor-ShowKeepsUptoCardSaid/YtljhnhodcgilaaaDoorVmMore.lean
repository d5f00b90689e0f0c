/- The plain law. -/
import Derived.Test.YtljhnhodcgilaaaDoorVmPure
import Derived.Test.YtljhnhodcgilaaaDoorVmTbb
import Derived.Lib.RuneCountTail
/- A path's text is the same, by the program and by the document. -/
set_option linter.unusedVariables false
set_option linter.unusedSimpArgs false
namespace Go.Vm.T
open Go Go.Vm Go.Proofs
attribute [local irreducible] lv oriellaw15_ShowKeeps_b oriellaw15_ShowPrints_b oriellaw15_ShowPrints_l0 oriellaw15_awake_b show_Path_b show_Path_l0 show_joined_b show_joined_l0 show_joined_l1 show_Filter_b show_bracketed_b show_name_b show_quoted_b show_all_b show_all_l0 show_all_l1 slices_Contains_int_int_b lex_Write_b slices_Index_int_int_b slices_Index_int_int_l0 orielref12_Right_b orielref12_Size_b orielref12_size_b orielref12_size_l0 orielref12_size_l1 orielref12_sizeFilter_b orielref12_sizeFilter_l0 orielref12_sizeFilter_l1 orielref12_path_b orielref12_path_l0 orielref12_path_l1 orielref12_filter_b orielref12_filter_l0 orielref12_filter_l1 orielref12_filter_l2 orielref12_filter_l3 orielref12_filter_l4 orielref12_named_b orielref04_Right_b orielref04_Right_l0 orielref03_Plain_b orielref03_Plain_l0 orielref01_All_b orielref01_All_l0 orielref01_All_l1 orielref02_Start_b orielref01_Rune_b orielref01_Rune_l0 orielref01_Put_b orielref01_cut_b orielref01_cut_l0 orielref01_cut_l1 orielref01_cut_l2 orielref01_cut_l3 orielref01_cut_l4 orielref01_value_b orielref01_value_l0 orielref01_value_l1 orielref12_Same_b orielref12_Same_l0 orielref12_Same_l1 orielref12_Filters_b orielref12_Filters_l0 orielref12_Filters_l1 orielref12_Filters_l2 orielref12_Filters_l3 orielref02_Char_b orielref02_Part_b orielref01_begins_b orielref01_begins_l0 orielref12_SameFilter_b orielref12_SameFilter_l0 orielref12_SameFilter_l1 orielref12_within_b orielref12_within_l0 orielref12_within_l1 orielref02_Blank_b orielref15_Filter_b orielref15_Filter_l0 orielref15_Filter_l1 orielref15_Filter_l2 orielref15_Path_b orielref15_Path_l0 orielref15_Path_l1 orielref15_Path_l2 orielref05_Find_b orielref05_Find_l0 orielref15_name_b orielref15_quoted_b orielref15_brackets_b orielref13_Write_b orielref13_Write_l0
/-- both texts of a path, of a filter -/
structure SP (d : Nat) (a : List C) (t : List UInt8) : Prop where
  s : Tot (fun k _ _ => (lv k).show_Path (gi a 0) (gr a 1) (gr a 2)) (fun r => bl r = t)
  r : Tot (fun k _ _ => (lv k).orielref15_Path (gi a 0) (gr a 1) (gr a 2)) (fun r => bl r = t)
  b : t.length ≤ WW * sz d true a
  e : t = tx d true a
structure SF (d : Nat) (a : List C) (t : List UInt8) : Prop where
  s : Tot (fun k _ _ => (lv k).show_Filter (gi a 0) (gs a 1) (gs a 2) (gs a 3) (gr a 4) (gr a 5)) (fun r => bl r = t)
  r : Tot (fun k _ _ => (lv k).orielref15_Filter (gi a 0) (gs a 1) (gs a 2) (gs a 3) (gr a 4) (gr a 5)) (fun r => bl r = t)
  b : t.length ≤ WW * sz d false a
  e : t = tx d false a
theorem WW_is : WW = 8388608 := rfl
theorem ops2 (x a b : Int) : inOps [[C.int .i64 a], [C.int .i64 b]] x = decide (x = a ∨ x = b) := by
  show (x == a || (x == b || false)) = _
  rw [Bool.or_false, Bool.decide_or]
  rfl
theorem ops1 (x a : Int) : inOps [[C.int .i64 a]] x = decide (x = a) := by
  show (x == a || false) = _
  rw [Bool.or_false]
  rfl
theorem join_tx {l : List (List C)} {T : Nat → List UInt8} {ops : LL} {g : Int → Prop} [DecidablePred g] {f : List C → List UInt8} (sep : List UInt8) (hT : ∀ i, i < l.length → T i = f (l.getD i [])) (hops : ∀ x, inOps ops x = decide (g x)) :
    Lib.join (upto (fun i => par (inOps ops (gi (l.getD i []) 0)) (T i)) l.length) sep = Lib.join (l.map fun x => par (decide (g (gi x 0))) (f x)) sep := by
  congr 1
  apply List.ext_getElem (by simp [upto])
  intro i h1 h2
  have hi : i < l.length := by simpa [upto] using h1
  have e : l.getD i [] = l[i] := by rw [List.getD_eq_getElem?_getD, List.getElem?_eq_getElem hi]; rfl
  simp only [upto, List.getElem_map, List.getElem_range]
  rw [hT i hi, e, hops]
theorem rpath_loop {a : List C} {op : Int} (hop : op = 4 ∨ op = 5 ∨ op = 6) (T : Nat → List UInt8) (f : List C → Nat) (sep : ByteArray) (ops : LL) (end_ : List UInt8) (hl : (gr a 1).length ≤ 64) (h6 : op = 6 → (gr a 1).length = 1)
    (hsep : (op = 5 ∧ sep = ⟨#[124]⟩) ∨ (op = 4 ∧ sep = ⟨#[47]⟩) ∨ (op = 6 ∧ sep = ⟨#[]⟩)) (hops : ∀ x : Int, inOps ops x = (x == 5 || (x == 4 && !(op == 5)))) (hend : end_ = if op = 6 then [42] else [])
    (hT : ∀ i, i < (gr a 1).length → Tot (fun k _ _ => (lv k).orielref15_Path (gi ((gr a 1).getD i []) 0) (gr ((gr a 1).getD i []) 1) (gr ((gr a 1).getD i []) 2)) (fun r => bl r = T i)) (hb : ∀ i, i < (gr a 1).length → (T i).length ≤ WW * f ((gr a 1).getD i [])) (hf : ((gr a 1).map f).sum ≤ 64) :
    Tot (fun k _ _ => orielref15_Path_l0 (lv k) k op (gr a 1) (gr a 2) k ⟨#[]⟩ 0) (fun r => bl r = Lib.join (upto (fun i => par (inOps ops (gi ((gr a 1).getD i []) 0)) (T i)) (gr a 1).length) (bl sep) ++ end_) := by
  have hWW := WW_is
  have hs5 : (bl sep).length ≤ 5 := by rcases hsep with ⟨rfl, rfl⟩ | ⟨rfl, rfl⟩ | ⟨rfl, rfl⟩ <;> decide
  have hbp : ∀ i, i < (gr a 1).length → (par (inOps ops (gi ((gr a 1).getD i []) 0)) (T i)).length ≤ WW * f ((gr a 1).getD i []) + 2 := fun i hi => by
    have := par_len (b := inOps ops (gi ((gr a 1).getD i []) 0)) (t := T i)
    have := hb i hi
    omega
  have hw : WW * ((gr a 1).map f).sum ≤ WW * 64 := Nat.mul_le_mul_left _ hf
  have hsz : ∀ i, i < (gr a 1).length → (T i).length ≤ 1099511627776 := fun i hi => by
    have h1 := hb i hi
    have h2 := sz_sub (f := f) hi
    have h3 := Nat.mul_le_mul_left WW h2
    omega
  have hjn : ∀ m, m ≤ (gr a 1).length → (Lib.join (upto (fun i => par (inOps ops (gi ((gr a 1).getD i []) 0)) (T i)) m) (bl sep)).length ≤ 549755813888 := fun m hm => by
    have := join_bd (f := f) hs5 hbp hm
    omega
  refine Tot.in0 (Tot.loop (H := fun k p q v w => orielref15_Path_l0 (lv k) k op (gr a 1) (gr a 2) p w v) (n := (gr a 1).length) (fun i w => bl w = Lib.join (upto (fun i => par (inOps ops (gi ((gr a 1).getD i []) 0)) (T i)) i) (bl sep)) (by omega) (fun w hw => ?_) (fun i w hi hw next => ?_) _ 0 _ rfl (by omega) rfl)
  · have hwl : w.size ≤ 549755813888 := by rw [← bl_len, hw]; exact hjn _ (Nat.le_refl _)
    refine Tot.step0 (fun k p_ q_ => orielref15_Path_l0_q (lv k) k op (gr a 1) (gr a 2) p_ _ _) ?_
    refine Tot.f (decide_eq_false (by omega)) ?_
    refine Tot.cond (fun c => ?_) (fun c => Tot.ret (by rw [hend, if_neg (by intro e; rw [e] at c; cases c), hw, List.append_nil]))
    have c : op = 6 := eq_of_beq c
    refine Tot.t (decide_eq_true (by simp only [sza, szl, List.length_cons, List.length_nil]; omega)) (Tot.ret ?_)
    rw [bl_app, hw, hend, if_pos c]
    rfl
  · have hwl : w.size ≤ 549755813888 := by rw [← bl_len, hw]; exact hjn _ (by omega)
    -- the child's text behind
    have l2 : ∀ w2 : ByteArray, (bl w2 = if i = 0 then [] else Lib.join (upto (fun i => par (inOps ops (gi ((gr a 1).getD i []) 0)) (T i)) i) (bl sep) ++ bl sep) → w2.size ≤ 549755813900 → Tot (fun k p q => orielref15_Path_l2 (lv k) k op (gr a 1) (gr a 2) p w2 (i : Int)) (fun r => bl r = Lib.join (upto (fun i => par (inOps ops (gi ((gr a 1).getD i []) 0)) (T i)) (gr a 1).length) (bl sep) ++ end_) := fun w2 hw2 hs2 => by
      refine Tot.congr ?_ (fun k p_ q_ => orielref15_Path_l2_q (lv k) k op (gr a 1) (gr a 2) p_ w2 (i : Int))
      rw [Int.toNat_natCast]
      repeat (refine Tot.t (decide_eq_true (by omega)) ?_)
      refine Tot.bind (hT i hi) fun r1 hr1 => ?_
      have hr1s : r1.size ≤ 1099511627776 := by rw [← bl_len, hr1]; exact hsz i hi
      have go : ∀ b : Bool, b = inOps ops (gi ((gr a 1).getD i []) 0) → ∀ {kk : Nat → Nat → Nat → ByteArray → Option ByteArray}, (∀ r2 : ByteArray, bl r2 = par b (T i) → Tot (fun k p q => kk k p q r2) (fun r => bl r = Lib.join (upto (fun i => par (inOps ops (gi ((gr a 1).getD i []) 0)) (T i)) (gr a 1).length) (bl sep) ++ end_)) → Tot (fun k p q => ((lv k).orielref15_brackets r1 b).bind fun r2 => kk k p q r2) (fun r => bl r = Lib.join (upto (fun i => par (inOps ops (gi ((gr a 1).getD i []) 0)) (T i)) (gr a 1).length) (bl sep) ++ end_) := fun b hb2 kk h => Tot.bind (brackets_tot r1 b hr1s) fun r2 hr2 => h r2 (by rw [hr2, hr1])
      have tail : ∀ (b : Bool) (r2 : ByteArray), b = inOps ops (gi ((gr a 1).getD i []) 0) → bl r2 = par b (T i) → Tot (fun k p q => cond (decide (w2.size + r2.size ≤ 4611686018427387904)) (orielref15_Path_l0 (lv k) k op (gr a 1) (gr a 2) p (w2 ++ r2) (IntKind.i64.wrap ((i : Int) + 1))) none) (fun r => bl r = Lib.join (upto (fun i => par (inOps ops (gi ((gr a 1).getD i []) 0)) (T i)) (gr a 1).length) (bl sep) ++ end_) := fun b r2 hb2 hr2 => by
        have hr2s : r2.size ≤ 1099511627778 := by
          have h1 := par_len (b := b) (t := T i)
          have h2 := hsz i hi
          rw [← bl_len, hr2]
          omega
        refine Tot.t (decide_eq_true (by omega)) (next _ ?_)
        rw [bl_app, hr2, hw2, hb2]
        rcases Nat.eq_zero_or_pos i with e | e
        · subst e
          rw [if_pos rfl, join_upto1]
          rfl
        · rw [if_neg (by omega), join_upto _ _ e]
      have hin := hops (gi ((gr a 1).getD i []) 0)
      refine Tot.cond (fun c1 => go true (by rw [hin, c1]; rfl) fun r2 hr2 => tail true r2 (by rw [hin, c1]; rfl) hr2) (fun c1 => Tot.cond (fun c2 => ?_) (fun c2 => go false (by rw [hin, c1, c2]; rfl) fun r2 hr2 => tail false r2 (by rw [hin, c1, c2]; rfl) hr2))
      exact go _ (by rw [hin, c1, c2]; simp) fun r2 hr2 => tail _ r2 (by rw [hin, c1, c2]; simp) hr2
    have l1 : ∀ w1 : ByteArray, (bl w1 = if i = 0 ∨ ¬ op = 5 then bl w else bl w ++ bl sep) → w1.size ≤ 549755813894 → Tot (fun k p q => orielref15_Path_l1 (lv k) k op (gr a 1) (gr a 2) p w1 (i : Int)) (fun r => bl r = Lib.join (upto (fun i => par (inOps ops (gi ((gr a 1).getD i []) 0)) (T i)) (gr a 1).length) (bl sep) ++ end_) := fun w1 hw1 hs1 => by
      refine Tot.congr ?_ (fun k p_ q_ => orielref15_Path_l1_q (lv k) k op (gr a 1) (gr a 2) p_ w1 (i : Int))
      refine Tot.cond (fun ci => ?_) (fun ci => l2 w1 ?_ (by omega))
      · have ci := of_decide_eq_true ci
        rcases hsep with ⟨rfl, rfl⟩ | ⟨rfl, rfl⟩ | ⟨rfl, rfl⟩
        · rw [if_neg (by omega)] at hw1
          exact Tot.f (by rfl) (l2 w1 (by rw [if_neg (by omega), hw1, hw]) (by omega))
        · rw [if_pos (.inr (by omega))] at hw1
          exact Tot.t (by rfl) (Tot.t (decide_eq_true (by simp only [sza, szl, List.length_cons, List.length_nil]; omega)) (l2 _ (by rw [if_neg (by omega), bl_app, hw1, hw]) (by simp only [sza, szl, List.length_cons, List.length_nil]; omega)))
        · have := h6 rfl
          exact absurd ci (by omega)
      · have ci := of_decide_eq_false ci
        have e0 : i = 0 := by omega
        subst e0
        rw [if_pos (.inl rfl)] at hw1
        rw [if_pos rfl, hw1, hw]
        rfl
    refine Tot.step0 (fun k p_ q_ => orielref15_Path_l0_q (lv k) k op (gr a 1) (gr a 2) p_ _ _) ?_
    refine Tot.t (decide_eq_true (by omega)) (Tot.cond (fun ci => ?_) (fun ci => l1 w ?_ (by omega)))
    · have ci := of_decide_eq_true ci
      rcases hsep with ⟨rfl, rfl⟩ | ⟨rfl, rfl⟩ | ⟨rfl, rfl⟩
      · exact Tot.t (by rfl) (Tot.t (decide_eq_true (by simp only [sza, szl, List.length_cons, List.length_nil]; omega)) (l1 _ (by rw [if_neg (by omega), bl_app]) (by simp only [sza, szl, List.length_cons, List.length_nil]; omega)))
      · exact Tot.f (by rfl) (l1 w (by rw [if_pos (.inr (by omega))]) (by omega))
      · have := h6 rfl
        exact absurd ci (by omega)
    · have ci := of_decide_eq_false ci
      rw [if_pos (.inl (by omega))]
theorem rfilter_loop {a : List C} {op : Int} (hop : op = 9 ∨ op = 10) (T : Nat → List UInt8) (f : List C → Nat) (sep : ByteArray) (ops : LL) (end_ : List UInt8) (hl : (gr a 4).length ≤ 64) 
    (hsep : (op = 9 ∧ sep = ⟨#[32, 97, 110, 100, 32]⟩) ∨ (op = 10 ∧ sep = ⟨#[32, 111, 114, 32]⟩) ) (hops : ∀ x : Int, inOps ops x = (x == 10 || (x == 9 && (op == 9)))) (hend : end_ = [])
    (hT : ∀ i, i < (gr a 4).length → Tot (fun k _ _ => (lv k).orielref15_Filter (gi ((gr a 4).getD i []) 0) (gs ((gr a 4).getD i []) 1) (gs ((gr a 4).getD i []) 2) (gs ((gr a 4).getD i []) 3) (gr ((gr a 4).getD i []) 4) (gr ((gr a 4).getD i []) 5)) (fun r => bl r = T i)) (hb : ∀ i, i < (gr a 4).length → (T i).length ≤ WW * f ((gr a 4).getD i [])) (hf : ((gr a 4).map f).sum ≤ 64) :
    Tot (fun k _ _ => orielref15_Filter_l0 (lv k) k op (gs a 1) (gs a 2) (gs a 3) (gr a 4) (gr a 5) k ⟨#[]⟩ 0) (fun r => bl r = Lib.join (upto (fun i => par (inOps ops (gi ((gr a 4).getD i []) 0)) (T i)) (gr a 4).length) (bl sep) ++ end_) := by
  have hWW := WW_is
  have hs5 : (bl sep).length ≤ 5 := by rcases hsep with ⟨rfl, rfl⟩ | ⟨rfl, rfl⟩ <;> decide
  have hbp : ∀ i, i < (gr a 4).length → (par (inOps ops (gi ((gr a 4).getD i []) 0)) (T i)).length ≤ WW * f ((gr a 4).getD i []) + 2 := fun i hi => by
    have := par_len (b := inOps ops (gi ((gr a 4).getD i []) 0)) (t := T i)
    have := hb i hi
    omega
  have hw : WW * ((gr a 4).map f).sum ≤ WW * 64 := Nat.mul_le_mul_left _ hf
  have hsz : ∀ i, i < (gr a 4).length → (T i).length ≤ 1099511627776 := fun i hi => by
    have h1 := hb i hi
    have h2 := sz_sub (f := f) hi
    have h3 := Nat.mul_le_mul_left WW h2
    omega
  have hjn : ∀ m, m ≤ (gr a 4).length → (Lib.join (upto (fun i => par (inOps ops (gi ((gr a 4).getD i []) 0)) (T i)) m) (bl sep)).length ≤ 549755813888 := fun m hm => by
    have := join_bd (f := f) hs5 hbp hm
    omega
  refine Tot.in0 (Tot.loop (H := fun k p q v w => orielref15_Filter_l0 (lv k) k op (gs a 1) (gs a 2) (gs a 3) (gr a 4) (gr a 5) p w v) (n := (gr a 4).length) (fun i w => bl w = Lib.join (upto (fun i => par (inOps ops (gi ((gr a 4).getD i []) 0)) (T i)) i) (bl sep)) (by omega) (fun w hw => ?_) (fun i w hi hw next => ?_) _ 0 _ rfl (by omega) rfl)
  · have hwl : w.size ≤ 549755813888 := by rw [← bl_len, hw]; exact hjn _ (Nat.le_refl _)
    refine Tot.step0 (fun k p_ q_ => orielref15_Filter_l0_q (lv k) k op (gs a 1) (gs a 2) (gs a 3) (gr a 4) (gr a 5) p_ _ _) ?_
    refine Tot.f (decide_eq_false (by omega)) ?_
    exact Tot.ret (by rw [hw, hend, List.append_nil])
  · have hwl : w.size ≤ 549755813888 := by rw [← bl_len, hw]; exact hjn _ (by omega)
    -- the child's text behind
    have l2 : ∀ w2 : ByteArray, (bl w2 = if i = 0 then [] else Lib.join (upto (fun i => par (inOps ops (gi ((gr a 4).getD i []) 0)) (T i)) i) (bl sep) ++ bl sep) → w2.size ≤ 549755813900 → Tot (fun k p q => orielref15_Filter_l2 (lv k) k op (gs a 1) (gs a 2) (gs a 3) (gr a 4) (gr a 5) p w2 (i : Int)) (fun r => bl r = Lib.join (upto (fun i => par (inOps ops (gi ((gr a 4).getD i []) 0)) (T i)) (gr a 4).length) (bl sep) ++ end_) := fun w2 hw2 hs2 => by
      refine Tot.congr ?_ (fun k p_ q_ => orielref15_Filter_l2_q (lv k) k op (gs a 1) (gs a 2) (gs a 3) (gr a 4) (gr a 5) p_ w2 (i : Int))
      rw [Int.toNat_natCast]
      repeat (refine Tot.t (decide_eq_true (by omega)) ?_)
      refine Tot.bind (hT i hi) fun r1 hr1 => ?_
      have hr1s : r1.size ≤ 1099511627776 := by rw [← bl_len, hr1]; exact hsz i hi
      have go : ∀ b : Bool, b = inOps ops (gi ((gr a 4).getD i []) 0) → ∀ {kk : Nat → Nat → Nat → ByteArray → Option ByteArray}, (∀ r2 : ByteArray, bl r2 = par b (T i) → Tot (fun k p q => kk k p q r2) (fun r => bl r = Lib.join (upto (fun i => par (inOps ops (gi ((gr a 4).getD i []) 0)) (T i)) (gr a 4).length) (bl sep) ++ end_)) → Tot (fun k p q => ((lv k).orielref15_brackets r1 b).bind fun r2 => kk k p q r2) (fun r => bl r = Lib.join (upto (fun i => par (inOps ops (gi ((gr a 4).getD i []) 0)) (T i)) (gr a 4).length) (bl sep) ++ end_) := fun b hb2 kk h => Tot.bind (brackets_tot r1 b hr1s) fun r2 hr2 => h r2 (by rw [hr2, hr1])
      have tail : ∀ (b : Bool) (r2 : ByteArray), b = inOps ops (gi ((gr a 4).getD i []) 0) → bl r2 = par b (T i) → Tot (fun k p q => cond (decide (w2.size + r2.size ≤ 4611686018427387904)) (orielref15_Filter_l0 (lv k) k op (gs a 1) (gs a 2) (gs a 3) (gr a 4) (gr a 5) p (w2 ++ r2) (IntKind.i64.wrap ((i : Int) + 1))) none) (fun r => bl r = Lib.join (upto (fun i => par (inOps ops (gi ((gr a 4).getD i []) 0)) (T i)) (gr a 4).length) (bl sep) ++ end_) := fun b r2 hb2 hr2 => by
        have hr2s : r2.size ≤ 1099511627778 := by
          have h1 := par_len (b := b) (t := T i)
          have h2 := hsz i hi
          rw [← bl_len, hr2]
          omega
        refine Tot.t (decide_eq_true (by omega)) (next _ ?_)
        rw [bl_app, hr2, hw2, hb2]
        rcases Nat.eq_zero_or_pos i with e | e
        · subst e
          rw [if_pos rfl, join_upto1]
          rfl
        · rw [if_neg (by omega), join_upto _ _ e]
      have hin := hops (gi ((gr a 4).getD i []) 0)
      refine Tot.cond (fun c1 => go true (by rw [hin, c1]; rfl) fun r2 hr2 => tail true r2 (by rw [hin, c1]; rfl) hr2) (fun c1 => Tot.cond (fun c2 => ?_) (fun c2 => go false (by rw [hin, c1, c2]; rfl) fun r2 hr2 => tail false r2 (by rw [hin, c1, c2]; rfl) hr2))
      exact go _ (by rw [hin, c1, c2]; simp) fun r2 hr2 => tail _ r2 (by rw [hin, c1, c2]; simp) hr2
    have l1 : ∀ w1 : ByteArray, (bl w1 = if i = 0 ∨ ¬ op = 9 then bl w else bl w ++ bl sep) → w1.size ≤ 549755813894 → Tot (fun k p q => orielref15_Filter_l1 (lv k) k op (gs a 1) (gs a 2) (gs a 3) (gr a 4) (gr a 5) p w1 (i : Int)) (fun r => bl r = Lib.join (upto (fun i => par (inOps ops (gi ((gr a 4).getD i []) 0)) (T i)) (gr a 4).length) (bl sep) ++ end_) := fun w1 hw1 hs1 => by
      refine Tot.congr ?_ (fun k p_ q_ => orielref15_Filter_l1_q (lv k) k op (gs a 1) (gs a 2) (gs a 3) (gr a 4) (gr a 5) p_ w1 (i : Int))
      refine Tot.cond (fun ci => ?_) (fun ci => l2 w1 ?_ (by omega))
      · have ci := of_decide_eq_true ci
        rcases hsep with ⟨rfl, rfl⟩ | ⟨rfl, rfl⟩
        · rw [if_neg (by omega)] at hw1
          exact Tot.f (by rfl) (l2 w1 (by rw [if_neg (by omega), hw1, hw]) (by omega))
        · rw [if_pos (.inr (by omega))] at hw1
          exact Tot.t (by rfl) (Tot.t (decide_eq_true (by simp only [sza, szl, List.length_cons, List.length_nil]; omega)) (l2 _ (by rw [if_neg (by omega), bl_app, hw1, hw]) (by simp only [sza, szl, List.length_cons, List.length_nil]; omega)))
      · have ci := of_decide_eq_false ci
        have e0 : i = 0 := by omega
        subst e0
        rw [if_pos (.inl rfl)] at hw1
        rw [if_pos rfl, hw1, hw]
        rfl
    refine Tot.step0 (fun k p_ q_ => orielref15_Filter_l0_q (lv k) k op (gs a 1) (gs a 2) (gs a 3) (gr a 4) (gr a 5) p_ _ _) ?_
    refine Tot.t (decide_eq_true (by omega)) (Tot.cond (fun ci => ?_) (fun ci => l1 w ?_ (by omega)))
    · have ci := of_decide_eq_true ci
      rcases hsep with ⟨rfl, rfl⟩ | ⟨rfl, rfl⟩
      · exact Tot.t (by rfl) (Tot.t (decide_eq_true (by simp only [sza, szl, List.length_cons, List.length_nil]; omega)) (l1 _ (by rw [if_neg (by omega), bl_app]) (by simp only [sza, szl, List.length_cons, List.length_nil]; omega)))
      · exact Tot.f (by rfl) (l1 w (by rw [if_pos (.inr (by omega))]) (by omega))
    · have ci := of_decide_eq_false ci
      rw [if_pos (.inl (by omega))]
theorem show_tots : ∀ d, d ≤ 16 → (∀ a, ok d true a → SmR BB a → sz d true a ≤ 64 → ∃ t, SP d a t) ∧ (∀ a, ok d false a → SmR BB a → sz d false a ≤ 64 → ∃ t, SF d a t) := by
  intro d
  induction d with
  | zero => intro _; exact ⟨fun a h => h.elim, fun a h => h.elim⟩
  | succ d ih =>
    intro hd
    have ih := ih (by omega)
    have hWW := WW_is
    have chP : ∀ (a : List C) (j : Nat), SmR BB a → (∀ i, i < (gr a j).length → ok d true ((gr a j).getD i [])) → ((gr a j).map (sz d true)).sum ≤ 64 → ∃ T : Nat → List UInt8, ∀ i, i < (gr a j).length → SP d ((gr a j).getD i []) (T i) := fun a j hs h9 hz => by
      have : ∀ i, ∃ t, i < (gr a j).length → SP d ((gr a j).getD i []) t := fun i => by
        by_cases hi : i < (gr a j).length
        · have := sz_sub (f := sz d true) hi
          obtain ⟨t, ht⟩ := ih.1 _ (h9 i hi) ((hs.gr j).get i) (by omega)
          exact ⟨t, fun _ => ht⟩
        · exact ⟨[], fun h => absurd h hi⟩
      exact Classical.axiomOfChoice this
    have chF : ∀ (a : List C) (j : Nat), SmR BB a → (∀ i, i < (gr a j).length → ok d false ((gr a j).getD i [])) → ((gr a j).map (sz d false)).sum ≤ 64 → ∃ T : Nat → List UInt8, ∀ i, i < (gr a j).length → SF d ((gr a j).getD i []) (T i) := fun a j hs h9 hz => by
      have : ∀ i, ∃ t, i < (gr a j).length → SF d ((gr a j).getD i []) t := fun i => by
        by_cases hi : i < (gr a j).length
        · have := sz_sub (f := sz d false) hi
          obtain ⟨t, ht⟩ := ih.2 _ (h9 i hi) ((hs.gr j).get i) (by omega)
          exact ⟨t, fun _ => ht⟩
        · exact ⟨[], fun h => absurd h hi⟩
      exact Classical.axiomOfChoice this
    constructor
    · intro a ha hs hz
      obtain ⟨h1, h7, h45, h6, h77, ht1, h64, h0, h9, h10⟩ := ha
      have esz : sz (d + 1) true a = 1 + ((gr a 1).map (sz d true)).sum + ((gr a 2).map (sz d false)).sum := rfl
      have upS : ∀ {Q}, Tot _ Q → Tot (fun k _ _ => (lv k).show_Path (gi a 0) (gr a 1) (gr a 2)) Q := fun h => show_Path_up _ _ _ (Tot.congr h (fun k _ _ => show_Path_q (lv k) k (gi a 0) (gr a 1) (gr a 2)))
      have upR : ∀ {Q}, Tot _ Q → Tot (fun k _ _ => (lv k).orielref15_Path (gi a 0) (gr a 1) (gr a 2)) Q := fun h => orielref15_Path_up _ _ _ (Tot.congr h (fun k _ _ => orielref15_Path_q (lv k) k (gi a 0) (gr a 1) (gr a 2)))
      obtain ⟨T, hT⟩ := chP a 1 hs h9 (by omega)
      have hm := Nat.mul_le_mul_left WW (show ((gr a 1).map (sz d true)).sum + 1 ≤ sz (d + 1) true a by omega)
      rw [Nat.mul_add, Nat.mul_one] at hm
      have kids : ∀ (sep : ByteArray) (ops : LL) (end_ : List UInt8), (gi a 0 = 4 ∨ gi a 0 = 5 ∨ gi a 0 = 6) → ((gi a 0 = 5 ∧ sep = ⟨#[124]⟩) ∨ (gi a 0 = 4 ∧ sep = ⟨#[47]⟩) ∨ (gi a 0 = 6 ∧ sep = ⟨#[]⟩)) → ops.length ≤ 64 → (∀ x : Int, inOps ops x = (x == 5 || (x == 4 && !(gi a 0 == 5)))) → (end_ = if gi a 0 = 6 then [42] else []) →
          ∃ t : List UInt8, Tot (fun k _ _ => (lv k).show_joined (gr a 1) sep ops) (fun r => bl r = t) ∧ Tot (fun k _ _ => orielref15_Path_l0 (lv k) k (gi a 0) (gr a 1) (gr a 2) k ⟨#[]⟩ 0) (fun r => bl r = t ++ end_) ∧ t.length + 2 ≤ WW * sz (d + 1) true a ∧ t = Lib.join (upto (fun i => par (inOps ops (gi ((gr a 1).getD i []) 0)) (T i)) (gr a 1).length) (bl sep) := fun sep ops end_ hop hsep hops hin hend => by
        have hs5 : (bl sep).length ≤ 5 := by rcases hsep with ⟨_, rfl⟩ | ⟨_, rfl⟩ | ⟨_, rfl⟩ <;> decide
        have hbp : ∀ i, i < (gr a 1).length → (par (inOps ops (gi ((gr a 1).getD i []) 0)) (T i)).length ≤ WW * sz d true ((gr a 1).getD i []) + 2 := fun i hi => by
          have := par_len (b := inOps ops (gi ((gr a 1).getD i []) 0)) (t := T i)
          have := (hT i hi).b
          omega
        refine ⟨_, show_joined_tot (gr a 1) sep ops T (sz d true) h64 hops (by rw [← bl_len]; exact hs5) (fun i hi => (hT i hi).s) (fun i hi => (hT i hi).b) (by omega), rpath_loop hop T (sz d true) sep ops end_ h64 h6 hsep hin hend (fun i hi => (hT i hi).r) (fun i hi => (hT i hi).b) (by omega), ?_, rfl⟩
        have := join_bd (f := sz d true) hs5 hbp (Nat.le_refl _)
        omega
      have hop : gi a 0 = 1 ∨ gi a 0 = 2 ∨ gi a 0 = 3 ∨ gi a 0 = 4 ∨ gi a 0 = 5 ∨ gi a 0 = 6 ∨ gi a 0 = 7 := by omega
      rcases hop with e | e | e | e | e | e | e
      · exact ⟨[46], upS (by rw [e]; repeat (first | refine Tot.t (by rfl) ?_ | refine Tot.f (by rfl) ?_); exact Tot.ret rfl), upR (by rw [e]; repeat (first | refine Tot.t (by rfl) ?_ | refine Tot.f (by rfl) ?_); exact Tot.ret rfl), by simp only [List.length_cons, List.length_nil]; omega, by rw [tx, if_neg (by rw [e]; decide), if_neg (by rw [e]; decide)]; show _ = pcore (tx d) a; unfold pcore; rw [e]; rfl⟩
      · exact ⟨[102, 105, 114, 115, 116], upS (by rw [e]; repeat (first | refine Tot.t (by rfl) ?_ | refine Tot.f (by rfl) ?_); exact Tot.ret rfl), upR (by rw [e]; repeat (first | refine Tot.t (by rfl) ?_ | refine Tot.f (by rfl) ?_); exact Tot.ret rfl), by simp only [List.length_cons, List.length_nil]; omega, by rw [tx, if_neg (by rw [e]; decide), if_neg (by rw [e]; decide)]; show _ = pcore (tx d) a; unfold pcore; rw [e]; rfl⟩
      · exact ⟨[110, 101, 120, 116], upS (by rw [e]; repeat (first | refine Tot.t (by rfl) ?_ | refine Tot.f (by rfl) ?_); exact Tot.ret rfl), upR (by rw [e]; repeat (first | refine Tot.t (by rfl) ?_ | refine Tot.f (by rfl) ?_); exact Tot.ret rfl), by simp only [List.length_cons, List.length_nil]; omega, by rw [tx, if_neg (by rw [e]; decide), if_neg (by rw [e]; decide)]; show _ = pcore (tx d) a; unfold pcore; rw [e]; rfl⟩
      · obtain ⟨t, t1, t2, t3, t4⟩ := kids ⟨#[47]⟩ [[C.int .i64 5], [C.int .i64 4]] [] (.inl e) (.inr (.inl ⟨e, rfl⟩)) (by decide) (fun x => by rw [e]; simp [inOps, gi, fc, C.it]) (by rw [if_neg (by omega)])
        rw [List.append_nil] at t2
        refine ⟨t, upS ?_, upR ?_, by omega, by rw [t4, join_tx (g := fun x => x = oA true ∨ x = oS true) (f := tx d true) _ (fun i hi => (hT i hi).e) (fun x => ops2 x 5 4), tx, if_neg (by rw [e]; decide), if_pos (by rw [e]; decide)]; rfl⟩ <;> rw [e] at *
        · repeat (first | refine Tot.t (by rfl) ?_ | refine Tot.f (by rfl) ?_)
          exact Tot.bind t1 fun r hr => Tot.ret hr
        · repeat (first | refine Tot.t (by rfl) ?_ | refine Tot.f (by rfl) ?_)
          exact t2
      · obtain ⟨t, t1, t2, t3, t4⟩ := kids ⟨#[124]⟩ [[C.int .i64 5]] [] (.inr (.inl e)) (.inl ⟨e, rfl⟩) (by decide) (fun x => by rw [e]; simp [inOps, gi, fc, C.it]) (by rw [if_neg (by omega)])
        rw [List.append_nil] at t2
        refine ⟨t, upS ?_, upR ?_, by omega, by rw [t4, join_tx (g := fun x => x = oA true) (f := tx d true) _ (fun i hi => (hT i hi).e) (fun x => ops1 x 5), tx, if_pos (by rw [e]; decide)]; rfl⟩ <;> rw [e] at *
        · repeat (first | refine Tot.t (by rfl) ?_ | refine Tot.f (by rfl) ?_)
          exact Tot.bind t1 fun r hr => Tot.ret hr
        · repeat (first | refine Tot.t (by rfl) ?_ | refine Tot.f (by rfl) ?_)
          exact t2
      · obtain ⟨t, t1, t2, t3, t4⟩ := kids ⟨#[]⟩ [[C.int .i64 5], [C.int .i64 4]] [42] (.inr (.inr e)) (.inr (.inr ⟨e, rfl⟩)) (by decide) (fun x => by rw [e]; simp [inOps, gi, fc, C.it]) (by rw [if_pos e])
        refine ⟨t ++ [42], upS ?_, upR ?_, by simp only [List.length_append, List.length_cons, List.length_nil]; omega, by rw [t4, h6 e, join_upto1, (hT 0 (by rw [h6 e]; omega)).e, show inOps [[C.int .i64 5], [C.int .i64 4]] (gi ((gr a 1).getD 0 []) 0) = decide (gi ((gr a 1).getD 0 []) 0 = 5 ∨ gi ((gr a 1).getD 0 []) 0 = 4) from ops2 _ 5 4]; rw [tx, if_neg (by rw [e]; decide), if_neg (by rw [e]; decide)]; show _ = pcore (tx d) a; unfold pcore; rw [e]; rfl⟩ <;> rw [e] at *
        · repeat (first | refine Tot.t (by rfl) ?_ | refine Tot.f (by rfl) ?_)
          refine Tot.bind t1 fun r hr => ?_
          have hrs : r.size ≤ 1099511627776 := by
            have h3 := Nat.mul_le_mul_left WW hz
            rw [← bl_len, hr]
            omega
          exact Tot.t (decide_eq_true (by simp only [sza, szl, List.length_cons, List.length_nil]; omega)) (Tot.ret (by rw [bl_app, hr]; rfl))
        · repeat (first | refine Tot.t (by rfl) ?_ | refine Tot.f (by rfl) ?_)
          exact t2
      · have hl2 := h77.1 e
        have hf0 := h10 0 (by omega)
        have hzs := sz_sub (f := sz d false) (l := gr a 2) (i := 0) (by omega)
        obtain ⟨t, ht⟩ := ih.2 _ hf0 ((hs.gr 2).get 0) (by omega)
        have htl : t.length ≤ 549755813888 := by
          have h3 := Nat.mul_le_mul_left WW (show sz d false ((gr a 2).getD 0 []) ≤ 64 by omega)
          have := ht.b
          omega
        refine ⟨63 :: 40 :: t ++ [41], upS ?_, upR ?_, ?_, by rw [ht.e]; rw [tx, if_neg (by rw [e]; decide), if_neg (by rw [e]; decide)]; show _ = pcore (tx d) a; unfold pcore; rw [e]; rfl⟩
        · rw [e]
          repeat (first | refine Tot.t (by rfl) ?_ | refine Tot.f (by rfl) ?_)
          refine Tot.in0 (g := fun k p_ q_ => show_Path_l0 (lv k) k 7 (gr a 1) (gr a 2) p_ ⟨#[]⟩ 0) ?_
          refine Tot.step0 (fun k p_ q_ => show_Path_l0_q (lv k) k 7 (gr a 1) (gr a 2) p_ _ _) ?_
          repeat (refine Tot.t (decide_eq_true (by omega)) ?_)
          refine Tot.bind ht.s fun r hr => ?_
          have hrs : r.size ≤ 549755813888 := by rw [← bl_len, hr]; exact htl
          refine Tot.t (decide_eq_true (by simp only [sza, szl, List.length_cons, List.length_nil]; omega)) (Tot.t (decide_eq_true (by simp only [sza, szl, List.length_cons, List.length_nil]; omega)) (Tot.t (decide_eq_true (by simp only [sza, szl, List.length_cons, List.length_nil]; omega)) ?_))
          refine Tot.step0 (fun k p_ q_ => show_Path_l0_q (lv k) k 7 (gr a 1) (gr a 2) p_ _ _) ?_
          refine Tot.f (decide_eq_false (by rw [show IntKind.i64.wrap ((0 : Int) + 1) = 1 from rfl]; omega)) (Tot.ret ?_)
          rw [bl_app, bl_app, bl_app, hr]
          rfl
        · rw [e]
          repeat (first | refine Tot.t (by rfl) ?_ | refine Tot.f (by rfl) ?_)
          repeat (refine Tot.t (decide_eq_true (by omega)) ?_)
          refine Tot.bind ht.r fun r hr => ?_
          have hrs : r.size ≤ 549755813888 := by rw [← bl_len, hr]; exact htl
          refine Tot.t (decide_eq_true (by simp only [sza, szl, List.length_cons, List.length_nil]; omega)) (Tot.t (decide_eq_true (by simp only [sza, szl, List.length_cons, List.length_nil]; omega)) (Tot.ret ?_))
          rw [bl_app, bl_app, hr]
          rfl
        · have h3 := Nat.mul_le_mul_left WW (show sz d false ((gr a 2).getD 0 []) + 1 ≤ sz (d + 1) true a by omega)
          rw [Nat.mul_add, Nat.mul_one] at h3
          have := ht.b
          simp only [List.length_append, List.length_cons, List.length_nil]
          omega
    · intro a ha hs hz
      obtain ⟨h1, h11, h8, h64, h910, h0, h511, h51, h9, h10⟩ := ha
      have esz : sz (d + 1) false a = 1 + ((gr a 4).map (sz d false)).sum + ((gr a 5).map (sz d true)).sum := rfl
      have upS : ∀ {Q}, Tot _ Q → Tot (fun k _ _ => (lv k).show_Filter (gi a 0) (gs a 1) (gs a 2) (gs a 3) (gr a 4) (gr a 5)) Q := fun h => show_Filter_up _ _ _ _ _ _ (Tot.congr h (fun k _ _ => show_Filter_q (lv k) k (gi a 0) (gs a 1) (gs a 2) (gs a 3) (gr a 4) (gr a 5)))
      have upR : ∀ {Q}, Tot _ Q → Tot (fun k _ _ => (lv k).orielref15_Filter (gi a 0) (gs a 1) (gs a 2) (gs a 3) (gr a 4) (gr a 5)) Q := fun h => orielref15_Filter_up _ _ _ _ _ _ (Tot.congr h (fun k _ _ => orielref15_Filter_q (lv k) k (gi a 0) (gs a 1) (gs a 2) (gs a 3) (gr a 4) (gr a 5)))
      have z1 : (gs a 1).size ≤ 1048576 := hs.gs 1
      have z2 : (gs a 2).size ≤ 1048576 := hs.gs 2
      have z3 : (gs a 3).size ≤ 1048576 := hs.gs 3
      have hone : WW ≤ WW * sz (d + 1) false a := Nat.le_mul_of_pos_right _ (by omega)
      have nl := nmT_len (gs a 1) (gs a 2)
      have ql := qtT_len (gs a 3)
      have sn := sname_tot (gs a 1) (gs a 2) z1 z2
      have rn := rname_tot (gs a 1) (gs a 2) z1 z2
      have sq := squoted_tot (gs a 3) z3
      have rq := rquoted_tot (gs a 3) z3
      have hop : gi a 0 = 1 ∨ gi a 0 = 2 ∨ gi a 0 = 3 ∨ gi a 0 = 4 ∨ gi a 0 = 5 ∨ gi a 0 = 6 ∨ gi a 0 = 7 ∨ gi a 0 = 8 ∨ gi a 0 = 9 ∨ gi a 0 = 10 ∨ gi a 0 = 11 := by omega
      rcases hop with e | e | e | e | e | e | e | e | e | e | e
      · exact ⟨[116, 114, 117, 101], upS (by rw [e]; repeat (first | refine Tot.t (by rfl) ?_ | refine Tot.f (by rfl) ?_); exact Tot.ret rfl), upR (by rw [e]; repeat (first | refine Tot.t (by rfl) ?_ | refine Tot.f (by rfl) ?_); exact Tot.ret rfl), by simp only [List.length_cons, List.length_nil]; omega, by rw [tx, if_neg (by rw [e]; decide), if_neg (by rw [e]; decide)]; show _ = fcore (tx d) a; unfold fcore; rw [e]; rfl⟩
      · exact ⟨[101, 108, 101, 109, 101, 110, 116], upS (by rw [e]; repeat (first | refine Tot.t (by rfl) ?_ | refine Tot.f (by rfl) ?_); exact Tot.ret rfl), upR (by rw [e]; repeat (first | refine Tot.t (by rfl) ?_ | refine Tot.f (by rfl) ?_); exact Tot.ret rfl), by simp only [List.length_cons, List.length_nil]; omega, by rw [tx, if_neg (by rw [e]; decide), if_neg (by rw [e]; decide)]; show _ = fcore (tx d) a; unfold fcore; rw [e]; rfl⟩
      · exact ⟨[116, 101, 120, 116], upS (by rw [e]; repeat (first | refine Tot.t (by rfl) ?_ | refine Tot.f (by rfl) ?_); exact Tot.ret rfl), upR (by rw [e]; repeat (first | refine Tot.t (by rfl) ?_ | refine Tot.f (by rfl) ?_); exact Tot.ret rfl), by simp only [List.length_cons, List.length_nil]; omega, by rw [tx, if_neg (by rw [e]; decide), if_neg (by rw [e]; decide)]; show _ = fcore (tx d) a; unfold fcore; rw [e]; rfl⟩
      · refine ⟨[110, 97, 109, 101, 61] ++ nmT (gs a 1) (gs a 2), upS ?_, upR ?_, by simp only [List.length_append, List.length_cons, List.length_nil]; omega, by rw [tx, if_neg (by rw [e]; decide), if_neg (by rw [e]; decide)]; show _ = fcore (tx d) a; unfold fcore; rw [e]; rfl⟩ <;> rw [e]
        · repeat (first | refine Tot.t (by rfl) ?_ | refine Tot.f (by rfl) ?_)
          refine Tot.bind sn fun r hr => ?_
          have hrs : r.size ≤ 2097154 := by rw [← bl_len, hr]; omega
          exact Tot.t (decide_eq_true (by simp only [sza, szl, List.length_cons, List.length_nil]; omega)) (Tot.ret (by rw [bl_app, hr]; rfl))
        · repeat (first | refine Tot.t (by rfl) ?_ | refine Tot.f (by rfl) ?_)
          refine Tot.bind rn fun r hr => ?_
          have hrs : r.size ≤ 2097154 := by rw [← bl_len, hr]; omega
          exact Tot.t (decide_eq_true (by simp only [sza, szl, List.length_cons, List.length_nil]; omega)) (Tot.ret (by rw [bl_app, hr]; rfl))
      · refine ⟨[64] ++ nmT (gs a 1) (gs a 2), upS ?_, upR ?_, by simp only [List.length_append, List.length_cons, List.length_nil]; omega, by rw [tx, if_neg (by rw [e]; decide), if_neg (by rw [e]; decide)]; show _ = fcore (tx d) a; unfold fcore; rw [e]; rfl⟩ <;> rw [e]
        · repeat (first | refine Tot.t (by rfl) ?_ | refine Tot.f (by rfl) ?_)
          refine Tot.bind sn fun r hr => ?_
          have hrs : r.size ≤ 2097154 := by rw [← bl_len, hr]; omega
          exact Tot.t (decide_eq_true (by simp only [sza, szl, List.length_cons, List.length_nil]; omega)) (Tot.ret (by rw [bl_app, hr]; rfl))
        · repeat (first | refine Tot.t (by rfl) ?_ | refine Tot.f (by rfl) ?_)
          refine Tot.bind rn fun r hr => ?_
          have hrs : r.size ≤ 2097154 := by rw [← bl_len, hr]; omega
          exact Tot.t (decide_eq_true (by simp only [sza, szl, List.length_cons, List.length_nil]; omega)) (Tot.ret (by rw [bl_app, hr]; rfl))
      · refine ⟨(([64] ++ nmT (gs a 1) (gs a 2)) ++ [61]) ++ qtT (gs a 3), upS ?_, upR ?_, by simp only [List.length_append, List.length_cons, List.length_nil]; omega, by rw [tx, if_neg (by rw [e]; decide), if_neg (by rw [e]; decide)]; show _ = fcore (tx d) a; unfold fcore; rw [e]; rfl⟩ <;> rw [e]
        · repeat (first | refine Tot.t (by rfl) ?_ | refine Tot.f (by rfl) ?_)
          refine Tot.bind sn fun r hr => ?_
          have hrs : r.size ≤ 2097154 := by rw [← bl_len, hr]; omega
          refine Tot.t (decide_eq_true (by simp only [sza, szl, List.length_cons, List.length_nil]; omega)) (Tot.t (decide_eq_true (by simp only [sza, szl, List.length_cons, List.length_nil]; omega)) (Tot.bind sq fun q hq => ?_))
          have hqs : q.size ≤ 2097154 := by rw [← bl_len, hq]; omega
          exact Tot.t (decide_eq_true (by simp only [sza, szl, List.length_cons, List.length_nil]; omega)) (Tot.ret (by rw [bl_app, bl_app, bl_app, hr, hq]; rfl))
        · repeat (first | refine Tot.t (by rfl) ?_ | refine Tot.f (by rfl) ?_)
          refine Tot.bind rn fun r hr => ?_
          have hrs : r.size ≤ 2097154 := by rw [← bl_len, hr]; omega
          refine Tot.t (decide_eq_true (by simp only [sza, szl, List.length_cons, List.length_nil]; omega)) (Tot.t (decide_eq_true (by simp only [sza, szl, List.length_cons, List.length_nil]; omega)) (Tot.bind rq fun q hq => ?_))
          have hqs : q.size ≤ 2097154 := by rw [← bl_len, hq]; omega
          exact Tot.t (decide_eq_true (by simp only [sza, szl, List.length_cons, List.length_nil]; omega)) (Tot.ret (by rw [bl_app, bl_app, bl_app, hr, hq]; rfl))
      · refine ⟨[116, 101, 120, 116, 61] ++ qtT (gs a 3), upS ?_, upR ?_, by simp only [List.length_append, List.length_cons, List.length_nil]; omega, by rw [tx, if_neg (by rw [e]; decide), if_neg (by rw [e]; decide)]; show _ = fcore (tx d) a; unfold fcore; rw [e]; rfl⟩ <;> rw [e]
        · repeat (first | refine Tot.t (by rfl) ?_ | refine Tot.f (by rfl) ?_)
          refine Tot.bind sq fun r hr => ?_
          have hrs : r.size ≤ 2097154 := by rw [← bl_len, hr]; omega
          exact Tot.t (decide_eq_true (by simp only [sza, szl, List.length_cons, List.length_nil]; omega)) (Tot.ret (by rw [bl_app, hr]; rfl))
        · repeat (first | refine Tot.t (by rfl) ?_ | refine Tot.f (by rfl) ?_)
          refine Tot.bind rq fun r hr => ?_
          have hrs : r.size ≤ 2097154 := by rw [← bl_len, hr]; omega
          exact Tot.t (decide_eq_true (by simp only [sza, szl, List.length_cons, List.length_nil]; omega)) (Tot.ret (by rw [bl_app, hr]; rfl))
      · have hl4 := h8 e
        obtain ⟨T, hT⟩ := chF a 4 hs h9 (by omega)
        have hzs := sz_sub (f := sz d false) (l := gr a 4) (i := 0) (by omega)
        have htl : (T 0).length ≤ 549755813888 := by
          have h3 := Nat.mul_le_mul_left WW (show sz d false ((gr a 4).getD 0 []) ≤ 64 by omega)
          have := (hT 0 (by omega)).b
          omega
        have key := show_all_tot (gr a 4) ⟨#[]⟩ [] T (sz d false) h64 (by decide) (by decide) (fun i hi => (hT i hi).s) (fun i hi => (hT i hi).b) (by omega)
        rw [hl4, join_upto1] at key
        refine ⟨([110, 111, 116, 40] ++ T 0) ++ [41], upS ?_, upR ?_, ?_, by rw [(hT 0 (by omega)).e]; rw [tx, if_neg (by rw [e]; decide), if_neg (by rw [e]; decide)]; show _ = fcore (tx d) a; unfold fcore; rw [e]; rfl⟩
        · rw [e]
          repeat (first | refine Tot.t (by rfl) ?_ | refine Tot.f (by rfl) ?_)
          refine Tot.bind key fun r hr => ?_
          have hr : bl r = T 0 := hr
          have hrs : r.size ≤ 549755813888 := by rw [← bl_len, hr]; exact htl
          exact Tot.t (decide_eq_true (by simp only [sza, szl, List.length_cons, List.length_nil]; omega)) (Tot.t (decide_eq_true (by simp only [sza, szl, List.length_cons, List.length_nil]; omega)) (Tot.ret (by rw [bl_app, bl_app, hr]; rfl)))
        · rw [e]
          repeat (first | refine Tot.t (by rfl) ?_ | refine Tot.f (by rfl) ?_)
          repeat (refine Tot.t (decide_eq_true (by omega)) ?_)
          refine Tot.bind (hT 0 (by omega)).r fun r hr => ?_
          have hrs : r.size ≤ 549755813888 := by rw [← bl_len, hr]; exact htl
          exact Tot.t (decide_eq_true (by simp only [sza, szl, List.length_cons, List.length_nil]; omega)) (Tot.t (decide_eq_true (by simp only [sza, szl, List.length_cons, List.length_nil]; omega)) (Tot.ret (by rw [bl_app, bl_app, hr]; rfl)))
        · have h3 := Nat.mul_le_mul_left WW (show sz d false ((gr a 4).getD 0 []) + 1 ≤ sz (d + 1) false a by omega)
          rw [Nat.mul_add, Nat.mul_one] at h3
          have := (hT 0 (by omega)).b
          simp only [List.length_append, List.length_cons, List.length_nil]
          omega
      · obtain ⟨T, hT⟩ := chF a 4 hs h9 (by omega)
        have key := show_all_tot (gr a 4) (⟨#[32, 97, 110, 100, 32]⟩ : ByteArray) [[C.int .i64 9], [C.int .i64 10]] T (sz d false) h64 (by decide) (by decide) (fun i hi => (hT i hi).s) (fun i hi => (hT i hi).b) (by omega)
        have rkey := rfilter_loop (a := a) (op := 9) (by decide) T (sz d false) (⟨#[32, 97, 110, 100, 32]⟩ : ByteArray) [[C.int .i64 9], [C.int .i64 10]] [] h64 (by left; exact ⟨rfl, rfl⟩) (fun x => by simp [inOps, gi, fc, C.it]; exact Bool.or_comm _ _) rfl (fun i hi => (hT i hi).r) (fun i hi => (hT i hi).b) (by omega)
        rw [List.append_nil] at rkey
        refine ⟨Lib.join (upto (fun i => par (inOps [[C.int .i64 9], [C.int .i64 10]] (gi ((gr a 4).getD i []) 0)) (T i)) (gr a 4).length) (bl (⟨#[32, 97, 110, 100, 32]⟩ : ByteArray)), upS ?_, upR ?_, ?_, by rw [join_tx (g := fun x => x = oA false ∨ x = oS false) (f := tx d false) _ (fun i hi => (hT i hi).e) (fun x => (ops2 x 9 10).trans (decide_eq_decide.2 Or.comm)), tx, if_neg (by rw [e]; decide), if_pos (by rw [e]; decide)]; rfl⟩
        · rw [e]
          repeat (first | refine Tot.t (by rfl) ?_ | refine Tot.f (by rfl) ?_)
          exact Tot.bind key fun r hr => Tot.ret hr
        · rw [e]
          repeat (first | refine Tot.t (by rfl) ?_ | refine Tot.f (by rfl) ?_)
          exact rkey
        · have hbp : ∀ i, i < (gr a 4).length → (par (inOps [[C.int .i64 9], [C.int .i64 10]] (gi ((gr a 4).getD i []) 0)) (T i)).length ≤ WW * sz d false ((gr a 4).getD i []) + 2 := fun i hi => by
            have := par_len (b := inOps [[C.int .i64 9], [C.int .i64 10]] (gi ((gr a 4).getD i []) 0)) (t := T i)
            have := (hT i hi).b
            omega
          have h2 := join_bd (f := sz d false) (sep := bl (⟨#[32, 97, 110, 100, 32]⟩ : ByteArray)) (by decide) hbp (Nat.le_refl _)
          have h3 := Nat.mul_le_mul_left WW (show ((gr a 4).map (sz d false)).sum + 1 ≤ sz (d + 1) false a by omega)
          rw [Nat.mul_add, Nat.mul_one] at h3
          omega
      · obtain ⟨T, hT⟩ := chF a 4 hs h9 (by omega)
        have key := show_all_tot (gr a 4) (⟨#[32, 111, 114, 32]⟩ : ByteArray) [[C.int .i64 10]] T (sz d false) h64 (by decide) (by decide) (fun i hi => (hT i hi).s) (fun i hi => (hT i hi).b) (by omega)
        have rkey := rfilter_loop (a := a) (op := 10) (by decide) T (sz d false) (⟨#[32, 111, 114, 32]⟩ : ByteArray) [[C.int .i64 10]] [] h64 (by right; exact ⟨rfl, rfl⟩) (fun x => by simp [inOps, gi, fc, C.it]) rfl (fun i hi => (hT i hi).r) (fun i hi => (hT i hi).b) (by omega)
        rw [List.append_nil] at rkey
        refine ⟨Lib.join (upto (fun i => par (inOps [[C.int .i64 10]] (gi ((gr a 4).getD i []) 0)) (T i)) (gr a 4).length) (bl (⟨#[32, 111, 114, 32]⟩ : ByteArray)), upS ?_, upR ?_, ?_, by rw [join_tx (g := fun x => x = oA false) (f := tx d false) _ (fun i hi => (hT i hi).e) (fun x => ops1 x 10), tx, if_pos (by rw [e]; decide)]; rfl⟩
        · rw [e]
          repeat (first | refine Tot.t (by rfl) ?_ | refine Tot.f (by rfl) ?_)
          exact Tot.bind key fun r hr => Tot.ret hr
        · rw [e]
          repeat (first | refine Tot.t (by rfl) ?_ | refine Tot.f (by rfl) ?_)
          exact rkey
        · have hbp : ∀ i, i < (gr a 4).length → (par (inOps [[C.int .i64 10]] (gi ((gr a 4).getD i []) 0)) (T i)).length ≤ WW * sz d false ((gr a 4).getD i []) + 2 := fun i hi => by
            have := par_len (b := inOps [[C.int .i64 10]] (gi ((gr a 4).getD i []) 0)) (t := T i)
            have := (hT i hi).b
            omega
          have h2 := join_bd (f := sz d false) (sep := bl (⟨#[32, 111, 114, 32]⟩ : ByteArray)) (by decide) hbp (Nat.le_refl _)
          have h3 := Nat.mul_le_mul_left WW (show ((gr a 4).map (sz d false)).sum + 1 ≤ sz (d + 1) false a by omega)
          rw [Nat.mul_add, Nat.mul_one] at h3
          omega
      · have hl5 := h511.1 e
        obtain ⟨T, hT⟩ := chP a 5 hs h10 (by omega)
        have hzs := sz_sub (f := sz d true) (l := gr a 5) (i := 0) (by omega)
        have htl : (T 0).length ≤ 549755813888 := by
          have h3 := Nat.mul_le_mul_left WW (show sz d true ((gr a 5).getD 0 []) ≤ 64 by omega)
          have := (hT 0 (by omega)).b
          omega
        have key := show_joined_tot (gr a 5) ⟨#[]⟩ [] T (sz d true) (by omega) (by decide) (by decide) (fun i hi => (hT i hi).s) (fun i hi => (hT i hi).b) (by omega)
        rw [hl5, join_upto1] at key
        refine ⟨([104, 97, 115, 40] ++ T 0) ++ [41], upS ?_, upR ?_, ?_, by rw [(hT 0 (by omega)).e]; rw [tx, if_neg (by rw [e]; decide), if_neg (by rw [e]; decide)]; show _ = fcore (tx d) a; unfold fcore; rw [e]; rfl⟩
        · rw [e]
          repeat (first | refine Tot.t (by rfl) ?_ | refine Tot.f (by rfl) ?_)
          refine Tot.bind key fun r hr => ?_
          have hr : bl r = T 0 := hr
          have hrs : r.size ≤ 549755813888 := by rw [← bl_len, hr]; exact htl
          exact Tot.t (decide_eq_true (by simp only [sza, szl, List.length_cons, List.length_nil]; omega)) (Tot.t (decide_eq_true (by simp only [sza, szl, List.length_cons, List.length_nil]; omega)) (Tot.ret (by rw [bl_app, bl_app, hr]; rfl)))
        · rw [e]
          repeat (first | refine Tot.t (by rfl) ?_ | refine Tot.f (by rfl) ?_)
          repeat (refine Tot.t (decide_eq_true (by omega)) ?_)
          refine Tot.bind (hT 0 (by omega)).r fun r hr => ?_
          have hrs : r.size ≤ 549755813888 := by rw [← bl_len, hr]; exact htl
          exact Tot.t (decide_eq_true (by simp only [sza, szl, List.length_cons, List.length_nil]; omega)) (Tot.t (decide_eq_true (by simp only [sza, szl, List.length_cons, List.length_nil]; omega)) (Tot.ret (by rw [bl_app, bl_app, hr]; rfl)))
        · have h3 := Nat.mul_le_mul_left WW (show sz d true ((gr a 5).getD 0 []) + 1 ≤ sz (d + 1) false a by omega)
          rw [Nat.mul_add, Nat.mul_one] at h3
          have := (hT 0 (by omega)).b
          simp only [List.length_append, List.length_cons, List.length_nil]
          omega
-- Awake
set_option maxRecDepth 100000 in
theorem awake_at (m : Nat) : (lv (m + 40)).oriellaw15_awake = some true := by kernel_rfl
theorem awake_tot : Tot (fun k _ _ => (lv k).oriellaw15_awake) (fun r => r = true) := ⟨true, rfl, 40, fun n _ _ hn _ _ => by
  obtain ⟨m, rfl⟩ : ∃ m, n = m + 40 := ⟨n - 40, by omega⟩
  exact awake_at m⟩
theorem ext_ok : CallsOK Tryd.prog extG := extG_ok join_ok repl_ok
-- Same
theorem lenb {a b : Nat} (h : (!((a : Int) == (b : Int))) = false) : a = b := by
  have : ((a : Int)) = b := by simpa using h
  omega
theorem lent {a b : Nat} (h : (!((a : Int) == (b : Int))) = true) : a ≠ b := by
  intro e
  subst e
  simp at h
abbrev AlQ (k : Bool) (a b : List C) : Bool → Prop := fun r => r = true ↔ Alike k a b
theorem al_no {k : Bool} {a b : List C} (h : ¬ Alike k a b) : AlQ k a b false := ⟨fun e => (by cases e), fun e => absurd e h⟩
theorem rsame_tots : ∀ M : Nat,
    (∀ (a b : List C), SizeOf.sizeOf a < M → SmR BB a → SmR BB b → Tot (fun k _ _ => (lv k).orielref12_Same (gi a 0) (gr a 1) (gr a 2) (gi b 0) (gr b 1) (gr b 2)) (AlQ true a b)) ∧
    (∀ (a b : List C), SizeOf.sizeOf a < M → SmR BB a → SmR BB b → Tot (fun k _ _ => (lv k).orielref12_SameFilter (gi a 0) (gs a 1) (gs a 2) (gs a 3) (gr a 4) (gr a 5) (gi b 0) (gs b 1) (gs b 2) (gs b 3) (gr b 4) (gr b 5)) (AlQ false a b)) := by
  intro M
  induction M with
  | zero => exact ⟨fun _ _ h => by omega, fun _ _ h => by omega⟩
  | succ M ih =>
    constructor
    · intro a b hM ha hb
      have hl1 : (gr a 1).length ≤ 1048576 := (ha.gr 1).1
      have hl2 : (gr a 2).length ≤ 1048576 := (ha.gr 2).1
      have no : ¬ Alike true a b → Tot (fun _ _ _ => some false) (AlQ true a b) := fun h => Tot.ret (al_no h)
      refine orielref12_Same_up _ _ _ _ _ _ (Tot.congr ?_ (fun k _ _ => orielref12_Same_q (lv k) k (gi a 0) (gr a 1) (gr a 2) (gi b 0) (gr b 1) (gr b 2)))
      refine Tot.cond (fun h0 => no fun h => ?_) (fun h0 => Tot.cond (fun h1 => no fun h => ?_) (fun h1 => Tot.cond (fun h2 => no fun h => ?_) (fun h2 => ?_)))
      · cases h with
        | path e _ _ _ _ => rw [e] at h0; simp at h0
      · cases h with
        | path _ e _ _ _ => exact lent h1 e
      · cases h with
        | path _ _ e _ _ => exact lent h2 e
      have h0 : gi a 0 = gi b 0 := by simpa using h0
      have h1 := lenb h1
      have h2 := lenb h2
      refine Tot.in0 (Tot.every (H := fun k x y v => orielref12_Same_l0 (lv k) k (gi a 0) (gr a 1) (gr a 2) (gi b 0) (gr b 1) (gr b 2) x v) (n := (gr a 1).length) (p := fun i => Alike true ((gr a 1).getD i []) ((gr b 1).getD i [])) (by omega) (fun h j hj => by cases h with | path _ _ _ e _ => exact e j hj) (fun hs => ?_) (fun i Q hi hf ht => ?_))
      · refine Tot.step0 (fun k p_ q_ => orielref12_Same_l0_q (lv k) k (gi a 0) (gr a 1) (gr a 2) (gi b 0) (gr b 1) (gr b 2) p_ _) ?_
        refine Tot.f (decide_eq_false (by omega)) ?_
        refine Tot.in0 (Tot.every (H := fun k x y v => orielref12_Same_l1 (lv k) k (gi a 0) (gr a 1) (gr a 2) (gi b 0) (gr b 1) (gr b 2) x v) (n := (gr a 2).length) (p := fun i => Alike false ((gr a 2).getD i []) ((gr b 2).getD i [])) (by omega) (fun h j hj => by cases h with | path _ _ _ _ e => exact e j hj) (fun ht => ?_) (fun i Q hi hf ht => ?_))
        · refine Tot.step0 (fun k p_ q_ => orielref12_Same_l1_q (lv k) k (gi a 0) (gr a 1) (gr a 2) (gi b 0) (gr b 1) (gr b 2) p_ _) ?_
          exact Tot.f (decide_eq_false (by omega)) (Tot.ret ⟨fun _ => .path h0 h1 h2 hs ht, fun _ => rfl⟩)
        · refine Tot.step0 (fun k p_ q_ => orielref12_Same_l1_q (lv k) k (gi a 0) (gr a 1) (gr a 2) (gi b 0) (gr b 1) (gr b 2) p_ _) ?_
          rw [Int.toNat_natCast]
          repeat (refine Tot.t (decide_eq_true (by omega)) ?_)
          exact Tot.bind (ih.2 _ _ (part_lt hM hi) ((ha.gr 2).get i) ((hb.gr 2).get i)) fun r hr => Tot.cond (fun hn => Tot.ret (hf fun h => by rw [hr.2 h] at hn; cases hn)) (fun hn => ht (hr.1 (by simpa using hn)))
      · refine Tot.step0 (fun k p_ q_ => orielref12_Same_l0_q (lv k) k (gi a 0) (gr a 1) (gr a 2) (gi b 0) (gr b 1) (gr b 2) p_ _) ?_
        rw [Int.toNat_natCast]
        repeat (refine Tot.t (decide_eq_true (by omega)) ?_)
        exact Tot.bind (ih.1 _ _ (part_lt hM hi) ((ha.gr 1).get i) ((hb.gr 1).get i)) fun r hr => Tot.cond (fun hn => Tot.ret (hf fun h => by rw [hr.2 h] at hn; cases hn)) (fun hn => ht (hr.1 (by simpa using hn)))
    · intro a b hM ha hb
      have hl1 : (gr a 4).length ≤ 1048576 := (ha.gr 4).1
      have hl2 : (gr a 5).length ≤ 1048576 := (ha.gr 5).1
      have no : ¬ Alike false a b → Tot (fun _ _ _ => some false) (AlQ false a b) := fun h => Tot.ret (al_no h)
      refine orielref12_SameFilter_up _ _ _ _ _ _ _ _ _ _ _ _ (Tot.congr ?_ (fun k _ _ => orielref12_SameFilter_q (lv k) k (gi a 0) (gs a 1) (gs a 2) (gs a 3) (gr a 4) (gr a 5) (gi b 0) (gs b 1) (gs b 2) (gs b 3) (gr b 4) (gr b 5)))
      refine Tot.cond (fun h0 => no fun h => ?_) (fun h0 => Tot.cond (fun h1 => no fun h => ?_) (fun h1 => Tot.cond (fun h2 => no fun h => ?_) (fun h2 => Tot.cond (fun h3 => no fun h => ?_) (fun h3 => Tot.cond (fun h4 => no fun h => ?_) (fun h4 => ?_)))))
      · cases h with
        | filter e _ _ _ _ _ _ _ => rw [e] at h0; simp at h0
      · cases h with
        | filter _ e f _ _ _ _ _ => rw [name_eq.2 ⟨e, f⟩] at h1; cases h1
      · cases h with
        | filter _ _ _ e _ _ _ _ => rw [str_eq.2 e] at h2; cases h2
      · cases h with
        | filter _ _ _ _ e _ _ _ => exact lent h3 e
      · cases h with
        | filter _ _ _ _ _ e _ _ => exact lent h4 e
      have h0 : gi a 0 = gi b 0 := by simpa using h0
      obtain ⟨h1, h1'⟩ := name_eq.1 (show _ = true by simpa using h1)
      have h2 := str_eq.1 (show _ = true by simpa using h2)
      have h3 := lenb h3
      have h4 := lenb h4
      refine Tot.in0 (Tot.every (H := fun k x y v => orielref12_SameFilter_l0 (lv k) k (gi a 0) (gs a 1) (gs a 2) (gs a 3) (gr a 4) (gr a 5) (gi b 0) (gs b 1) (gs b 2) (gs b 3) (gr b 4) (gr b 5) x v) (n := (gr a 4).length) (p := fun i => Alike false ((gr a 4).getD i []) ((gr b 4).getD i [])) (by omega) (fun h j hj => by cases h with | filter _ _ _ _ _ _ e _ => exact e j hj) (fun hs => ?_) (fun i Q hi hf ht => ?_))
      · refine Tot.step0 (fun k p_ q_ => orielref12_SameFilter_l0_q (lv k) k (gi a 0) (gs a 1) (gs a 2) (gs a 3) (gr a 4) (gr a 5) (gi b 0) (gs b 1) (gs b 2) (gs b 3) (gr b 4) (gr b 5) p_ _) ?_
        refine Tot.f (decide_eq_false (by omega)) ?_
        refine Tot.in0 (Tot.every (H := fun k x y v => orielref12_SameFilter_l1 (lv k) k (gi a 0) (gs a 1) (gs a 2) (gs a 3) (gr a 4) (gr a 5) (gi b 0) (gs b 1) (gs b 2) (gs b 3) (gr b 4) (gr b 5) x v) (n := (gr a 5).length) (p := fun i => Alike true ((gr a 5).getD i []) ((gr b 5).getD i [])) (by omega) (fun h j hj => by cases h with | filter _ _ _ _ _ _ _ e => exact e j hj) (fun ht => ?_) (fun i Q hi hf ht => ?_))
        · refine Tot.step0 (fun k p_ q_ => orielref12_SameFilter_l1_q (lv k) k (gi a 0) (gs a 1) (gs a 2) (gs a 3) (gr a 4) (gr a 5) (gi b 0) (gs b 1) (gs b 2) (gs b 3) (gr b 4) (gr b 5) p_ _) ?_
          exact Tot.f (decide_eq_false (by omega)) (Tot.ret ⟨fun _ => .filter h0 h1 h1' h2 h3 h4 hs ht, fun _ => rfl⟩)
        · refine Tot.step0 (fun k p_ q_ => orielref12_SameFilter_l1_q (lv k) k (gi a 0) (gs a 1) (gs a 2) (gs a 3) (gr a 4) (gr a 5) (gi b 0) (gs b 1) (gs b 2) (gs b 3) (gr b 4) (gr b 5) p_ _) ?_
          rw [Int.toNat_natCast]
          repeat (refine Tot.t (decide_eq_true (by omega)) ?_)
          exact Tot.bind (ih.1 _ _ (part_lt hM hi) ((ha.gr 5).get i) ((hb.gr 5).get i)) fun r hr => Tot.cond (fun hn => Tot.ret (hf fun h => by rw [hr.2 h] at hn; cases hn)) (fun hn => ht (hr.1 (by simpa using hn)))
      · refine Tot.step0 (fun k p_ q_ => orielref12_SameFilter_l0_q (lv k) k (gi a 0) (gs a 1) (gs a 2) (gs a 3) (gr a 4) (gr a 5) (gi b 0) (gs b 1) (gs b 2) (gs b 3) (gr b 4) (gr b 5) p_ _) ?_
        rw [Int.toNat_natCast]
        repeat (refine Tot.t (decide_eq_true (by omega)) ?_)
        exact Tot.bind (ih.2 _ _ (part_lt hM hi) ((ha.gr 4).get i) ((hb.gr 4).get i)) fun r hr => Tot.cond (fun hn => Tot.ret (hf fun h => by rw [hr.2 h] at hn; cases hn)) (fun hn => ht (hr.1 (by simpa using hn)))
theorem rsame_tot (a b : List C) (ha : SmR BB a) (hb : SmR BB b) : Tot (fun k _ _ => (lv k).orielref12_Same (gi a 0) (gr a 1) (gr a 2) (gi b 0) (gr b 1) (gr b 2)) (AlQ true a b) := (rsame_tots _).1 a b (Nat.lt_succ_self _) ha hb
-- Nam
def by_ (s : ByteArray) (i : Nat) : Nat := (s.get! i).toNat
theorem dec_at (s : ByteArray) (p : Nat) : Utf8.decode s p = Lib.decodeN (s.size - p) (by_ s p) (by_ s (p + 1)) (by_ s (p + 2)) (by_ s (p + 3)) := Lib.decode_at s p
set_option maxHeartbeats 4000000 in
theorem decN_ascii (n b0 b1 b2 b3 : Nat) : (1 < (Lib.decodeN n b0 b1 b2 b3).2 → 128 ≤ b1) ∧ (2 < (Lib.decodeN n b0 b1 b2 b3).2 → 128 ≤ b2) ∧ (3 < (Lib.decodeN n b0 b1 b2 b3).2 → 128 ≤ b3) ∧ (Lib.decodeN n b0 b1 b2 b3).2 ≤ 4 := by
  unfold Lib.decodeN
  repeat' split
  all_goals (simp only; omega)
theorem ru_ascii (s : ByteArray) (p : Nat) (h : by_ s p < 128) : (Utf8.decode s p).1 = by_ s p := by
  rw [dec_at]
  unfold Lib.decodeN
  rw [if_pos h]
theorem wd_ascii (s : ByteArray) (p j : Nat) (h : by_ s j < 128) (hp : p < j) : p + (Utf8.decode s p).2 ≤ j := by
  have := decN_ascii (s.size - p) (by_ s p) (by_ s (p + 1)) (by_ s (p + 2)) (by_ s (p + 3))
  rw [← dec_at] at this
  obtain ⟨h1, h2, h3, h4⟩ := this
  by_cases c : p + (Utf8.decode s p).2 ≤ j
  · exact c
  · exfalso
    rcases (show j = p + 1 ∨ j = p + 2 ∨ j = p + 3 by omega) with e | e | e <;> subst e
    · have := h1 (by omega); omega
    · have := h2 (by omega); omega
    · have := h3 (by omega); omega
/-- a byte below 128 is a rune -/
theorem rune_of_byte (s : ByteArray) (j : Nat) (hj : j < s.size) (ha : by_ s j < 128) : ∀ b i, i ≤ j → s.size - i ≤ b → ((by_ s j : Nat) : Int) ∈ runesAux s b i := by
  intro b
  induction b with
  | zero => intro i hi hb; omega
  | succ b ih =>
    intro i hi hb
    rw [runesAux, if_pos (by omega)]
    rcases Nat.lt_or_ge i j with h | h
    · have hw := wd_ascii s i j ha h
      have hp := Lib.decode_width_pos s i (by omega)
      exact List.mem_cons_of_mem _ (ih _ hw (by omega))
    · have : i = j := by omega
      subst this
      rw [ru_ascii s i ha]
      exact List.mem_cons_self ..
theorem mem_bl {s : ByteArray} {c : UInt8} (h : c ∈ bl s) : ∃ j, j < s.size ∧ s.data.getD j 0 = c ∧ by_ s j = c.toNat := by
  obtain ⟨j, hj, e⟩ := List.getElem_of_mem h
  have hj' : j < s.data.size := by simpa [bl] using hj
  have e' : s.data[j] = c := by simpa [bl] using e
  refine ⟨j, hj', by rw [Array.getD_eq_getD_getElem?, Array.getElem?_eq_getElem hj']; exact e', ?_⟩
  show (s.data[j]!).toNat = _
  rw [getElem!_pos s.data j hj', e']
def nb (n : Int) : Prop := n ≠ 32 ∧ n ≠ 41 ∧ n ≠ 61 ∧ n ≠ 123
theorem part_no (r : Int) (h : r = 32 ∨ r = 41 ∨ r = 61 ∨ r = 123) : Tot (fun k _ _ => (lv k).orielref02_Part r) (fun b => b = false) := by
  have st : Tot (fun k _ _ => (lv k).orielref02_Start r) (fun b => b = false) := by
    refine orielref02_Start_up _ (Tot.congr ?_ (fun k _ _ => orielref02_Start_q (lv k) k r))
    rcases h with rfl | rfl | rfl | rfl
    all_goals
      repeat (first | refine Tot.t (by rfl) ?_ | refine Tot.f (by rfl) ?_)
      exact Tot.ret rfl
  refine orielref02_Part_up _ (Tot.congr ?_ (fun k _ _ => orielref02_Part_q (lv k) k r))
  refine Tot.bind st fun b hb => ?_
  subst hb
  rcases h with rfl | rfl | rfl | rfl
  all_goals
    repeat (first | refine Tot.t (by rfl) ?_ | refine Tot.f (by rfl) ?_)
    exact Tot.ret rfl
theorem part_nb (r : Int) : Tot (fun k _ _ => (lv k).orielref02_Part r) (fun b => b = true → nb r) := by
  by_cases h : r = 32 ∨ r = 41 ∨ r = 61 ∨ r = 123
  · exact (part_no r h).mono fun b hb e => by rw [hb] at e; cases e
  · exact (part_tot r).mono fun b _ _ => ⟨fun e => h (.inl e), fun e => h (.inr (.inl e)), fun e => h (.inr (.inr (.inl e))), fun e => h (.inr (.inr (.inr e)))⟩
theorem plain_nb (s : ByteArray) (hs : s.size ≤ 1048576) : Tot (fun k _ _ => (lv k).orielref03_Plain s) (fun r => r = true → (runesRow s).length ≠ 0 ∧ ∀ i, i < (runesRow s).length → nb (IntKind.i64.wrap (gi ((runesRow s).getD i []) 0))) := by
  have hl := len_runesRow s
  have no : Tot (fun _ _ _ => some false) (fun r => r = true → (runesRow s).length ≠ 0 ∧ ∀ i, i < (runesRow s).length → nb (IntKind.i64.wrap (gi ((runesRow s).getD i []) 0))) := Tot.ret fun h => by cases h
  refine orielref03_Plain_up _ (Tot.congr ?_ (fun k _ _ => orielref03_Plain_q (lv k) k s))
  refine Tot.t (roomy_of (by have : Tryd.prog.bytesOf 21 = 4 := by kernel_rfl
                             omega) (by omega)) ?_
  refine Tot.cond (fun _ => no) (fun h1 => ?_)
  have h1 : (runesRow s).length ≠ 0 := by simpa using h1
  refine Tot.t (decide_eq_true (by omega)) (Tot.bind (start_tot _) fun r _ => Tot.cond (fun _ => no) (fun _ => ?_))
  refine Tot.in0 (Tot.loop (H := fun k x y v (_ : Unit) => orielref03_Plain_l0 (lv k) k s x v) (n := (runesRow s).length) (fun i _ => ∀ j, j < i → nb (IntKind.i64.wrap (gi ((runesRow s).getD j []) 0))) (by omega) (fun _ h => ?_) (fun i _ hi h next => ?_) _ 0 () rfl (by omega) (fun j hj => by omega))
  · refine Tot.step0 (fun k p_ q_ => orielref03_Plain_l0_q (lv k) k s p_ _) ?_
    exact Tot.f (decide_eq_false (by omega)) (Tot.ret fun _ => ⟨h1, h⟩)
  · refine Tot.step0 (fun k p_ q_ => orielref03_Plain_l0_q (lv k) k s p_ _) ?_
    rw [Int.toNat_natCast]
    repeat (refine Tot.t (decide_eq_true (by omega)) ?_)
    refine Tot.bind (part_nb _) fun r1 hr => Tot.cond (fun _ => no) (fun hb => next () (fun j hj => ?_))
    rcases Nat.lt_or_ge j i with h2 | h2
    · exact h j h2
    · rw [show j = i by omega]; exact hr (by simpa using hb)
theorem find_no (s x : ByteArray) (hs : s.size ≤ 1048576) (hx : x.size = 1) : Tot (fun k _ _ => (lv k).orielref05_Find s 0 x) (fun r => r < 0 → ∀ j, j < s.size → bl (s.extract j (j + 1)) ≠ bl x) := by
  refine orielref05_Find_up _ _ _ (Tot.congr ?_ (fun k _ _ => orielref05_Find_q (lv k) k s 0 x))
  refine Tot.in0 (Tot.loop (H := fun k p q v (_ : Unit) => orielref05_Find_l0 (lv k) k s 0 x p v) (n := s.size) (fun i _ => ∀ j, j < i → bl (s.extract j (j + 1)) ≠ bl x) (by omega) (fun _ h => ?_) (fun i _ hi h next => ?_) _ 0 () rfl (by omega) (fun j hj => by omega))
  · refine Tot.step0 (fun k p_ q_ => orielref05_Find_l0_q (lv k) k s 0 x p_ _) ?_
    rw [wrap_id (x := (s.size : Int) + (x.size : Int)) (by omega) (by omega)]
    exact Tot.f (decide_eq_false (by omega)) (Tot.ret fun _ => h)
  · refine Tot.step0 (fun k p_ q_ => orielref05_Find_l0_q (lv k) k s 0 x p_ _) ?_
    rw [wrap_id (x := (i : Int) + (x.size : Int)) (by omega) (by omega)]
    repeat (refine Tot.t (decide_eq_true (by omega)) ?_)
    refine Tot.cond (fun _ => Tot.ret fun e => by omega) (fun hb => next () (fun j hj => ?_))
    rcases Nat.lt_or_ge j i with h2 | h2
    · exact h j h2
    · intro e
      have : j = i := by omega
      subst this
      rw [show (((j : Nat) : Int) + (x.size : Int)).toNat = j + 1 by omega, Int.toNat_natCast, str_eq.2 (bl_inj e)] at hb
      cases hb
theorem named_ok (s t : ByteArray) (hs : s.size ≤ 1048576) (ht : t.size ≤ 1048576) : Tot (fun k _ _ => (lv k).orielref12_named s t) (fun r => r = true → NameOK s t) := by
  have no : Tot (fun _ _ _ => some false) (fun r => r = true → NameOK s t) := Tot.ret fun h => by cases h
  have e1 : (⟨#[123]⟩ : ByteArray).size = 1 := rfl
  have e2 : (⟨#[125]⟩ : ByteArray).size = 1 := rfl
  refine orielref12_named_up _ _ (Tot.congr ?_ (fun k _ _ => orielref12_named_q (lv k) k s t))
  refine Tot.cond (fun _ => Tot.bind (plain_nb t ht) fun r1 h1 => Tot.cond (fun c1 => Tot.bind (right4_tot t ht) fun r2 _ => Tot.cond (fun _ => Tot.bind (right4_tot s hs) fun r3 _ => Tot.cond (fun _ => Tot.bind (find_tot s ⟨#[123]⟩ hs (by rw [e1]; omega)) fun r4 _ => Tot.cond (fun _ => Tot.bind (find_no s ⟨#[125]⟩ hs e2) fun r5 h5 => Tot.ret fun e => ?_) (fun _ => no)) (fun _ => no)) (fun _ => no)) (fun _ => no)) (fun _ => no)
  have h5 := h5 (of_decide_eq_true e)
  obtain ⟨n0, nn⟩ := h1 c1
  refine ⟨fun c hc e => ?_, fun e => ?_, fun c hc => ?_⟩
  · obtain ⟨j, hj, e3, _⟩ := mem_bl hc
    refine h5 j hj ?_
    rw [bl_extract1 hj, e3, e]
    rfl
  · have h0 := bl_len t
    rw [e] at h0
    have h0 : t.size = 0 := h0.symm
    have := len_runesRow t
    omega
  · obtain ⟨j, hj, _, e4⟩ := mem_bl hc
    have key : ∀ m : Nat, m < 128 → c.toNat = m → nb (IntKind.i64.wrap (m : Int)) := fun m hm e5 => by
      have hr := rune_of_byte t j hj (by omega) t.size 0 (by omega) (by omega)
      have hr2 : [C.int .i32 ((by_ t j : Nat) : Int)] ∈ runesRow t := by
        unfold runesRow
        exact List.mem_map.2 ⟨_, hr, rfl⟩
      obtain ⟨i, hi, e6⟩ := mem_getD hr2
      have := nn i hi
      rw [e6] at this
      rw [e4, e5] at this
      exact this
    refine ⟨fun e => ?_, fun e => ?_, fun e => ?_, fun e => ?_⟩
    · exact (key 32 (by omega) (by rw [e]; rfl)).1 (by decide)
    · exact (key 41 (by omega) (by rw [e]; rfl)).2.1 (by decide)
    · exact (key 61 (by omega) (by rw [e]; rfl)).2.2.1 (by decide)
    · exact (key 123 (by omega) (by rw [e]; rfl)).2.2.2 (by decide)
-- Right
theorem empty_of {s : ByteArray} (h : (!(s.toList == (⟨#[]⟩ : ByteArray).toList)) = false) : s = ⟨#[]⟩ := str_eq.1 (by simpa using h)
theorem rightn_tots : ∀ d : Nat, d ≤ 100 →
    (∀ (a : List C), SmR BB a → Tot (fun k _ _ => (lv k).orielref12_path (gi a 0) (gr a 1) (gr a 2) d) (fun r => r = true → okn d true a)) ∧
    (∀ (a : List C), SmR BB a → Tot (fun k _ _ => (lv k).orielref12_filter (gi a 0) (gs a 1) (gs a 2) (gs a 3) (gr a 4) (gr a 5) d) (fun r => r = true → okn d false a)) := by
  intro d
  induction d with
  | zero =>
    intro _
    constructor
    · intro a _
      refine orielref12_path_up _ _ _ _ (Tot.congr ?_ (fun k _ _ => orielref12_path_q (lv k) k (gi a 0) (gr a 1) (gr a 2) ((0 : Nat) : Int)))
      exact Tot.t (by rfl) (Tot.ret (fun h => by cases h))
    · intro a _
      refine orielref12_filter_up _ _ _ _ _ _ _ (Tot.congr ?_ (fun k _ _ => orielref12_filter_q (lv k) k (gi a 0) (gs a 1) (gs a 2) (gs a 3) (gr a 4) (gr a 5) ((0 : Nat) : Int)))
      exact Tot.t (by rfl) (Tot.ret (fun h => by cases h))
  | succ d ih =>
    intro hd
    have ih := ih (by omega)
    have hw : IntKind.i64.wrap (((d + 1 : Nat) : Int) - 1) = d := by rw [wrap_id (by omega) (by omega)]; omega
    have hne : (((d + 1 : Nat) : Int) == (0 : Int)) = false := by rw [beq_eq_false_iff_ne]; omega
    constructor
    · intro a ha
      have hl1 : (gr a 1).length ≤ 1048576 := (ha.gr 1).1
      have no : Tot (fun _ _ _ => some false) (fun r => r = true → okn (d + 1) true a) := Tot.ret (fun h => by cases h)
      refine orielref12_path_up _ _ _ _ (Tot.congr ?_ (fun k _ _ => orielref12_path_q (lv k) k (gi a 0) (gr a 1) (gr a 2) ((d + 1 : Nat) : Int)))
      have l0 : ∀ v1 v2, Tot (fun k x y => orielref12_path_l0 (lv k) k (gi a 0) (gr a 1) (gr a 2) ((d + 1 : Nat) : Int) v1 v2) (fun r => r = true → okn (d + 1) true a) := fun v1 v2 => by
        refine Tot.congr ?_ (fun k p_ q_ => orielref12_path_l0_q (lv k) k (gi a 0) (gr a 1) (gr a 2) ((d + 1 : Nat) : Int) v1 v2 )
        refine Tot.cond (fun _ => no) (fun _ => Tot.cond (fun _ => no) (fun _ => Tot.cond (fun _ => no) (fun _ => Tot.cond (fun _ => no) (fun g4 => ?_))))
        have g4 := of_decide_eq_false g4
        refine Tot.in0 (Tot.loop (H := fun k x y v (_ : Unit) => orielref12_path_l1 (lv k) k (gi a 0) (gr a 1) (gr a 2) ((d + 1 : Nat) : Int) x v) (n := (gr a 1).length) (fun i _ => ∀ j, j < i → okn d true ((gr a 1).getD j [])) (by omega) (fun _ h => ?_) (fun i _ hi h next => ?_) _ 0 () rfl (by omega) (fun j hj => by omega))
        · refine Tot.step0 (fun k p_ q_ => orielref12_path_l1_q (lv k) k (gi a 0) (gr a 1) (gr a 2) ((d + 1 : Nat) : Int) p_ _) ?_
          refine Tot.f (decide_eq_false (by omega)) (Tot.cond (fun ht0 => ?_) (fun ht0 => ?_))
          · have ht0 : (gr a 2).length = 0 := by simpa using ht0
            exact Tot.ret (fun _ => ⟨h, fun j h => by omega⟩)
          · have ht0 : (gr a 2).length ≠ 0 := by simpa using ht0
            refine Tot.t (decide_eq_true (by omega)) ?_
            rw [hw]
            refine Tot.bind (ih.2 _ ((ha.gr 2).get 0)) fun r hr => Tot.ret (fun hb => ⟨h, fun j h => ?_⟩)
            rw [show j = 0 by omega]
            exact hr hb
        · refine Tot.step0 (fun k p_ q_ => orielref12_path_l1_q (lv k) k (gi a 0) (gr a 1) (gr a 2) ((d + 1 : Nat) : Int) p_ _) ?_
          rw [hw, Int.toNat_natCast]
          repeat (refine Tot.t (decide_eq_true (by omega)) ?_)
          refine Tot.bind (ih.1 _ ((ha.gr 1).get i)) fun r hr1 => Tot.cond (fun _ => no) (fun hb => next () (fun j hj => ?_))
          have hb : r = true := by simpa using hb
          rcases Nat.lt_or_ge j i with h2 | h2
          · exact h j h2
          · rw [show j = i by omega]; exact hr1 hb
      repeat' first
        | exact no
        | exact l0 _ _
        | refine Tot.cond (fun _ => ?_) (fun _ => ?_)
    · intro a ha
      have hl1 : (gr a 4).length ≤ 1048576 := (ha.gr 4).1
      have no : Tot (fun _ _ _ => some false) (fun r => r = true → okn (d + 1) false a) := Tot.ret (fun h => by cases h)
      refine orielref12_filter_up _ _ _ _ _ _ _ (Tot.congr ?_ (fun k _ _ => orielref12_filter_q (lv k) k (gi a 0) (gs a 1) (gs a 2) (gs a 3) (gr a 4) (gr a 5) ((d + 1 : Nat) : Int)))
      refine Tot.f hne (Tot.cond (fun _ => no) (fun h1 => Tot.cond (fun _ => no) (fun h11 => ?_)))
      have l3 : ∀ v1 v2 : Int, NF a → Tot (fun k x y => orielref12_filter_l3 (lv k) k (gi a 0) (gs a 1) (gs a 2) (gs a 3) (gr a 4) (gr a 5) ((d + 1 : Nat) : Int) v1 v2) (fun r => r = true → okn (d + 1) false a) := by
        intro v1 v2 nf
        refine Tot.congr ?_ (fun k p_ q_ => orielref12_filter_l3_q (lv k) k (gi a 0) (gs a 1) (gs a 2) (gs a 3) (gr a 4) (gr a 5) ((d + 1 : Nat) : Int) v1 v2 )
        refine Tot.cond (fun _ => no) (fun _ => Tot.cond (fun _ => no) (fun _ => Tot.cond (fun _ => no) (fun _ => Tot.cond (fun _ => no) (fun g4 => ?_))))
        have g4 := of_decide_eq_false g4
        refine Tot.in0 (Tot.loop (H := fun k x y v (_ : Unit) => orielref12_filter_l4 (lv k) k (gi a 0) (gs a 1) (gs a 2) (gs a 3) (gr a 4) (gr a 5) ((d + 1 : Nat) : Int) x v) (n := (gr a 4).length) (fun i _ => ∀ j, j < i → okn d false ((gr a 4).getD j [])) (by omega) (fun _ h => ?_) (fun i _ hi h next => ?_) _ 0 () rfl (by omega) (fun j hj => by omega))
        · refine Tot.step0 (fun k p_ q_ => orielref12_filter_l4_q (lv k) k (gi a 0) (gs a 1) (gs a 2) (gs a 3) (gr a 4) (gr a 5) ((d + 1 : Nat) : Int) p_ _) ?_
          refine Tot.f (decide_eq_false (by omega)) (Tot.cond (fun ht0 => ?_) (fun ht0 => ?_))
          · have ht0 : (gr a 5).length = 0 := by simpa using ht0
            exact Tot.ret (fun _ => ⟨nf, h, fun j h => by omega⟩)
          · have ht0 : (gr a 5).length ≠ 0 := by simpa using ht0
            refine Tot.t (decide_eq_true (by omega)) ?_
            rw [hw]
            refine Tot.bind (ih.1 _ ((ha.gr 5).get 0)) fun r hr => Tot.ret (fun hb => ⟨nf, h, fun j h => ?_⟩)
            rw [show j = 0 by omega]
            exact hr hb
        · refine Tot.step0 (fun k p_ q_ => orielref12_filter_l4_q (lv k) k (gi a 0) (gs a 1) (gs a 2) (gs a 3) (gr a 4) (gr a 5) ((d + 1 : Nat) : Int) p_ _) ?_
          rw [hw, Int.toNat_natCast]
          repeat (refine Tot.t (decide_eq_true (by omega)) ?_)
          refine Tot.bind (ih.2 _ ((ha.gr 4).get i)) fun r hr1 => Tot.cond (fun _ => no) (fun hb => next () (fun j hj => ?_))
          have hb : r = true := by simpa using hb
          rcases Nat.lt_or_ge j i with h2 | h2
          · exact h j h2
          · rw [show j = i by omega]; exact hr1 hb
      have l2 : ∀ v1 v2 : Int, NF a → Tot (fun k x y => orielref12_filter_l2 (lv k) k (gi a 0) (gs a 1) (gs a 2) (gs a 3) (gr a 4) (gr a 5) ((d + 1 : Nat) : Int) v1 v2) (fun r => r = true → okn (d + 1) false a) := by
        intro v1 v2 nf
        refine Tot.congr ?_ (fun k p_ q_ => orielref12_filter_l2_q (lv k) k (gi a 0) (gs a 1) (gs a 2) (gs a 3) (gr a 4) (gr a 5) ((d + 1 : Nat) : Int) v1 v2 )
        exact Tot.cond (fun _ => l3 _ _ nf) (fun _ => Tot.cond (fun _ => l3 _ _ nf) (fun _ => l3 _ _ nf))
      have l1 : ∀ v1, (v1 = false → gs a 3 = ⟨#[]⟩ → NF a) → (v1 = true → NF a) → Tot (fun k x y => orielref12_filter_l1 (lv k) k (gi a 0) (gs a 1) (gs a 2) (gs a 3) (gr a 4) (gr a 5) ((d + 1 : Nat) : Int) v1) (fun r => r = true → okn (d + 1) false a) := fun v1 f1 f2 => by
        have e8 : NF a → Tot (fun k x y => cond (gi a 0 == (8 : Int)) (orielref12_filter_l2 (lv k) k (gi a 0) (gs a 1) (gs a 2) (gs a 3) (gr a 4) (gr a 5) ((d + 1 : Nat) : Int) 1 1) (orielref12_filter_l2 (lv k) k (gi a 0) (gs a 1) (gs a 2) (gs a 3) (gr a 4) (gr a 5) ((d + 1 : Nat) : Int) 0 0)) (fun r => r = true → okn (d + 1) false a) := fun nf => Tot.cond (fun _ => l2 1 1 nf) (fun _ => l2 0 0 nf)
        have rest : NF a → Tot (fun k x y => cond (gi a 0 == (7 : Int)) (cond ((gs a 3).toList == (⟨#[]⟩ : ByteArray).toList) (some false) (((lv k).orielref04_Right (gs a 3)).bind fun r1 => cond (!r1) (some false) (cond (gi a 0 == (8 : Int)) (orielref12_filter_l2 (lv k) k (gi a 0) (gs a 1) (gs a 2) (gs a 3) (gr a 4) (gr a 5) ((d + 1 : Nat) : Int) 1 1) (orielref12_filter_l2 (lv k) k (gi a 0) (gs a 1) (gs a 2) (gs a 3) (gr a 4) (gr a 5) ((d + 1 : Nat) : Int) 0 0)))) (((lv k).orielref04_Right (gs a 3)).bind fun r2 => cond (!r2) (some false) (cond (gi a 0 == (8 : Int)) (orielref12_filter_l2 (lv k) k (gi a 0) (gs a 1) (gs a 2) (gs a 3) (gr a 4) (gr a 5) ((d + 1 : Nat) : Int) 1 1) (orielref12_filter_l2 (lv k) k (gi a 0) (gs a 1) (gs a 2) (gs a 3) (gr a 4) (gr a 5) ((d + 1 : Nat) : Int) 0 0)))) (fun r => r = true → okn (d + 1) false a) := fun nf =>
          Tot.cond (fun _ => Tot.cond (fun _ => no) (fun _ => Tot.bind (right4_tot _ (ha.gs 3)) fun _ _ => Tot.cond (fun _ => no) (fun _ => e8 nf))) (fun _ => Tot.bind (right4_tot _ (ha.gs 3)) fun _ _ => Tot.cond (fun _ => no) (fun _ => e8 nf))
        refine Tot.congr ?_ (fun k p_ q_ => orielref12_filter_l1_q (lv k) k (gi a 0) (gs a 1) (gs a 2) (gs a 3) (gr a 4) (gr a 5) ((d + 1 : Nat) : Int) v1 )
        exact Tot.cond (fun c1 => Tot.cond (fun _ => no) (fun c2 => rest (f1 (by simpa using c1) (empty_of c2)))) (fun c1 => rest (f2 (by simpa using c1)))
      have l0 : ∀ v1 v2, (v1 = true ↔ 4 ≤ gi a 0 ∧ gi a 0 ≤ 6) → (v2 = true ↔ gi a 0 = 6 ∨ gi a 0 = 7) → Tot (fun k x y => orielref12_filter_l0 (lv k) k (gi a 0) (gs a 1) (gs a 2) (gs a 3) (gr a 4) (gr a 5) ((d + 1 : Nat) : Int) v1 v2) (fun r => r = true → okn (d + 1) false a) := fun v1 v2 e1 e2 => by
        have fin : (v1 = true → NameOK (gs a 1) (gs a 2)) → (v1 = false → gs a 1 = ⟨#[]⟩ ∧ gs a 2 = ⟨#[]⟩) → Tot (fun k x y => orielref12_filter_l1 (lv k) k (gi a 0) (gs a 1) (gs a 2) (gs a 3) (gr a 4) (gr a 5) ((d + 1 : Nat) : Int) v2) (fun r => r = true → okn (d + 1) false a) := fun g1 g2 => by
          have nf : (gi a 0 ≠ 6 → gi a 0 ≠ 7 → gs a 3 = ⟨#[]⟩) → NF a := fun h => ⟨fun h1 h2 => g1 (e1.2 ⟨h1, h2⟩), fun h => g2 (by cases hv : v1 with | false => rfl | true => exact absurd (e1.1 hv) h), h⟩
          exact l1 v2 (fun hv he => nf fun _ _ => he) (fun hv => nf fun h6 h7 => by have := e2.1 hv; omega)
        refine Tot.congr ?_ (fun k p_ q_ => orielref12_filter_l0_q (lv k) k (gi a 0) (gs a 1) (gs a 2) (gs a 3) (gr a 4) (gr a 5) ((d + 1 : Nat) : Int) v1 v2 )
        refine Tot.cond (fun _ => no) (fun c0 => Tot.cond (fun c1 => Tot.bind (named_ok _ _ (ha.gs 1) (ha.gs 2)) fun r hr => Tot.cond (fun _ => no) (fun c2 => fin (fun _ => hr (by simpa using c2)) (fun e => by rw [e] at c1; cases c1))) (fun c1 => fin (fun e => by rw [e] at c1; cases c1) (fun e => ?_)))
        rw [e] at c0
        have : ((gs a 1 == (⟨#[]⟩ : ByteArray)) && ((gs a 2 == (⟨#[]⟩ : ByteArray)) && true)) = true := by simpa using c0
        exact name_eq.1 this
      refine Tot.cond (fun h4 => ?_) (fun h4 => ?_)
      · have h4 := of_decide_eq_true h4
        refine Tot.cond (fun h6 => l0 _ _ ?_ ?_) (fun h6 => l0 _ _ ?_ ?_)
        · rw [decide_eq_true_eq]; omega
        · have := eq_of_beq h6; exact ⟨fun _ => .inl this, fun _ => rfl⟩
        · rw [decide_eq_true_eq]; omega
        · have := ne_of_beq_false h6
          rw [beq_iff_eq]
          omega
      · have h4 := of_decide_eq_false h4
        refine Tot.cond (fun h6 => l0 _ _ ?_ ?_) (fun h6 => l0 _ _ ?_ ?_)
        · have := eq_of_beq h6; omega
        · have := eq_of_beq h6; exact ⟨fun _ => .inl this, fun _ => rfl⟩
        · exact ⟨fun e => (by cases e), fun e => by omega⟩
        · have := ne_of_beq_false h6
          rw [beq_iff_eq]
          omega
theorem rightn_tot (a : List C) (ha : SmR BB a) : Tot (fun k _ _ => (lv k).orielref12_Right (gi a 0) (gr a 1) (gr a 2)) (fun r => r = true → okn 16 true a) := by
  refine orielref12_Right_up _ _ _ (Tot.congr ?_ (fun k _ _ => orielref12_Right_q (lv k) k (gi a 0) (gr a 1) (gr a 2)))
  refine Tot.bind (R := SizeQ true a 64) (orielref12_Size_up _ _ _ (Tot.congr (Tot.bind ((size_tot _).1 a 64 (Nat.lt_succ_self _) ha (by omega) (by omega)) fun r hr => Tot.ret hr) (fun k _ _ => orielref12_Size_q (lv k) k (gi a 0) (gr a 1) (gr a 2)))) fun r hr => ?_
  refine Tot.cond (fun h => ?_) (fun _ => Tot.ret (fun h => by cases h))
  exact Tot.bind ((rightn_tots 16 (by omega)).1 a ha) fun b hb => Tot.ret hb
-- Law
theorem tot_both {α : Type} {g : Nat → Nat → Nat → Option α} {Q R : α → Prop} (h1 : Tot g Q) (h2 : Tot g R) : Tot g (fun r => Q r ∧ R r) := by
  obtain ⟨r, q, N, h⟩ := h1
  obtain ⟨r', q', N', h'⟩ := h2
  have e : some r = some r' := (h (max N N') (max N N') (max N N') (by omega) (by omega) (by omega)).symm.trans (h' _ _ _ (by omega) (by omega) (by omega))
  cases e
  exact ⟨r, ⟨q, q'⟩, N, h⟩
theorem tot_the {α : Type} {g : Nat → Nat → Nat → Option α} {Q : α → Prop} (h : Tot g Q) : ∃ r, Q r ∧ Tot g (fun x => x = r) := by
  obtain ⟨r, q, N, h⟩ := h
  exact ⟨r, q, r, rfl, N, h⟩
theorem keeps_tot (p q : List C) (hp : SmR BB p) (hq : SmR BB q) : Tot (fun k _ _ => (lv k).oriellaw15_ShowKeeps (gi p 0) (gr p 1) (gr p 2) (gi q 0) (gr q 1) (gr q 2)) (fun r => r = true) := by
  have aw : Tot (fun n _ _ => ((lv n).oriellaw15_awake).bind fun r => some r) (fun r => r = true) := Tot.bind awake_tot fun r hr => Tot.ret hr
  refine oriellaw15_ShowKeeps_up _ _ _ _ _ _ (Tot.congr ?_ (fun k _ _ => oriellaw15_ShowKeeps_q (lv k) k (gi p 0) (gr p 1) (gr p 2) (gi q 0) (gr q 1) (gr q 2)))
  refine Tot.bind awake_tot fun r hr => ?_
  subst hr
  obtain ⟨rp, ⟨hp1, hp2⟩, tp⟩ := tot_the (tot_both (right_tot p hp) (rightn_tot p hp))
  refine Tot.f rfl (Tot.bind tp fun r hr => Tot.cond (fun _ => aw) (fun hb => ?_))
  subst hr
  have hb : r = true := by simpa using hb
  obtain ⟨okp, szp⟩ := hp1 hb
  have onp := hp2 hb
  refine Tot.bind (tot_both (right_tot q hq) (rightn_tot q hq)) fun r2 hr2 => Tot.cond (fun _ => aw) (fun hb2 => ?_)
  have hb2 : r2 = true := by simpa using hb2
  obtain ⟨okq, szq⟩ := hr2.1 hb2
  have onq := hr2.2 hb2
  obtain ⟨a, ha⟩ := (show_tots 16 (Nat.le_refl _)).1 p okp hp (szp 16)
  obtain ⟨b, hbb⟩ := (show_tots 16 (Nat.le_refl _)).1 q okq hq (szq 16)
  refine Tot.bind ha.s fun r7 h7 => Tot.bind hbb.s fun r8 h8 => Tot.bind tp fun r9 h9 => ?_
  subst h9
  refine Tot.t hb (Tot.bind (rsame_tot p q hp hq) fun r10 h10 => Tot.ret ?_)
  have key : (r7.toList == r8.toList) = true ↔ r10 = true := by
    have h10 : r10 = true ↔ Alike true p q := h10
    rw [str_eq, h10, ← tx_iff ⟨okp, onp⟩ ⟨okq, onq⟩, ← ha.e, ← hbb.e, ← h7, ← h8]
    exact ⟨fun e => by rw [e], fun e => bl_inj e⟩
  cases h : (r7.toList == r8.toList) <;> cases h' : r10
  · rfl
  · rw [h, h'] at key; exact absurd (key.2 rfl) (by decide)
  · rw [h, h'] at key; exact absurd (key.1 rfl) (by decide)
  · rfl
end Go.Vm.T
