/- The plain law. -/
import Derived.Test.YtkdlhnmidbnpkaaVmTbb
import Derived.Test.YtkdlhnmidbnpkaaVmPure
import Derived.Test.YtkdlhnmidbnpkaaVmEq
/- awake. -/
set_option linter.unusedVariables false
namespace Go.Vm.T
open Go Go.Vm Go.Proofs
theorem awake_at (m : Nat) : (lv (m + 40)).oriellaw20_awake = some true := by kernel_rfl
theorem awake_tot : Tot (fun n _ _ => (lv n).oriellaw20_awake) (fun r => r = true) := ⟨true, rfl, 40, fun n a b hn _ _ => by
  obtain ⟨m, rfl⟩ : ∃ m, n = m + 40 := ⟨n - 40, by omega⟩
  exact awake_at m⟩
end Go.Vm.T
/- A path's machines: the program's and the document's. -/
set_option linter.unusedVariables false
set_option linter.unusedSimpArgs false
namespace Go.Vm.T
open Go Go.Vm Go.Proofs
attribute [local irreducible] lv oriellaw20_KindLike_b orielref18_Holds_b orielref18_Holds_l0 orielref18_Holds_l1 oriellaw20_awake_b orielref18_Find_b orielref18_Find_l0 orielref18_Make_b orielref18_Make_l0 orielref18_Make_l1 orielref12_Same_b orielref12_Same_l0 orielref12_Same_l1 orielref17_Compile_b orielref12_SameFilter_b orielref12_SameFilter_l0 orielref12_SameFilter_l1 orielref17_add_b orielref17_add_l0 orielref17_add_l1 orielref17_add_l2 orielref17_add_l3 orielref17_add_l4 orielref17_add_l5 orielref17_add_l6 orielref17_edge_b orielref18_Inner_b orielref18_Inner_l0 orielref18_Inner_l1 orielref18_Inner_l2 orielref18_Inner_l3 orielref18_within_b orielref18_within_l0 orielref18_within_l1 kind_Step_b kind_Step_l0 strat_Items_b strat_Items_l0 kind_maker_prog_b kind_maker_prog_l0 kind_maker_prog_l1 kind_maker_prog_l2 kind_maker_prog_l3 strat_Tests_b strat_Tests_l0 strat_Tests_l1 strat_node_holds_b strat_node_attr_b strat_node_attr_l0 api_Filter_b api_Filter_2_b api_Path_b api_Filter_3_b api_Filter_3_l0 api_Filter_4_b api_Filter_4_l0 api_Path_2_b api_Path_2_l0 strat_node_fails_b strat_node_holds_2_b strat_node_leads_b strat_node_attr_2_b strat_node_attr_2_l0 strat_Find_b api_Path_3_b api_Path_3_l0 strat_Find_1_b path_Same_b api_Path_4_b api_Path_4_l0 kind_Whole_b kind_Whole_l0 kind_Whole_l1 kind_Whole_l2 kind_Whole_l3 kind_maker_leads_b api_Filter_5_b api_Filter_5_l0 word_Whole_b kind_good_b path_sameFilter_b word_Begins_b word_Begins_l0 word_Begins_l1 word_Right_b word_named_b word_text_b name_Plain_b name_Plain_l0 utf_All_b utf_All_l0 utf_All_l1 char_Start_b utf_Rune_b utf_Rune_l0 utf_Rune_l1 utf_Rune_l2 utf_Rune_l3 char_in_b char_in_l0 utf_forms_b word_Nodes_b word_Nodes_l0 word_Nodes_l1 word_Depth_b word_Depth_l0 char_All_b char_All_l0 char_All_l1 utf_span_b char_Char_b char_Blank_b kind_Arrive_b kind_Arrive_l0 kind_Arrive_l1 kind_Arrive_l2 word_attrs_b word_attrs_l0 char_Part_b orielref12_Right_b orielref12_Size_b orielref12_size_b orielref12_size_l0 orielref12_size_l1 orielref12_sizeFilter_b orielref12_sizeFilter_l0 orielref12_sizeFilter_l1 orielref12_path_b orielref12_path_l0 orielref12_path_l1 orielref12_filter_b orielref12_filter_l0 orielref12_filter_l1 orielref12_filter_l2 orielref12_filter_l3 orielref12_filter_l4 orielref12_named_b orielref04_Right_b orielref04_Right_l0 orielref03_Plain_b orielref03_Plain_l0 orielref01_All_b orielref01_All_l0 orielref01_All_l1 orielref02_Start_b orielref01_Rune_b orielref01_Rune_l0 orielref01_Put_b orielref01_cut_b orielref01_cut_l0 orielref01_cut_l1 orielref01_cut_l2 orielref01_cut_l3 orielref01_cut_l4 orielref01_value_b orielref01_value_l0 orielref01_value_l1 oriellaw20_node_b orielref02_Char_b orielref02_Part_b orielref01_begins_b orielref01_begins_l0 orielref09_Right_b orielref09_Right_l0 orielref09_Right_l1 orielref09_Right_l2 orielref02_Blank_b orielref09_named_b orielref05_Find_b orielref05_Find_l0 orielref09_Few_b orielref09_Few_l0 orielref09_Few_l1 orielref19_Like_b orielref19_Like_l0 orielref19_Like_l1 orielref19_Like_l2 orielref19_Make_b orielref19_Make_l0 orielref19_Make_l1 orielref12_Filters_b orielref12_Filters_l0 orielref12_Filters_l1 orielref12_Filters_l2 orielref12_Filters_l3 orielref12_within_b orielref12_within_l0 orielref12_within_l1 orielref12_Names_b orielref12_Names_l0 orielref12_Names_l1 orielref12_hasName_b orielref12_hasName_l0 orielref12_Values_b orielref12_Values_l0 orielref12_Values_l1 orielref12_Has_b orielref12_Has_l0 orielref19_value_b orielref19_value_l0 orielref19_value_l1 oriellaw20_sort_b oriellaw20_sort_l0 oriellaw20_sort_l1 orielref18_Items_b orielref18_Items_l0
theorem bytes25 : Try.prog.bytesOf 25 ≤ 1024 := of_decide_eq_true (by kernel_rfl)
theorem bytes39 : Try.prog.bytesOf 39 ≤ 1024 := of_decide_eq_true (by kernel_rfl)
theorem good_get {D : List (List C)} (h : ∀ x, x ∈ D → Good x) (i : Nat) : SmR BB (D.getD i []) := by
  rw [List.getD_eq_getElem?_getD]
  cases hi : D[i]? with
  | none => intro x hx; cases hx
  | some r => exact (h r (List.mem_of_getElem? hi)).sm
/-- is one alike to a path in a list? -/
theorem add1_row3 (r : List (List C)) (x : List C) : add1 r (row3 x) = add1 r x := by
  by_cases h : ∃ z, z ∈ r ∧ Alike true z x
  · obtain ⟨z, h1, h2⟩ := h
    rw [add1_old ⟨z, h1, h2⟩, add1_old ⟨z, h1, h2.trans (al3 _).symm⟩]
  · rw [add1_new h, add1_new fun ⟨z, h1, h2⟩ => h ⟨z, h1, h2.trans (al3 _)⟩]
    rfl
theorem set_last {l : List (List C)} {z w : List C} : (l ++ [z]).set l.length w = l ++ [w] := by
  induction l with
  | nil => rfl
  | cons x l ih => simp [ih]
theorem get_last {l : List (List C)} {z : List C} : (l ++ [z]).getD l.length [] = z := by
  rw [getD_app, if_neg (Nat.lt_irrefl _), Nat.sub_self]
  rfl
theorem take_flat {l : List (List C)} {f : List C → List (List C)} {i : Nat} : ((l.take i).flatMap f).length ≤ (l.flatMap f).length := by
  have := List.take_append_drop i l
  have h : (l.flatMap f).length = ((l.take i).flatMap f).length + ((l.drop i).flatMap f).length := by
    rw [← List.length_append, ← List.flatMap_append, this]
  omega
theorem take_flat1 {l : List (List C)} {f : List C → List (List C)} {i : Nat} (hi : i < l.length) : ((l.take i).flatMap f).length + (f (l.getD i [])).length ≤ (l.flatMap f).length := by
  have := take_flat (l := l) (f := f) (i := i + 1)
  rw [flat_take hi, List.length_append] at this
  exact this
/-- what the gathering is to come to -/
theorem sub_sz {a : List C} {k : Bool} (hz : ∀ e, sz e k a ≤ 64) (j : Nat) (k' : Bool) (hj : (k, j, k') = (true, 1, true) ∨ (k, j, k') = (true, 2, false) ∨ (k, j, k') = (false, 4, false) ∨ (k, j, k') = (false, 5, true)) {i : Nat} (hi : i < (gr a j).length) : ∀ e, sz e k' ((gr a j).getD i []) ≤ 64 := by
  intro e
  have h1 := hz (e + 1)
  have h2 := sz_sub (f := sz e k') hi
  rcases hj with hj | hj | hj | hj <;> cases hj <;> simp only [sz] at h1 <;> omega
-- Strat
noncomputable def mach (x : List C) : Mk := mk 16 (gi x 0) (gr x 1) (gr x 2) 0 0
noncomputable def nst (x : List C) : Int := (mach x).n
noncomputable def prow (x : List C) : List C := [C.int .i64 (mach x).n, C.int .i64 (mach x).s, C.int .i64 (mach x).e, C.row 83 (mach x).E, C.row 66 (mach x).T]
noncomputable def rrow (x : List C) : List C := [C.int .i64 (mach x).n, C.int .i64 (mach x).s, C.int .i64 (mach x).e, C.row 83 (mach x).E, C.row 66 ((mach x).T.map nf)]
noncomputable def sumn : List (List C) → Int
  | [] => 0
  | x :: l => nst x + sumn l
noncomputable def bases : Int → List (List C) → List (List C)
  | _, [] => []
  | s, x :: l => [C.int .i64 s] :: bases (s + nst x) l
theorem sumn_app (l m : List (List C)) : sumn (l ++ m) = sumn l + sumn m := by
  induction l with
  | nil => simp [sumn]
  | cons x l ih => simp only [List.cons_append, sumn, ih]; omega
theorem bases_app (l m : List (List C)) : ∀ s, bases s (l ++ m) = bases s l ++ bases (s + sumn l) m := by
  induction l with
  | nil => intro s; simp [bases, sumn]
  | cons x l ih => intro s; simp only [List.cons_append, bases, sumn, ih]; rw [show s + nst x + sumn l = s + (nst x + sumn l) by omega]
theorem bases_len (l : List (List C)) : ∀ s, (bases s l).length = l.length := by
  induction l with
  | nil => intro s; rfl
  | cons x l ih => intro s; simp [bases, ih]
theorem bases_get (l : List (List C)) : ∀ (s : Int) (i : Nat), i < l.length → (bases s l).getD i [] = [C.int .i64 (s + sumn (l.take i))] := by
  induction l with
  | nil => intro s i h; simp at h
  | cons x l ih =>
    intro s i h
    cases i with
    | zero => simp [bases, sumn]
    | succ i =>
      have := ih (s + nst x) i (by simpa using h)
      simp only [bases, List.getD_cons_succ, List.take_succ_cons, sumn]
      rw [this, show s + nst x + sumn (l.take i) = s + (nst x + sumn (l.take i)) by omega]
theorem Good.nst {x : List C} (h : Good x) : 0 ≤ nst x ∧ nst x ≤ 128 := by
  have h1 := mk_bd 16 _ _ _ 0 0 h.pok
  have h2 := h.pc
  have h3 := h1.lo
  have h4 := h1.hi
  unfold Go.Vm.T.nst mach
  omega
theorem sumn_bd {l : List (List C)} (h : ∀ x, x ∈ l → Good x) : 0 ≤ sumn l ∧ sumn l ≤ 128 * l.length := by
  induction l with
  | nil => simp [sumn]
  | cons x l ih =>
    have h1 := (h x List.mem_cons_self).nst
    have h2 := ih fun y hy => h y (List.mem_cons_of_mem _ hy)
    simp only [sumn, List.length_cons]
    omega
theorem take_succ {l : List (List C)} {i : Nat} (h : i < l.length) : l.take (i + 1) = l.take i ++ [l.getD i []] := by
  rw [List.take_add_one, List.getElem?_eq_getElem h, List.getD_eq_getElem?_getD, List.getElem?_eq_getElem h]
  rfl
theorem mem_take {l : List (List C)} (h : ∀ x, x ∈ l → Good x) (i : Nat) : ∀ x, x ∈ l.take i → Good x := fun x hx => h x (List.mem_of_mem_take hx)
noncomputable def DD (p : List C) : List (List C) := (inn 16 true p).foldl add1 []
theorem Good.inn {p : List C} (h : Good p) : ∀ x, x ∈ inn 16 true p → Good x := inn_good (by omega) h.ok h.sz h.sm
theorem Good.len {p : List C} (h : Good p) : (Go.Vm.T.inn 16 true p).length ≤ 63 := by
  have := inn_len 16 true p
  have := h.sz 16
  omega
theorem Good.ded {p : List C} (h : Good p) : Ded (Go.Vm.T.inn 16 true p) (DD p) := ded_all (inn_cl (by omega) h.ok) h.inn
theorem rcomp_tot {x : List C} (h : Good x) : Tot (fun k _ _ => (lv k).orielref17_Compile (gi x 0) (gr x 1) (gr x 2)) (fun r => r = ((mach x).n, (mach x).s, (mach x).e, (mach x).E, (mach x).T.map nf)) := rcompile_tot _ _ _ h.pok h.pc
theorem rfind_tot (D B C' : List (List C)) (n s e : Int) (E T : List (List C)) (x : List C) (hD : ∀ y, y ∈ D → Good y) (hl : D.length ≤ 1000000) (hx : SmR BB x) : Tot (fun k _ _ => (lv k).orielref18_Find D B C' n s e E T (gi x 0) (gr x 1) (gr x 2)) (Fst D.length (fun j => Alike true (D.getD j []) x)) := by
  refine orielref18_Find_up _ _ _ _ _ _ _ _ _ _ _ (Tot.congr ?_ (fun k _ _ => orielref18_Find_q (lv k) k D B C' n s e E T (gi x 0) (gr x 1) (gr x 2)))
  refine Tot.in0 (Tot.first (H := fun k p q v => orielref18_Find_l0 (lv k) k D B C' n s e E T (gi x 0) (gr x 1) (gr x 2) p v) (n := D.length) (by omega) ?_ (fun i Q hi hy hn => ?_))
  · refine Tot.step0 (fun k p_ q_ => orielref18_Find_l0_q (lv k) k D B C' n s e E T (gi x 0) (gr x 1) (gr x 2) p_ _) ?_
    exact Tot.f (decide_eq_false (by omega)) (Tot.ret rfl)
  · refine Tot.step0 (fun k p_ q_ => orielref18_Find_l0_q (lv k) k D B C' n s e E T (gi x 0) (gr x 1) (gr x 2) p_ _) ?_
    rw [Int.toNat_natCast]
    repeat (refine Tot.t (decide_eq_true (by omega)) ?_)
    exact Tot.bind (rsame_tot (D.getD i []) x (good_get hD i) hx) fun r hr => Tot.cond (fun h => Tot.ret (hy (hr.1 h))) (fun h => hn (fun ha => by rw [hr.2 ha] at h; cases h))
theorem pfind_tot (D B C' : List (List C)) (n s e : Int) (E T : List (List C)) (x : List C) (hD : ∀ y, y ∈ D → Good y) (hl : D.length ≤ 1000000) (hx : SmR BB x) : Tot (fun k _ _ => (lv k).strat_Find D B C' n s e E T (gi x 0) (gr x 1) (gr x 2)) (Fst D.length (fun j => Alike true (D.getD j []) x)) := by
  refine strat_Find_up _ _ _ _ _ _ _ _ _ _ _ (Tot.congr ?_ (fun k _ _ => strat_Find_q (lv k) k D B C' n s e E T (gi x 0) (gr x 1) (gr x 2)))
  refine Tot.bind (R := Fst D.length (fun j => Alike true (D.getD j []) x)) ?_ fun r hr => Tot.ret hr
  refine api_Path_3_up _ _ _ _ (Tot.congr ?_ (fun k _ _ => api_Path_3_q (lv k) k D (gi x 0) (gr x 1) (gr x 2)))
  refine Tot.in0 (Tot.first (H := fun k p q v => api_Path_3_l0 (lv k) k D (gi x 0) (gr x 1) (gr x 2) p v) (n := D.length) (by omega) ?_ (fun i Q hi hy hn => ?_))
  · refine Tot.step0 (fun k p_ q_ => api_Path_3_l0_q (lv k) k D (gi x 0) (gr x 1) (gr x 2) p_ _) ?_
    exact Tot.f (decide_eq_false (by omega)) (Tot.ret rfl)
  · refine Tot.step0 (fun k p_ q_ => api_Path_3_l0_q (lv k) k D (gi x 0) (gr x 1) (gr x 2) p_ _) ?_
    rw [Int.toNat_natCast]
    repeat (refine Tot.t (decide_eq_true (by omega)) ?_)
    refine Tot.bind (R := AlQ true (D.getD i []) x) ?_ fun r hr => Tot.cond (fun h => Tot.ret (hy (hr.1 h))) (fun h => hn (fun ha => by rw [hr.2 ha] at h; cases h))
    refine strat_Find_1_up _ _ _ _ _ _ (Tot.congr ?_ (fun k _ _ => strat_Find_1_q (lv k) k (gi (D.getD i []) 0) (gr (D.getD i []) 1) (gr (D.getD i []) 2) (gi x 0) (gr x 1) (gr x 2)))
    exact Tot.bind (psame_tot (D.getD i []) x (good_get hD i) hx) fun r hr => Tot.ret hr
/-! the document's -/
theorem Tot.cat {α : Type} {g : Nat → Nat → Nat → Option α} {Q Q' : α → Prop} (h : Tot g Q) (hq : ∀ r, Q r → Q' r) : Tot g Q' := h.mono hq
def RI (k : Bool) (a : List C) (d : Nat) : Prop := match k with
  | true => Tot (fun k _ _ => (lv k).orielref18_Inner (gi a 0) (gr a 1) (gr a 2)) (fun r => r = inn d true a)
  | false => Tot (fun k _ _ => (lv k).orielref18_within (gi a 0) (gs a 1) (gs a 2) (gs a 3) (gr a 4) (gr a 5)) (fun r => r = inn d false a)
theorem rinner : ∀ d, d ≤ 16 → ∀ (k : Bool) (a : List C), ok d k a → (∀ e, sz e k a ≤ 64) → SmR BB a → RI k a d := by
  intro d
  induction d with
  | zero => intro _ k a h; exact h.elim
  | succ d ih =>
    intro hd k a ha hz hs
    have ih := @ih (by omega)
    have hlen := inn_len (d + 1) k a
    have hz' := hz (d + 1)
    have ha' := ha
    cases k with
    | true =>
      obtain ⟨_, _, _, _, _, _, _, _, h9, h10⟩ := ha'
      have e0 : inn (d + 1) true a = (gr a 1).flatMap (inn d true) ++ (gr a 2).flatMap (inn d false) := rfl
      show Tot _ _
      rw [e0] at hlen ⊢
      rw [List.length_append] at hlen
      have hl1 : (gr a 1).length ≤ 1048576 := (hs.gr 1).1
      have hl2 : (gr a 2).length ≤ 1048576 := (hs.gr 2).1
      refine orielref18_Inner_up _ _ _ (Tot.congr ?_ (fun k _ _ => orielref18_Inner_q (lv k) k (gi a 0) (gr a 1) (gr a 2)))
      have l3 : ∀ (i : Nat) s, i ≤ (gr a 2).length → s = (gr a 1).flatMap (inn d true) ++ ((gr a 2).take i).flatMap (inn d false) → Tot (fun k p q => orielref18_Inner_l3 (lv k) k (gi a 0) (gr a 1) (gr a 2) p (i : Int) s) (fun r => r = (gr a 1).flatMap (inn d true) ++ (gr a 2).flatMap (inn d false)) := fun i s hi hs' =>
        Tot.loop (H := fun k p q v s => orielref18_Inner_l3 (lv k) k (gi a 0) (gr a 1) (gr a 2) p v s) (n := (gr a 2).length) (fun i s => s = (gr a 1).flatMap (inn d true) ++ ((gr a 2).take i).flatMap (inn d false)) (by omega) (fun s hs' => by
          subst hs'
          refine Tot.step0 (fun k p_ q_ => orielref18_Inner_l3_q (lv k) k (gi a 0) (gr a 1) (gr a 2) p_ _ _) ?_
          rw [List.take_length]
          exact Tot.f (decide_eq_false (by omega)) (Tot.ret rfl)) (fun i s hi hs' next => by
          subst hs'
          refine Tot.step0 (fun k p_ q_ => orielref18_Inner_l3_q (lv k) k (gi a 0) (gr a 1) (gr a 2) p_ _ _) ?_
          rw [Int.toNat_natCast]
          repeat (refine Tot.t (decide_eq_true (by omega)) ?_)
          have q3 := take_flat1 (f := inn d false) hi
          refine Tot.bind (ih false _ (h10 i hi) (sub_sz hz 2 false (by simp) hi) ((hs.gr 2).get i)) fun r hr => ?_
          subst hr
          exact Tot.t (roomy_of bytes25 (by rw [List.length_append]; omega)) (next _ (by rw [flat_take hi, List.append_assoc]))) _ i s rfl hi hs'
      have l2 : ∀ (i : Nat) s, i ≤ (gr a 1).length → s = ((gr a 1).take i).flatMap (inn d true) → Tot (fun k p q => orielref18_Inner_l2 (lv k) k (gi a 0) (gr a 1) (gr a 2) p (i : Int) s) (fun r => r = (gr a 1).flatMap (inn d true) ++ (gr a 2).flatMap (inn d false)) := fun i s hi hs' =>
        Tot.loop (H := fun k p q v s => orielref18_Inner_l2 (lv k) k (gi a 0) (gr a 1) (gr a 2) p v s) (n := (gr a 1).length) (fun i s => s = ((gr a 1).take i).flatMap (inn d true)) (by omega) (fun s hs' => by
          subst hs'
          refine Tot.step0 (fun k p_ q_ => orielref18_Inner_l2_q (lv k) k (gi a 0) (gr a 1) (gr a 2) p_ _ _) ?_
          rw [List.take_length]
          exact Tot.f (decide_eq_false (by omega)) (Tot.in0 (l3 0 _ (by omega) (by simp)))) (fun i s hi hs' next => by
          subst hs'
          refine Tot.step0 (fun k p_ q_ => orielref18_Inner_l2_q (lv k) k (gi a 0) (gr a 1) (gr a 2) p_ _ _) ?_
          rw [Int.toNat_natCast]
          repeat (refine Tot.t (decide_eq_true (by omega)) ?_)
          have q3 := take_flat1 (f := inn d true) hi
          refine Tot.bind (ih true _ (h9 i hi) (sub_sz hz 1 true (by simp) hi) ((hs.gr 1).get i)) fun r hr => ?_
          subst hr
          exact Tot.t (roomy_of bytes25 (by omega)) (next _ (by rw [flat_take hi]))) _ i s rfl hi hs'
      refine Tot.in0 (g := fun k p_ q_ => orielref18_Inner_l0 (lv k) k (gi a 0) (gr a 1) (gr a 2) p_ ) ?_
      refine Tot.step0 (fun k p_ q_ => orielref18_Inner_l0_q (lv k) k (gi a 0) (gr a 1) (gr a 2) p_ ) ?_
      refine Tot.cond (fun h0 => ?_) (fun h0 => ?_)
      · have h0 := of_decide_eq_true h0
        refine Tot.t (decide_eq_true (by omega)) (Tot.bind (ih true _ (h9 0 (by omega)) (sub_sz hz 1 true (by simp) (show 0 < (gr a 1).length by omega)) ((hs.gr 1).get 0)) fun r hr => ?_)
        subst hr
        have q3 := take_flat1 (f := inn d true) (show 0 < (gr a 1).length by omega)
        refine Tot.t (roomy_of bytes25 (by omega)) (l2 1 _ (by omega) ?_)
        rw [flat_take (show 0 < (gr a 1).length by omega)]
        simp
      · have h0 := of_decide_eq_false h0
        have e1 : gr a 1 = [] := List.length_eq_zero_iff.1 (by omega)
        refine Tot.in0 (g := fun k p_ q_ => orielref18_Inner_l1 (lv k) k (gi a 0) (gr a 1) (gr a 2) p_ ) ?_
        refine Tot.step0 (fun k p_ q_ => orielref18_Inner_l1_q (lv k) k (gi a 0) (gr a 1) (gr a 2) p_ ) ?_
        refine Tot.cond (fun h0 => ?_) (fun h0 => ?_)
        · have h0 := of_decide_eq_true h0
          refine Tot.t (decide_eq_true (by omega)) (Tot.bind (ih false _ (h10 0 (by omega)) (sub_sz hz 2 false (by simp) (show 0 < (gr a 2).length by omega)) ((hs.gr 2).get 0)) fun r hr => ?_)
          subst hr
          have q3 := take_flat1 (f := inn d false) (show 0 < (gr a 2).length by omega)
          refine Tot.t (roomy_of bytes25 (by omega)) (l3 1 _ (by omega) ?_)
          rw [flat_take (show 0 < (gr a 2).length by omega)]
          simp [e1]
        · have h0 := of_decide_eq_false h0
          have e2 : gr a 2 = [] := List.length_eq_zero_iff.1 (by omega)
          exact Tot.ret (by simp [e1, e2])
    | false =>
      obtain ⟨_, _, _, _, _, _, h7, h8, h9, h10⟩ := ha'
      have e0 : inn (d + 1) false a = (gr a 4).flatMap (inn d false) ++ (gr a 5).flatMap (fun x => inn d true x ++ [row3 x]) := rfl
      show Tot _ _
      rw [e0] at hlen ⊢
      rw [List.length_append] at hlen
      have hl1 : (gr a 4).length ≤ 1048576 := (hs.gr 4).1
      have hl2 : (gr a 5).length ≤ 1048576 := (hs.gr 5).1
      have e5 : ∀ h : 0 < (gr a 5).length, (gr a 5).flatMap (fun x => inn d true x ++ [row3 x]) = inn d true ((gr a 5).getD 0 []) ++ [row3 ((gr a 5).getD 0 [])] := fun h => by
        have := flat_take (f := fun x => inn d true x ++ [row3 x]) h
        rw [List.take_of_length_le (by omega)] at this
        simpa using this
      refine orielref18_within_up _ _ _ _ _ _ (Tot.congr ?_ (fun k _ _ => orielref18_within_q (lv k) k (gi a 0) (gs a 1) (gs a 2) (gs a 3) (gr a 4) (gr a 5)))
      have l1 : ∀ (i : Nat) s, i ≤ (gr a 4).length → s = ((gr a 4).take i).flatMap (inn d false) → Tot (fun k p q => orielref18_within_l1 (lv k) k (gi a 0) (gs a 1) (gs a 2) (gs a 3) (gr a 4) (gr a 5) p (i : Int) s) (fun r => r = (gr a 4).flatMap (inn d false) ++ (gr a 5).flatMap (fun x => inn d true x ++ [row3 x])) := fun i s hi hs' =>
        Tot.loop (H := fun k p q v s => orielref18_within_l1 (lv k) k (gi a 0) (gs a 1) (gs a 2) (gs a 3) (gr a 4) (gr a 5) p v s) (n := (gr a 4).length) (fun i s => s = ((gr a 4).take i).flatMap (inn d false)) (by omega) (fun s hs' => by
          subst hs'
          refine Tot.step0 (fun k p_ q_ => orielref18_within_l1_q (lv k) k (gi a 0) (gs a 1) (gs a 2) (gs a 3) (gr a 4) (gr a 5) p_ _ _) ?_
          rw [List.take_length]
          refine Tot.f (decide_eq_false (by omega)) (Tot.cond (fun h11 => ?_) (fun h11 => Tot.ret ?_))
          · have h11 := h7.1 (eq_of_beq h11)
            have h05 : 0 < (gr a 5).length := by omega
            rw [e5 h05] at hlen ⊢
            rw [List.length_append, List.length_singleton] at hlen
            refine Tot.t (decide_eq_true (by omega)) (Tot.bind (ih true _ (h10 0 h05) (sub_sz hz 5 true (by simp) h05) ((hs.gr 5).get 0)) fun r hr => ?_)
            subst hr
            refine Tot.t (roomy_of bytes25 (by omega)) (Tot.t (decide_eq_true (by omega)) (Tot.t (roomy_of bytes25 (by rw [List.length_append]; omega)) (Tot.ret ?_)))
            rw [List.append_assoc]
            rfl
          · have h11 : gi a 0 ≠ 11 := by simpa using h11
            have e2 : gr a 5 = [] := List.length_eq_zero_iff.1 (by
              rcases Nat.lt_or_ge 0 (gr a 5).length with h | h
              · exact absurd (h7.2 (by omega)) h11
              · omega)
            simp [e2]) (fun i s hi hs' next => by
          subst hs'
          refine Tot.step0 (fun k p_ q_ => orielref18_within_l1_q (lv k) k (gi a 0) (gs a 1) (gs a 2) (gs a 3) (gr a 4) (gr a 5) p_ _ _) ?_
          rw [Int.toNat_natCast]
          repeat (refine Tot.t (decide_eq_true (by omega)) ?_)
          have q3 := take_flat1 (f := inn d false) hi
          refine Tot.bind (ih false _ (h9 i hi) (sub_sz hz 4 false (by simp) hi) ((hs.gr 4).get i)) fun r hr => ?_
          subst hr
          exact Tot.t (roomy_of bytes25 (by omega)) (next _ (by rw [flat_take hi]))) _ i s rfl hi hs'
      refine Tot.in0 (g := fun k p_ q_ => orielref18_within_l0 (lv k) k (gi a 0) (gs a 1) (gs a 2) (gs a 3) (gr a 4) (gr a 5) p_ ) ?_
      refine Tot.step0 (fun k p_ q_ => orielref18_within_l0_q (lv k) k (gi a 0) (gs a 1) (gs a 2) (gs a 3) (gr a 4) (gr a 5) p_ ) ?_
      refine Tot.cond (fun h0 => ?_) (fun h0 => ?_)
      · have h0 := of_decide_eq_true h0
        refine Tot.t (decide_eq_true (by omega)) (Tot.bind (ih false _ (h9 0 (by omega)) (sub_sz hz 4 false (by simp) (show 0 < (gr a 4).length by omega)) ((hs.gr 4).get 0)) fun r hr => ?_)
        subst hr
        have q3 := take_flat1 (f := inn d false) (show 0 < (gr a 4).length by omega)
        refine Tot.t (roomy_of bytes25 (by omega)) (l1 1 _ (by omega) ?_)
        rw [flat_take (show 0 < (gr a 4).length by omega)]
        simp
      · have h0 := of_decide_eq_false h0
        have e1 : gr a 4 = [] := List.length_eq_zero_iff.1 (by omega)
        refine Tot.cond (fun h11 => ?_) (fun h11 => Tot.ret ?_)
        · have h11 := h7.1 (eq_of_beq h11)
          have h05 : 0 < (gr a 5).length := by omega
          rw [e5 h05] at hlen ⊢
          rw [List.length_append, List.length_singleton] at hlen
          refine Tot.t (decide_eq_true (by omega)) (Tot.bind (ih true _ (h10 0 h05) (sub_sz hz 5 true (by simp) h05) ((hs.gr 5).get 0)) fun r hr => ?_)
          subst hr
          refine Tot.t (roomy_of bytes25 (by omega)) (Tot.t (decide_eq_true (by omega)) (Tot.t (roomy_of bytes25 (by omega)) (Tot.ret ?_)))
          rw [e1]
          rfl
        · have h11 : gi a 0 ≠ 11 := by simpa using h11
          have e2 : gr a 5 = [] := List.length_eq_zero_iff.1 (by
            rcases Nat.lt_or_ge 0 (gr a 5).length with h | h
            · exact absurd (h7.2 (by omega)) h11
            · omega)
          simp [e1, e2]
-- Rmake
theorem rinn_tot {p : List C} (h : Good p) : Tot (fun k _ _ => (lv k).orielref18_Inner (gi p 0) (gr p 1) (gr p 2)) (fun r => r = inn 16 true p) := rinner 16 (Nat.le_refl _) true p h.ok h.sz h.sm
theorem ded_take {p : List C} (h : Good p) (i : Nat) (hi : i ≤ (inn 16 true p).length) : Ded ((inn 16 true p).take i) (((inn 16 true p).take i).foldl add1 []) := ded_of (inn_cl (by omega) h.ok) h.inn i hi
theorem rmake_tot {p : List C} (h : Good p) : Tot (fun k _ _ => (lv k).orielref18_Make (gi p 0) (gr p 1) (gr p 2)) (fun r => r = (DD p, (DD p).map rrow, bases 0 (DD p), (mach p).n, (mach p).s, (mach p).e, (mach p).E, (mach p).T.map nf)) := by
  have hlen := h.len
  refine orielref18_Make_up _ _ _ (Tot.congr ?_ (fun k _ _ => orielref18_Make_q (lv k) k (gi p 0) (gr p 1) (gr p 2)))
  refine Tot.bind (rcomp_tot h) fun r hr => ?_
  subst hr
  refine Tot.bind (rinn_tot h) fun r hr => ?_
  subst hr
  refine Tot.in0 (g := fun k p_ q_ => orielref18_Make_l0 (lv k) k (gi p 0) (gr p 1) (gr p 2) p_ 0 (mach p).n (mach p).s (mach p).e (mach p).E ((mach p).T.map nf) (inn 16 true p)) ?_
  refine Tot.step0 (fun k p_ q_ => orielref18_Make_l0_q (lv k) k (gi p 0) (gr p 1) (gr p 2) p_ _ _ _ _ _ _ _) ?_
  rw [show Int.toNat 0 = 0 from rfl, show IntKind.i64.wrap ((0 : Int) + 1) = 1 from rfl]
  refine Tot.cond (fun h0 => ?_) (fun h0 => Tot.ret ?_)
  · have h0 := of_decide_eq_true h0
    have h0' : 0 < (inn 16 true p).length := by omega
    refine Tot.t (by rfl) (Tot.t (decide_eq_true (by omega)) ?_)
    have h1 := h.inn _ (getD_mem (d := []) h0')
    refine Tot.bind (rfind_tot [] [] [] _ _ _ _ _ _ (fun y hy => by cases hy) (by simp) h1.sm) fun r hr => ?_
    have hr : r = -1 := by
      rcases hr with ⟨e, _⟩ | ⟨i, _, e, _⟩
      · exact e
      · simp at e
    subst hr
    refine Tot.f (by rfl) (Tot.t (by rfl) (Tot.t (decide_eq_true (by omega)) ?_))
    refine Tot.bind (rcomp_tot h1) fun r hr => ?_
    subst hr
    refine Tot.t (by rfl) (Tot.t (decide_eq_true (by omega)) ?_)
    have hn1 := h1.nst
    have e1 : ((inn 16 true p).take 1).foldl add1 [] = [row3 ((inn 16 true p).getD 0 [])] := by
      rw [take_succ h0']
      show add1 [] ((inn 16 true p).getD 0 []) = _
      rw [add1_new (by rintro ⟨z, hz, _⟩; cases hz)]
      rfl
    have loop := Tot.loop (H := fun k q r v s => orielref18_Make_l1 (lv k) k (gi p 0) (gr p 1) (gr p 2) q s.1 v (mach p).n (mach p).s (mach p).e (mach p).E ((mach p).T.map nf) (inn 16 true p) s.2.1 s.2.2.1 s.2.2.2) (Q := fun r => r = (DD p, (DD p).map rrow, bases 0 (DD p), (mach p).n, (mach p).s, (mach p).e, (mach p).E, (mach p).T.map nf)) (n := (inn 16 true p).length) (fun i s => s = (sumn (((inn 16 true p).take i).foldl add1 []), ((inn 16 true p).take i).foldl add1 [], (((inn 16 true p).take i).foldl add1 []).map rrow, bases 0 (((inn 16 true p).take i).foldl add1 []))) (by omega) (fun s hs => ?_) (fun i s hi hs next => ?_) _ 1 (nst ((inn 16 true p).getD 0 []), [row3 ((inn 16 true p).getD 0 [])], [rrow ((inn 16 true p).getD 0 [])], [[C.int .i64 0]]) rfl (by omega) (by
      rw [e1]
      simp only [sumn, bases, List.map_cons, List.map_nil, Int.add_zero]
      rfl)
    · rw [wrap_id (x := (0 : Int) + (mach ((inn 16 true p).getD 0 [])).n) (by have := hn1.1; unfold nst at this; omega) (by have := hn1.2; unfold nst at this; omega), Int.zero_add]
      exact loop
    · subst hs
      refine Tot.step0 (fun k p_ q_ => orielref18_Make_l1_q (lv k) k (gi p 0) (gr p 1) (gr p 2) p_ _ _ _ _ _ _ _ _ _ _ _) ?_
      rw [List.take_length]
      exact Tot.f (decide_eq_false (by omega)) (Tot.ret rfl)
    · have hd := ded_take h i (by omega)
      have hti : ((inn 16 true p).take (i + 1)).foldl add1 [] = add1 (((inn 16 true p).take i).foldl add1 []) ((inn 16 true p).getD i []) := by
        rw [take_succ hi, List.foldl_append]
        rfl
      rw [hti] at next
      generalize ((inn 16 true p).take i).foldl add1 [] = D at hs hd next
      subst hs
      have hgi := h.inn _ (getD_mem (d := []) hi)
      have b0 : D.length ≤ 63 := by have := hd.len; rw [List.length_take] at this; omega
      refine Tot.step0 (fun k p_ q_ => orielref18_Make_l1_q (lv k) k (gi p 0) (gr p 1) (gr p 2) p_ _ _ _ _ _ _ _ _ _ _ _) ?_
      rw [Int.toNat_natCast]
      repeat (refine Tot.t (decide_eq_true (by omega)) ?_)
      refine Tot.bind (rfind_tot D _ _ _ _ _ _ _ _ hd.good (by omega) hgi.sm) fun r hr => Tot.cond (fun hc => ?_) (fun hc => ?_)
      · have hc := of_decide_eq_true hc
        have hex : ∃ z, z ∈ D ∧ Alike true z ((inn 16 true p).getD i []) := by
          rcases hr with ⟨e, _⟩ | ⟨j, _, e1, e2, _⟩
          · omega
          · exact ⟨_, getD_mem e1, e2⟩
        rw [add1_old hex] at next
        exact next _ rfl
      · have hc := of_decide_eq_false hc
        have hex : ¬ ∃ z, z ∈ D ∧ Alike true z ((inn 16 true p).getD i []) := by
          rintro ⟨z, hz, ha⟩
          obtain ⟨j, hj, rfl⟩ := mem_getD hz
          rcases hr with ⟨e, e1⟩ | ⟨j, e, _⟩
          · exact e1 j hj ha
          · omega
        rw [add1_new hex] at next
        repeat (refine Tot.t (decide_eq_true (by omega)) ?_)
        refine Tot.bind (rcomp_tot hgi) fun r hr => ?_
        subst hr
        repeat (refine Tot.t (decide_eq_true (by omega)) ?_)
        have b1 := sumn_bd hd.good
        have b2 := hgi.nst
        refine Tot.t (roomy_of bytes25 (by show D.length + 1 ≤ _; omega)) (Tot.t (roomy_of bytes39 (by simp; omega)) (Tot.t (roomy_of bytes3 (by rw [bases_len]; omega)) ?_))
        have nx := next _ rfl
        rw [sumn_app, bases_app, List.map_append] at nx
        simp only [sumn, bases, List.map_cons, List.map_nil, Int.add_zero, Int.zero_add] at nx ⊢
        rw [wrap_id (x := sumn D + (mach ((inn 16 true p).getD i [])).n) (by unfold nst at b2; omega) (by unfold nst at b2; omega)]
        exact nx
  · have h0 := of_decide_eq_false h0
    have : inn 16 true p = [] := List.length_eq_zero_iff.1 (by omega)
    unfold DD
    rw [this]
    rfl
theorem items_tot (A B C' : List (List C)) (n s e : Int) (E T D : List (List C)) (f : List C → List C) (hB : B = D.map f) (hf : ∀ x, gi (f x) 0 = nst x) (hD : ∀ x, x ∈ D → Good x) (hl : D.length ≤ 1000000) : Tot (fun k _ _ => (lv k).strat_Items A B C' n s e E T) (fun r => r = sumn D) := by
  subst hB
  refine strat_Items_up _ _ _ _ _ _ _ _ (Tot.congr ?_ (fun k _ _ => strat_Items_q (lv k) k A (D.map f) C' n s e E T))
  refine Tot.in0 (Tot.loop (H := fun k p q v w => strat_Items_l0 (lv k) k A (D.map f) C' n s e E T p w v) (n := D.length) (fun i w => w = sumn (D.take i)) (by omega) (fun w hw => ?_) (fun i w hi hw next => ?_) _ 0 0 rfl (by omega) rfl)
  · subst hw
    refine Tot.step0 (fun k p_ q_ => strat_Items_l0_q (lv k) k A (D.map f) C' n s e E T p_ _ _) ?_
    rw [List.length_map, List.take_length]
    exact Tot.f (decide_eq_false (by omega)) (Tot.ret rfl)
  · subst hw
    refine Tot.step0 (fun k p_ q_ => strat_Items_l0_q (lv k) k A (D.map f) C' n s e E T p_ _ _) ?_
    rw [Int.toNat_natCast, List.length_map]
    repeat (refine Tot.t (decide_eq_true (by omega)) ?_)
    have e1 : (D.map f).getD i [] = f (D.getD i []) := by simp [List.getD_eq_getElem?_getD, hi]
    have b1 := sumn_bd (mem_take hD i)
    have b2 := (hD _ (getD_mem (d := []) hi)).nst
    have b3 : (D.take i).length ≤ i := by simp; omega
    rw [e1, hf]
    refine next _ ?_
    rw [wrap_id (by omega) (by omega), take_succ hi, sumn_app]
    simp [sumn]
theorem ritems_tot (A B C' : List (List C)) (n s e : Int) (E T D : List (List C)) (f : List C → List C) (hB : B = D.map f) (hf : ∀ x, gi (f x) 0 = nst x) (hD : ∀ x, x ∈ D → Good x) (hl : D.length ≤ 1000000) : Tot (fun k _ _ => (lv k).orielref18_Items A B C' n s e E T) (fun r => r = sumn D) := by
  subst hB
  refine orielref18_Items_up _ _ _ _ _ _ _ _ (Tot.congr ?_ (fun k _ _ => orielref18_Items_q (lv k) k A (D.map f) C' n s e E T))
  refine Tot.in0 (Tot.loop (H := fun k p q v w => orielref18_Items_l0 (lv k) k A (D.map f) C' n s e E T p w v) (n := D.length) (fun i w => w = sumn (D.take i)) (by omega) (fun w hw => ?_) (fun i w hi hw next => ?_) _ 0 0 rfl (by omega) rfl)
  · subst hw
    refine Tot.step0 (fun k p_ q_ => orielref18_Items_l0_q (lv k) k A (D.map f) C' n s e E T p_ _ _) ?_
    rw [List.length_map, List.take_length]
    exact Tot.f (decide_eq_false (by omega)) (Tot.ret rfl)
  · subst hw
    refine Tot.step0 (fun k p_ q_ => orielref18_Items_l0_q (lv k) k A (D.map f) C' n s e E T p_ _ _) ?_
    rw [Int.toNat_natCast, List.length_map]
    repeat (refine Tot.t (decide_eq_true (by omega)) ?_)
    have e1 : (D.map f).getD i [] = f (D.getD i []) := by simp [List.getD_eq_getElem?_getD, hi]
    have b1 := sumn_bd (mem_take hD i)
    have b2 := (hD _ (getD_mem (d := []) hi)).nst
    have b3 : (D.take i).length ≤ i := by simp; omega
    rw [e1, hf]
    refine next _ ?_
    rw [wrap_id (by omega) (by omega), take_succ hi, sumn_app]
    simp [sumn]
/-! the laws -/
theorem to_good {p : List C} (hp : SmR BB p) (h : ok 16 true p ∧ ∀ d, sz d true p ≤ 64) : Good p := ⟨h.1, h.2, hp⟩
theorem fst_at {D : List (List C)} (hd : ∀ i j, i < j → j < D.length → ¬ Alike true (D.getD i []) (D.getD j [])) {i : Nat} (hi : i < D.length) {r : Int} (h : Fst D.length (fun j => Alike true (D.getD j []) (D.getD i [])) r) : r = i :=
  h.uniq (.inr ⟨i, rfl, hi, Alike.refl _ _, fun j hj => hd j i hj hi⟩)
-- Shp
def EdI (lo hi tl th : Int) (r : List C) : Prop := lo ≤ gi r 0 ∧ gi r 0 < hi ∧ lo ≤ gi r 1 ∧ gi r 1 < hi ∧ (gi r 2 = 3 → tl ≤ gi r 3 ∧ gi r 3 < th)
theorem EdI.mono {lo hi tl th lo' hi' tl' th' : Int} {r : List C} (h : EdI lo hi tl th r) (h1 : lo' ≤ lo) (h2 : hi ≤ hi') (h3 : tl' ≤ tl) (h4 : th ≤ th') : EdI lo' hi' tl' th' r := by
  obtain ⟨a, b, c, d, e⟩ := h
  exact ⟨by omega, by omega, by omega, by omega, fun h => by have := e h; omega⟩
theorem edI_st4 {lo hi tl th a b k t : Int} (h1 : lo ≤ a) (h2 : a < hi) (h3 : lo ≤ b) (h4 : b < hi) (h5 : k = 3 → tl ≤ t ∧ t < th) : EdI lo hi tl th (st4 a b k t) := ⟨h1, h2, h3, h4, h5⟩
structure Shp (n t : Int) (m : Mk) : Prop where
  ed : ∀ r, r ∈ m.E → EdI n m.n t (t + m.T.length) r
  s0 : n ≤ m.s
  s1 : m.s < m.n
  e0 : n ≤ m.e
  e1 : m.e < m.n
structure ShA (n t s : Int) (m : Al) : Prop where
  ed : ∀ r, r ∈ m.E → EdI n m.n t (t + m.T.length) r
  es : ∀ b, b ∈ m.es → n ≤ b ∧ b < m.n
  s0 : n ≤ s
  s1 : s < m.n
theorem seqF_shp {f : List C → Int → Int → Mk} {n t : Int} : ∀ {l : List (List C)} {m : Mk}, (∀ r, r ∈ l → ∀ n t, Shp n t (f r n t)) → Shp n t m → Shp n t (seqF f t l m) := by
  intro l
  induction l with
  | nil => intro m _ h; exact h
  | cons r l ih =>
    intro m hf hm
    have y := hf r List.mem_cons_self m.n (t + m.T.length)
    have h1 := hm.s0
    have h2 := hm.s1
    have h3 := hm.e0
    have h4 := hm.e1
    have h5 := y.s0
    have h6 := y.s1
    have h7 := y.e0
    have h8 := y.e1
    refine ih (fun r hr => hf r (List.mem_cons_of_mem _ hr)) ⟨fun x hx => ?_, h1, by show m.s < (f r m.n (t + m.T.length)).n; omega, by show n ≤ (f r m.n (t + m.T.length)).e; omega, h8⟩
    have hT : ((m.T ++ (f r m.n (t + m.T.length)).T).length : Int) = m.T.length + (f r m.n (t + m.T.length)).T.length := by simp
    show EdI n (f r m.n (t + m.T.length)).n t (t + ((m.T ++ (f r m.n (t + m.T.length)).T).length : Int)) x
    rw [hT]
    rcases List.mem_append.1 hx with hx | hx
    · exact (hm.ed x hx).mono (by omega) (by omega) (by omega) (by omega)
    · rcases List.mem_append.1 hx with hx | hx
      · exact (y.ed x hx).mono (by omega) (by omega) (by omega) (by omega)
      · rw [List.mem_singleton.1 hx]
        exact edI_st4 (by omega) (by omega) (by omega) (by omega) (fun h => by cases h)
theorem altF_shp {f : List C → Int → Int → Mk} {n t s : Int} : ∀ {l : List (List C)} {m : Al}, (∀ r, r ∈ l → ∀ n t, Shp n t (f r n t)) → ShA n t s m → ShA n t s (altF f t s l m) := by
  intro l
  induction l with
  | nil => intro m _ h; exact h
  | cons r l ih =>
    intro m hf hm
    have y := hf r List.mem_cons_self m.n (t + m.T.length)
    have h1 := hm.s0
    have h2 := hm.s1
    have h5 := y.s0
    have h6 := y.s1
    have h7 := y.e0
    have h8 := y.e1
    refine ih (fun r hr => hf r (List.mem_cons_of_mem _ hr)) ⟨fun x hx => ?_, fun b hb => ?_, h1, by show s < (f r m.n (t + m.T.length)).n; omega⟩
    · have hT : ((m.T ++ (f r m.n (t + m.T.length)).T).length : Int) = m.T.length + (f r m.n (t + m.T.length)).T.length := by simp
      show EdI n (f r m.n (t + m.T.length)).n t (t + ((m.T ++ (f r m.n (t + m.T.length)).T).length : Int)) x
      rw [hT]
      rcases List.mem_append.1 hx with hx | hx
      · exact (hm.ed x hx).mono (by omega) (by omega) (by omega) (by omega)
      · rcases List.mem_append.1 hx with hx | hx
        · exact (y.ed x hx).mono (by omega) (by omega) (by omega) (by omega)
        · rw [List.mem_singleton.1 hx]
          exact edI_st4 (by omega) (by omega) (by omega) (by omega) (fun h => by cases h)
    · show n ≤ b ∧ b < (f r m.n (t + m.T.length)).n
      rcases List.mem_append.1 hb with hb | hb
      · have := hm.es b hb; omega
      · rw [List.mem_singleton.1 hb]; omega
theorem mk_shp : ∀ (d : Nat) (op : Int) (subs tests : List (List C)) (n t : Int), POk d op subs tests → Shp n t (mk d op subs tests n t) := by
  intro d
  induction d with
  | zero => intro op subs tests n t h; exact h.elim
  | succ d ih =>
    intro op subs tests n t h
    obtain ⟨h1, h7, h45, h6, h77, ht, hl, h0, hsub⟩ := h
    have hf : ∀ r, r ∈ subs → ∀ n t, Shp n t (fr d r n t) := fun r hr n t => ih _ _ _ n t (hsub r hr)
    by_cases e4 : op = 4
    · cases subs with
      | nil => have := h45 (.inl e4); simp at this
      | cons r l => rw [mk_4 e4]; exact seqF_shp (fun r hr => hf r (List.mem_cons_of_mem _ hr)) (hf r List.mem_cons_self n t)
    · by_cases e5 : op = 5
      · rw [mk_5 e5]
        have a := altF_shp (l := subs) (n := n) (t := t) (s := n) (m := ⟨n + 1, [], [], []⟩) hf ⟨fun r hr => (by cases hr), fun b hb => (by cases hb), Int.le_refl _, by show n < n + 1; omega⟩
        have g1 := a.s1
        refine ⟨fun x hx => ?_, Int.le_refl _, by show n < (altF _ _ _ _ _).n + 1; omega, by show n ≤ (altF _ _ _ _ _).n; omega, by show (altF _ _ _ _ _).n < (altF _ _ _ _ _).n + 1; omega⟩
        rcases List.mem_append.1 hx with hx | hx
        · exact (a.ed x hx).mono (Int.le_refl _) (by show _ ≤ (altF _ _ _ _ _).n + 1; omega) (Int.le_refl _) (Int.le_refl _)
        · obtain ⟨b, hb, rfl⟩ := List.mem_map.1 hx
          have := a.es b hb
          exact edI_st4 (by omega) (by show b < (altF _ _ _ _ _).n + 1; omega) (by omega) (by show (altF _ _ _ _ _).n < (altF _ _ _ _ _).n + 1; omega) (fun h => by cases h)
      · by_cases e6 : op = 6
        · cases subs with
          | nil => have := h6 e6; simp at this
          | cons r l =>
            rw [mk_6 e6]
            have y := hf r List.mem_cons_self (n + 1) t
            have g1 := y.s0
            have g2 := y.s1
            have g3 := y.e0
            have g4 := y.e1
            refine ⟨fun x hx => ?_, Int.le_refl _, by show n < (fr d r (n + 1) t).n; omega, Int.le_refl _, by show n < (fr d r (n + 1) t).n; omega⟩
            rcases List.mem_append.1 hx with hx | hx
            · rcases List.mem_append.1 hx with hx | hx
              · exact (y.ed x hx).mono (by omega) (Int.le_refl _) (Int.le_refl _) (Int.le_refl _)
              · rw [List.mem_singleton.1 hx]
                exact edI_st4 (Int.le_refl _) (by show n < (fr d r (n + 1) t).n; omega) (by omega) g2 (fun h => by cases h)
            · rw [List.mem_singleton.1 hx]
              exact edI_st4 (by omega) g4 (Int.le_refl _) (by show n < (fr d r (n + 1) t).n; omega) (fun h => by cases h)
        · by_cases e7 : op = 7
          · rw [mk_7 e7]
            have htl := h77.1 e7
            refine ⟨fun x hx => ?_, Int.le_refl _, by show n < n + 2; omega, by show n ≤ n + 1; omega, by show n + 1 < n + 2; omega⟩
            rw [List.mem_singleton.1 hx]
            exact edI_st4 (Int.le_refl _) (by show n < n + 2; omega) (by omega) (by show n + 1 < n + 2; omega) (fun _ => ⟨Int.le_refl _, by show t < t + (tests.length : Int); omega⟩)
          · rw [mk_0 e4 e5 e6 e7]
            refine ⟨fun x hx => ?_, Int.le_refl _, by show n < n + 2; omega, by show n ≤ n + 1; omega, by show n + 1 < n + 2; omega⟩
            rw [List.mem_singleton.1 hx]
            refine edI_st4 (Int.le_refl _) (by show n < n + 2; omega) (by omega) (by show n + 1 < n + 2; omega) (fun h => ?_)
            unfold kindOf at h
            split at h
            · cases h
            · split at h <;> cases h
-- Holds
structure Ctx (D B K ea bits : List (List C)) : Prop where
  good : ∀ x, x ∈ D → Good x
  dl : D.length ≤ 1000
  bl : B.length = D.length
  kl : K.length = D.length
  at_ : ∀ i, i < D.length → 0 ≤ gi (K.getD i []) 0 + gi (B.getD i []) 1 ∧ gi (K.getD i []) 0 + gi (B.getD i []) 1 < bits.length
  bits : bits.length ≤ 1000000
  al : ea.length ≤ 1048576
theorem Fst.ex (n : Nat) (p : Nat → Prop) : ∃ r, Fst n p r := by
  induction n with
  | zero => exact ⟨-1, .inl ⟨rfl, fun j h => by omega⟩⟩
  | succ n ih =>
    obtain ⟨r, hr⟩ := ih
    rcases hr with ⟨e, h⟩ | ⟨i, e, h1, h2, h3⟩
    · by_cases hp : p n
      · exact ⟨n, .inr ⟨n, rfl, by omega, hp, h⟩⟩
      · exact ⟨-1, .inl ⟨rfl, fun j hj => by
          rcases Nat.lt_or_ge j n with g | g
          · exact h j g
          · rw [show j = n by omega]; exact hp⟩⟩
    · exact ⟨r, .inr ⟨i, e, by omega, h2, h3⟩⟩
section
variable {D B K E T ea bits : List (List C)} {n s e ek : Int} {e1 e2 et : ByteArray}
theorem leads2 (h : Ctx D B K ea bits) (x : List C) (hx : SmR BB x) : ∃ b, Tot (fun k _ _ => (lv k).strat_node_leads D B K n s e E T ek e1 e2 ea et bits (gi x 0) (gr x 1) (gr x 2)) (fun r => r = b) ∧
    Tot (fun k _ _ => ((lv k).orielref18_Find D B K n s e E T (gi x 0) (gr x 1) (gr x 2)).bind fun r2 => cond (decide (r2 ≥ (0 : Int))) (cond (decide ((0 : Int) ≤ r2)) (cond (decide (r2 < (K.length : Int))) (cond (decide ((0 : Int) ≤ r2)) (cond (decide (r2 < (B.length : Int))) (cond (decide ((0 : Int) ≤ IntKind.i64.wrap ((gi (K.getD r2.toNat []) 0) + (gi (B.getD r2.toNat []) 1)))) (cond (decide (IntKind.i64.wrap ((gi (K.getD r2.toNat []) 0) + (gi (B.getD r2.toNat []) 1)) < (bits.length : Int))) (some ((gi (bits.getD ((IntKind.i64.wrap ((gi (K.getD r2.toNat []) 0) + (gi (B.getD r2.toNat []) 1))).toNat) []) 0) == (1 : Int))) none) none) none) none) none) none) (some false)) (fun r => r = b) := by
  obtain ⟨r, hr⟩ := Fst.ex D.length (fun j => Alike true (D.getD j []) x)
  have key : ∀ {g : Nat → Nat → Nat → Option Int}, Tot g (Fst D.length (fun j => Alike true (D.getD j []) x)) → Tot (fun k p q => (g k p q).bind fun r2 => cond (decide (r2 ≥ (0 : Int))) (cond (decide ((0 : Int) ≤ r2)) (cond (decide (r2 < (K.length : Int))) (cond (decide ((0 : Int) ≤ r2)) (cond (decide (r2 < (B.length : Int))) (cond (decide ((0 : Int) ≤ IntKind.i64.wrap ((gi (K.getD r2.toNat []) 0) + (gi (B.getD r2.toNat []) 1)))) (cond (decide (IntKind.i64.wrap ((gi (K.getD r2.toNat []) 0) + (gi (B.getD r2.toNat []) 1)) < (bits.length : Int))) (some ((gi (bits.getD ((IntKind.i64.wrap ((gi (K.getD r2.toNat []) 0) + (gi (B.getD r2.toNat []) 1))).toNat) []) 0) == (1 : Int))) none) none) none) none) none) none) (some false)) (fun r' => r' = (decide (0 ≤ r) && (gi (bits.getD ((gi (K.getD r.toNat []) 0 + gi (B.getD r.toNat []) 1).toNat) []) 0 == (1 : Int)))) := by
    intro g hg
    refine Tot.bind hg fun r' hr' => ?_
    have hrr := hr'.uniq hr
    subst hrr
    refine Tot.cond (fun h0 => ?_) (fun h0 => Tot.ret ?_)
    · have h0 := of_decide_eq_true h0
      obtain ⟨i, rfl, hi⟩ : ∃ i : Nat, r' = i ∧ i < D.length := by
        rcases hr with ⟨e', _⟩ | ⟨i, e', g, _⟩
        · omega
        · exact ⟨i, e', g⟩
      have hat := h.at_ i hi
      have hb := h.bits
      have hbl := h.bl
      have hkl := h.kl
      rw [Int.toNat_natCast, wrap_id (x := gi (K.getD i []) 0 + gi (B.getD i []) 1) (by omega) (by omega)]
      refine Tot.t (decide_eq_true (by omega)) (Tot.t (decide_eq_true (by omega)) (Tot.t (decide_eq_true (by omega)) (Tot.t (decide_eq_true (by omega)) (Tot.t (decide_eq_true (by omega)) (Tot.t (decide_eq_true (by omega)) (Tot.ret ?_))))))
      rw [decide_eq_true (show (0 : Int) ≤ (i : Int) by omega)]
      rfl
    · rw [show decide (0 ≤ r') = false from h0]
      rfl
  refine ⟨_, ?_, key (rfind_tot D B K n s e E T x h.good (by have := h.dl; omega) hx)⟩
  refine strat_node_leads_up _ _ _ _ _ _ _ _ _ _ _ _ _ _ _ _ _ (Tot.congr ?_ (fun k _ _ => strat_node_leads_q (lv k) k D B K n s e E T ek e1 e2 ea et bits (gi x 0) (gr x 1) (gr x 2)))
  exact key (pfind_tot D B K n s e E T x h.good (by have := h.dl; omega) hx)
/-- the first attribute of a name -/
def Af (ea : List (List C)) (n1 n2 : ByteArray) : Int → Prop := Fst ea.length (fun j => gs (ea.getD j []) 0 = n1 ∧ gs (ea.getD j []) 1 = n2)
def av (ea : List (List C)) (r : Int) : ByteArray := if r = -1 then ⟨#[]⟩ else gs (ea.getD r.toNat []) 2
def ab (ek : Int) (r : Int) : Bool := if r = -1 then false else ek == 1
theorem attr2_tot (h : Ctx D B K ea bits) (n1 n2 : ByteArray) {r : Int} (hr : Af ea n1 n2 r) : Tot (fun k _ _ => (lv k).strat_node_attr_2 D B K n s e E T ek e1 e2 ea et bits n1 n2) (fun x => x = (av ea r, ab ek r)) := by
  have hal := h.al
  refine strat_node_attr_2_up _ _ _ _ _ _ _ _ _ _ _ _ _ _ _ _ (Tot.congr ?_ (fun k _ _ => strat_node_attr_2_q (lv k) k D B K n s e E T ek e1 e2 ea et bits n1 n2))
  refine Tot.in0 (Tot.loop (H := fun k p q v (_ : Unit) => strat_node_attr_2_l0 (lv k) k D B K n s e E T ek e1 e2 ea et bits n1 n2 p v) (n := ea.length) (fun i _ => ∀ j, j < i → ¬ (gs (ea.getD j []) 0 = n1 ∧ gs (ea.getD j []) 1 = n2)) (by omega) (fun _ hh => ?_) (fun i _ hi hh next => ?_) _ 0 () rfl (by omega) (fun j hj => by omega))
  · refine Tot.step0 (fun k p_ q_ => strat_node_attr_2_l0_q (lv k) k D B K n s e E T ek e1 e2 ea et bits n1 n2 p_ _) ?_
    have : r = -1 := hr.uniq (.inl ⟨rfl, hh⟩)
    subst this
    exact Tot.f (decide_eq_false (by omega)) (Tot.ret rfl)
  · refine Tot.step0 (fun k p_ q_ => strat_node_attr_2_l0_q (lv k) k D B K n s e E T ek e1 e2 ea et bits n1 n2 p_ _) ?_
    rw [Int.toNat_natCast]
    repeat (refine Tot.t (decide_eq_true (by omega)) ?_)
    refine Tot.cond (fun hc => Tot.ret ?_) (fun hc => next () (fun j hj => ?_))
    · have : r = i := hr.uniq (.inr ⟨i, rfl, hi, name_eq.1 hc, hh⟩)
      subst this
      unfold av ab
      rw [if_neg (by omega), if_neg (by omega), Int.toNat_natCast]
    · rcases Nat.lt_or_ge j i with g | g
      · exact hh j g
      · rw [show j = i by omega]
        intro hb
        rw [name_eq.2 hb] at hc
        cases hc
theorem attr_tot (h : Ctx D B K ea bits) (n1 n2 : ByteArray) {r : Int} (hr : Af ea n1 n2 r) : Tot (fun k _ _ => (lv k).strat_node_attr D B K n s e E T ek e1 e2 ea et bits n1 n2) (fun x => x = (av ea r, ab ek r, D, B, K, n, s, e, E, T, ek, e1, e2, ea, et, bits)) := by
  have hal := h.al
  refine strat_node_attr_up _ _ _ _ _ _ _ _ _ _ _ _ _ _ _ _ (Tot.congr ?_ (fun k _ _ => strat_node_attr_q (lv k) k D B K n s e E T ek e1 e2 ea et bits n1 n2))
  refine Tot.in0 (Tot.loop (H := fun k p q v (_ : Unit) => strat_node_attr_l0 (lv k) k D B K n s e E T ek e1 e2 ea et bits n1 n2 p v) (n := ea.length) (fun i _ => ∀ j, j < i → ¬ (gs (ea.getD j []) 0 = n1 ∧ gs (ea.getD j []) 1 = n2)) (by omega) (fun _ hh => ?_) (fun i _ hi hh next => ?_) _ 0 () rfl (by omega) (fun j hj => by omega))
  · refine Tot.step0 (fun k p_ q_ => strat_node_attr_l0_q (lv k) k D B K n s e E T ek e1 e2 ea et bits n1 n2 p_ _) ?_
    have : r = -1 := hr.uniq (.inl ⟨rfl, hh⟩)
    subst this
    exact Tot.f (decide_eq_false (by omega)) (Tot.ret rfl)
  · refine Tot.step0 (fun k p_ q_ => strat_node_attr_l0_q (lv k) k D B K n s e E T ek e1 e2 ea et bits n1 n2 p_ _) ?_
    rw [Int.toNat_natCast]
    repeat (refine Tot.t (decide_eq_true (by omega)) ?_)
    refine Tot.cond (fun hc => Tot.ret ?_) (fun hc => next () (fun j hj => ?_))
    · have : r = i := hr.uniq (.inr ⟨i, rfl, hi, name_eq.1 hc, hh⟩)
      subst this
      unfold av ab
      rw [if_neg (by omega), if_neg (by omega), Int.toNat_natCast]
    · rcases Nat.lt_or_ge j i with g | g
      · exact hh j g
      · rw [show j = i by omega]
        intro hb
        rw [name_eq.2 hb] at hc
        cases hc
/-- both answer the same -/
structure HH (D B K : List (List C)) (n s e : Int) (E T : List (List C)) (ek : Int) (e1 e2 : ByteArray) (ea : List (List C)) (et : ByteArray) (bits : List (List C)) (f : List C) (b : Bool) : Prop where
  p2 : Tot (fun k _ _ => (lv k).strat_node_holds_2 D B K n s e E T ek e1 e2 ea et bits (gi f 0) (gs f 1) (gs f 2) (gs f 3) (gr f 4) (gr f 5)) (fun r => r = b)
  p1 : Tot (fun k _ _ => (lv k).strat_node_holds D B K n s e E T ek e1 e2 ea et bits (gi f 0) (gs f 1) (gs f 2) (gs f 3) (gr f 4) (gr f 5)) (fun r => r = (b, D, B, K, n, s, e, E, T, ek, e1, e2, ea, et, bits))
  rf : Tot (fun k _ _ => (lv k).orielref18_Holds D B K n s e E T (gi f 0) (gs f 1) (gs f 2) (gs f 3) (gr f 4) (gr f 5) ek e1 e2 ea et bits) (fun r => r = b)
open Classical in
theorem hold : ∀ d, d ≤ 16 → Ctx D B K ea bits → ∀ (f : List C), ok d false f → SmR BB f → ∃ b, HH D B K n s e E T ek e1 e2 ea et bits f b := by
  intro d
  induction d with
  | zero => intro _ _ f h; exact h.elim
  | succ d ih =>
    intro hd hc f hf hs
    have ih := ih (by omega) hc
    obtain ⟨h1, h11, h8, h64, h910, h0, h511, h51, h9, h10⟩ := hf
    have hl4 : (gr f 4).length ≤ 1048576 := (hs.gr 4).1
    have hl5 : (gr f 5).length ≤ 1048576 := (hs.gr 5).1
    obtain ⟨bs, hbs⟩ : ∃ bs : Nat → Bool, ∀ i, i < (gr f 4).length → HH D B K n s e E T ek e1 e2 ea et bits ((gr f 4).getD i []) (bs i) := by
      have : ∀ i, ∃ b, i < (gr f 4).length → HH D B K n s e E T ek e1 e2 ea et bits ((gr f 4).getD i []) b := fun i => by
        by_cases hi : i < (gr f 4).length
        · obtain ⟨b, hb⟩ := ih _ (h9 i hi) ((hs.gr 4).get i)
          exact ⟨b, fun _ => hb⟩
        · exact ⟨false, fun h => absurd h hi⟩
      exact Classical.axiomOfChoice this
    -- the program's searches
    have c2 : Tot (fun k _ _ => (lv k).api_Filter (gr f 4) D B K n s e E T ek e1 e2 ea et bits) (fun r => r = decide (∃ j, j < (gr f 4).length ∧ bs j = false)) := by
      refine api_Filter_up _ _ _ _ _ _ _ _ _ _ _ _ _ _ _ (Tot.congr ?_ (fun k _ _ => api_Filter_q (lv k) k (gr f 4) D B K n s e E T ek e1 e2 ea et bits))
      refine Tot.bind (R := Fst (gr f 4).length (fun j => bs j = false)) ?_ fun r hr => Tot.ret ?_
      · refine api_Filter_3_up _ _ _ _ _ _ _ _ _ _ _ _ _ _ _ (Tot.congr ?_ (fun k _ _ => api_Filter_3_q (lv k) k (gr f 4) D B K n s e E T ek e1 e2 ea et bits))
        refine Tot.in0 (Tot.first (H := fun k p q v => api_Filter_3_l0 (lv k) k (gr f 4) D B K n s e E T ek e1 e2 ea et bits p v) (n := (gr f 4).length) (by omega) ?_ (fun i Q hi hy hn => ?_))
        · refine Tot.step0 (fun k p_ q_ => api_Filter_3_l0_q (lv k) k (gr f 4) D B K n s e E T ek e1 e2 ea et bits p_ _) ?_
          exact Tot.f (decide_eq_false (by omega)) (Tot.ret rfl)
        · refine Tot.step0 (fun k p_ q_ => api_Filter_3_l0_q (lv k) k (gr f 4) D B K n s e E T ek e1 e2 ea et bits p_ _) ?_
          rw [Int.toNat_natCast]
          repeat (refine Tot.t (decide_eq_true (by omega)) ?_)
          refine Tot.bind (R := fun r => r = !(bs i)) ?_ fun r hr => ?_
          · refine strat_node_fails_up _ _ _ _ _ _ _ _ _ _ _ _ _ _ _ _ _ _ _ _ (Tot.congr ?_ (fun k _ _ => strat_node_fails_q (lv k) k D B K n s e E T ek e1 e2 ea et bits (gi ((gr f 4).getD i []) 0) (gs ((gr f 4).getD i []) 1) (gs ((gr f 4).getD i []) 2) (gs ((gr f 4).getD i []) 3) (gr ((gr f 4).getD i []) 4) (gr ((gr f 4).getD i []) 5)))
            exact Tot.bind (hbs i hi).p2 fun r hr => Tot.ret (by rw [hr])
          · subst hr
            exact Tot.cond (fun h => Tot.ret (hy (by simpa using h))) (fun h => hn (by simpa using h))
      · rcases hr with ⟨rfl, hh⟩ | ⟨i, rfl, g1, g2, g3⟩
        · exact (decide_eq_false (by omega)).trans (decide_eq_false (fun ⟨j, a, b⟩ => hh j a b)).symm
        · exact (decide_eq_true (by omega)).trans (decide_eq_true ⟨i, g1, g2⟩).symm
    have c3 : Tot (fun k _ _ => (lv k).api_Filter_2 (gr f 4) D B K n s e E T ek e1 e2 ea et bits) (fun r => r = decide (∃ j, j < (gr f 4).length ∧ bs j = true)) := by
      refine api_Filter_2_up _ _ _ _ _ _ _ _ _ _ _ _ _ _ _ (Tot.congr ?_ (fun k _ _ => api_Filter_2_q (lv k) k (gr f 4) D B K n s e E T ek e1 e2 ea et bits))
      refine Tot.bind (R := Fst (gr f 4).length (fun j => bs j = true)) ?_ fun r hr => Tot.ret ?_
      · refine api_Filter_4_up _ _ _ _ _ _ _ _ _ _ _ _ _ _ _ (Tot.congr ?_ (fun k _ _ => api_Filter_4_q (lv k) k (gr f 4) D B K n s e E T ek e1 e2 ea et bits))
        refine Tot.in0 (Tot.first (H := fun k p q v => api_Filter_4_l0 (lv k) k (gr f 4) D B K n s e E T ek e1 e2 ea et bits p v) (n := (gr f 4).length) (by omega) ?_ (fun i Q hi hy hn => ?_))
        · refine Tot.step0 (fun k p_ q_ => api_Filter_4_l0_q (lv k) k (gr f 4) D B K n s e E T ek e1 e2 ea et bits p_ _) ?_
          exact Tot.f (decide_eq_false (by omega)) (Tot.ret rfl)
        · refine Tot.step0 (fun k p_ q_ => api_Filter_4_l0_q (lv k) k (gr f 4) D B K n s e E T ek e1 e2 ea et bits p_ _) ?_
          rw [Int.toNat_natCast]
          repeat (refine Tot.t (decide_eq_true (by omega)) ?_)
          refine Tot.bind (hbs i hi).p2 fun r hr => ?_
          subst hr
          exact Tot.cond (fun h => Tot.ret (hy h)) (fun h => hn (by rw [h]; simp))
      · rcases hr with ⟨rfl, hh⟩ | ⟨i, rfl, g1, g2, g3⟩
        · exact (decide_eq_false (by omega)).trans (decide_eq_false (fun ⟨j, a, b⟩ => hh j a b)).symm
        · exact (decide_eq_true (by omega)).trans (decide_eq_true ⟨i, g1, g2⟩).symm
    -- the document's walk over the parts
    have rl : ∀ op : Int, Tot (fun k _ _ => orielref18_Holds_l0 (lv k) k D B K n s e E T op (gs f 1) (gs f 2) (gs f 3) (gr f 4) (gr f 5) ek e1 e2 ea et bits k true false 0) (fun r => r = cond (op == 9) (decide (∀ j, j < (gr f 4).length → bs j = true)) (cond (op == 10) (decide (∃ j, j < (gr f 4).length ∧ bs j = true)) false)) := by
      intro op
      refine Tot.in0 (Tot.loop (H := fun k p q v (w : Bool × Bool) => orielref18_Holds_l0 (lv k) k D B K n s e E T op (gs f 1) (gs f 2) (gs f 3) (gr f 4) (gr f 5) ek e1 e2 ea et bits p w.1 w.2 v) (n := (gr f 4).length) (fun i w => w.1 = decide (∀ j, j < i → bs j = true) ∧ w.2 = decide (∃ j, j < i ∧ bs j = true)) (by omega) (fun w hw => ?_) (fun i w hi hw next => ?_) _ 0 (true, false) rfl (by omega) ⟨(decide_eq_true (fun j hj => by omega)).symm, (decide_eq_false (fun ⟨j, hj, _⟩ => by omega)).symm⟩)
      · refine Tot.step0 (fun k p_ q_ => orielref18_Holds_l0_q (lv k) k D B K n s e E T op (gs f 1) (gs f 2) (gs f 3) (gr f 4) (gr f 5) ek e1 e2 ea et bits p_ _ _ _) ?_
        obtain ⟨w1, w2⟩ := w
        obtain ⟨hw1, hw2⟩ := hw
        simp only at hw1 hw2
        rw [← hw1, ← hw2]
        refine Tot.f (decide_eq_false (by omega)) (Tot.cond (fun g9 => ?_) (fun g9 => ?_))
        · rw [g9]
          refine Tot.cond (fun g => Tot.ret (by have g : w1 = true := g; rw [g]; rfl)) (fun g => ?_)
          have g : w1 = false := g
          have : op = 9 := by simpa using g9
          subst this
          exact Tot.f (by rfl) (Tot.ret (by rw [g]; rfl))
        · rw [g9]
          exact Tot.cond (fun g => Tot.ret (by rw [g]; rfl)) (fun g => Tot.ret (by rw [g]; rfl))
      · refine Tot.step0 (fun k p_ q_ => orielref18_Holds_l0_q (lv k) k D B K n s e E T op (gs f 1) (gs f 2) (gs f 3) (gr f 4) (gr f 5) ek e1 e2 ea et bits p_ _ _ _) ?_
        obtain ⟨w1, w2⟩ := w
        obtain ⟨hw1, hw2⟩ := hw
        simp only at hw1 hw2
        rw [Int.toNat_natCast]
        repeat (refine Tot.t (decide_eq_true (by omega)) ?_)
        refine Tot.bind (hbs i hi).rf fun r hr => ?_
        subst hr
        have e1 : (w1 && bs i) = decide (∀ j, j < i + 1 → bs j = true) := by
          rw [hw1]
          rw [Bool.eq_iff_iff, Bool.and_eq_true, decide_eq_true_eq, decide_eq_true_eq]
          exact ⟨fun h j hj => by
            rcases Nat.lt_or_ge j i with g | g
            · exact h.1 j g
            · rw [show j = i by omega]; exact h.2, fun h => ⟨fun j hj => h j (by omega), h i (by omega)⟩⟩
        have e2 : (w2 || bs i) = decide (∃ j, j < i + 1 ∧ bs j = true) := by
          rw [hw2]
          rw [Bool.eq_iff_iff, Bool.or_eq_true, decide_eq_true_eq, decide_eq_true_eq]
          exact ⟨fun h => by
            rcases h with ⟨j, a, b⟩ | h
            · exact ⟨j, by omega, b⟩
            · exact ⟨i, by omega, h⟩, fun ⟨j, a, b⟩ => by
            rcases Nat.lt_or_ge j i with g | g
            · exact .inl ⟨j, g, b⟩
            · rw [show j = i by omega] at b; exact .inr b⟩
        have nx := next (w1 && bs i, w2 || bs i) ⟨e1, e2⟩
        refine Tot.cond (fun g1 => Tot.cond (fun g2 => ?_) (fun g2 => ?_)) (fun g1 => Tot.cond (fun g2 => ?_) (fun g2 => ?_)) <;> (cases w1 <;> cases w2 <;> first | (cases g1; done) | (cases g2; done) | (simpa using nx))
    have ra : ∀ {r : Int}, Af ea (gs f 1) (gs f 2) r → ∀ op : Int, 5 ≤ op → Tot (fun k _ _ => orielref18_Holds_l1 (lv k) k D B K n s e E T op (gs f 1) (gs f 2) (gs f 3) (gr f 4) (gr f 5) ek e1 e2 ea et bits k 0) (fun x => x = if r = -1 then op == 2 else cond (op == 5) true ((av ea r).toList == (gs f 3).toList)) := by
      intro r hr op hop
      have hal := hc.al
      refine Tot.in0 (Tot.loop (H := fun k p q v (_ : Unit) => orielref18_Holds_l1 (lv k) k D B K n s e E T op (gs f 1) (gs f 2) (gs f 3) (gr f 4) (gr f 5) ek e1 e2 ea et bits p v) (n := ea.length) (fun i _ => ∀ j, j < i → ¬ (gs (ea.getD j []) 0 = gs f 1 ∧ gs (ea.getD j []) 1 = gs f 2)) (by omega) (fun _ hh => ?_) (fun i _ hi hh next => ?_) _ 0 () rfl (by omega) (fun j hj => by omega))
      · refine Tot.step0 (fun k p_ q_ => orielref18_Holds_l1_q (lv k) k D B K n s e E T op (gs f 1) (gs f 2) (gs f 3) (gr f 4) (gr f 5) ek e1 e2 ea et bits p_ _) ?_
        have : r = -1 := hr.uniq (.inl ⟨rfl, hh⟩)
        rw [if_pos this]
        exact Tot.f (decide_eq_false (by omega)) (Tot.ret rfl)
      · refine Tot.step0 (fun k p_ q_ => orielref18_Holds_l1_q (lv k) k D B K n s e E T op (gs f 1) (gs f 2) (gs f 3) (gr f 4) (gr f 5) ek e1 e2 ea et bits p_ _) ?_
        rw [Int.toNat_natCast]
        repeat (refine Tot.t (decide_eq_true (by omega)) ?_)
        refine Tot.cond (fun hcc => ?_) (fun hcc => next () (fun j hj => ?_))
        · have : r = i := hr.uniq (.inr ⟨i, rfl, hi, name_eq.1 hcc, hh⟩)
          subst this
          unfold av
          rw [if_neg (by omega), if_neg (by omega), Int.toNat_natCast]
          refine Tot.cond (fun g => Tot.ret (by rw [g]; rfl)) (fun g => ?_)
          repeat (refine Tot.t (decide_eq_true (by omega)) ?_)
          exact Tot.ret (by rw [g]; rfl)
        · rcases Nat.lt_or_ge j i with g | g
          · exact hh j g
          · rw [show j = i by omega]
            intro hb
            rw [name_eq.2 hb] at hcc
            cases hcc
    have q2 : ∀ {Q}, Tot _ Q → Tot (fun k _ _ => (lv k).strat_node_holds_2 D B K n s e E T ek e1 e2 ea et bits (gi f 0) (gs f 1) (gs f 2) (gs f 3) (gr f 4) (gr f 5)) Q := fun h => strat_node_holds_2_up _ _ _ _ _ _ _ _ _ _ _ _ _ _ _ _ _ _ _ _ (Tot.congr h (fun k _ _ => strat_node_holds_2_q (lv k) k D B K n s e E T ek e1 e2 ea et bits (gi f 0) (gs f 1) (gs f 2) (gs f 3) (gr f 4) (gr f 5)))
    have q1 : ∀ {Q}, Tot _ Q → Tot (fun k _ _ => (lv k).strat_node_holds D B K n s e E T ek e1 e2 ea et bits (gi f 0) (gs f 1) (gs f 2) (gs f 3) (gr f 4) (gr f 5)) Q := fun h => strat_node_holds_up _ _ _ _ _ _ _ _ _ _ _ _ _ _ _ _ _ _ _ _ (Tot.congr h (fun k _ _ => strat_node_holds_q (lv k) k D B K n s e E T ek e1 e2 ea et bits (gi f 0) (gs f 1) (gs f 2) (gs f 3) (gr f 4) (gr f 5)))
    have qr : ∀ {Q}, Tot _ Q → Tot (fun k _ _ => (lv k).orielref18_Holds D B K n s e E T (gi f 0) (gs f 1) (gs f 2) (gs f 3) (gr f 4) (gr f 5) ek e1 e2 ea et bits) Q := fun h => orielref18_Holds_up _ _ _ _ _ _ _ _ _ _ _ _ _ _ _ _ _ _ _ _ (Tot.congr h (fun k _ _ => orielref18_Holds_q (lv k) k D B K n s e E T (gi f 0) (gs f 1) (gs f 2) (gs f 3) (gr f 4) (gr f 5) ek e1 e2 ea et bits))
    have hop : gi f 0 = 1 ∨ gi f 0 = 2 ∨ gi f 0 = 3 ∨ gi f 0 = 4 ∨ gi f 0 = 5 ∨ gi f 0 = 6 ∨ gi f 0 = 7 ∨ gi f 0 = 8 ∨ gi f 0 = 9 ∨ gi f 0 = 10 ∨ gi f 0 = 11 := by omega
    obtain ⟨r, hr⟩ : ∃ r, Af ea (gs f 1) (gs f 2) r := Fst.ex _ _
    have at2 := attr2_tot (n := n) (s := s) (e := e) (E := E) (T := T) (ek := ek) (e1 := e1) (e2 := e2) (et := et) hc _ _ hr
    have at1 := attr_tot (n := n) (s := s) (e := e) (E := E) (T := T) (ek := ek) (e1 := e1) (e2 := e2) (et := et) hc _ _ hr
    rcases hop with e_ | e_ | e_ | e_ | e_ | e_ | e_ | e_ | e_ | e_ | e_
    · refine ⟨true, q2 ?_, q1 ?_, qr ?_⟩ <;> rw [e_]
      · repeat (first | refine Tot.t (by rfl) ?_ | refine Tot.f (by rfl) ?_)
        exact Tot.ret rfl
      · repeat (first | refine Tot.t (by rfl) ?_ | refine Tot.f (by rfl) ?_)
        exact Tot.ret rfl
      · repeat (first | refine Tot.t (by rfl) ?_ | refine Tot.f (by rfl) ?_)
        exact Tot.ret rfl
    · refine ⟨ek == 1, q2 ?_, q1 ?_, qr ?_⟩ <;> rw [e_]
      · repeat (first | refine Tot.t (by rfl) ?_ | refine Tot.f (by rfl) ?_)
        exact Tot.ret rfl
      · repeat (first | refine Tot.t (by rfl) ?_ | refine Tot.f (by rfl) ?_)
        exact Tot.ret rfl
      · repeat (first | refine Tot.t (by rfl) ?_ | refine Tot.f (by rfl) ?_)
        refine Tot.cond (fun g => Tot.ret ?_) (fun g => ?_)
        · have g : (ek == 1) = false := by simpa using g
          exact g.symm
        · have g : (ek == 1) = true := by simpa using g
          rw [g]
          repeat (first | refine Tot.t (by rfl) ?_ | refine Tot.f (by rfl) ?_)
          refine Tot.in0 (g := fun k p_ q_ => orielref18_Holds_l1 (lv k) k D B K n s e E T 2 (gs f 1) (gs f 2) (gs f 3) (gr f 4) (gr f 5) ek e1 e2 ea et bits p_ 0) ?_
          refine Tot.step0 (fun k p_ q_ => orielref18_Holds_l1_q (lv k) k D B K n s e E T 2 (gs f 1) (gs f 2) (gs f 3) (gr f 4) (gr f 5) ek e1 e2 ea et bits p_ _) ?_
          exact Tot.cond (fun _ => Tot.f (by rfl) (Tot.ret rfl)) (fun _ => Tot.ret rfl)
    · refine ⟨!(ek == 1), q2 ?_, q1 ?_, qr ?_⟩ <;> rw [e_]
      · repeat (first | refine Tot.t (by rfl) ?_ | refine Tot.f (by rfl) ?_)
        exact Tot.ret rfl
      · repeat (first | refine Tot.t (by rfl) ?_ | refine Tot.f (by rfl) ?_)
        exact Tot.ret rfl
      · repeat (first | refine Tot.t (by rfl) ?_ | refine Tot.f (by rfl) ?_)
        refine Tot.cond (fun g => ?_) (fun g => Tot.ret g.symm)
        rw [g]
        repeat (first | refine Tot.t (by rfl) ?_ | refine Tot.f (by rfl) ?_)
        exact Tot.ret rfl
    · refine ⟨(ek == 1) && ((e1 == gs f 1) && ((e2 == gs f 2) && true)), q2 ?_, q1 ?_, qr ?_⟩ <;> rw [e_]
      · repeat (first | refine Tot.t (by rfl) ?_ | refine Tot.f (by rfl) ?_)
        exact Tot.cond (fun g => Tot.ret (by rw [g]; rfl)) (fun g => Tot.ret (by rw [g]; rfl))
      · repeat (first | refine Tot.t (by rfl) ?_ | refine Tot.f (by rfl) ?_)
        exact Tot.cond (fun g => Tot.ret (by rw [g]; rfl)) (fun g => Tot.ret (by rw [g]; rfl))
      · repeat (first | refine Tot.t (by rfl) ?_ | refine Tot.f (by rfl) ?_)
        refine Tot.cond (fun g => Tot.ret ?_) (fun g => ?_)
        · have g : (ek == 1) = false := by simpa using g
          rw [g]; rfl
        · have g : (ek == 1) = true := by simpa using g
          rw [g]
          repeat (first | refine Tot.t (by rfl) ?_ | refine Tot.f (by rfl) ?_)
          exact Tot.ret rfl
    · refine ⟨ab ek r, q2 ?_, q1 ?_, qr ?_⟩ <;> rw [e_]
      · repeat (first | refine Tot.t (by rfl) ?_ | refine Tot.f (by rfl) ?_)
        exact Tot.bind at2 fun x hx => Tot.ret (by rw [hx])
      · repeat (first | refine Tot.t (by rfl) ?_ | refine Tot.f (by rfl) ?_)
        exact Tot.bind at1 fun x hx => Tot.ret (by rw [hx])
      · repeat (first | refine Tot.t (by rfl) ?_ | refine Tot.f (by rfl) ?_)
        refine Tot.cond (fun g => Tot.ret ?_) (fun g => ?_)
        · have g : (ek == 1) = false := by simpa using g
          unfold ab
          split
          · rfl
          · exact g.symm
        · have g : (ek == 1) = true := by simpa using g
          repeat (first | refine Tot.t (by rfl) ?_ | refine Tot.f (by rfl) ?_)
          refine (ra hr 5 (by omega)).mono fun x hx => ?_
          rw [hx]
          unfold ab
          rw [g]
          split <;> rfl
    · refine ⟨ab ek r && ((av ea r).toList == (gs f 3).toList), q2 ?_, q1 ?_, qr ?_⟩ <;> rw [e_]
      · repeat (first | refine Tot.t (by rfl) ?_ | refine Tot.f (by rfl) ?_)
        refine Tot.bind at2 fun x hx => ?_
        subst hx
        exact Tot.cond (fun g => Tot.ret (by have g : ab ek r = true := g; rw [g]; rfl)) (fun g => Tot.ret (by have g : ab ek r = false := g; rw [g]; rfl))
      · repeat (first | refine Tot.t (by rfl) ?_ | refine Tot.f (by rfl) ?_)
        refine Tot.bind at1 fun x hx => ?_
        subst hx
        exact Tot.cond (fun g => Tot.ret (by have g : ab ek r = true := g; rw [g]; rfl)) (fun g => Tot.ret (by have g : ab ek r = false := g; rw [g]; rfl))
      · repeat (first | refine Tot.t (by rfl) ?_ | refine Tot.f (by rfl) ?_)
        refine Tot.cond (fun g => Tot.ret ?_) (fun g => ?_)
        · have g : (ek == 1) = false := by simpa using g
          unfold ab
          rw [g]
          split <;> rfl
        · have g : (ek == 1) = true := by simpa using g
          repeat (first | refine Tot.t (by rfl) ?_ | refine Tot.f (by rfl) ?_)
          refine (ra hr 6 (by omega)).mono fun x hx => ?_
          rw [hx]
          unfold ab
          rw [g]
          split <;> rfl
    · refine ⟨!(ek == 1) && (et.toList == (gs f 3).toList), q2 ?_, q1 ?_, qr ?_⟩ <;> rw [e_]
      · repeat (first | refine Tot.t (by rfl) ?_ | refine Tot.f (by rfl) ?_)
        exact Tot.cond (fun g => Tot.ret (by rw [g]; rfl)) (fun g => Tot.ret (by rw [g]; rfl))
      · repeat (first | refine Tot.t (by rfl) ?_ | refine Tot.f (by rfl) ?_)
        exact Tot.cond (fun g => Tot.ret (by rw [g]; rfl)) (fun g => Tot.ret (by rw [g]; rfl))
      · repeat (first | refine Tot.t (by rfl) ?_ | refine Tot.f (by rfl) ?_)
        refine Tot.cond (fun g => ?_) (fun g => Tot.ret (by rw [g]; rfl))
        rw [g]
        repeat (first | refine Tot.t (by rfl) ?_ | refine Tot.f (by rfl) ?_)
        exact Tot.ret rfl
    · have hl := h8 e_
      have e8 : (decide (∃ j, j < (gr f 4).length ∧ bs j = false) == ((8 : Int) == 8)) = !(bs 0) := by
        have : (∃ j, j < (gr f 4).length ∧ bs j = false) ↔ bs 0 = false := ⟨fun ⟨j, a, b⟩ => by rw [show j = 0 by omega] at b; exact b, fun h => ⟨0, by omega, h⟩⟩
        rw [show ((8 : Int) == 8) = true from rfl]
        cases hb : bs 0
        · rw [decide_eq_true (this.2 hb)]; rfl
        · rw [decide_eq_false (fun h => by rw [this.1 h] at hb; cases hb)]; rfl
      refine ⟨!(bs 0), q2 ?_, q1 ?_, qr ?_⟩ <;> rw [e_]
      · repeat (first | refine Tot.t (by rfl) ?_ | refine Tot.f (by rfl) ?_)
        exact Tot.bind c2 fun x hx => Tot.ret (by rw [hx]; exact e8)
      · repeat (first | refine Tot.t (by rfl) ?_ | refine Tot.f (by rfl) ?_)
        exact Tot.bind c2 fun x hx => Tot.ret (by rw [hx, e8])
      · repeat (first | refine Tot.t (by rfl) ?_ | refine Tot.f (by rfl) ?_)
        refine Tot.t (decide_eq_true (by omega)) ?_
        exact Tot.bind (hbs 0 (by omega)).rf fun x hx => Tot.ret (by rw [hx])
    · have e9 : (decide (∃ j, j < (gr f 4).length ∧ bs j = false) == ((9 : Int) == 8)) = decide (∀ j, j < (gr f 4).length → bs j = true) := by
        rw [show ((9 : Int) == 8) = false from rfl]
        by_cases hb : ∃ j, j < (gr f 4).length ∧ bs j = false
        · rw [decide_eq_true hb]
          obtain ⟨j, a, b⟩ := hb
          rw [decide_eq_false (fun h => by rw [h j a] at b; cases b)]
          rfl
        · rw [decide_eq_false hb, decide_eq_true (fun j hj => by
            cases hbj : bs j
            · exact absurd ⟨j, hj, hbj⟩ hb
            · rfl)]
          rfl
      refine ⟨decide (∀ j, j < (gr f 4).length → bs j = true), q2 ?_, q1 ?_, qr ?_⟩ <;> rw [e_]
      · repeat (first | refine Tot.t (by rfl) ?_ | refine Tot.f (by rfl) ?_)
        exact Tot.bind c2 fun x hx => Tot.ret (by rw [hx]; exact e9)
      · repeat (first | refine Tot.t (by rfl) ?_ | refine Tot.f (by rfl) ?_)
        exact Tot.bind c2 fun x hx => Tot.ret (by rw [hx, e9])
      · repeat (first | refine Tot.t (by rfl) ?_ | refine Tot.f (by rfl) ?_)
        exact (rl 9).mono fun x hx => hx
    · refine ⟨decide (∃ j, j < (gr f 4).length ∧ bs j = true), q2 ?_, q1 ?_, qr ?_⟩ <;> rw [e_]
      · repeat (first | refine Tot.t (by rfl) ?_ | refine Tot.f (by rfl) ?_)
        exact Tot.bind c3 fun x hx => Tot.ret hx
      · repeat (first | refine Tot.t (by rfl) ?_ | refine Tot.f (by rfl) ?_)
        exact Tot.bind c3 fun x hx => Tot.ret (by rw [hx])
      · repeat (first | refine Tot.t (by rfl) ?_ | refine Tot.f (by rfl) ?_)
        exact (rl 10).mono fun x hx => hx
    · have hl := h511.1 e_
      obtain ⟨b, hb1, hb2⟩ := leads2 (n := n) (s := s) (e := e) (E := E) (T := T) (ek := ek) (e1 := e1) (e2 := e2) (et := et) hc ((gr f 5).getD 0 []) ((hs.gr 5).get 0)
      have c5 : Tot (fun k _ _ => (lv k).api_Path (gr f 5) D B K n s e E T ek e1 e2 ea et bits) (fun r => r = b) := by
        refine api_Path_up _ _ _ _ _ _ _ _ _ _ _ _ _ _ _ (Tot.congr ?_ (fun k _ _ => api_Path_q (lv k) k (gr f 5) D B K n s e E T ek e1 e2 ea et bits))
        refine Tot.bind (R := Fst (gr f 5).length (fun j => b = true)) ?_ fun r hr => Tot.ret ?_
        · refine api_Path_2_up _ _ _ _ _ _ _ _ _ _ _ _ _ _ _ (Tot.congr ?_ (fun k _ _ => api_Path_2_q (lv k) k (gr f 5) D B K n s e E T ek e1 e2 ea et bits))
          refine Tot.in0 (Tot.first (H := fun k p q v => api_Path_2_l0 (lv k) k (gr f 5) D B K n s e E T ek e1 e2 ea et bits p v) (n := (gr f 5).length) (by omega) ?_ (fun i Q hi hy hn => ?_))
          · refine Tot.step0 (fun k p_ q_ => api_Path_2_l0_q (lv k) k (gr f 5) D B K n s e E T ek e1 e2 ea et bits p_ _) ?_
            exact Tot.f (decide_eq_false (by omega)) (Tot.ret rfl)
          · refine Tot.step0 (fun k p_ q_ => api_Path_2_l0_q (lv k) k (gr f 5) D B K n s e E T ek e1 e2 ea et bits p_ _) ?_
            rw [Int.toNat_natCast]
            repeat (refine Tot.t (decide_eq_true (by omega)) ?_)
            obtain rfl : i = 0 := by omega
            refine Tot.bind hb1 fun x hx => ?_
            subst hx
            exact Tot.cond (fun h => Tot.ret (hy h)) (fun h => hn (by rw [h]; simp))
        · rcases hr with ⟨rfl, hh⟩ | ⟨i, rfl, g1, g2, g3⟩
          · have := hh 0 (by omega)
            rw [decide_eq_false (by omega)]
            cases b
            · rfl
            · exact absurd rfl this
          · rw [g2]; exact decide_eq_true (by omega)
      refine ⟨b, q2 ?_, q1 ?_, qr ?_⟩ <;> rw [e_]
      · repeat (first | refine Tot.t (by rfl) ?_ | refine Tot.f (by rfl) ?_)
        exact Tot.bind c5 fun x hx => Tot.ret hx
      · repeat (first | refine Tot.t (by rfl) ?_ | refine Tot.f (by rfl) ?_)
        exact Tot.bind c5 fun x hx => Tot.ret (by rw [hx])
      · repeat (first | refine Tot.t (by rfl) ?_ | refine Tot.f (by rfl) ?_)
        exact Tot.t (decide_eq_true (by omega)) hb2
end
-- Law
theorem bytes4 : Try.prog.bytesOf 4 ≤ 1024 := of_decide_eq_true (by kernel_rfl)
theorem bytes5 : Try.prog.bytesOf 5 ≤ 1024 := of_decide_eq_true (by kernel_rfl)
structure OkF (f : List C) : Prop where
  ok : ok 16 false f
  sm : SmR BB f
theorem OkF.nf {f : List C} (h : OkF f) : OkF (nf f) := ⟨h.ok, fun c hc => by
  have h1 := h.ok.1
  have h2 := h.ok.2.1
  simp only [Go.Vm.T.nf, List.mem_cons, List.not_mem_nil, or_false] at hc
  rcases hc with rfl | rfl | rfl | rfl | rfl | rfl
  · exact .int _ _ (wf_i64' (by omega) (by omega))
  · exact .str _ (h.sm.gs 1)
  · exact .str _ (h.sm.gs 2)
  · exact .str _ (h.sm.gs 3)
  · exact .row _ _ (h.sm.gr 4).1 (h.sm.gr 4).2
  · exact .row _ _ (h.sm.gr 5).1 (h.sm.gr 5).2⟩
/-! the tests of a machine -/
theorem seqF_T {f : List C → Int → Int → Mk} {p : List C → Prop} {t : Int} : ∀ {l : List (List C)} {m : Mk}, (∀ r, r ∈ l → ∀ n t x, x ∈ (f r n t).T → p x) → (∀ x, x ∈ m.T → p x) → ∀ x, x ∈ (seqF f t l m).T → p x := by
  intro l
  induction l with
  | nil => intro m _ h; exact h
  | cons r l ih =>
    intro m hf hm
    refine ih (fun r hr => hf r (List.mem_cons_of_mem _ hr)) (fun x hx => ?_)
    rcases List.mem_append.1 hx with h | h
    · exact hm x h
    · exact hf r List.mem_cons_self _ _ x h
theorem altF_T {f : List C → Int → Int → Mk} {p : List C → Prop} {t s : Int} : ∀ {l : List (List C)} {m : Al}, (∀ r, r ∈ l → ∀ n t x, x ∈ (f r n t).T → p x) → (∀ x, x ∈ m.T → p x) → ∀ x, x ∈ (altF f t s l m).T → p x := by
  intro l
  induction l with
  | nil => intro m _ h; exact h
  | cons r l ih =>
    intro m hf hm
    refine ih (fun r hr => hf r (List.mem_cons_of_mem _ hr)) (fun x hx => ?_)
    rcases List.mem_append.1 hx with h | h
    · exact hm x h
    · exact hf r List.mem_cons_self _ _ x h
theorem mk_T : ∀ d, d ≤ 16 → ∀ (a : List C), ok d true a → SmR BB a → ∀ (n t : Int) x, x ∈ (mk d (gi a 0) (gr a 1) (gr a 2) n t).T → OkF x := by
  intro d
  induction d with
  | zero => intro _ a h; exact h.elim
  | succ d ih =>
    intro hd a ha hs n t x hx
    obtain ⟨_, _, _, _, _, _, _, _, h9, h10⟩ := ha
    have hsub : ∀ r, r ∈ gr a 1 → ∀ n t x, x ∈ (mk d (gi r 0) (gr r 1) (gr r 2) n t).T → OkF x := fun r hr n t => by
      obtain ⟨i, hi, rfl⟩ := mem_getD hr
      exact ih (by omega) _ (h9 i hi) ((hs.gr 1).get i) n t
    have htest : ∀ x, x ∈ gr a 2 → OkF x := fun x hx => by
      obtain ⟨i, hi, rfl⟩ := mem_getD hx
      exact ⟨ok_le (by omega) (h10 i hi), (hs.gr 2).get i⟩
    unfold mk at hx
    split at hx
    · split at hx
      · cases hx
      · rename_i r l hrl
        exact seqF_T (fun r hr => hsub r (by rw [hrl]; exact List.mem_cons_of_mem _ hr)) (hsub r (by rw [hrl]; exact List.mem_cons_self) _ _) x hx
    · split at hx
      · exact altF_T hsub (fun x hx => by cases hx) x hx
      · split at hx
        · split at hx
          · cases hx
          · rename_i r l hrl
            exact hsub r (by rw [hrl]; exact List.mem_cons_self) _ _ x hx
        · split at hx
          · exact htest x hx
          · cases hx
theorem mach_T {p : List C} (h : Good p) : ∀ x, x ∈ (mach p).T.map nf → OkF x := fun x hx => by
  obtain ⟨y, hy, rfl⟩ := List.mem_map.1 hx
  exact (mk_T 16 (Nat.le_refl _) p h.ok h.sm 0 0 y hy).nf
/-! the filters of a path -/
def fl : Nat → Bool → List C → List (List C)
  | 0, _, _ => []
  | d + 1, true, a => (gr a 1).flatMap (fl d true) ++ (gr a 2).flatMap (fl d false)
  | d + 1, false, a => [nf a] ++ (gr a 4).flatMap (fl d false) ++ (gr a 5).flatMap (fl d true)
theorem fl_len : ∀ (d : Nat) (k : Bool) (a : List C), (fl d k a).length ≤ sz d k a := by
  intro d
  induction d with
  | zero => intro k a; cases k <;> exact Nat.zero_le _
  | succ d ih =>
    intro k a
    cases k with
    | true =>
      have h1 := len_flat (l := gr a 1) (f := fl d true) (g := sz d true) fun x _ => ih true x
      have h2 := len_flat (l := gr a 2) (f := fl d false) (g := sz d false) fun x _ => ih false x
      simp only [fl, List.length_append, sz]
      omega
    | false =>
      have h1 := len_flat (l := gr a 4) (f := fl d false) (g := sz d false) fun x _ => ih false x
      have h2 := len_flat (l := gr a 5) (f := fl d true) (g := sz d true) fun x _ => ih true x
      simp only [fl, List.length_append, List.length_singleton, sz]
      omega
theorem fl_ok : ∀ {d : Nat}, d ≤ 16 → ∀ {k : Bool} {a : List C}, ok d k a → SmR BB a → ∀ x, x ∈ fl d k a → OkF x := by
  intro d
  induction d with
  | zero => intro _ k a h; exact h.elim
  | succ d ih =>
    intro hd k a h hs x hx
    have ih := @ih (by omega)
    cases k with
    | true =>
      obtain ⟨_, _, _, _, _, _, _, _, h9, h10⟩ := h
      rcases List.mem_append.1 hx with hx | hx
      · obtain ⟨y, hy, hxy⟩ := List.mem_flatMap.1 hx
        obtain ⟨i, hi, rfl⟩ := mem_getD hy
        exact ih (h9 i hi) ((hs.gr 1).get i) x hxy
      · obtain ⟨y, hy, hxy⟩ := List.mem_flatMap.1 hx
        obtain ⟨i, hi, rfl⟩ := mem_getD hy
        exact ih (h10 i hi) ((hs.gr 2).get i) x hxy
    | false =>
      have hself : OkF a := ⟨ok_le hd h, hs⟩
      obtain ⟨_, _, _, _, _, _, _, _, h9, h10⟩ := h
      rcases List.mem_append.1 hx with hx | hx
      · rcases List.mem_append.1 hx with hx | hx
        · rw [List.mem_singleton.1 hx]; exact hself.nf
        · obtain ⟨y, hy, hxy⟩ := List.mem_flatMap.1 hx
          obtain ⟨i, hi, rfl⟩ := mem_getD hy
          exact ih (h9 i hi) ((hs.gr 4).get i) x hxy
      · obtain ⟨y, hy, hxy⟩ := List.mem_flatMap.1 hx
        obtain ⟨i, hi, rfl⟩ := mem_getD hy
        exact ih (h10 i hi) ((hs.gr 5).get i) x hxy
/-! bits -/
theorem sumn_le {D : List (List C)} (hg : ∀ x, x ∈ D → Good x) {i : Nat} (hi : i < D.length) : sumn (D.take i) + nst (D.getD i []) ≤ sumn D := by
  have e : D = D.take (i + 1) ++ D.drop (i + 1) := (List.take_append_drop _ _).symm
  have h1 : sumn D = sumn (D.take (i + 1)) + sumn (D.drop (i + 1)) := by rw [← sumn_app, ← e]
  have h2 := (sumn_bd (l := D.drop (i + 1)) fun x hx => hg x (List.mem_of_mem_drop hx)).1
  rw [take_succ hi, sumn_app] at h1
  have h3 : sumn [D.getD i []] = nst (D.getD i []) := by simp [sumn]
  omega
/-! the event -/
theorem named9_tot (s t : ByteArray) (hs : s.size ≤ 1048576) (ht : t.size ≤ 1048576) : Tot (fun k _ _ => (lv k).orielref09_named s t) (fun _ => True) := by
  refine orielref09_named_up _ _ (Tot.congr ?_ (fun k _ _ => orielref09_named_q (lv k) k s t))
  refine Tot.bind (plain_tot t ht) fun _ _ => Tot.cond (fun _ => Tot.bind (right4_tot t ht) fun _ _ => Tot.cond (fun _ => Tot.bind (right4_tot s hs) fun _ _ => Tot.cond (fun _ => Tot.ret trivial) (fun _ => Tot.ret trivial)) (fun _ => Tot.ret trivial)) (fun _ => Tot.ret trivial)
theorem right9_tot (a : List C) (ha : SmR BB a) : Tot (fun k _ _ => (lv k).orielref09_Right (gi a 0) (gs a 1) (gs a 2) (gr a 3) (gs a 4)) (fun _ => True) := by
  have hl : (gr a 3).length ≤ 1048576 := (ha.gr 3).1
  refine orielref09_Right_up _ _ _ _ _ (Tot.congr ?_ (fun k _ _ => orielref09_Right_q (lv k) k (gi a 0) (gs a 1) (gs a 2) (gr a 3) (gs a 4)))
  have l1 : Tot (fun k _ _ => orielref09_Right_l1 (lv k) k (gi a 0) (gs a 1) (gs a 2) (gr a 3) (gs a 4) k 0) (fun _ => True) := by
    refine Tot.in0 (Tot.loop (H := fun k p q v (_ : Unit) => orielref09_Right_l1 (lv k) k (gi a 0) (gs a 1) (gs a 2) (gr a 3) (gs a 4) p v) (n := (gr a 3).length) (fun i _ => True) (by omega) (fun _ _ => ?_) (fun i _ hi _ next => ?_) _ 0 () rfl (by omega) trivial)
    · refine Tot.step0 (fun k p_ q_ => orielref09_Right_l1_q (lv k) k (gi a 0) (gs a 1) (gs a 2) (gr a 3) (gs a 4) p_ _) ?_
      exact Tot.f (decide_eq_false (by omega)) (Tot.ret trivial)
    · have hsi := (ha.gr 3).get i
      refine Tot.step0 (fun k p_ q_ => orielref09_Right_l1_q (lv k) k (gi a 0) (gs a 1) (gs a 2) (gr a 3) (gs a 4) p_ _) ?_
      rw [Int.toNat_natCast]
      repeat (refine Tot.t (decide_eq_true (by omega)) ?_)
      refine Tot.bind (named9_tot _ _ (hsi.gs 0) (hsi.gs 1)) fun _ _ => Tot.cond (fun _ => Tot.ret trivial) (fun _ => ?_)
      repeat (refine Tot.t (decide_eq_true (by omega)) ?_)
      refine Tot.bind (right4_tot _ (hsi.gs 2)) fun _ _ => Tot.cond (fun _ => Tot.ret trivial) (fun _ => ?_)
      refine Tot.in1 (Tot.loop (H := fun k p q v (_ : Unit) => orielref09_Right_l2 (lv k) k (gi a 0) (gs a 1) (gs a 2) (gr a 3) (gs a 4) p q (i : Int) v) (n := i) (fun i _ => True) (by omega) (fun _ _ => ?_) (fun j _ hj _ nx => ?_) _ 0 () rfl (by omega) trivial)
      · refine Tot.step1 (fun k p_ q_ => orielref09_Right_l2_q (lv k) k (gi a 0) (gs a 1) (gs a 2) (gr a 3) (gs a 4) p_ q_ _ _) ?_
        exact Tot.f (decide_eq_false (by omega)) (next () trivial)
      · refine Tot.step1 (fun k p_ q_ => orielref09_Right_l2_q (lv k) k (gi a 0) (gs a 1) (gs a 2) (gr a 3) (gs a 4) p_ q_ _ _) ?_
        repeat (refine Tot.t (decide_eq_true (by omega)) ?_)
        exact Tot.cond (fun _ => Tot.ret trivial) (fun _ => nx () trivial)
  have l0 : ∀ v, Tot (fun k _ _ => orielref09_Right_l0 (lv k) k (gi a 0) (gs a 1) (gs a 2) (gr a 3) (gs a 4) v) (fun _ => True) := fun v => by
    refine Tot.congr ?_ (fun k p_ q_ => orielref09_Right_l0_q (lv k) k (gi a 0) (gs a 1) (gs a 2) (gr a 3) (gs a 4) v )
    repeat' first
      | exact Tot.ret trivial
      | exact l1
      | refine Tot.cond (fun _ => ?_) (fun _ => ?_)
      | refine Tot.bind (right4_tot _ (ha.gs 4)) fun _ _ => ?_
      | refine Tot.bind (named9_tot _ _ (ha.gs 1) (ha.gs 2)) fun _ _ => ?_
  exact Tot.cond (fun _ => l0 _) (fun _ => l0 _)
theorem few_tot (l : List (List C)) (hl : l.length ≤ 1048576) (h3 : ∀ i, (gr (l.getD i []) 3).length ≤ 1048576) : Tot (fun k _ _ => (lv k).orielref09_Few l) (fun _ => True) := by
  refine orielref09_Few_up _ (Tot.congr ?_ (fun k _ _ => orielref09_Few_q (lv k) k l))
  refine Tot.in0 (Tot.loop (H := fun k p q v w => orielref09_Few_l0 (lv k) k l p w v) (n := l.length) (fun i _ => True) (by omega) (fun w _ => ?_) (fun i w hi _ next => ?_) _ 0 _ rfl (by omega) trivial)
  · refine Tot.step0 (fun k p_ q_ => orielref09_Few_l0_q (lv k) k l p_ _ _) ?_
    exact Tot.f (decide_eq_false (by omega)) (Tot.ret trivial)
  · have hli : (gr (l.getD i []) 3).length ≤ 1048576 := h3 i
    refine Tot.step0 (fun k p_ q_ => orielref09_Few_l0_q (lv k) k l p_ _ _) ?_
    rw [Int.toNat_natCast]
    refine Tot.t (decide_eq_true (by omega)) (Tot.cond (fun _ => ?_) (fun _ => Tot.ret trivial))
    repeat (refine Tot.t (decide_eq_true (by omega)) ?_)
    refine Tot.cond (fun _ => Tot.ret trivial) (fun _ => ?_)
    repeat (refine Tot.t (decide_eq_true (by omega)) ?_)
    refine Tot.cond (fun _ => Tot.ret trivial) (fun _ => ?_)
    repeat (refine Tot.t (decide_eq_true (by omega)) ?_)
    refine Tot.cond (fun _ => Tot.ret trivial) (fun _ => ?_)
    generalize IntKind.i64.wrap (w + ((gr (l.getD i []) 3).length : Int)) = w'
    refine Tot.in1 (Tot.loop (H := fun k p q v (_ : Unit) => orielref09_Few_l1 (lv k) k l p q w' (i : Int) v) (n := (gr (l.getD i []) 3).length) (fun i _ => True) (by omega) (fun _ _ => ?_) (fun j _ hj _ nx => ?_) _ 0 () rfl (by omega) trivial)
    · refine Tot.step1 (fun k p_ q_ => orielref09_Few_l1_q (lv k) k l p_ q_ _ _ _) ?_
      rw [Int.toNat_natCast]
      repeat (refine Tot.t (decide_eq_true (by omega)) ?_)
      exact Tot.f (decide_eq_false (by omega)) (next _ trivial)
    · refine Tot.step1 (fun k p_ q_ => orielref09_Few_l1_q (lv k) k l p_ q_ _ _ _) ?_
      rw [Int.toNat_natCast, Int.toNat_natCast]
      repeat (refine Tot.t (decide_eq_true (by omega)) ?_)
      refine Tot.cond (fun _ => ?_) (fun _ => next _ trivial)
      repeat (refine Tot.t (decide_eq_true (by omega)) ?_)
      refine Tot.cond (fun _ => Tot.ret trivial) (fun _ => ?_)
      repeat (refine Tot.t (decide_eq_true (by omega)) ?_)
      refine Tot.cond (fun _ => Tot.ret trivial) (fun _ => ?_)
      repeat (refine Tot.t (decide_eq_true (by omega)) ?_)
      exact Tot.cond (fun _ => Tot.ret trivial) (fun _ => nx () trivial)
/-! the law -/
theorem ctx_of {p ea bits : List (List C)} {q : List C} (h : Good q) (hb : (bits.length : Int) = sumn (DD q)) (hl : ea.length ≤ 1048576) : Ctx (DD q) ((DD q).map rrow) (bases 0 (DD q)) ea bits := by
  have hg := h.ded.good
  have hlen : (DD q).length ≤ 63 := Nat.le_trans h.ded.len h.len
  have hs := sumn_bd hg
  refine ⟨hg, by omega, by simp, bases_len _ _, fun i hi => ?_, by omega, hl⟩
  have hgi := hg _ (getD_mem (d := []) hi)
  have h1 := mk_shp 16 _ _ _ 0 0 hgi.pok
  have h2 := sumn_le hg hi
  have h3 := (sumn_bd (mem_take hg i)).1
  have e1 : ((DD q).map rrow).getD i [] = rrow ((DD q).getD i []) := by simp [List.getD_eq_getElem?_getD, hi]
  rw [bases_get _ _ _ hi, e1, Int.zero_add, hb]
  have h4 := h1.s0
  have h5 := h1.s1
  show 0 ≤ sumn ((DD q).take i) + (mach ((DD q).getD i [])).s ∧ sumn ((DD q).take i) + (mach ((DD q).getD i [])).s < _
  unfold nst at h2
  unfold mach at h2 ⊢
  omega
-- CloA
def bt (out : List (List C)) (q : Int) : Bool := gb (out.getD q.toNat []) 0
def setT (out : List (List C)) (q : Int) : List (List C) := out.set q.toNat ((out.getD q.toNat []).set 0 (C.bool true))
def BOk (N : Int) (out : List (List C)) : Prop := (out.length : Int) = N ∧ ∀ r, r ∈ out → ∃ b, r = [C.bool b]
theorem bOk_set {N q : Int} {out : List (List C)} (h : BOk N out) (h0 : 0 ≤ q) (h1 : q < N) : BOk N (setT out q) := by
  obtain ⟨hl, hr⟩ := h
  have hlt : q.toNat < out.length := by omega
  refine ⟨by rw [setT, List.length_set]; exact hl, fun r hm => ?_⟩
  rcases List.mem_or_eq_of_mem_set hm with hm | rfl
  · exact hr r hm
  · obtain ⟨b, hb⟩ := hr _ (getD_mem (d := []) hlt)
    exact ⟨true, by rw [hb]; rfl⟩
theorem bt_set {N q p : Int} {out : List (List C)} (h : BOk N out) (h0 : 0 ≤ q) (h1 : q < N) (hp : 0 ≤ p) : bt (setT out q) p = (decide (p = q) || bt out p) := by
  obtain ⟨hl, hr⟩ := h
  have hlt : q.toNat < out.length := by omega
  obtain ⟨b, hb⟩ := hr _ (getD_mem (d := []) hlt)
  by_cases e : p = q
  · subst e
    rw [decide_eq_true rfl, Bool.true_or]
    unfold bt setT
    rw [hb, List.getD_eq_getElem?_getD, List.getElem?_set_self hlt]
    rfl
  · rw [decide_eq_false e, Bool.false_or]
    unfold bt setT
    rw [List.getD_eq_getElem?_getD, List.getElem?_set_ne (by omega), ← List.getD_eq_getElem?_getD]
def cnt (out : List (List C)) : Nat := out.countP fun r => !gb r 0
theorem cnt_set {N q : Int} {out : List (List C)} (h : BOk N out) (h0 : 0 ≤ q) (h1 : q < N) (hf : bt out q = false) : cnt (setT out q) + 1 = cnt out := by
  obtain ⟨hl, hr⟩ := h
  have hlt : q.toNat < out.length := by omega
  obtain ⟨b, hb⟩ := hr _ (getD_mem (d := []) hlt)
  have hg : out[q.toNat] = out.getD q.toNat [] := by rw [List.getD_eq_getElem?_getD, List.getElem?_eq_getElem hlt]; rfl
  have hpos : 0 < out.countP fun r => !gb r 0 := List.countP_pos_iff.2 ⟨_, getD_mem (d := []) hlt, by unfold bt at hf; rw [hf]; rfl⟩
  unfold cnt setT
  rw [List.countP_set hlt, hg, hb]
  unfold bt at hf
  rw [hb] at hf
  have e1 : (!gb [C.bool b] 0) = true := by rw [hf]; rfl
  have e2 : (!gb (List.set [C.bool b] 0 (C.bool true)) 0) = false := rfl
  rw [e1, e2]
  simp
  omega
section
variable (E hs fs : List (List C))
def en (r : List C) : Prop := gi r 2 = 0 ∨ (gi r 2 = 3 ∧ bt hs (gi r 3) = true)
inductive Reach : Int → Prop where
  | base {f : List C} : f ∈ fs → Reach (gi f 0)
  | step {r : List C} : Reach (gi r 0) → r ∈ E → en hs r → Reach (gi r 1)
structure MOk (N : Int) : Prop where
  n0 : 0 ≤ N
  n1 : N ≤ 1000
  e : E.length ≤ 1000
  ed : ∀ r, r ∈ E → 0 ≤ gi r 0 ∧ gi r 0 < N ∧ 0 ≤ gi r 1 ∧ gi r 1 < N ∧ (gi r 2 = 3 → 0 ≤ gi r 3 ∧ gi r 3 < hs.length)
  f : ∀ f, f ∈ fs → 0 ≤ gi f 0 ∧ gi f 0 < N
  fl : fs.length ≤ 1000000
def has (out W : List (List C)) (q : Int) : Prop := bt out q = true ∨ ∃ w, w ∈ W ∧ gi w 0 = q
/-- the walk's state: q's edges from the i-th on are still to be looked at -/
structure CInv (N : Int) (out W : List (List C)) (q : Int) (i : Nat) : Prop where
  ok : BOk N out
  sound : ∀ p, 0 ≤ p → bt out p = true → Reach E hs fs p
  wsound : ∀ w, w ∈ W → Reach E hs fs (gi w 0)
  base : ∀ f, f ∈ fs → has out W (gi f 0)
  cls : ∀ p r, 0 ≤ p → bt out p = true → r ∈ E → gi r 0 = p → en hs r → (p = q → r ∈ E.take i) → has out W (gi r 1)
def CloQ (N : Int) (out : List (List C)) : Prop := BOk N out ∧ ∀ q : Int, 0 ≤ q → (bt out q = true ↔ Reach E hs fs q)
end
variable {E hs fs : List (List C)} {N : Int}
theorem reach_range (h : MOk E hs fs N) {q : Int} (hr : Reach E hs fs q) : 0 ≤ q ∧ q < N := by
  cases hr with
  | base hf => exact h.f _ hf
  | step _ hr _ => have := h.ed _ hr; exact ⟨this.2.2.1, this.2.2.2.1⟩
theorem clo_end (h : MOk E hs fs N) {out : List (List C)} {q : Int} (hi : CInv E hs fs N out [] q E.length) : CloQ E hs fs N out := by
  have hh : ∀ p, has out [] p → bt out p = true := fun p hp => by
    rcases hp with hp | ⟨w, hw, _⟩
    · exact hp
    · cases hw
  refine ⟨hi.ok, fun p hp => ⟨hi.sound p hp, fun hr => ?_⟩⟩
  clear hp
  induction hr with
  | base hf => exact hh _ (hi.base _ hf)
  | step h1 h2 h3 ih => exact hh _ (hi.cls _ _ (reach_range h h1).1 ih h2 rfl h3 (fun _ => by rw [List.take_length]; exact h2))
/-- a state that is at hand is looked at: it is told already -/
theorem cinv_skip {out W : List (List C)} {w : List C} {q : Int} (hi : CInv E hs fs N out (w :: W) q E.length) (hb : bt out (gi w 0) = true) : CInv E hs fs N out W q E.length := by
  have hh : ∀ p, has out (w :: W) p → has out W p := fun p hp => by
    rcases hp with hp | ⟨x, hx, e⟩
    · exact .inl hp
    · rcases List.mem_cons.1 hx with rfl | hx
      · exact .inl (e ▸ hb)
      · exact .inr ⟨x, hx, e⟩
  exact ⟨hi.ok, hi.sound, fun x hx => hi.wsound x (List.mem_cons_of_mem _ hx), fun f hf => hh _ (hi.base f hf), fun p r a b c d e f => hh _ (hi.cls p r a b c d e f)⟩
theorem cinv_set (h : MOk E hs fs N) {out W : List (List C)} {w : List C} {q : Int} (hi : CInv E hs fs N out (w :: W) q E.length) : CInv E hs fs N (setT out (gi w 0)) W (gi w 0) 0 := by
  have hr := hi.wsound w List.mem_cons_self
  obtain ⟨h0, h1⟩ := reach_range h hr
  have hh : ∀ p, 0 ≤ p → has out (w :: W) p → has (setT out (gi w 0)) W p := fun p h2 hp => by
    rcases hp with hp | ⟨x, hx, e⟩
    · exact .inl (by rw [bt_set hi.ok h0 h1 h2, hp, Bool.or_true])
    · rcases List.mem_cons.1 hx with rfl | hx
      · exact .inl (by rw [bt_set hi.ok h0 h1 h2, decide_eq_true e.symm, Bool.true_or])
      · exact .inr ⟨x, hx, e⟩
  refine ⟨bOk_set hi.ok h0 h1, fun p h2 hp => ?_, fun x hx => hi.wsound x (List.mem_cons_of_mem _ hx), fun f hf => hh _ (h.f f hf).1 (hi.base f hf), fun p r a b c d e f => ?_⟩
  · rw [bt_set hi.ok h0 h1 h2] at hp
    by_cases e : p = gi w 0
    · rw [e]; exact hr
    · rw [decide_eq_false e, Bool.false_or] at hp
      exact hi.sound p h2 hp
  · have hne : p ≠ gi w 0 := fun e1 => by have := f e1; simp at this
    rw [bt_set hi.ok h0 h1 a, decide_eq_false hne, Bool.false_or] at b
    exact hh _ (h.ed r c).2.2.1 (hi.cls p r a b c d e (fun _ => by rw [List.take_length]; exact c))
theorem cinv_next {out W : List (List C)} {q : Int} {i : Nat} (hlt : i < E.length) (hi : CInv E hs fs N out W q i) (hno : ¬ (gi (E.getD i []) 0 = q ∧ en hs (E.getD i []))) : CInv E hs fs N out W q (i + 1) := by
  refine ⟨hi.ok, hi.sound, hi.wsound, hi.base, fun p r a b c d e f => hi.cls p r a b c d e fun e1 => ?_⟩
  have := f e1
  rw [List.take_add_one, List.getElem?_eq_getElem hlt] at this
  rcases List.mem_append.1 this with h | h
  · exact h
  · have h : r = E[i] := by simpa using h
    refine absurd ⟨?_, ?_⟩ hno
    · rw [List.getD_eq_getElem?_getD, List.getElem?_eq_getElem hlt, Option.getD_some, ← h, d, e1]
    · rw [List.getD_eq_getElem?_getD, List.getElem?_eq_getElem hlt, Option.getD_some, ← h]; exact e
theorem cinv_push {out W : List (List C)} {q : Int} {i : Nat} (hlt : i < E.length) (hq : bt out q = true) (hq0 : 0 ≤ q) (hi : CInv E hs fs N out W q i) (hf : gi (E.getD i []) 0 = q) (he : en hs (E.getD i [])) : CInv E hs fs N out (W ++ [[C.int .i64 (gi (E.getD i []) 1)]]) q (i + 1) := by
  have hh : ∀ p, has out W p → has out (W ++ [[C.int .i64 (gi (E.getD i []) 1)]]) p := fun p hp => by
    rcases hp with hp | ⟨x, hx, e⟩
    · exact .inl hp
    · exact .inr ⟨x, List.mem_append_left _ hx, e⟩
  refine ⟨hi.ok, hi.sound, fun x hx => ?_, fun f hf => hh _ (hi.base f hf), fun p r a b c d e f => ?_⟩
  · rcases List.mem_append.1 hx with hx | hx
    · exact hi.wsound x hx
    · rw [List.mem_singleton.1 hx]
      exact .step (hf ▸ hi.sound q hq0 hq) (getD_mem hlt) he
  · by_cases e1 : p = q
    · have := f e1
      rw [List.take_add_one, List.getElem?_eq_getElem hlt] at this
      rcases List.mem_append.1 this with h | h
      · exact hh _ (hi.cls p r a b c d e fun _ => h)
      · have h : r = E[i] := by simpa using h
        refine .inr ⟨_, List.mem_append_right _ (List.mem_singleton.2 rfl), ?_⟩
        rw [h, List.getD_eq_getElem?_getD, List.getElem?_eq_getElem hlt]
        rfl
    · exact hh _ (hi.cls p r a b c d e fun h => absurd h e1)
-- Set
/-! loops within loops within loops -/
def Tot4 {α : Type} (g : Nat → Nat → Nat → Nat → Option α) (Q : α → Prop) : Prop := ∃ r, Q r ∧ ∃ N, ∀ n a b c, N ≤ n → N ≤ a → N ≤ b → N ≤ c → g n a b c = some r
section
variable {α β : Type} {g h : Nat → Nat → Nat → Nat → Option α} {Q : α → Prop}
theorem Tot4.cond {c : Bool} (h1 : c = true → Tot4 g Q) (h2 : c = false → Tot4 h Q) : Tot4 (fun n a b d => _root_.cond c (g n a b d) (h n a b d)) Q := by
  cases c with
  | true => exact h1 rfl
  | false => exact h2 rfl
theorem Tot4.t {c : Bool} (hc : c = true) (h1 : Tot4 g Q) : Tot4 (fun n a b d => _root_.cond c (g n a b d) (h n a b d)) Q := by
  subst hc; exact h1
theorem Tot4.f {c : Bool} (hc : c = false) (h1 : Tot4 h Q) : Tot4 (fun n a b d => _root_.cond c (g n a b d) (h n a b d)) Q := by
  subst hc; exact h1
theorem Tot4.bind {f : Nat → Option β} {R : β → Prop} {k : Nat → Nat → Nat → Nat → β → Option α} (h1 : Tot (fun n _ _ => f n) R) (h2 : ∀ r, R r → Tot4 (fun n a b c => k n a b c r) Q) : Tot4 (fun n a b c => (f n).bind fun r => k n a b c r) Q := by
  obtain ⟨r, h3, N, h4⟩ := h1
  obtain ⟨s, h5, M, h6⟩ := h2 r h3
  refine ⟨s, h5, max N M, fun n a b c hn ha hb hc => ?_⟩
  have h4' : f n = some r := h4 n n n (by omega) (by omega) (by omega)
  show (f n).bind _ = _
  rw [h4']
  exact h6 n a b c (by omega) (by omega) (by omega) (by omega)
theorem Tot4.step {H : Nat → Nat → Nat → Nat → Option α} (he : ∀ n a b c, H n a b (c + 1) = g n a b c) (h : Tot4 g Q) : Tot4 H Q := by
  obtain ⟨r, h1, N, h2⟩ := h
  refine ⟨r, h1, N + 1, fun n a b c hn ha hb hc => ?_⟩
  obtain ⟨m, rfl⟩ : ∃ m, c = m + 1 := ⟨c - 1, by omega⟩
  rw [he]
  exact h2 n a b m (by omega) (by omega) (by omega) (by omega)
theorem Tot4.out {g : Nat → Nat → Nat → Option α} (h : Tot g Q) : Tot4 (fun n a b _ => g n a b) Q := by
  obtain ⟨r, h1, N, h2⟩ := h
  exact ⟨r, h1, N, fun n a b c hn ha hb _ => h2 n a b hn ha hb⟩
theorem Tot.in2 (h : Tot4 g Q) : Tot (fun n a b => g n a b n) Q := by
  obtain ⟨r, h1, N, h2⟩ := h
  exact ⟨r, h1, N, fun n a b hn ha hb => h2 n a b n hn ha hb hn⟩
theorem Tot4.loop {σ : Type} {H : Nat → Nat → Nat → Nat → Int → σ → Option α} {n : Nat} (Inv : Nat → σ → Prop) (hn : n ≤ 4611686018427387904)
    (fin : ∀ s, Inv n s → Tot4 (fun k a b c => H k a b c (n : Int) s) Q)
    (rnd : ∀ (i : Nat) s, i < n → Inv i s → (∀ s', Inv (i + 1) s' → Tot4 (fun k a b c => H k a b c (IntKind.i64.wrap ((i : Int) + 1)) s') Q) → Tot4 (fun k a b c => H k a b c (i : Int) s) Q) :
    ∀ (d i : Nat) s, n - i = d → i ≤ n → Inv i s → Tot4 (fun k a b c => H k a b c (i : Int) s) Q := by
  intro d
  induction d with
  | zero =>
    intro i s hd hi h
    obtain rfl : i = n := by omega
    exact fin s h
  | succ d ih =>
    intro i s hd hi h
    refine rnd i s (by omega) h fun s' h' => ?_
    rw [wrap_id (x := (i : Int) + 1) (by omega) (by omega), show (i : Int) + 1 = ((i + 1 : Nat) : Int) by omega]
    exact ih (i + 1) s' (by omega) (by omega) h'
end
/-! the kinds of edges -/
def Kd (r : List C) : Prop := gi r 2 = 0 ∨ gi r 2 = 1 ∨ gi r 2 = 2 ∨ gi r 2 = 3
theorem seqF_E {f : List C → Int → Int → Mk} {t : Int} : ∀ {l : List (List C)} {m : Mk}, (∀ r, r ∈ l → ∀ n t x, x ∈ (f r n t).E → Kd x) → (∀ x, x ∈ m.E → Kd x) → ∀ x, x ∈ (seqF f t l m).E → Kd x := by
  intro l
  induction l with
  | nil => intro m _ h; exact h
  | cons r l ih =>
    intro m hf hm
    refine ih (fun r hr => hf r (List.mem_cons_of_mem _ hr)) (fun x hx => ?_)
    rcases List.mem_append.1 hx with h | h
    · exact hm x h
    · rcases List.mem_append.1 h with h | h
      · exact hf r List.mem_cons_self _ _ x h
      · rw [List.mem_singleton.1 h]; exact .inl rfl
theorem altF_E {f : List C → Int → Int → Mk} {t s : Int} : ∀ {l : List (List C)} {m : Al}, (∀ r, r ∈ l → ∀ n t x, x ∈ (f r n t).E → Kd x) → (∀ x, x ∈ m.E → Kd x) → ∀ x, x ∈ (altF f t s l m).E → Kd x := by
  intro l
  induction l with
  | nil => intro m _ h; exact h
  | cons r l ih =>
    intro m hf hm
    refine ih (fun r hr => hf r (List.mem_cons_of_mem _ hr)) (fun x hx => ?_)
    rcases List.mem_append.1 hx with h | h
    · exact hm x h
    · rcases List.mem_append.1 h with h | h
      · exact hf r List.mem_cons_self _ _ x h
      · rw [List.mem_singleton.1 h]; exact .inl rfl
theorem mk_kd : ∀ (d : Nat) (op : Int) (subs tests : List (List C)) (n t : Int), ∀ x, x ∈ (mk d op subs tests n t).E → Kd x := by
  intro d
  induction d with
  | zero => intro op subs tests n t x hx; cases hx
  | succ d ih =>
    intro op subs tests n t x hx
    have hf : ∀ r : List C, ∀ n t x, x ∈ (mk d (gi r 0) (gr r 1) (gr r 2) n t).E → Kd x := fun r n t => ih _ _ _ n t
    unfold mk at hx
    split at hx
    · split at hx
      · cases hx
      · exact seqF_E (fun r _ => hf r) (hf _ _ _) x hx
    · split at hx
      · rcases List.mem_append.1 hx with h | h
        · exact altF_E (fun r _ => hf r) (fun x hx => by cases hx) x h
        · obtain ⟨b, _, rfl⟩ := List.mem_map.1 h
          exact .inl rfl
      · split at hx
        · split at hx
          · cases hx
          · rcases List.mem_append.1 hx with h | h
            · rcases List.mem_append.1 h with h | h
              · exact hf _ _ _ x h
              · rw [List.mem_singleton.1 h]; exact .inl rfl
            · rw [List.mem_singleton.1 h]; exact .inl rfl
        · split at hx
          · rw [List.mem_singleton.1 hx]; exact .inr (.inr (.inr rfl))
          · rw [List.mem_singleton.1 hx]
            show Kd (st4 n (n + 1) (kindOf op) 0)
            unfold kindOf
            split
            · exact .inr (.inl rfl)
            · split
              · exact .inr (.inr (.inl rfl))
              · exact .inl rfl
/-! good states -/
def one (h : Bool) (b : ByteArray) (at_ : Int) : Bool := h && (((b.data.getD at_.toNat 0).toNat : Int) == (1 : Int))
def exb (h1 : Bool) (b1 : ByteArray) (h2 : Bool) (b2 : ByteArray) (b : Int) (r : List C) : Bool := (gi r 2 == 1 && one h1 b1 (b + gi r 1)) || (gi r 2 == 2 && one h2 b2 (b + gi r 1))
def enb (hs : List (List C)) (r : List C) : Bool := gi r 2 == 0 || (gi r 2 == 3 && bt hs (gi r 3))
theorem enb_en {hs : List (List C)} {r : List C} : enb hs r = true ↔ en hs r := by
  unfold enb en
  simp
inductive GoodS (E hs : List (List C)) (ex : List C → Bool) (e : Int) : Int → Prop where
  | fin : GoodS E hs ex e e
  | ex {r : List C} : r ∈ E → ex r = true → GoodS E hs ex e (gi r 0)
  | step {r : List C} : r ∈ E → en hs r → GoodS E hs ex e (gi r 1) → GoodS E hs ex e (gi r 0)
theorem reach_cons {E hs : List (List C)} {r : List C} (hr : r ∈ E) (he : en hs r) {x : Int} (h : Reach E hs [[C.int .i64 (gi r 1)]] x) : Reach E hs [[C.int .i64 (gi r 0)]] x := by
  induction h with
  | base hf =>
    rw [List.mem_singleton.1 hf]
    exact .step (.base (f := [C.int .i64 (gi r 0)]) (List.mem_singleton.2 rfl)) hr he
  | step _ h2 h3 ih => exact .step ih h2 h3
theorem goodS_iff {E hs : List (List C)} {ex : List C → Bool} {e q : Int} : GoodS E hs ex e q ↔ (Reach E hs [[C.int .i64 q]] e ∨ ∃ r, r ∈ E ∧ Reach E hs [[C.int .i64 q]] (gi r 0) ∧ ex r = true) := by
  constructor
  · intro h
    induction h with
    | fin => exact .inl (.base (f := [C.int .i64 e]) (List.mem_singleton.2 rfl))
    | ex h1 h2 => exact .inr ⟨_, h1, .base (f := [C.int .i64 _]) (List.mem_singleton.2 rfl), h2⟩
    | step h1 h2 _ ih =>
      rcases ih with ih | ⟨r, a, b, c⟩
      · exact .inl (reach_cons h1 h2 ih)
      · exact .inr ⟨r, a, reach_cons h1 h2 b, c⟩
  · have back : ∀ {x : Int}, Reach E hs [[C.int .i64 q]] x → GoodS E hs ex e x → GoodS E hs ex e q := fun h => by
      induction h with
      | base hf => intro g; rw [List.mem_singleton.1 hf] at g; exact g
      | step _ h2 h3 ih => intro g; exact ih (.step h2 h3 g)
    rintro (h | ⟨r, a, b, c⟩)
    · exact back h .fin
    · exact back b (.ex a c)
/-! a stretch of the bits -/
def upd (bits : List (List C)) (b n : Int) (S : Int → Bool) : List (List C) := (List.range bits.length).map fun (j : Nat) => if b ≤ (j : Int) ∧ (j : Int) < b + n ∧ S ((j : Int) - b) = true then [C.int .u8 1] else bits.getD j []
structure Zr (bits : List (List C)) (b n : Int) : Prop where
  b0 : 0 ≤ b
  bn : b + n ≤ bits.length
  z : ∀ q, 0 ≤ q → q < n → bits.getD (b + q).toNat [] = [C.int .u8 0]
theorem upd_len (bits : List (List C)) (b n : Int) (S : Int → Bool) : (upd bits b n S).length = bits.length := by simp [upd]
theorem upd_get {bits : List (List C)} {b n : Int} {S : Int → Bool} {j : Nat} (h : j < bits.length) : (upd bits b n S).getD j [] = if b ≤ (j : Int) ∧ (j : Int) < b + n ∧ S ((j : Int) - b) = true then [C.int .u8 1] else bits.getD j [] := by
  unfold upd
  rw [List.getD_eq_getElem?_getD, List.getElem?_map, List.getElem?_range h]
  rfl
theorem ext_getD {a b : List (List C)} (hl : a.length = b.length) (h : ∀ j, j < a.length → a.getD j [] = b.getD j []) : a = b := by
  refine List.ext_getElem hl fun j h1 h2 => ?_
  have := h j h1
  rw [List.getD_eq_getElem?_getD, List.getD_eq_getElem?_getD, List.getElem?_eq_getElem h1, List.getElem?_eq_getElem h2] at this
  exact this
theorem upd_ext {bits : List (List C)} {b n : Int} {S S' : Int → Bool} (h : ∀ q, 0 ≤ q → q < n → S q = S' q) : upd bits b n S = upd bits b n S' := by
  refine ext_getD (by rw [upd_len, upd_len]) fun j hj => ?_
  rw [upd_len] at hj
  rw [upd_get hj, upd_get hj]
  by_cases h1 : b ≤ (j : Int)
  · by_cases h2 : (j : Int) < b + n
    · rw [h _ (by omega) (by omega)]
    · rw [if_neg (fun c => h2 c.2.1), if_neg (fun c => h2 c.2.1)]
  · rw [if_neg (fun c => h1 c.1), if_neg (fun c => h1 c.1)]
theorem upd_no (bits : List (List C)) (b n : Int) : upd bits b n (fun _ => false) = bits := by
  refine ext_getD (upd_len _ _ _ _) fun j hj => ?_
  rw [upd_len] at hj
  rw [upd_get hj, if_neg (fun c => by have := c.2.2; cases this)]
theorem upd_at {bits : List (List C)} {b n q : Int} {S : Int → Bool} (z : Zr bits b n) (h0 : 0 ≤ q) (h1 : q < n) : (upd bits b n S).getD (b + q).toNat [] = [C.int .u8 (if S q = true then 1 else 0)] := by
  have := z.b0
  have := z.bn
  rw [upd_get (by omega), show (((b + q).toNat : Nat) : Int) = b + q by omega, show b + q - b = q by omega, z.z q h0 h1]
  by_cases h : S q = true
  · rw [if_pos ⟨by omega, by omega, h⟩, if_pos h]
  · rw [if_neg (fun c => h c.2.2), if_neg h]
theorem upd_gi {bits : List (List C)} {b n q : Int} {S : Int → Bool} (z : Zr bits b n) (h0 : 0 ≤ q) (h1 : q < n) : gi ((upd bits b n S).getD (b + q).toNat []) 0 = if S q = true then 1 else 0 := by
  rw [upd_at z h0 h1]
  rfl
theorem upd_set {bits : List (List C)} {b n q : Int} {S : Int → Bool} (z : Zr bits b n) (h0 : 0 ≤ q) (h1 : q < n) : (upd bits b n S).set (b + q).toNat (((upd bits b n S).getD (b + q).toNat []).set 0 (C.int .u8 1)) = upd bits b n (fun x => S x || decide (x = q)) := by
  have := z.b0
  have := z.bn
  refine ext_getD (by rw [List.length_set, upd_len, upd_len]) fun j hj => ?_
  rw [List.length_set, upd_len] at hj
  by_cases e : j = (b + q).toNat
  · subst e
    rw [upd_at (S := fun x => S x || decide (x = q)) z h0 h1, upd_at z h0 h1, List.getD_eq_getElem?_getD, List.getElem?_set_self (by rw [upd_len]; exact hj)]
    simp
  · rw [List.getD_eq_getElem?_getD, List.getElem?_set_ne (fun h => e h.symm), ← List.getD_eq_getElem?_getD, upd_get hj, upd_get hj]
    by_cases h2 : b ≤ (j : Int)
    · rw [decide_eq_false (show ¬ ((j : Int) - b = q) by omega), Bool.or_false]
    · rw [if_neg (fun c => h2 c.1), if_neg (fun c => h2 c.1)]
/-! how many states are not told yet -/
def cntS (n : Nat) (S : Int → Bool) : Nat := match n with
  | 0 => 0
  | n + 1 => cntS n S + (if S (n : Int) = true then 0 else 1)
theorem cntS_le {S S' : Int → Bool} (h : ∀ q, S q = true → S' q = true) : ∀ n, cntS n S' ≤ cntS n S := by
  intro n
  induction n with
  | zero => exact Nat.le_refl _
  | succ n ih =>
    unfold cntS
    by_cases h1 : S (n : Int) = true
    · rw [if_pos h1, if_pos (h _ h1)]; exact ih
    · rw [if_neg h1]; split <;> omega
theorem cntS_lt {S S' : Int → Bool} (h : ∀ q, S q = true → S' q = true) {q : Int} (h0 : 0 ≤ q) (hn : S q = false) (hy : S' q = true) : ∀ n : Nat, q < n → cntS n S' < cntS n S := by
  intro n
  induction n with
  | zero => intro h1; omega
  | succ n ih =>
    intro h1
    have hle := cntS_le h n
    unfold cntS
    by_cases e : q = n
    · subst e
      rw [if_pos hy, if_neg (by rw [hn]; simp)]
      omega
    · have := ih (by omega)
      by_cases h2 : S (n : Int) = true
      · rw [if_pos h2, if_pos (h _ h2)]; omega
      · rw [if_neg h2]; split <;> omega
/-! one bit of a sort -/
theorem good_tot (h t : Bool) (b : ByteArray) (x : Int) (h0 : 0 ≤ x) (h1 : h = true → x < b.size) : Tot (fun k _ _ => (lv k).kind_good h t b x) (fun r => r = one h b x) := by
  refine kind_good_up _ _ _ _ (Tot.congr ?_ (fun k _ _ => kind_good_q (lv k) k h t b x))
  refine Tot.cond (fun hh => Tot.t (decide_eq_true h0) (Tot.t (decide_eq_true (h1 hh)) (Tot.ret (by unfold one; rw [hh]; rfl)))) (fun hh => Tot.ret (by unfold one; rw [hh]; rfl))
-- Step
section
variable {D B K E T ea : List (List C)} {n s e ek : Int} {e1 e2 et : ByteArray} {h1 t1 h2 t2 : Bool} {b1 b2 : ByteArray}
open Classical in
noncomputable def hh (D B K : List (List C)) (n s e : Int) (E T : List (List C)) (ek : Int) (e1 e2 : ByteArray) (ea : List (List C)) (et : ByteArray) (bits : List (List C)) (f : List C) : Bool := if h : ∃ b, HH D B K n s e E T ek e1 e2 ea et bits f b then h.choose else false
theorem hh_ok {bits : List (List C)} {f : List C} (h : ∃ b, HH D B K n s e E T ek e1 e2 ea et bits f b) : HH D B K n s e E T ek e1 e2 ea et bits f (hh D B K n s e E T ek e1 e2 ea et bits f) := by
  unfold hh
  rw [dif_pos h]
  exact h.choose_spec
noncomputable def hsOf (D B K : List (List C)) (n s e : Int) (E T : List (List C)) (ek : Int) (e1 e2 : ByteArray) (ea : List (List C)) (et : ByteArray) (bits TT : List (List C)) : List (List C) := TT.map fun f => [C.bool (hh D B K n s e E T ek e1 e2 ea et bits f)]
theorem hsOf_take {bits TT : List (List C)} {i : Nat} (h : i < TT.length) : hsOf D B K n s e E T ek e1 e2 ea et bits (TT.take (i + 1)) = hsOf D B K n s e E T ek e1 e2 ea et bits (TT.take i) ++ [[C.bool (hh D B K n s e E T ek e1 e2 ea et bits (TT.getD i []))]] := by
  rw [take_succ h]
  simp [hsOf]
theorem hsOf_len {bits TT : List (List C)} : (hsOf D B K n s e E T ek e1 e2 ea et bits TT).length = TT.length := by simp [hsOf]
theorem tests_tot (n' s' e' : Int) (E' : List (List C)) {bits TT : List (List C)} (hb : ∀ f, f ∈ TT → ∃ b, HH D B K n s e E T ek e1 e2 ea et bits f b) (hl : TT.length ≤ 1000) : Tot (fun k _ _ => (lv k).strat_Tests D B K n s e E T n' s' e' E' TT ek e1 e2 ea et bits) (fun r => r = hsOf D B K n s e E T ek e1 e2 ea et bits TT) := by
  refine strat_Tests_up _ _ _ _ _ _ _ _ _ _ _ _ _ _ _ _ _ _ _ (Tot.congr ?_ (fun k _ _ => strat_Tests_q (lv k) k D B K n s e E T n' s' e' E' TT ek e1 e2 ea et bits))
  refine Tot.in0 (g := fun k p_ q_ => strat_Tests_l0 (lv k) k D B K n s e E T n' s' e' E' TT ek e1 e2 ea et bits p_ ) ?_
  refine Tot.step0 (fun k p_ q_ => strat_Tests_l0_q (lv k) k D B K n s e E T n' s' e' E' TT ek e1 e2 ea et bits p_ ) ?_
  refine Tot.cond (fun h0 => ?_) (fun h0 => Tot.ret ?_)
  · have h0 := of_decide_eq_true h0
    have h0' : 0 < TT.length := by omega
    refine Tot.t (decide_eq_true (by omega)) ?_
    refine Tot.bind (hh_ok (hb _ (getD_mem (d := []) h0'))).p1 fun r hr => ?_
    subst hr
    refine Tot.loop (H := fun k q r v w => strat_Tests_l1 (lv k) k D B K n s e E T n' s' e' E' TT ek e1 e2 ea et bits q v D B K n s e E T ek e1 e2 ea et bits w) (n := TT.length) (fun i w => w = hsOf D B K n s e E T ek e1 e2 ea et bits (TT.take i)) (by omega) (fun w hw => ?_) (fun i w hi hw next => ?_) _ 1 _ rfl (by omega) (by rw [hsOf_take h0']; rfl)
    · refine Tot.step0 (fun k p_ q_ => strat_Tests_l1_q (lv k) k D B K n s e E T n' s' e' E' TT ek e1 e2 ea et bits p_ _ _ _ _ _ _ _ _ _ _ _ _ _ _ _ _) ?_
      rw [List.take_length] at hw
      exact Tot.f (decide_eq_false (by omega)) (Tot.ret hw)
    · have hwl : w.length ≤ 1000 := by rw [hw, hsOf_len, List.length_take]; omega
      refine Tot.step0 (fun k p_ q_ => strat_Tests_l1_q (lv k) k D B K n s e E T n' s' e' E' TT ek e1 e2 ea et bits p_ _ _ _ _ _ _ _ _ _ _ _ _ _ _ _ _) ?_
      rw [Int.toNat_natCast]
      repeat (refine Tot.t (decide_eq_true (by omega)) ?_)
      refine Tot.bind (hh_ok (hb _ (getD_mem (d := []) hi))).p1 fun r hr => ?_
      subst hr
      exact Tot.t (roomy_of bytes4 (by omega)) (next _ (by rw [hsOf_take hi, hw]))
  · have h0 := of_decide_eq_false h0
    have : TT = [] := List.length_eq_zero_iff.1 (by omega)
    subst this
    rfl
structure PC (B K : List (List C)) (i : Nat) (b : Int) (M : Mk) (TT hs bits : List (List C)) (h1 : Bool) (b1 : ByteArray) (h2 : Bool) (b2 : ByteArray) : Prop where
  il : i < B.length
  ik : i < K.length
  bl' : B.length ≤ 1000
  kb : gi (K.getD i []) 0 = b
  bN : gi (B.getD i []) 0 = M.n
  bS : gi (B.getD i []) 1 = M.s
  be : gi (B.getD i []) 2 = M.e
  bE : gr (B.getD i []) 3 = M.E
  bT : gr (B.getD i []) 4 = TT
  z : Zr bits b M.n
  bl : bits.length ≤ 1000000
  ed : ∀ r, r ∈ M.E → EdI 0 M.n 0 hs.length r
  kd : ∀ r, r ∈ M.E → Kd r
  e0 : 0 ≤ M.e
  en : M.e < M.n
  El : M.E.length ≤ 1000
  n1 : M.n ≤ 1000
  s1 : h1 = true → b + M.n ≤ b1.size
  s2 : h2 = true → b + M.n ≤ b2.size
def okE (h1 : Bool) (b1 : ByteArray) (h2 : Bool) (b2 : ByteArray) (b : Int) (hs : List (List C)) (S : Int → Bool) (r : List C) : Bool := exb h1 b1 h2 b2 b r || (enb hs r && S (gi r 1))
variable {i : Nat} {b : Int} {M : Mk} {TT hs bits : List (List C)}
theorem leads_tot (c : PC B K i b M TT hs bits h1 b1 h2 b2) {r : List C} (hr : r ∈ M.E) (S : Int → Bool) : Tot (fun k _ _ => (lv k).kind_maker_leads D B K n s e E T ek e1 e2 ea et h1 t1 b1 h2 t2 b2 (upd bits b M.n S) b (gi r 0) (gi r 1) (gi r 2) (gi r 3) hs) (fun x => x = (okE h1 b1 h2 b2 b hs S r, D, B, K, n, s, e, E, T, ek, e1, e2, ea, et, h1, t1, b1, h2, t2, b2, upd bits b M.n S)) := by
  obtain ⟨f0, f1, g0, g1, hk⟩ := c.ed r hr
  have z0 := c.z.b0
  have z1 := c.z.bn
  have hbl := c.bl
  refine kind_maker_leads_up _ _ _ _ _ _ _ _ _ _ _ _ _ _ _ _ _ _ _ _ _ _ _ _ _ _ (Tot.congr ?_ (fun k _ _ => kind_maker_leads_q (lv k) k D B K n s e E T ek e1 e2 ea et h1 t1 b1 h2 t2 b2 (upd bits b M.n S) b (gi r 0) (gi r 1) (gi r 2) (gi r 3) hs))
  rw [wrap_id (x := b + gi r 1) (by omega) (by omega), upd_len, upd_gi c.z g0 g1]
  refine Tot.cond (fun k1 => ?_) (fun k1 => Tot.cond (fun k2 => ?_) (fun k2 => Tot.cond (fun k3 => ?_) (fun k3 => ?_)))
  · refine Tot.bind (good_tot h1 t1 b1 (b + gi r 1) (by omega) (fun h => by have := c.s1 h; omega)) fun x hx => Tot.ret ?_
    subst hx
    have k1 : gi r 2 = 1 := eq_of_beq k1
    have : okE h1 b1 h2 b2 b hs S r = one h1 b1 (b + gi r 1) := by
      unfold okE exb enb
      rw [k1]
      simp
    rw [this]
  · refine Tot.bind (good_tot h2 t2 b2 (b + gi r 1) (by omega) (fun h => by have := c.s2 h; omega)) fun x hx => Tot.ret ?_
    subst hx
    have k2 : gi r 2 = 2 := eq_of_beq k2
    have : okE h1 b1 h2 b2 b hs S r = one h2 b2 (b + gi r 1) := by
      unfold okE exb enb
      rw [k2]
      simp
    rw [this]
  · have k3 : gi r 2 = 3 := eq_of_beq k3
    have ht := hk k3
    have h0 : okE h1 b1 h2 b2 b hs S r = (bt hs (gi r 3) && S (gi r 1)) := by
      unfold okE exb enb
      rw [k3]
      simp
    refine Tot.t (decide_eq_true ht.1) (Tot.t (decide_eq_true ht.2) (Tot.cond (fun h => ?_) (fun h => Tot.ret ?_)))
    · refine Tot.t (decide_eq_true (by omega)) (Tot.t (decide_eq_true (by omega)) (Tot.ret ?_))
      have h : bt hs (gi r 3) = true := h
      rw [h0, h]
      cases S (gi r 1) <;> rfl
    · have h : bt hs (gi r 3) = false := h
      rw [h0, h]
      rfl
  · have k0 : gi r 2 = 0 := by
      have k1 := ne_of_beq_false k1
      have k2 := ne_of_beq_false k2
      have k3 := ne_of_beq_false k3
      rcases c.kd r hr with h | h | h | h
      · exact h
      · exact absurd h k1
      · exact absurd h k2
      · exact absurd h k3
    have h0 : okE h1 b1 h2 b2 b hs S r = S (gi r 1) := by
      unfold okE exb enb
      rw [k0]
      simp
    refine Tot.t (decide_eq_true (by omega)) (Tot.t (decide_eq_true (by omega)) (Tot.ret ?_))
    rw [h0]
    cases S (gi r 1) <;> rfl
structure PI (h1 : Bool) (b1 : ByteArray) (h2 : Bool) (b2 : ByteArray) (b : Int) (M : Mk) (hs : List (List C)) (S0 S : Int → Bool) (v : Bool) (j : Nat) : Prop where
  snd : ∀ q, S q = true → GoodS M.E hs (exb h1 b1 h2 b2 b) M.e q
  fin : S M.e = true
  sub : ∀ q, S0 q = true → S q = true
  t : v = true → cntS M.n.toNat S < cntS M.n.toNat S0
  f : v = false → S = S0 ∧ ∀ m, m < j → okE h1 b1 h2 b2 b hs S (M.E.getD m []) = true → S (gi (M.E.getD m []) 0) = true
theorem PI.skip {S0 S : Int → Bool} {v : Bool} {j : Nat} (h : PI h1 b1 h2 b2 b M hs S0 S v j) (hj : okE h1 b1 h2 b2 b hs S (M.E.getD j []) = true → S (gi (M.E.getD j []) 0) = true) : PI h1 b1 h2 b2 b M hs S0 S v (j + 1) :=
  ⟨h.snd, h.fin, h.sub, h.t, fun hv => ⟨(h.f hv).1, fun m hm => by
    rcases Nat.lt_or_ge m j with g | g
    · exact (h.f hv).2 m g
    · rw [show m = j by omega]; exact hj⟩⟩
theorem PI.set {S0 S : Int → Bool} {v : Bool} {j : Nat} (c : PC B K i b M TT hs bits h1 b1 h2 b2) (hjl : j < M.E.length) (h : PI h1 b1 h2 b2 b M hs S0 S v j) (hf : S (gi (M.E.getD j []) 0) = false) (hy : okE h1 b1 h2 b2 b hs S (M.E.getD j []) = true) : PI h1 b1 h2 b2 b M hs S0 (fun x => S x || decide (x = gi (M.E.getD j []) 0)) true (j + 1) := by
  have hr : M.E.getD j [] ∈ M.E := getD_mem hjl
  obtain ⟨f0, f1, g0, g1, hk⟩ := c.ed _ hr
  have n0 : 0 ≤ M.n := by omega
  refine ⟨fun q hq => ?_, by rw [h.fin]; rfl, fun q hq => by rw [h.sub q hq]; rfl, fun _ => ?_, fun hv => by cases hv⟩
  · rw [Bool.or_eq_true, decide_eq_true_eq] at hq
    rcases hq with hq | rfl
    · exact h.snd q hq
    · unfold okE at hy
      rw [Bool.or_eq_true, Bool.and_eq_true] at hy
      rcases hy with hy | ⟨hy1, hy2⟩
      · exact .ex hr hy
      · exact .step hr (enb_en.1 hy1) (h.snd _ hy2)
  · have hs0 : S0 (gi (M.E.getD j []) 0) = false := by
      cases hx : S0 (gi (M.E.getD j []) 0) with
      | false => rfl
      | true => rw [h.sub _ hx] at hf; cases hf
    exact cntS_lt (fun q hq => by rw [h.sub q hq]; rfl) f0 hs0 (by rw [decide_eq_true rfl, Bool.or_true]) M.n.toNat (by omega)
open Classical in
noncomputable def gd (h1 : Bool) (b1 : ByteArray) (h2 : Bool) (b2 : ByteArray) (b : Int) (M : Mk) (hs : List (List C)) (q : Int) : Bool := decide (GoodS M.E hs (exb h1 b1 h2 b2 b) M.e q)
open Classical in
theorem PI.all {S0 S : Int → Bool} (h : PI h1 b1 h2 b2 b M hs S0 S false M.E.length) : S = gd h1 b1 h2 b2 b M hs := by
  have cl : ∀ r, r ∈ M.E → okE h1 b1 h2 b2 b hs S r = true → S (gi r 0) = true := fun r hr => by
    obtain ⟨m, hm, rfl⟩ := mem_getD hr
    exact (h.f rfl).2 m hm
  have up : ∀ q, GoodS M.E hs (exb h1 b1 h2 b2 b) M.e q → S q = true := fun q hq => by
    induction hq with
    | fin => exact h.fin
    | ex a c => exact cl _ a (by unfold okE; rw [c]; rfl)
    | step a c _ ih => exact cl _ a (by unfold okE; rw [enb_en.2 c, ih, Bool.and_true, Bool.or_true])
  funext q
  unfold gd
  cases hq : S q with
  | true => exact (decide_eq_true (h.snd q hq)).symm
  | false => exact (decide_eq_false fun g => by rw [up q g] at hq; cases hq).symm
theorem pass2 (c : PC B K i b M TT hs bits h1 b1 h2 b2) (S0 : Int → Bool) {Q : _ → Prop} (hend : ∀ S v, PI h1 b1 h2 b2 b M hs S0 S v M.E.length → Tot (fun k a q => kind_maker_prog_l3 (lv k) k D B K n s e E T ek e1 e2 ea et h1 t1 b1 h2 t2 b2 bits (i : Int) a v D B K n s e E T ek e1 e2 ea et h1 t1 b1 h2 t2 b2 hs (upd bits b M.n S)) Q) : ∀ (d j : Nat) (w : (Int → Bool) × Bool), M.E.length - j = d → j ≤ M.E.length → PI h1 b1 h2 b2 b M hs S0 w.1 w.2 j → Tot (fun k a q => kind_maker_prog_l2 (lv k) k D B K n s e E T ek e1 e2 ea et h1 t1 b1 h2 t2 b2 bits (i : Int) a q w.2 (j : Int) D B K n s e E T ek e1 e2 ea et h1 t1 b1 h2 t2 b2 hs (upd bits b M.n w.1)) Q := by
  have hEl := c.El
  have z0 := c.z.b0
  have z1 := c.z.bn
  have hbl := c.bl
  refine Tot.loop (H := fun k a q v (w : (Int → Bool) × Bool) => kind_maker_prog_l2 (lv k) k D B K n s e E T ek e1 e2 ea et h1 t1 b1 h2 t2 b2 bits (i : Int) a q w.2 v D B K n s e E T ek e1 e2 ea et h1 t1 b1 h2 t2 b2 hs (upd bits b M.n w.1)) (fun j w => PI h1 b1 h2 b2 b M hs S0 w.1 w.2 j) (by omega) (fun w hw => ?_) (fun j w hj hw next => ?_)
  · refine Tot.step1 (fun k p_ q_ => kind_maker_prog_l2_q (lv k) k D B K n s e E T ek e1 e2 ea et h1 t1 b1 h2 t2 b2 bits (i : Int) p_ q_ _ _ _ _ _ _ _ _ _ _ _ _ _ _ _ _ _ _ _ _ _ _ _) ?_
    rw [Int.toNat_natCast, c.bE]
    exact Tot.f (decide_eq_false (by omega)) (hend _ _ hw)
  · have hr : M.E.getD j [] ∈ M.E := getD_mem hj
    obtain ⟨f0, f1, g0, g1, hk⟩ := c.ed _ hr
    refine Tot.step1 (fun k p_ q_ => kind_maker_prog_l2_q (lv k) k D B K n s e E T ek e1 e2 ea et h1 t1 b1 h2 t2 b2 bits (i : Int) p_ q_ _ _ _ _ _ _ _ _ _ _ _ _ _ _ _ _ _ _ _ _ _ _ _) ?_
    simp only [Int.toNat_natCast, c.bE, c.kb, upd_len]
    rw [wrap_id (x := b + gi (M.E.getD j []) 0) (by omega) (by omega), upd_gi c.z f0 f1]
    repeat (refine Tot.t (decide_eq_true (by omega)) ?_)
    refine Tot.cond (fun h => ?_) (fun h => next w (hw.skip fun _ => ?_))
    · have hf : w.1 (gi (M.E.getD j []) 0) = false := by
        cases hx : w.1 (gi (M.E.getD j []) 0) with
        | false => rfl
        | true => rw [hx] at h; cases h
      refine Tot.bind (leads_tot c hr w.1) fun x hx => ?_
      subst hx
      dsimp only
      refine Tot.cond (fun hL => ?_) (fun hL => next w (hw.skip fun hy => ?_))
      · rw [upd_len, upd_set c.z f0 f1]
        repeat (refine Tot.t (decide_eq_true (by omega)) ?_)
        exact next (_, true) (hw.set c hj hf hL)
      · rw [hy] at hL; cases hL
    · cases hx : w.1 (gi (M.E.getD j []) 0) with
      | true => rfl
      | false => rw [hx] at h; cases h
theorem rounds (c : PC B K i b M TT hs bits h1 b1 h2 b2) : ∀ (N : Nat) (S : Int → Bool) (v : Bool), (v = true → cntS M.n.toNat S < N ∧ S M.e = true ∧ ∀ q, S q = true → GoodS M.E hs (exb h1 b1 h2 b2 b) M.e q) → (v = false → S = gd h1 b1 h2 b2 b M hs) → Tot (fun k a q => kind_maker_prog_l3 (lv k) k D B K n s e E T ek e1 e2 ea et h1 t1 b1 h2 t2 b2 bits (i : Int) a v D B K n s e E T ek e1 e2 ea et h1 t1 b1 h2 t2 b2 hs (upd bits b M.n S)) (fun r => r = (D, B, K, n, s, e, E, T, ek, e1, e2, ea, et, h1, t1, b1, h2, t2, b2, upd bits b M.n (gd h1 b1 h2 b2 b M hs))) := by
  intro N
  induction N with
  | zero =>
    intro S v hv hf
    refine Tot.step0 (fun k p_ q_ => kind_maker_prog_l3_q (lv k) k D B K n s e E T ek e1 e2 ea et h1 t1 b1 h2 t2 b2 bits (i : Int) p_ v _ _ _ _ _ _ _ _ _ _ _ _ _ _ _ _ _ _ _ _ _) ?_
    cases v with
    | true => exact absurd (hv rfl).1 (Nat.not_lt_zero _)
    | false => exact Tot.ret (by rw [hf rfl])
  | succ N ih =>
    intro S v hv hf
    refine Tot.step0 (fun k p_ q_ => kind_maker_prog_l3_q (lv k) k D B K n s e E T ek e1 e2 ea et h1 t1 b1 h2 t2 b2 bits (i : Int) p_ v _ _ _ _ _ _ _ _ _ _ _ _ _ _ _ _ _ _ _ _ _) ?_
    cases v with
    | false => exact Tot.ret (by rw [hf rfl])
    | true =>
      obtain ⟨hc, hfin, hsnd⟩ := hv rfl
      refine Tot.t rfl (Tot.in1 (pass2 c S (fun S' v' h => ih S' v' (fun e => ⟨by have := h.t e; omega, h.fin, h.snd⟩) (fun e => by subst e; exact h.all)) _ 0 (S, false) rfl (Nat.zero_le _) ⟨hsnd, hfin, fun q h => h, fun e => (by cases e), fun _ => ⟨rfl, fun m hm => by omega⟩⟩))
theorem hset (c : PC B K i b M TT hs bits h1 b1 h2 b2) : bits.set (b + M.e).toNat ((bits.getD (b + M.e).toNat []).set 0 (C.int .u8 1)) = upd bits b M.n (fun x => decide (x = M.e)) := by
  have h := upd_set (S := fun _ => false) c.z c.e0 c.en
  rw [upd_no] at h
  rw [h]
  refine upd_ext fun q _ _ => ?_
  rw [Bool.false_or]
theorem prog_tot (c : PC B K i b M TT hs bits h1 b1 h2 b2) (ht : Tot (fun k _ _ => (lv k).strat_Tests D B K n s e E T M.n M.s M.e M.E TT ek e1 e2 ea et bits) (fun r => r = hs)) : Tot (fun k _ _ => (lv k).kind_maker_prog D B K n s e E T ek e1 e2 ea et h1 t1 b1 h2 t2 b2 bits (i : Int)) (fun r => r = (D, B, K, n, s, e, E, T, ek, e1, e2, ea, et, h1, t1, b1, h2, t2, b2, upd bits b M.n (gd h1 b1 h2 b2 b M hs))) := by
  have hEl := c.El
  have z0 := c.z.b0
  have z1 := c.z.bn
  have hbl := c.bl
  have he0 := c.e0
  have hen := c.en
  have hil := c.il
  have hik := c.ik
  have start : PI h1 b1 h2 b2 b M hs (fun x => decide (x = M.e)) (fun x => decide (x = M.e)) false 0 := ⟨fun q hq => by rw [of_decide_eq_true hq]; exact .fin, decide_eq_true rfl, fun q h => h, fun e => (by cases e), fun _ => ⟨rfl, fun m hm => by omega⟩⟩
  refine kind_maker_prog_up _ _ _ _ _ _ _ _ _ _ _ _ _ _ _ _ _ _ _ _ _ (Tot.congr ?_ (fun k _ _ => kind_maker_prog_q (lv k) k D B K n s e E T ek e1 e2 ea et h1 t1 b1 h2 t2 b2 bits (i : Int)))
  simp only [Int.toNat_natCast, c.bE, c.kb, c.be, c.bN, c.bS, c.bT]
  rw [wrap_id (x := b + M.e) (by omega) (by omega)]
  repeat (refine Tot.t (decide_eq_true (by omega)) ?_)
  refine Tot.bind ht fun r hr => ?_
  rw [hr]
  clear hr r
  repeat (refine Tot.t (decide_eq_true (by omega)) ?_)
  refine Tot.in0 (g := fun k p_ q_ => kind_maker_prog_l0 (lv k) k D B K n s e E T ek e1 e2 ea et h1 t1 b1 h2 t2 b2 bits (i : Int) p_ true hs) ?_
  refine Tot.step0 (fun k p_ q_ => kind_maker_prog_l0_q (lv k) k D B K n s e E T ek e1 e2 ea et h1 t1 b1 h2 t2 b2 bits (i : Int) p_ _ _) ?_
  refine Tot.t rfl (Tot.in1 (Tot.loop (H := fun k a q v (_ : Unit) => kind_maker_prog_l1 (lv k) k D B K n s e E T ek e1 e2 ea et h1 t1 b1 h2 t2 b2 bits (i : Int) a q v hs) (n := M.E.length) (fun j _ => PI h1 b1 h2 b2 b M hs (fun x => decide (x = M.e)) (fun x => decide (x = M.e)) false j) (by omega) (fun _ hw => ?_) (fun j _ hj hw next => ?_) _ 0 () rfl (Nat.zero_le _) start))
  · refine Tot.step1 (fun k p_ q_ => kind_maker_prog_l1_q (lv k) k D B K n s e E T ek e1 e2 ea et h1 t1 b1 h2 t2 b2 bits (i : Int) p_ q_ _ _) ?_
    rw [Int.toNat_natCast, c.bE]
    refine Tot.f (decide_eq_false (by omega)) ?_
    refine Tot.step0 (fun k p_ q_ => kind_maker_prog_l0_q (lv k) k D B K n s e E T ek e1 e2 ea et h1 t1 b1 h2 t2 b2 bits (i : Int) p_ _ _) ?_
    simp only [Int.toNat_natCast, c.bE, c.kb, c.be]
    rw [wrap_id (x := b + M.e) (by omega) (by omega), hset c, hw.all]
    exact Tot.ret rfl
  · have hr : M.E.getD j [] ∈ M.E := getD_mem hj
    obtain ⟨f0, f1, g0, g1, hk⟩ := c.ed _ hr
    refine Tot.step1 (fun k p_ q_ => kind_maker_prog_l1_q (lv k) k D B K n s e E T ek e1 e2 ea et h1 t1 b1 h2 t2 b2 bits (i : Int) p_ q_ _ _) ?_
    simp only [Int.toNat_natCast, c.bE, c.kb, c.be]
    rw [wrap_id (x := b + M.e) (by omega) (by omega), wrap_id (x := b + gi (M.E.getD j []) 0) (by omega) (by omega), hset c, upd_len, upd_gi c.z f0 f1]
    repeat (refine Tot.t (decide_eq_true (by omega)) ?_)
    refine Tot.cond (fun h => ?_) (fun h => next () (hw.skip fun _ => ?_))
    · have hf : decide (gi (M.E.getD j []) 0 = M.e) = false := by
        cases hx : decide (gi (M.E.getD j []) 0 = M.e) with
        | false => rfl
        | true => rw [hx] at h; cases h
      refine Tot.bind (leads_tot c hr _) fun x hx => ?_
      subst hx
      dsimp only
      have p2 := pass2 c (fun x => decide (x = M.e)) (Q := fun r => r = (D, B, K, n, s, e, E, T, ek, e1, e2, ea, et, h1, t1, b1, h2, t2, b2, upd bits b M.n (gd h1 b1 h2 b2 b M hs))) (fun S' v' h => rounds c _ S' v' (fun e => ⟨Nat.lt_succ_self _, h.fin, h.snd⟩) (fun e => by subst e; exact h.all))
      have hw' : ((j : Int) + 1) = ((j + 1 : Nat) : Int) := by omega
      rw [wrap_id (x := (j : Int) + 1) (by omega) (by omega), hw']
      refine Tot.cond (fun hL => ?_) (fun hL => ?_)
      · rw [upd_len, upd_set c.z f0 f1]
        repeat (refine Tot.t (decide_eq_true (by omega)) ?_)
        exact p2 _ (j + 1) (_, true) rfl (by omega) (hw.set c hj hf hL)
      · exact p2 _ (j + 1) (_, false) rfl (by omega) (hw.skip fun hy => by rw [hy] at hL; cases hL)
    · cases hx : decide (gi (M.E.getD j []) 0 = M.e) with
      | true => rfl
      | false => rw [hx] at h; cases h
end
-- Sorts
theorem isSl67 : isSl Try.prog 67 5 = true := by kernel_rfl
section
variable {p : List C} {E T ea : List (List C)} {n s e ek : Int} {e1 e2 et : ByteArray} {h1 t1 h2 t2 : Bool} {b1 b2 : ByteArray}
noncomputable def sbits (p : List C) (n s e : Int) (E T : List (List C)) (ek : Int) (e1 e2 : ByteArray) (ea : List (List C)) (et : ByteArray) (h1 : Bool) (b1 : ByteArray) (h2 : Bool) (b2 : ByteArray) : Nat → List (List C)
  | 0 => List.replicate (sumn (DD p)).toNat [C.int .u8 0]
  | i + 1 => upd (sbits p n s e E T ek e1 e2 ea et h1 b1 h2 b2 i) (sumn ((DD p).take i)) (nst ((DD p).getD i [])) (gd h1 b1 h2 b2 (sumn ((DD p).take i)) (mach ((DD p).getD i [])) (hsOf (DD p) ((DD p).map rrow) (bases 0 (DD p)) n s e E T ek e1 e2 ea et (sbits p n s e E T ek e1 e2 ea et h1 b1 h2 b2 i) ((mach ((DD p).getD i [])).T.map nf)))
theorem sb_len (h : Good p) : ∀ i, ((sbits p n s e E T ek e1 e2 ea et h1 b1 h2 b2 i).length : Int) = sumn (DD p) := by
  have := (sumn_bd h.ded.good).1
  intro i
  induction i with
  | zero => show ((List.replicate _ _).length : Int) = _; rw [List.length_replicate]; omega
  | succ i ih => show ((upd _ _ _ _).length : Int) = _; rw [upd_len]; exact ih
theorem sb_zero (h : Good p) : ∀ i, i ≤ (DD p).length → ∀ j : Nat, sumn ((DD p).take i) ≤ j → (j : Int) < sumn (DD p) → (sbits p n s e E T ek e1 e2 ea et h1 b1 h2 b2 i).getD j [] = [C.int .u8 0] := by
  intro i
  induction i with
  | zero =>
    intro _ j _ hj
    show (List.replicate _ _).getD j [] = _
    rw [List.getD_eq_getElem?_getD, List.getElem?_replicate, if_pos (by omega)]
    rfl
  | succ i ih =>
    intro hi j h0 hj
    have hl := sb_len (n := n) (s := s) (e := e) (E := E) (T := T) (ek := ek) (e1 := e1) (e2 := e2) (ea := ea) (et := et) (h1 := h1) (b1 := b1) (h2 := h2) (b2 := b2) h i
    rw [take_succ (show i < (DD p).length by omega), sumn_app] at h0
    have e3 : sumn [(DD p).getD i []] = nst ((DD p).getD i []) := by simp [sumn]
    have h4 := (h.ded.good _ (getD_mem (d := []) (show i < (DD p).length by omega))).nst
    show (upd _ _ _ _).getD j [] = _
    rw [upd_get (by omega), if_neg (fun c => by have := c.2.1; omega)]
    exact ih (by omega) j (by omega) hj
theorem holds_ex (h : Good p) (hal : ea.length ≤ 1048576) {bits : List (List C)} (hl : (bits.length : Int) = sumn (DD p)) {TT : List (List C)} (hT : ∀ x, x ∈ TT → OkF x) : ∀ f, f ∈ TT → ∃ b, HH (DD p) ((DD p).map rrow) (bases 0 (DD p)) n s e E T ek e1 e2 ea et bits f b := fun f hf =>
  hold 16 (Nat.le_refl _) (ctx_of (p := []) h hl hal) f (hT f hf).ok (hT f hf).sm
theorem mach_bd {x : List C} (h : Good x) : (mach x).E.length ≤ 190 ∧ (mach x).T.length ≤ 64 ∧ (mach x).n ≤ 128 := by
  have h1 := mk_bd 16 _ _ _ 0 0 h.pok
  have h2 := h.pc
  have h3 := h1.e
  have h4 := h1.t
  have h5 := h1.hi
  unfold mach
  omega
theorem mach_ed {x : List C} (h : Good x) {hs : List (List C)} (hl : hs.length = (mach x).T.length) : ∀ r, r ∈ (mach x).E → EdI 0 (mach x).n 0 hs.length r := fun r hr => by
  have := (mk_shp 16 _ _ _ 0 0 h.pok).ed r hr
  rw [hl]
  exact this.mono (Int.le_refl _) (Int.le_refl _) (Int.le_refl _) (by unfold mach; omega)
theorem pc_of (h : Good p) (hal : ea.length ≤ 1048576) (k1 : h1 = true → (b1.size : Int) = sumn (DD p)) (k2 : h2 = true → (b2.size : Int) = sumn (DD p)) {i : Nat} (hi : i < (DD p).length) : PC ((DD p).map rrow) (bases 0 (DD p)) i (sumn ((DD p).take i)) (mach ((DD p).getD i [])) ((mach ((DD p).getD i [])).T.map nf) (hsOf (DD p) ((DD p).map rrow) (bases 0 (DD p)) n s e E T ek e1 e2 ea et (sbits p n s e E T ek e1 e2 ea et h1 b1 h2 b2 i) ((mach ((DD p).getD i [])).T.map nf)) (sbits p n s e E T ek e1 e2 ea et h1 b1 h2 b2 i) h1 b1 h2 b2 := by
  have hg := h.ded.good
  have hgi := hg _ (getD_mem (d := []) hi)
  have hlen : (DD p).length ≤ 63 := Nat.le_trans h.ded.len h.len
  have ea1 : ((DD p).map rrow).getD i [] = rrow ((DD p).getD i []) := by simp [List.getD_eq_getElem?_getD, hi]
  have hb := sumn_bd hg
  have ht := (sumn_bd (mem_take hg i)).1
  have hle := sumn_le hg hi
  have hshp := mk_shp 16 _ _ _ 0 0 hgi.pok
  have hbd := mach_bd hgi
  have hl := sb_len (n := n) (s := s) (e := e) (E := E) (T := T) (ek := ek) (e1 := e1) (e2 := e2) (ea := ea) (et := et) (h1 := h1) (b1 := b1) (h2 := h2) (b2 := b2) h i
  refine ⟨by simpa using hi, by rw [bases_len]; exact hi, by rw [List.length_map]; omega, ?_, by rw [ea1]; rfl, by rw [ea1]; rfl, by rw [ea1]; rfl, by rw [ea1]; rfl, by rw [ea1]; rfl, ⟨ht, by rw [hl]; exact hle, fun q h0 h3 => ?_⟩, by omega, mach_ed hgi (by rw [hsOf_len, List.length_map]), mk_kd 16 _ _ _ 0 0, hshp.e0, hshp.e1, by omega, by omega, fun h4 => by rw [k1 h4]; exact hle, fun h4 => by rw [k2 h4]; exact hle⟩
  · rw [bases_get _ _ _ hi, Int.zero_add]; rfl
  · have h3 : q < nst ((DD p).getD i []) := h3
    exact sb_zero h i (by omega) _ (by omega) (by omega)
theorem kstep_tot (h : Good p) (hal : ea.length ≤ 1048576) (k1 : h1 = true → (b1.size : Int) = sumn (DD p)) (k2 : h2 = true → (b2.size : Int) = sumn (DD p)) : Tot (fun k _ _ => (lv k).kind_Step (DD p) ((DD p).map rrow) (bases 0 (DD p)) n s e E T ek e1 e2 ea et h1 t1 b1 h2 t2 b2) (fun r => r = (true, ek == 2, rowBytes (sbits p n s e E T ek e1 e2 ea et h1 b1 h2 b2 (DD p).length))) := by
  have hg := h.ded.good
  have hlen : (DD p).length ≤ 63 := Nat.le_trans h.ded.len h.len
  have hb := sumn_bd hg
  refine kind_Step_up _ _ _ _ _ _ _ _ _ _ _ _ _ _ _ _ _ _ _ (Tot.congr ?_ (fun k _ _ => kind_Step_q (lv k) k (DD p) ((DD p).map rrow) (bases 0 (DD p)) n s e E T ek e1 e2 ea et h1 t1 b1 h2 t2 b2))
  refine Tot.bind (items_tot _ _ _ _ _ _ _ _ (DD p) rrow rfl (fun _ => rfl) hg (by omega)) fun r hr => ?_
  subst hr
  refine Tot.t (decide_eq_true hb.1) (Tot.t (decide_eq_true (Int.le_refl _)) (Tot.both (roomy_of bytes5 (by omega)) isSl67 ?_))
  refine Tot.in0 (Tot.loop (H := fun k a q v w => kind_Step_l0 (lv k) k (DD p) ((DD p).map rrow) (bases 0 (DD p)) n s e E T ek e1 e2 ea et h1 t1 b1 h2 t2 b2 a v (DD p) ((DD p).map rrow) (bases 0 (DD p)) n s e E T ek e1 e2 ea et h1 t1 b1 h2 t2 b2 w) (n := (DD p).length) (fun i w => w = (sbits p n s e E T ek e1 e2 ea et h1 b1 h2 b2 i)) (by omega) (fun w hw => ?_) (fun i w hi hw next => ?_) _ 0 _ rfl (Nat.zero_le _) rfl)
  · subst hw
    refine Tot.step0 (fun k p_ q_ => kind_Step_l0_q (lv k) k (DD p) ((DD p).map rrow) (bases 0 (DD p)) n s e E T ek e1 e2 ea et h1 t1 b1 h2 t2 b2 p_ _ _ _ _ _ _ _ _ _ _ _ _ _ _ _ _ _ _ _ _ _) ?_
    rw [List.length_map]
    exact Tot.f (decide_eq_false (by omega)) (Tot.ret rfl)
  · subst hw
    have c := pc_of (n := n) (s := s) (e := e) (E := E) (T := T) (ek := ek) (e1 := e1) (e2 := e2) (ea := ea) (et := et) h hal k1 k2 hi
    have hgi := hg _ (getD_mem (d := []) hi)
    refine Tot.step0 (fun k p_ q_ => kind_Step_l0_q (lv k) k (DD p) ((DD p).map rrow) (bases 0 (DD p)) n s e E T ek e1 e2 ea et h1 t1 b1 h2 t2 b2 p_ _ _ _ _ _ _ _ _ _ _ _ _ _ _ _ _ _ _ _ _ _) ?_
    rw [List.length_map]
    refine Tot.t (decide_eq_true (by omega)) (Tot.bind (prog_tot c (tests_tot _ _ _ _ (holds_ex h hal (sb_len h i) (mach_T hgi)) (by rw [List.length_map]; have := (mach_bd hgi).2.1; omega))) fun r hr => ?_)
    subst hr
    exact next _ rfl
/-! what the law hands in -/
theorem node_tot (a : List C) (ha : SmR BB a) : Tot (fun k _ _ => (lv k).oriellaw20_node (gi a 0) (gs a 1) (gs a 2) (gr a 3) (gs a 4)) (fun _ => True) := by
  have hal : (gr a 3).length ≤ 1048576 := (ha.gr 3).1
  refine oriellaw20_node_up _ _ _ _ _ (Tot.congr ?_ (fun k _ _ => oriellaw20_node_q (lv k) k (gi a 0) (gs a 1) (gs a 2) (gr a 3) (gs a 4)))
  refine Tot.bind (right9_tot a ha) fun r _ => Tot.cond (fun _ => Tot.cond (fun _ => ?_) (fun _ => Tot.ret trivial)) (fun _ => Tot.ret trivial)
  refine Tot.bind (few_tot _ (by simp) (fun i => by
    cases i with
    | zero => exact hal
    | succ i => exact Nat.zero_le _)) fun r _ => Tot.ret trivial
theorem sort_tot (h : Good p) (n s e : Int) (E T : List (List C)) (x : Int) (hr tx : Bool) : Tot (fun k _ _ => (lv k).oriellaw20_sort (DD p) ((DD p).map rrow) (bases 0 (DD p)) n s e E T x hr tx) (fun r => r.1 = hr ∧ (hr = true → (r.2.2.size : Int) = sumn (DD p))) := by
  have hg := h.ded.good
  have hlen : (DD p).length ≤ 63 := Nat.le_trans h.ded.len h.len
  have hb := sumn_bd hg
  have it := ritems_tot (DD p) ((DD p).map rrow) (bases 0 (DD p)) n s e E T (DD p) rrow rfl (fun _ => rfl) hg (by omega)
  refine oriellaw20_sort_up _ _ _ _ _ _ _ _ _ _ _ (Tot.congr ?_ (fun k _ _ => oriellaw20_sort_q (lv k) k (DD p) ((DD p).map rrow) (bases 0 (DD p)) n s e E T x hr tx))
  refine Tot.cond (fun hh => Tot.ret ?_) (fun hh => ?_)
  · have : hr = false := by simpa using hh
    subst this
    exact ⟨rfl, fun h => by cases h⟩
  have hh : hr = true := by simpa using hh
  subst hh
  refine Tot.in0 (g := fun k p_ q_ => oriellaw20_sort_l0 (lv k) k (DD p) ((DD p).map rrow) (bases 0 (DD p)) n s e E T x true tx p_ ) ?_
  refine Tot.step0 (fun k p_ q_ => oriellaw20_sort_l0_q (lv k) k (DD p) ((DD p).map rrow) (bases 0 (DD p)) n s e E T x true tx p_ ) ?_
  refine Tot.bind it fun r hr => ?_
  subst hr
  refine Tot.cond (fun h0 => ?_) (fun h0 => Tot.ret ?_)
  · have h0 := of_decide_eq_true h0
    refine Tot.f (by rfl) ?_
    have N : ∃ N : Nat, sumn (DD p) = N := ⟨(sumn (DD p)).toNat, by omega⟩
    obtain ⟨N, hN⟩ := N
    refine Tot.loop (H := fun k q r v w => oriellaw20_sort_l1 (lv k) k (DD p) ((DD p).map rrow) (bases 0 (DD p)) n s e E T x true tx q v w) (n := N) (fun i w => w.length = i) (by omega) (fun w hw => ?_) (fun i w hi hw next => ?_) _ 1 _ rfl (by omega) rfl
    · refine Tot.step0 (fun k p_ q_ => oriellaw20_sort_l1_q (lv k) k (DD p) ((DD p).map rrow) (bases 0 (DD p)) n s e E T x true tx p_ _ _) ?_
      refine Tot.bind it fun r hr => ?_
      subst hr
      exact Tot.f (decide_eq_false (by omega)) (Tot.ret ⟨rfl, fun _ => by show ((rowBytes w).size : Int) = _; rw [size_rowBytes]; omega⟩)
    · refine Tot.step0 (fun k p_ q_ => oriellaw20_sort_l1_q (lv k) k (DD p) ((DD p).map rrow) (bases 0 (DD p)) n s e E T x true tx p_ _ _) ?_
      refine Tot.bind it fun r hr => ?_
      subst hr
      refine Tot.t (decide_eq_true (by omega)) (Tot.f (decide_eq_false ?_) (Tot.t (roomy_of bytes5 (by omega)) (next _ (by simp [hw]))))
      have : IntKind.u64.wrap (i : Int) = i := by
        unfold IntKind.wrap
        have h1 : IntKind.u64.signed = false := rfl
        have h2 : IntKind.u64.bits = 64 := rfl
        simp only [h1, h2]
        simp
        omega
      rw [this]
      have := Int.tmod_nonneg (a := (i : Int)) 64 (by omega)
      omega
  · have h0 := of_decide_eq_false h0
    exact ⟨rfl, fun _ => by show ((rowBytes []).size : Int) = _; rw [size_rowBytes]; show (0 : Int) = _; omega⟩
end
-- Two
/-- something of all filters within -/
def HL (L : List C → Prop) : Nat → Bool → List C → Prop
  | 0, _, _ => True
  | d + 1, true, a => (∀ i, i < (gr a 1).length → HL L d true ((gr a 1).getD i [])) ∧ (∀ i, i < (gr a 2).length → HL L d false ((gr a 2).getD i []))
  | d + 1, false, a => L a ∧ (∀ i, i < (gr a 4).length → HL L d false ((gr a 4).getD i [])) ∧ (∀ i, i < (gr a 5).length → HL L d true ((gr a 5).getD i []))
def N7 (f : List C) : Prop := gi f 0 = 7 → gs f 1 = ⟨#[]⟩ ∧ gs f 2 = ⟨#[]⟩
theorem right7_tots : ∀ d : Nat, d ≤ 100 →
    (∀ (a : List C), SmR BB a → Tot (fun k _ _ => (lv k).orielref12_path (gi a 0) (gr a 1) (gr a 2) d) (fun r => r = true → HL N7 d true a)) ∧
    (∀ (a : List C), SmR BB a → Tot (fun k _ _ => (lv k).orielref12_filter (gi a 0) (gs a 1) (gs a 2) (gs a 3) (gr a 4) (gr a 5) d) (fun r => r = true → HL N7 d false a)) := by
  intro d
  induction d with
  | zero =>
    intro _
    constructor
    · intro a _
      refine orielref12_path_up _ _ _ _ (Tot.congr ?_ (fun k _ _ => orielref12_path_q (lv k) k (gi a 0) (gr a 1) (gr a 2) ((0 : Nat) : Int)))
      exact Tot.t (by rfl) (Tot.ret (fun _ => trivial))
    · intro a _
      refine orielref12_filter_up _ _ _ _ _ _ _ (Tot.congr ?_ (fun k _ _ => orielref12_filter_q (lv k) k (gi a 0) (gs a 1) (gs a 2) (gs a 3) (gr a 4) (gr a 5) ((0 : Nat) : Int)))
      exact Tot.t (by rfl) (Tot.ret (fun _ => trivial))
  | succ d ih =>
    intro hd
    have ih := ih (by omega)
    have hw : IntKind.i64.wrap (((d + 1 : Nat) : Int) - 1) = d := by rw [wrap_id (by omega) (by omega)]; omega
    have hne : (((d + 1 : Nat) : Int) == (0 : Int)) = false := by rw [beq_eq_false_iff_ne]; omega
    constructor
    · intro a ha
      have hl1 : (gr a 1).length ≤ 1048576 := (ha.gr 1).1
      have no : Tot (fun _ _ _ => some false) (fun r => r = true → HL N7 (d + 1) true a) := Tot.ret (fun h => by cases h)
      refine orielref12_path_up _ _ _ _ (Tot.congr ?_ (fun k _ _ => orielref12_path_q (lv k) k (gi a 0) (gr a 1) (gr a 2) ((d + 1 : Nat) : Int)))
      have key : ∀ v1 v2 : Int, Tot (fun k x y => orielref12_path_l0 (lv k) k (gi a 0) (gr a 1) (gr a 2) ((d + 1 : Nat) : Int) v1 v2) (fun r => r = true → HL N7 (d + 1) true a) := by
        intro v1 v2
        refine Tot.congr ?_ (fun k p_ q_ => orielref12_path_l0_q (lv k) k (gi a 0) (gr a 1) (gr a 2) ((d + 1 : Nat) : Int) v1 v2 )
        refine Tot.cond (fun _ => no) (fun _ => Tot.cond (fun _ => no) (fun _ => Tot.cond (fun _ => no) (fun _ => Tot.cond (fun _ => no) (fun g4 => ?_))))
        have g4 := of_decide_eq_false g4
        refine Tot.in0 (Tot.loop (H := fun k x y v (_ : Unit) => orielref12_path_l1 (lv k) k (gi a 0) (gr a 1) (gr a 2) ((d + 1 : Nat) : Int) x v) (n := (gr a 1).length) (fun i _ => ∀ j, j < i → HL N7 d true ((gr a 1).getD j [])) (by omega) (fun _ h => ?_) (fun i _ hi h next => ?_) _ 0 () rfl (by omega) (fun j hj => by omega))
        · refine Tot.step0 (fun k p_ q_ => orielref12_path_l1_q (lv k) k (gi a 0) (gr a 1) (gr a 2) ((d + 1 : Nat) : Int) p_ _) ?_
          refine Tot.f (decide_eq_false (by omega)) (Tot.cond (fun ht0 => ?_) (fun ht0 => ?_))
          · have ht0 : (gr a 2).length = 0 := by simpa using ht0
            exact Tot.ret (fun _ => ⟨h, fun j hj => by omega⟩)
          · have ht0 : (gr a 2).length ≠ 0 := by simpa using ht0
            refine Tot.t (decide_eq_true (by omega)) ?_
            rw [hw]
            refine Tot.bind (ih.2 _ ((ha.gr 2).get 0)) fun r hr => Tot.ret (fun hb => ⟨h, fun j hj => ?_⟩)
            rw [show j = 0 by omega]
            exact hr hb
        · refine Tot.step0 (fun k p_ q_ => orielref12_path_l1_q (lv k) k (gi a 0) (gr a 1) (gr a 2) ((d + 1 : Nat) : Int) p_ _) ?_
          rw [hw, Int.toNat_natCast]
          repeat (refine Tot.t (decide_eq_true (by omega)) ?_)
          refine Tot.bind (ih.1 _ ((ha.gr 1).get i)) fun r hr1 => Tot.cond (fun _ => no) (fun hb => next () (fun j hj => ?_))
          have hb : r = true := by simpa using hb
          rcases Nat.lt_or_ge j i with h2 | h2
          · exact h j h2
          · rw [show j = i by omega]; exact hr1 hb
      repeat' first
        | exact key _ _
        | exact no
        | refine Tot.cond (fun _ => ?_) (fun _ => ?_)
    · intro a ha
      have hl1 : (gr a 4).length ≤ 1048576 := (ha.gr 4).1
      have no : Tot (fun _ _ _ => some false) (fun r => r = true → HL N7 (d + 1) false a) := Tot.ret (fun h => by cases h)
      refine orielref12_filter_up _ _ _ _ _ _ _ (Tot.congr ?_ (fun k _ _ => orielref12_filter_q (lv k) k (gi a 0) (gs a 1) (gs a 2) (gs a 3) (gr a 4) (gr a 5) ((d + 1 : Nat) : Int)))
      have l3 : N7 a → ∀ v1 v2 : Int, Tot (fun k x y => orielref12_filter_l3 (lv k) k (gi a 0) (gs a 1) (gs a 2) (gs a 3) (gr a 4) (gr a 5) ((d + 1 : Nat) : Int) v1 v2) (fun r => r = true → HL N7 (d + 1) false a) := by
        intro hN v1 v2
        refine Tot.congr ?_ (fun k p_ q_ => orielref12_filter_l3_q (lv k) k (gi a 0) (gs a 1) (gs a 2) (gs a 3) (gr a 4) (gr a 5) ((d + 1 : Nat) : Int) v1 v2 )
        refine Tot.cond (fun _ => no) (fun _ => Tot.cond (fun _ => no) (fun _ => Tot.cond (fun _ => no) (fun _ => Tot.cond (fun _ => no) (fun g4 => ?_))))
        have g4 := of_decide_eq_false g4
        refine Tot.in0 (Tot.loop (H := fun k x y v (_ : Unit) => orielref12_filter_l4 (lv k) k (gi a 0) (gs a 1) (gs a 2) (gs a 3) (gr a 4) (gr a 5) ((d + 1 : Nat) : Int) x v) (n := (gr a 4).length) (fun i _ => ∀ j, j < i → HL N7 d false ((gr a 4).getD j [])) (by omega) (fun _ h => ?_) (fun i _ hi h next => ?_) _ 0 () rfl (by omega) (fun j hj => by omega))
        · refine Tot.step0 (fun k p_ q_ => orielref12_filter_l4_q (lv k) k (gi a 0) (gs a 1) (gs a 2) (gs a 3) (gr a 4) (gr a 5) ((d + 1 : Nat) : Int) p_ _) ?_
          refine Tot.f (decide_eq_false (by omega)) (Tot.cond (fun ht0 => ?_) (fun ht0 => ?_))
          · have ht0 : (gr a 5).length = 0 := by simpa using ht0
            exact Tot.ret (fun _ => ⟨hN, h, fun j hj => by omega⟩)
          · have ht0 : (gr a 5).length ≠ 0 := by simpa using ht0
            refine Tot.t (decide_eq_true (by omega)) ?_
            rw [hw]
            refine Tot.bind (ih.1 _ ((ha.gr 5).get 0)) fun r hr => Tot.ret (fun hb => ⟨hN, h, fun j hj => ?_⟩)
            rw [show j = 0 by omega]
            exact hr hb
        · refine Tot.step0 (fun k p_ q_ => orielref12_filter_l4_q (lv k) k (gi a 0) (gs a 1) (gs a 2) (gs a 3) (gr a 4) (gr a 5) ((d + 1 : Nat) : Int) p_ _) ?_
          rw [hw, Int.toNat_natCast]
          repeat (refine Tot.t (decide_eq_true (by omega)) ?_)
          refine Tot.bind (ih.2 _ ((ha.gr 4).get i)) fun r hr1 => Tot.cond (fun _ => no) (fun hb => next () (fun j hj => ?_))
          have hb : r = true := by simpa using hb
          rcases Nat.lt_or_ge j i with h2 | h2
          · exact h j h2
          · rw [show j = i by omega]; exact hr1 hb
      have l2 : N7 a → ∀ v1 v2 : Int, Tot (fun k x y => orielref12_filter_l2 (lv k) k (gi a 0) (gs a 1) (gs a 2) (gs a 3) (gr a 4) (gr a 5) ((d + 1 : Nat) : Int) v1 v2) (fun r => r = true → HL N7 (d + 1) false a) := by
        intro hN v1 v2
        refine Tot.congr ?_ (fun k p_ q_ => orielref12_filter_l2_q (lv k) k (gi a 0) (gs a 1) (gs a 2) (gs a 3) (gr a 4) (gr a 5) ((d + 1 : Nat) : Int) v1 v2 )
        exact Tot.cond (fun _ => l3 hN _ _) (fun _ => Tot.cond (fun _ => l3 hN _ _) (fun _ => l3 hN _ _))
      have l1 : N7 a → ∀ v1, Tot (fun k x y => orielref12_filter_l1 (lv k) k (gi a 0) (gs a 1) (gs a 2) (gs a 3) (gr a 4) (gr a 5) ((d + 1 : Nat) : Int) v1) (fun r => r = true → HL N7 (d + 1) false a) := fun hN v1 => by
        refine Tot.congr ?_ (fun k p_ q_ => orielref12_filter_l1_q (lv k) k (gi a 0) (gs a 1) (gs a 2) (gs a 3) (gr a 4) (gr a 5) ((d + 1 : Nat) : Int) v1 )
        repeat' first
          | exact no
          | exact l2 hN _ _
          | refine Tot.cond (fun _ => ?_) (fun _ => ?_)
          | refine Tot.bind (right4_tot _ (ha.gs 3)) fun _ _ => ?_
      have l0 : ∀ v1 v2, (gi a 0 = 7 → v1 = false) → Tot (fun k x y => orielref12_filter_l0 (lv k) k (gi a 0) (gs a 1) (gs a 2) (gs a 3) (gr a 4) (gr a 5) ((d + 1 : Nat) : Int) v1 v2) (fun r => r = true → HL N7 (d + 1) false a) := fun v1 v2 h7 => by
        refine Tot.congr ?_ (fun k p_ q_ => orielref12_filter_l0_q (lv k) k (gi a 0) (gs a 1) (gs a 2) (gs a 3) (gr a 4) (gr a 5) ((d + 1 : Nat) : Int) v1 v2 )
        refine Tot.cond (fun _ => no) (fun hc => ?_)
        have hN : N7 a := fun e => by
          rw [h7 e] at hc
          have : ((gs a 1 == (⟨#[]⟩ : ByteArray)) && ((gs a 2 == (⟨#[]⟩ : ByteArray)) && true)) = true := by
            revert hc
            cases ((gs a 1 == (⟨#[]⟩ : ByteArray)) && ((gs a 2 == (⟨#[]⟩ : ByteArray)) && true)) <;> simp
          exact name_eq.1 this
        exact Tot.cond (fun _ => Tot.bind (named_tot _ _ (ha.gs 1) (ha.gs 2)) fun r _ => Tot.cond (fun _ => no) (fun _ => l1 hN _)) (fun _ => l1 hN _)
      refine Tot.f hne (Tot.cond (fun _ => no) (fun _ => Tot.cond (fun _ => no) (fun _ => Tot.cond (fun _ => Tot.cond (fun h6 => l0 _ _ fun e => ?_) (fun _ => l0 _ _ fun e => ?_)) (fun _ => Tot.cond (fun _ => l0 _ _ fun e => rfl) (fun _ => l0 _ _ fun e => rfl)))))
      · exact decide_eq_false (by omega)
      · exact decide_eq_false (by omega)
theorem right7_tot (a : List C) (ha : SmR BB a) : Tot (fun k _ _ => (lv k).orielref12_Right (gi a 0) (gr a 1) (gr a 2)) (fun r => r = true → HL N7 16 true a) := by
  refine orielref12_Right_up _ _ _ (Tot.congr ?_ (fun k _ _ => orielref12_Right_q (lv k) k (gi a 0) (gr a 1) (gr a 2)))
  refine Tot.bind (R := SizeQ true a 64) (orielref12_Size_up _ _ _ (Tot.congr (Tot.bind ((size_tot _).1 a 64 (Nat.lt_succ_self _) ha (by omega) (by omega)) fun r hr => Tot.ret hr) (fun k _ _ => orielref12_Size_q (lv k) k (gi a 0) (gr a 1) (gr a 2)))) fun r hr => ?_
  refine Tot.cond (fun h => ?_) (fun _ => Tot.ret (fun h => by cases h))
  exact Tot.bind ((right7_tots 16 (by omega)).1 a ha) fun b hb => Tot.ret hb
theorem Tot.and {α : Type} {g : Nat → Nat → Nat → Option α} {Q Q' : α → Prop} (h : Tot g Q) (h' : Tot g Q') : Tot g (fun r => Q r ∧ Q' r) := by
  obtain ⟨r, h1, N, h2⟩ := h
  obtain ⟨r', h3, M, h4⟩ := h'
  have e1 := h2 (max N M) (max N M) (max N M) (by omega) (by omega) (by omega)
  rw [h4 (max N M) (max N M) (max N M) (by omega) (by omega) (by omega)] at e1
  obtain rfl : r' = r := Option.some.inj e1
  exact ⟨r', ⟨h1, h3⟩, N, h2⟩
theorem Tot.uniq {α : Type} {g : Nat → Nat → Nat → Option α} {x y : α} (h : Tot g (fun r => r = x)) (h' : Tot g (fun r => r = y)) : x = y := by
  obtain ⟨r, ⟨h1, h2⟩, _⟩ := Tot.and h h'
  rw [← h1, h2]
theorem HL.up {L : List C → Prop} : ∀ {d : Nat} {k : Bool} {a : List C}, ok d k a → HL L d k a → HL L (d + 1) k a := by
  intro d
  induction d with
  | zero => intro k a h; exact h.elim
  | succ d ih =>
    intro k a ha h
    cases k with
    | true =>
      obtain ⟨_, _, _, _, _, _, _, _, h9, h10⟩ := ha
      exact ⟨fun i hi => ih (h9 i hi) (h.1 i hi), fun i hi => ih (h10 i hi) (h.2 i hi)⟩
    | false =>
      obtain ⟨_, _, _, _, _, _, _, _, h9, h10⟩ := ha
      exact ⟨h.1, fun i hi => ih (h9 i hi) (h.2.1 i hi), fun i hi => ih (h10 i hi) (h.2.2 i hi)⟩
theorem HL.down {L : List C → Prop} : ∀ {d : Nat} {k : Bool} {a : List C}, HL L (d + 1) k a → HL L d k a := by
  intro d
  induction d with
  | zero => intro k a _; exact trivial
  | succ d ih =>
    intro k a h
    cases k with
    | true => exact ⟨fun i hi => ih (h.1 i hi), fun i hi => ih (h.2 i hi)⟩
    | false => exact ⟨h.1, fun i hi => ih (h.2.1 i hi), fun i hi => ih (h.2.2 i hi)⟩
section
variable {D B K E T ea ga bits : List (List C)} {n s e ek gk : Int} {e1 e2 et g1 g2 gt : ByteArray}
theorem rl_tot {f : List C} (hl4 : (gr f 4).length ≤ 1048576) {bs : Nat → Bool} (hbs : ∀ i, i < (gr f 4).length → Tot (fun k _ _ => (lv k).orielref18_Holds D B K n s e E T (gi ((gr f 4).getD i []) 0) (gs ((gr f 4).getD i []) 1) (gs ((gr f 4).getD i []) 2) (gs ((gr f 4).getD i []) 3) (gr ((gr f 4).getD i []) 4) (gr ((gr f 4).getD i []) 5) ek e1 e2 ea et bits) (fun r => r = bs i)) (op : Int) : Tot (fun k _ _ => orielref18_Holds_l0 (lv k) k D B K n s e E T op (gs f 1) (gs f 2) (gs f 3) (gr f 4) (gr f 5) ek e1 e2 ea et bits k true false 0) (fun r => r = cond (op == 9) (decide (∀ j, j < (gr f 4).length → bs j = true)) (cond (op == 10) (decide (∃ j, j < (gr f 4).length ∧ bs j = true)) false)) := by
  refine Tot.in0 (Tot.loop (H := fun k p q v (w : Bool × Bool) => orielref18_Holds_l0 (lv k) k D B K n s e E T op (gs f 1) (gs f 2) (gs f 3) (gr f 4) (gr f 5) ek e1 e2 ea et bits p w.1 w.2 v) (n := (gr f 4).length) (fun i w => w.1 = decide (∀ j, j < i → bs j = true) ∧ w.2 = decide (∃ j, j < i ∧ bs j = true)) (by omega) (fun w hw => ?_) (fun i w hi hw next => ?_) _ 0 (true, false) rfl (by omega) ⟨(decide_eq_true (fun j hj => by omega)).symm, (decide_eq_false (fun ⟨j, hj, _⟩ => by omega)).symm⟩)
  · refine Tot.step0 (fun k p_ q_ => orielref18_Holds_l0_q (lv k) k D B K n s e E T op (gs f 1) (gs f 2) (gs f 3) (gr f 4) (gr f 5) ek e1 e2 ea et bits p_ _ _ _) ?_
    obtain ⟨w1, w2⟩ := w
    obtain ⟨hw1, hw2⟩ := hw
    simp only at hw1 hw2
    rw [← hw1, ← hw2]
    refine Tot.f (decide_eq_false (by omega)) (Tot.cond (fun g9 => ?_) (fun g9 => ?_))
    · rw [g9]
      refine Tot.cond (fun g => Tot.ret (by have g : w1 = true := g; rw [g]; rfl)) (fun g => ?_)
      have g : w1 = false := g
      have : op = 9 := by simpa using g9
      subst this
      exact Tot.f (by rfl) (Tot.ret (by rw [g]; rfl))
    · rw [g9]
      exact Tot.cond (fun g => Tot.ret (by rw [g]; rfl)) (fun g => Tot.ret (by rw [g]; rfl))
  · refine Tot.step0 (fun k p_ q_ => orielref18_Holds_l0_q (lv k) k D B K n s e E T op (gs f 1) (gs f 2) (gs f 3) (gr f 4) (gr f 5) ek e1 e2 ea et bits p_ _ _ _) ?_
    obtain ⟨w1, w2⟩ := w
    obtain ⟨hw1, hw2⟩ := hw
    simp only at hw1 hw2
    rw [Int.toNat_natCast]
    repeat (refine Tot.t (decide_eq_true (by omega)) ?_)
    refine Tot.bind (hbs i hi) fun r hr => ?_
    subst hr
    have e1 : (w1 && bs i) = decide (∀ j, j < i + 1 → bs j = true) := by
      rw [hw1]
      rw [Bool.eq_iff_iff, Bool.and_eq_true, decide_eq_true_eq, decide_eq_true_eq]
      exact ⟨fun h j hj => by
        rcases Nat.lt_or_ge j i with g | g
        · exact h.1 j g
        · rw [show j = i by omega]; exact h.2, fun h => ⟨fun j hj => h j (by omega), h i (by omega)⟩⟩
    have e2 : (w2 || bs i) = decide (∃ j, j < i + 1 ∧ bs j = true) := by
      rw [hw2]
      rw [Bool.eq_iff_iff, Bool.or_eq_true, decide_eq_true_eq, decide_eq_true_eq]
      exact ⟨fun h => by
        rcases h with ⟨j, a, b⟩ | h
        · exact ⟨j, by omega, b⟩
        · exact ⟨i, by omega, h⟩, fun ⟨j, a, b⟩ => by
        rcases Nat.lt_or_ge j i with g | g
        · exact .inl ⟨j, g, b⟩
        · rw [show j = i by omega] at b; exact .inr b⟩
    have nx := next (w1 && bs i, w2 || bs i) ⟨e1, e2⟩
    refine Tot.cond (fun g1 => Tot.cond (fun g2 => ?_) (fun g2 => ?_)) (fun g1 => Tot.cond (fun g2 => ?_) (fun g2 => ?_)) <;> (cases w1 <;> cases w2 <;> first | (cases g1; done) | (cases g2; done) | (simpa using nx))
theorem ra_tot (hc : Ctx D B K ea bits) {f : List C} {r : Int} (hr : Af ea (gs f 1) (gs f 2) r) (op : Int) (hop : 5 ≤ op) : Tot (fun k _ _ => orielref18_Holds_l1 (lv k) k D B K n s e E T op (gs f 1) (gs f 2) (gs f 3) (gr f 4) (gr f 5) ek e1 e2 ea et bits k 0) (fun x => x = if r = -1 then op == 2 else cond (op == 5) true ((av ea r).toList == (gs f 3).toList)) := by
  have hal := hc.al
  refine Tot.in0 (Tot.loop (H := fun k p q v (_ : Unit) => orielref18_Holds_l1 (lv k) k D B K n s e E T op (gs f 1) (gs f 2) (gs f 3) (gr f 4) (gr f 5) ek e1 e2 ea et bits p v) (n := ea.length) (fun i _ => ∀ j, j < i → ¬ (gs (ea.getD j []) 0 = gs f 1 ∧ gs (ea.getD j []) 1 = gs f 2)) (by omega) (fun _ hh => ?_) (fun i _ hi hh next => ?_) _ 0 () rfl (by omega) (fun j hj => by omega))
  · refine Tot.step0 (fun k p_ q_ => orielref18_Holds_l1_q (lv k) k D B K n s e E T op (gs f 1) (gs f 2) (gs f 3) (gr f 4) (gr f 5) ek e1 e2 ea et bits p_ _) ?_
    have : r = -1 := hr.uniq (.inl ⟨rfl, hh⟩)
    rw [if_pos this]
    exact Tot.f (decide_eq_false (by omega)) (Tot.ret rfl)
  · refine Tot.step0 (fun k p_ q_ => orielref18_Holds_l1_q (lv k) k D B K n s e E T op (gs f 1) (gs f 2) (gs f 3) (gr f 4) (gr f 5) ek e1 e2 ea et bits p_ _) ?_
    rw [Int.toNat_natCast]
    repeat (refine Tot.t (decide_eq_true (by omega)) ?_)
    refine Tot.cond (fun hcc => ?_) (fun hcc => next () (fun j hj => ?_))
    · have : r = i := hr.uniq (.inr ⟨i, rfl, hi, name_eq.1 hcc, hh⟩)
      subst this
      unfold av
      rw [if_neg (by omega), if_neg (by omega), Int.toNat_natCast]
      refine Tot.cond (fun g => Tot.ret (by rw [g]; rfl)) (fun g => ?_)
      repeat (refine Tot.t (decide_eq_true (by omega)) ?_)
      exact Tot.ret (by rw [g]; rfl)
    · rcases Nat.lt_or_ge j i with g | g
      · exact hh j g
      · rw [show j = i by omega]
        intro hb
        rw [name_eq.2 hb] at hcc
        cases hcc
open Classical in
noncomputable def rlv (op : Int) (bs : Nat → Bool) (n : Nat) : Bool := cond (op == 9) (decide (∀ j, j < n → bs j = true)) (cond (op == 10) (decide (∃ j, j < n ∧ bs j = true)) false)
open Classical in
theorem rl_v {f : List C} (hl4 : (gr f 4).length ≤ 1048576) {bs : Nat → Bool} (hbs : ∀ i, i < (gr f 4).length → Tot (fun k _ _ => (lv k).orielref18_Holds D B K n s e E T (gi ((gr f 4).getD i []) 0) (gs ((gr f 4).getD i []) 1) (gs ((gr f 4).getD i []) 2) (gs ((gr f 4).getD i []) 3) (gr ((gr f 4).getD i []) 4) (gr ((gr f 4).getD i []) 5) ek e1 e2 ea et bits) (fun r => r = bs i)) (op : Int) : Tot (fun k _ _ => orielref18_Holds_l0 (lv k) k D B K n s e E T op (gs f 1) (gs f 2) (gs f 3) (gr f 4) (gr f 5) ek e1 e2 ea et bits k true false 0) (fun r => r = rlv op bs (gr f 4).length) := (rl_tot hl4 hbs op).mono fun r hr => by
  rw [hr]
  unfold rlv
  congr
def Lk (ek : Int) (e1 e2 : ByteArray) (ea : List (List C)) (et : ByteArray) (g1 g2 : ByteArray) (ga : List (List C)) (gt : ByteArray) (f : List C) : Prop :=
  (gi f 0 = 4 → ek = 1 → ((e1 = gs f 1 ∧ e2 = gs f 2) ↔ (g1 = gs f 1 ∧ g2 = gs f 2))) ∧
  (gi f 0 = 7 → ek ≠ 1 → (et = gs f 3 ↔ gt = gs f 3)) ∧
  (gi f 0 = 5 ∨ gi f 0 = 6 → ek = 1 → ∃ r r', Af ea (gs f 1) (gs f 2) r ∧ Af ga (gs f 1) (gs f 2) r' ∧ (r = -1 ↔ r' = -1) ∧ (gi f 0 = 6 → r ≠ -1 → (av ea r = gs f 3 ↔ av ga r' = gs f 3)))
theorem leafv (hc : Ctx D B K ea bits) {f : List C} (h1 : 1 ≤ gi f 0) (h7 : gi f 0 ≤ 7) {r : Int} (hr : Af ea (gs f 1) (gs f 2) r) : Tot (fun k _ _ => (lv k).orielref18_Holds D B K n s e E T (gi f 0) (gs f 1) (gs f 2) (gs f 3) (gr f 4) (gr f 5) ek e1 e2 ea et bits) (fun x => x = if gi f 0 = 1 then true else if gi f 0 = 2 then ek == 1 else if gi f 0 = 3 then !(ek == 1) else if gi f 0 = 4 then (ek == 1) && ((e1 == gs f 1) && ((e2 == gs f 2) && true)) else if gi f 0 = 5 then ab ek r else if gi f 0 = 6 then ab ek r && ((av ea r).toList == (gs f 3).toList) else !(ek == 1) && (et.toList == (gs f 3).toList)) := by
  have hop : gi f 0 = 1 ∨ gi f 0 = 2 ∨ gi f 0 = 3 ∨ gi f 0 = 4 ∨ gi f 0 = 5 ∨ gi f 0 = 6 ∨ gi f 0 = 7 := by omega
  refine orielref18_Holds_up _ _ _ _ _ _ _ _ _ _ _ _ _ _ _ _ _ _ _ _ (Tot.congr ?_ (fun k _ _ => orielref18_Holds_q (lv k) k D B K n s e E T (gi f 0) (gs f 1) (gs f 2) (gs f 3) (gr f 4) (gr f 5) ek e1 e2 ea et bits))
  rcases hop with e_ | e_ | e_ | e_ | e_ | e_ | e_ <;> rw [e_] <;> simp only [reduceIte, Int.reduceEq]
  · repeat (first | refine Tot.t (by rfl) ?_ | refine Tot.f (by rfl) ?_)
    exact Tot.ret rfl
  · repeat (first | refine Tot.t (by rfl) ?_ | refine Tot.f (by rfl) ?_)
    refine Tot.cond (fun g => Tot.ret ?_) (fun g => ?_)
    · have g : (ek == 1) = false := by simpa using g
      exact g.symm
    · have g : (ek == 1) = true := by simpa using g
      rw [g]
      repeat (first | refine Tot.t (by rfl) ?_ | refine Tot.f (by rfl) ?_)
      refine Tot.in0 (g := fun k p_ q_ => orielref18_Holds_l1 (lv k) k D B K n s e E T 2 (gs f 1) (gs f 2) (gs f 3) (gr f 4) (gr f 5) ek e1 e2 ea et bits p_ 0) ?_
      refine Tot.step0 (fun k p_ q_ => orielref18_Holds_l1_q (lv k) k D B K n s e E T 2 (gs f 1) (gs f 2) (gs f 3) (gr f 4) (gr f 5) ek e1 e2 ea et bits p_ _) ?_
      exact Tot.cond (fun _ => Tot.f (by rfl) (Tot.ret rfl)) (fun _ => Tot.ret rfl)
  · repeat (first | refine Tot.t (by rfl) ?_ | refine Tot.f (by rfl) ?_)
    refine Tot.cond (fun g => ?_) (fun g => Tot.ret g.symm)
    rw [g]
    repeat (first | refine Tot.t (by rfl) ?_ | refine Tot.f (by rfl) ?_)
    exact Tot.ret rfl
  · repeat (first | refine Tot.t (by rfl) ?_ | refine Tot.f (by rfl) ?_)
    refine Tot.cond (fun g => Tot.ret ?_) (fun g => ?_)
    · have g : (ek == 1) = false := by simpa using g
      rw [g]; rfl
    · have g : (ek == 1) = true := by simpa using g
      rw [g]
      repeat (first | refine Tot.t (by rfl) ?_ | refine Tot.f (by rfl) ?_)
      exact Tot.ret rfl
  · repeat (first | refine Tot.t (by rfl) ?_ | refine Tot.f (by rfl) ?_)
    refine Tot.cond (fun g => Tot.ret ?_) (fun g => ?_)
    · have g : (ek == 1) = false := by simpa using g
      unfold ab
      split
      · rfl
      · exact g.symm
    · have g : (ek == 1) = true := by simpa using g
      repeat (first | refine Tot.t (by rfl) ?_ | refine Tot.f (by rfl) ?_)
      refine (ra_tot hc hr 5 (by omega)).mono fun x hx => ?_
      rw [hx]
      unfold ab
      rw [g]
      split <;> rfl
  · repeat (first | refine Tot.t (by rfl) ?_ | refine Tot.f (by rfl) ?_)
    refine Tot.cond (fun g => Tot.ret ?_) (fun g => ?_)
    · have g : (ek == 1) = false := by simpa using g
      unfold ab
      rw [g]
      split <;> rfl
    · have g : (ek == 1) = true := by simpa using g
      repeat (first | refine Tot.t (by rfl) ?_ | refine Tot.f (by rfl) ?_)
      refine (ra_tot hc hr 6 (by omega)).mono fun x hx => ?_
      rw [hx]
      unfold ab
      rw [g]
      split <;> rfl
  · repeat (first | refine Tot.t (by rfl) ?_ | refine Tot.f (by rfl) ?_)
    refine Tot.cond (fun g => ?_) (fun g => Tot.ret (by rw [g]; rfl))
    rw [g]
    repeat (first | refine Tot.t (by rfl) ?_ | refine Tot.f (by rfl) ?_)
    exact Tot.ret rfl
theorem two : ∀ d, d ≤ 16 → Ctx D B K ea bits → Ctx D B K ga bits → ∀ (f : List C), ok d false f → SmR BB f → HL (Lk ek e1 e2 ea et g1 g2 ga gt) d false f → ∃ b, Tot (fun k _ _ => (lv k).orielref18_Holds D B K n s e E T (gi f 0) (gs f 1) (gs f 2) (gs f 3) (gr f 4) (gr f 5) ek e1 e2 ea et bits) (fun r => r = b) ∧ Tot (fun k _ _ => (lv k).orielref18_Holds D B K n s e E T (gi f 0) (gs f 1) (gs f 2) (gs f 3) (gr f 4) (gr f 5) ek g1 g2 ga gt bits) (fun r => r = b) := by
  intro d
  induction d with
  | zero => intro _ _ _ f h; exact h.elim
  | succ d ih =>
    intro hd hc hc' f hf hs hL
    have ih := ih (by omega) hc hc'
    obtain ⟨h1, h11, h8, h64, h910, h0, h511, h51, h9, h10⟩ := hf
    have hl4 : (gr f 4).length ≤ 1048576 := (hs.gr 4).1
    by_cases h7 : gi f 0 ≤ 7
    · obtain ⟨r0, hr0⟩ : ∃ r, Af ea (gs f 1) (gs f 2) r := Fst.ex _ _
      obtain ⟨r1, hr1⟩ : ∃ r, Af ga (gs f 1) (gs f 2) r := Fst.ex _ _
      refine ⟨_, leafv hc h1 h7 hr0, (leafv hc' h1 h7 hr1).mono fun x hx => hx.trans ?_⟩
      obtain ⟨l4, l7, l56⟩ := hL.1
      split
      · rfl
      split
      · rfl
      split
      · rfl
      split
      · rename_i e4
        by_cases hk : ek = 1
        · have := l4 e4 hk
          rw [show (ek == 1) = true by rw [hk]; rfl, Bool.true_and, Bool.true_and, Bool.eq_iff_iff, name_eq, name_eq]
          exact this.symm
        · rw [beq_false_of_ne hk]; rfl
      by_cases hk : ek = 1
      · split
        · rename_i e5
          obtain ⟨r, r', a1, a2, a3, a4⟩ := l56 (.inl e5) hk
          obtain rfl := Fst.uniq a1 hr0
          obtain rfl := Fst.uniq a2 hr1
          unfold ab
          by_cases hm : r = -1
          · rw [if_pos (a3.1 hm), if_pos hm]
          · rw [if_neg (fun h => hm (a3.2 h)), if_neg hm]
        split
        · rename_i e6
          obtain ⟨r, r', a1, a2, a3, a4⟩ := l56 (.inr e6) hk
          obtain rfl := Fst.uniq a1 hr0
          obtain rfl := Fst.uniq a2 hr1
          unfold ab
          by_cases hm : r = -1
          · rw [if_pos (a3.1 hm), if_pos hm]; rfl
          · rw [if_neg (fun h => hm (a3.2 h)), if_neg hm, Bool.eq_iff_iff, Bool.and_eq_true, Bool.and_eq_true, str_eq, str_eq]
            exact ⟨fun h => ⟨h.1, (a4 e6 hm).2 h.2⟩, fun h => ⟨h.1, (a4 e6 hm).1 h.2⟩⟩
        · rw [show (ek == 1) = true by rw [hk]; rfl]; rfl
      · split
        · unfold ab
          rw [beq_false_of_ne hk]
          split <;> split <;> rfl
        split
        · unfold ab
          rw [beq_false_of_ne hk]
          split <;> split <;> rfl
        · have := l7 (by omega) hk
          rw [Bool.eq_iff_iff, Bool.and_eq_true, Bool.and_eq_true, str_eq, str_eq]
          exact ⟨fun h => ⟨h.1, this.2 h.2⟩, fun h => ⟨h.1, this.1 h.2⟩⟩
    obtain ⟨bs, hbs⟩ : ∃ bs : Nat → Bool, ∀ i, i < (gr f 4).length → Tot (fun k _ _ => (lv k).orielref18_Holds D B K n s e E T (gi ((gr f 4).getD i []) 0) (gs ((gr f 4).getD i []) 1) (gs ((gr f 4).getD i []) 2) (gs ((gr f 4).getD i []) 3) (gr ((gr f 4).getD i []) 4) (gr ((gr f 4).getD i []) 5) ek e1 e2 ea et bits) (fun r => r = bs i) ∧ Tot (fun k _ _ => (lv k).orielref18_Holds D B K n s e E T (gi ((gr f 4).getD i []) 0) (gs ((gr f 4).getD i []) 1) (gs ((gr f 4).getD i []) 2) (gs ((gr f 4).getD i []) 3) (gr ((gr f 4).getD i []) 4) (gr ((gr f 4).getD i []) 5) ek g1 g2 ga gt bits) (fun r => r = bs i) := by
      have : ∀ i, ∃ b, i < (gr f 4).length → Tot (fun k _ _ => (lv k).orielref18_Holds D B K n s e E T (gi ((gr f 4).getD i []) 0) (gs ((gr f 4).getD i []) 1) (gs ((gr f 4).getD i []) 2) (gs ((gr f 4).getD i []) 3) (gr ((gr f 4).getD i []) 4) (gr ((gr f 4).getD i []) 5) ek e1 e2 ea et bits) (fun r => r = b) ∧ Tot (fun k _ _ => (lv k).orielref18_Holds D B K n s e E T (gi ((gr f 4).getD i []) 0) (gs ((gr f 4).getD i []) 1) (gs ((gr f 4).getD i []) 2) (gs ((gr f 4).getD i []) 3) (gr ((gr f 4).getD i []) 4) (gr ((gr f 4).getD i []) 5) ek g1 g2 ga gt bits) (fun r => r = b) := fun i => by
        by_cases hi : i < (gr f 4).length
        · obtain ⟨b, hb⟩ := ih _ (h9 i hi) ((hs.gr 4).get i) (hL.2.1 i hi)
          exact ⟨b, fun _ => hb⟩
        · exact ⟨false, fun h => absurd h hi⟩
      exact Classical.axiomOfChoice this
    have qe : ∀ {Q}, Tot _ Q → Tot (fun k _ _ => (lv k).orielref18_Holds D B K n s e E T (gi f 0) (gs f 1) (gs f 2) (gs f 3) (gr f 4) (gr f 5) ek e1 e2 ea et bits) Q := fun h => orielref18_Holds_up _ _ _ _ _ _ _ _ _ _ _ _ _ _ _ _ _ _ _ _ (Tot.congr h (fun k _ _ => orielref18_Holds_q (lv k) k D B K n s e E T (gi f 0) (gs f 1) (gs f 2) (gs f 3) (gr f 4) (gr f 5) ek e1 e2 ea et bits))
    have qg : ∀ {Q}, Tot _ Q → Tot (fun k _ _ => (lv k).orielref18_Holds D B K n s e E T (gi f 0) (gs f 1) (gs f 2) (gs f 3) (gr f 4) (gr f 5) ek g1 g2 ga gt bits) Q := fun h => orielref18_Holds_up _ _ _ _ _ _ _ _ _ _ _ _ _ _ _ _ _ _ _ _ (Tot.congr h (fun k _ _ => orielref18_Holds_q (lv k) k D B K n s e E T (gi f 0) (gs f 1) (gs f 2) (gs f 3) (gr f 4) (gr f 5) ek g1 g2 ga gt bits))
    have hop : gi f 0 = 8 ∨ gi f 0 = 9 ∨ gi f 0 = 10 ∨ gi f 0 = 11 := by omega
    rcases hop with e_ | e_ | e_ | e_
    · have hl := h8 e_
      refine ⟨!(bs 0), qe ?_, qg ?_⟩ <;> rw [e_]
      · repeat (first | refine Tot.t (by rfl) ?_ | refine Tot.f (by rfl) ?_)
        refine Tot.t (decide_eq_true (by omega)) ?_
        exact Tot.bind (hbs 0 (by omega)).1 fun x hx => Tot.ret (by rw [hx])
      · repeat (first | refine Tot.t (by rfl) ?_ | refine Tot.f (by rfl) ?_)
        refine Tot.t (decide_eq_true (by omega)) ?_
        exact Tot.bind (hbs 0 (by omega)).2 fun x hx => Tot.ret (by rw [hx])
    · refine ⟨rlv 9 bs (gr f 4).length, qe ?_, qg ?_⟩ <;> rw [e_]
      · repeat (first | refine Tot.t (by rfl) ?_ | refine Tot.f (by rfl) ?_)
        exact rl_v hl4 (fun i hi => (hbs i hi).1) 9
      · repeat (first | refine Tot.t (by rfl) ?_ | refine Tot.f (by rfl) ?_)
        exact rl_v hl4 (fun i hi => (hbs i hi).2) 9
    · refine ⟨rlv 10 bs (gr f 4).length, qe ?_, qg ?_⟩ <;> rw [e_]
      · repeat (first | refine Tot.t (by rfl) ?_ | refine Tot.f (by rfl) ?_)
        exact rl_v hl4 (fun i hi => (hbs i hi).1) 10
      · repeat (first | refine Tot.t (by rfl) ?_ | refine Tot.f (by rfl) ?_)
        exact rl_v hl4 (fun i hi => (hbs i hi).2) 10
    · have hl := h511.1 e_
      obtain ⟨b, _, hb2⟩ := leads2 (n := n) (s := s) (e := e) (E := E) (T := T) (ek := ek) (e1 := e1) (e2 := e2) (et := et) hc ((gr f 5).getD 0 []) ((hs.gr 5).get 0)
      refine ⟨b, qe ?_, qg ?_⟩ <;> rw [e_]
      · repeat (first | refine Tot.t (by rfl) ?_ | refine Tot.f (by rfl) ?_)
        exact Tot.t (decide_eq_true (by omega)) hb2
      · repeat (first | refine Tot.t (by rfl) ?_ | refine Tot.f (by rfl) ?_)
        exact Tot.t (decide_eq_true (by omega)) hb2
end
-- Fil
def RF (k : Bool) (a : List C) (d : Nat) : Prop := match k with
  | true => Tot (fun k _ _ => (lv k).orielref12_Filters (gi a 0) (gr a 1) (gr a 2)) (fun r => r = fl d true a)
  | false => Tot (fun k _ _ => (lv k).orielref12_within (gi a 0) (gs a 1) (gs a 2) (gs a 3) (gr a 4) (gr a 5)) (fun r => r = fl d false a)
theorem rfilters : ∀ d, d ≤ 16 → ∀ (k : Bool) (a : List C), ok d k a → (∀ e, sz e k a ≤ 64) → SmR BB a → RF k a d := by
  intro d
  induction d with
  | zero => intro _ k a h; exact h.elim
  | succ d ih =>
    intro hd k a ha hz hs
    have ih := @ih (by omega)
    have hlen := fl_len (d + 1) k a
    have hz' := hz (d + 1)
    have ha' := ha
    cases k with
    | true =>
      obtain ⟨_, _, _, _, _, _, _, _, h9, h10⟩ := ha'
      have e0 : fl (d + 1) true a = (gr a 1).flatMap (fl d true) ++ (gr a 2).flatMap (fl d false) := rfl
      show Tot _ _
      rw [e0] at hlen ⊢
      rw [List.length_append] at hlen
      have hl1 : (gr a 1).length ≤ 1048576 := (hs.gr 1).1
      have hl2 : (gr a 2).length ≤ 1048576 := (hs.gr 2).1
      refine orielref12_Filters_up _ _ _ (Tot.congr ?_ (fun k _ _ => orielref12_Filters_q (lv k) k (gi a 0) (gr a 1) (gr a 2)))
      have l3 : ∀ (i : Nat) s, i ≤ (gr a 2).length → s = (gr a 1).flatMap (fl d true) ++ ((gr a 2).take i).flatMap (fl d false) → Tot (fun k p q => orielref12_Filters_l3 (lv k) k (gi a 0) (gr a 1) (gr a 2) p (i : Int) s) (fun r => r = (gr a 1).flatMap (fl d true) ++ (gr a 2).flatMap (fl d false)) := fun i s hi hs' =>
        Tot.loop (H := fun k p q v s => orielref12_Filters_l3 (lv k) k (gi a 0) (gr a 1) (gr a 2) p v s) (n := (gr a 2).length) (fun i s => s = (gr a 1).flatMap (fl d true) ++ ((gr a 2).take i).flatMap (fl d false)) (by omega) (fun s hs' => by
          subst hs'
          refine Tot.step0 (fun k p_ q_ => orielref12_Filters_l3_q (lv k) k (gi a 0) (gr a 1) (gr a 2) p_ _ _) ?_
          rw [List.take_length]
          exact Tot.f (decide_eq_false (by omega)) (Tot.ret rfl)) (fun i s hi hs' next => by
          subst hs'
          refine Tot.step0 (fun k p_ q_ => orielref12_Filters_l3_q (lv k) k (gi a 0) (gr a 1) (gr a 2) p_ _ _) ?_
          rw [Int.toNat_natCast]
          repeat (refine Tot.t (decide_eq_true (by omega)) ?_)
          have q3 := take_flat1 (f := fl d false) hi
          refine Tot.bind (ih false _ (h10 i hi) (sub_sz hz 2 false (by simp) hi) ((hs.gr 2).get i)) fun r hr => ?_
          subst hr
          exact Tot.t (roomy_of bytes66 (by rw [List.length_append]; omega)) (next _ (by rw [flat_take hi, List.append_assoc]))) _ i s rfl hi hs'
      have l2 : ∀ (i : Nat) s, i ≤ (gr a 1).length → s = ((gr a 1).take i).flatMap (fl d true) → Tot (fun k p q => orielref12_Filters_l2 (lv k) k (gi a 0) (gr a 1) (gr a 2) p (i : Int) s) (fun r => r = (gr a 1).flatMap (fl d true) ++ (gr a 2).flatMap (fl d false)) := fun i s hi hs' =>
        Tot.loop (H := fun k p q v s => orielref12_Filters_l2 (lv k) k (gi a 0) (gr a 1) (gr a 2) p v s) (n := (gr a 1).length) (fun i s => s = ((gr a 1).take i).flatMap (fl d true)) (by omega) (fun s hs' => by
          subst hs'
          refine Tot.step0 (fun k p_ q_ => orielref12_Filters_l2_q (lv k) k (gi a 0) (gr a 1) (gr a 2) p_ _ _) ?_
          rw [List.take_length]
          exact Tot.f (decide_eq_false (by omega)) (Tot.in0 (l3 0 _ (by omega) (by simp)))) (fun i s hi hs' next => by
          subst hs'
          refine Tot.step0 (fun k p_ q_ => orielref12_Filters_l2_q (lv k) k (gi a 0) (gr a 1) (gr a 2) p_ _ _) ?_
          rw [Int.toNat_natCast]
          repeat (refine Tot.t (decide_eq_true (by omega)) ?_)
          have q3 := take_flat1 (f := fl d true) hi
          refine Tot.bind (ih true _ (h9 i hi) (sub_sz hz 1 true (by simp) hi) ((hs.gr 1).get i)) fun r hr => ?_
          subst hr
          exact Tot.t (roomy_of bytes66 (by omega)) (next _ (by rw [flat_take hi]))) _ i s rfl hi hs'
      refine Tot.in0 (g := fun k p_ q_ => orielref12_Filters_l0 (lv k) k (gi a 0) (gr a 1) (gr a 2) p_ ) ?_
      refine Tot.step0 (fun k p_ q_ => orielref12_Filters_l0_q (lv k) k (gi a 0) (gr a 1) (gr a 2) p_ ) ?_
      refine Tot.cond (fun h0 => ?_) (fun h0 => ?_)
      · have h0 := of_decide_eq_true h0
        refine Tot.t (decide_eq_true (by omega)) (Tot.bind (ih true _ (h9 0 (by omega)) (sub_sz hz 1 true (by simp) (show 0 < (gr a 1).length by omega)) ((hs.gr 1).get 0)) fun r hr => ?_)
        subst hr
        have q3 := take_flat1 (f := fl d true) (show 0 < (gr a 1).length by omega)
        refine Tot.t (roomy_of bytes66 (by omega)) (l2 1 _ (by omega) ?_)
        rw [flat_take (show 0 < (gr a 1).length by omega)]
        simp
      · have h0 := of_decide_eq_false h0
        have e1 : gr a 1 = [] := List.length_eq_zero_iff.1 (by omega)
        refine Tot.in0 (g := fun k p_ q_ => orielref12_Filters_l1 (lv k) k (gi a 0) (gr a 1) (gr a 2) p_ ) ?_
        refine Tot.step0 (fun k p_ q_ => orielref12_Filters_l1_q (lv k) k (gi a 0) (gr a 1) (gr a 2) p_ ) ?_
        refine Tot.cond (fun h0 => ?_) (fun h0 => ?_)
        · have h0 := of_decide_eq_true h0
          refine Tot.t (decide_eq_true (by omega)) (Tot.bind (ih false _ (h10 0 (by omega)) (sub_sz hz 2 false (by simp) (show 0 < (gr a 2).length by omega)) ((hs.gr 2).get 0)) fun r hr => ?_)
          subst hr
          have q3 := take_flat1 (f := fl d false) (show 0 < (gr a 2).length by omega)
          refine Tot.t (roomy_of bytes66 (by omega)) (l3 1 _ (by omega) ?_)
          rw [flat_take (show 0 < (gr a 2).length by omega)]
          simp [e1]
        · have h0 := of_decide_eq_false h0
          have e2 : gr a 2 = [] := List.length_eq_zero_iff.1 (by omega)
          exact Tot.ret (by simp [e1, e2])
    | false =>
      obtain ⟨_, _, _, _, _, _, h7, h8, h9, h10⟩ := ha'
      have e0 : fl (d + 1) false a = [nf a] ++ (gr a 4).flatMap (fl d false) ++ (gr a 5).flatMap (fl d true) := rfl
      show Tot _ _
      rw [e0] at hlen ⊢
      simp only [List.length_append, List.length_singleton] at hlen
      have hl1 : (gr a 4).length ≤ 1048576 := (hs.gr 4).1
      have hl2 : (gr a 5).length ≤ 1048576 := (hs.gr 5).1
      refine orielref12_within_up _ _ _ _ _ _ (Tot.congr ?_ (fun k _ _ => orielref12_within_q (lv k) k (gi a 0) (gs a 1) (gs a 2) (gs a 3) (gr a 4) (gr a 5)))
      refine Tot.in0 (Tot.loop (H := fun k p q v s => orielref12_within_l0 (lv k) k (gi a 0) (gs a 1) (gs a 2) (gs a 3) (gr a 4) (gr a 5) p v s) (n := (gr a 4).length) (fun i s => s = [nf a] ++ ((gr a 4).take i).flatMap (fl d false)) (by omega) (fun s hs' => ?_) (fun i s hi hs' next => ?_) _ 0 _ rfl (by omega) (by simp [nf]))
      · subst hs'
        refine Tot.step0 (fun k p_ q_ => orielref12_within_l0_q (lv k) k (gi a 0) (gs a 1) (gs a 2) (gs a 3) (gr a 4) (gr a 5) p_ _ _) ?_
        rw [List.take_length]
        refine Tot.f (decide_eq_false (by omega)) (Tot.in0 (Tot.loop (H := fun k p q v s => orielref12_within_l1 (lv k) k (gi a 0) (gs a 1) (gs a 2) (gs a 3) (gr a 4) (gr a 5) p v s) (n := (gr a 5).length) (fun i s => s = [nf a] ++ (gr a 4).flatMap (fl d false) ++ ((gr a 5).take i).flatMap (fl d true)) (by omega) (fun s hs' => ?_) (fun i s hi hs' next => ?_) _ 0 _ rfl (by omega) (by simp)))
        · subst hs'
          refine Tot.step0 (fun k p_ q_ => orielref12_within_l1_q (lv k) k (gi a 0) (gs a 1) (gs a 2) (gs a 3) (gr a 4) (gr a 5) p_ _ _) ?_
          rw [List.take_length]
          exact Tot.f (decide_eq_false (by omega)) (Tot.ret rfl)
        · subst hs'
          refine Tot.step0 (fun k p_ q_ => orielref12_within_l1_q (lv k) k (gi a 0) (gs a 1) (gs a 2) (gs a 3) (gr a 4) (gr a 5) p_ _ _) ?_
          rw [Int.toNat_natCast]
          repeat (refine Tot.t (decide_eq_true (by omega)) ?_)
          have q3 := take_flat1 (f := fl d true) hi
          refine Tot.bind (ih true _ (h10 i hi) (sub_sz hz 5 true (by simp) hi) ((hs.gr 5).get i)) fun r hr => ?_
          subst hr
          exact Tot.t (roomy_of bytes66 (by simp only [List.length_append, List.length_singleton]; omega)) (next _ (by rw [flat_take hi, List.append_assoc]))
      · subst hs'
        refine Tot.step0 (fun k p_ q_ => orielref12_within_l0_q (lv k) k (gi a 0) (gs a 1) (gs a 2) (gs a 3) (gr a 4) (gr a 5) p_ _ _) ?_
        rw [Int.toNat_natCast]
        repeat (refine Tot.t (decide_eq_true (by omega)) ?_)
        have q3 := take_flat1 (f := fl d false) hi
        refine Tot.bind (ih false _ (h9 i hi) (sub_sz hz 4 false (by simp) hi) ((hs.gr 4).get i)) fun r hr => ?_
        subst hr
        exact Tot.t (roomy_of bytes66 (by simp only [List.length_append, List.length_singleton]; omega)) (next _ (by rw [flat_take hi, List.append_assoc]))
theorem rfil_tot {p : List C} (h : Good p) : Tot (fun k _ _ => (lv k).orielref12_Filters (gi p 0) (gr p 1) (gr p 2)) (fun r => r = fl 16 true p) := rfilters 16 (Nat.le_refl _) true p h.ok h.sz h.sm
-- Spk
theorem bytes27 : Try.prog.bytesOf 27 ≤ 1024 := of_decide_eq_true (by kernel_rfl)
theorem bytes9 : Try.prog.bytesOf 9 ≤ 1024 := of_decide_eq_true (by kernel_rfl)
theorem bytes95 : Try.prog.bytesOf 95 ≤ 1024 := of_decide_eq_true (by kernel_rfl)
def isN (l : List (List C)) (a b : ByteArray) (j : Nat) : Prop := gs (l.getD j []) 0 = a ∧ gs (l.getD j []) 1 = b
theorem hasName_tot (l : List (List C)) (a b : ByteArray) (hl : l.length ≤ 1000000) : Tot (fun k _ _ => (lv k).orielref12_hasName l a b) (fun r => r = true ↔ ∃ j, j < l.length ∧ isN l a b j) := by
  refine orielref12_hasName_up _ _ _ (Tot.congr ?_ (fun k _ _ => orielref12_hasName_q (lv k) k l a b))
  refine Tot.in0 (Tot.loop (H := fun k x y v (_ : Unit) => orielref12_hasName_l0 (lv k) k l a b x v) (n := l.length) (fun i _ => ∀ j, j < i → ¬ isN l a b j) (by omega) (fun _ h => ?_) (fun i _ hi h next => ?_) _ 0 () rfl (by omega) (fun j hj => by omega))
  · refine Tot.step0 (fun k p_ q_ => orielref12_hasName_l0_q (lv k) k l a b p_ _) ?_
    exact Tot.f (decide_eq_false (by omega)) (Tot.ret ⟨fun e => (by cases e), fun ⟨j, c, d⟩ => absurd d (h j c)⟩)
  · refine Tot.step0 (fun k p_ q_ => orielref12_hasName_l0_q (lv k) k l a b p_ _) ?_
    rw [Int.toNat_natCast]
    repeat (refine Tot.t (decide_eq_true (by omega)) ?_)
    refine Tot.cond (fun hc => Tot.ret ⟨fun _ => ⟨i, hi, name_eq.1 hc⟩, fun _ => rfl⟩) (fun hc => next () fun j hj => ?_)
    rcases Nat.lt_or_ge j i with g | g
    · exact h j g
    · rw [show j = i by omega]
      intro hb
      rw [name_eq.2 hb] at hc
      cases hc
theorem has_tot (l : List (List C)) (a : ByteArray) (hl : l.length ≤ 1000000) : Tot (fun k _ _ => (lv k).orielref12_Has l a) (fun r => r = true ↔ ∃ j, j < l.length ∧ gs (l.getD j []) 0 = a) := by
  refine orielref12_Has_up _ _ (Tot.congr ?_ (fun k _ _ => orielref12_Has_q (lv k) k l a))
  refine Tot.in0 (Tot.loop (H := fun k x y v (_ : Unit) => orielref12_Has_l0 (lv k) k l a x v) (n := l.length) (fun i _ => ∀ j, j < i → ¬ gs (l.getD j []) 0 = a) (by omega) (fun _ h => ?_) (fun i _ hi h next => ?_) _ 0 () rfl (by omega) (fun j hj => by omega))
  · refine Tot.step0 (fun k p_ q_ => orielref12_Has_l0_q (lv k) k l a p_ _) ?_
    exact Tot.f (decide_eq_false (by omega)) (Tot.ret ⟨fun e => (by cases e), fun ⟨j, c, d⟩ => absurd d (h j c)⟩)
  · refine Tot.step0 (fun k p_ q_ => orielref12_Has_l0_q (lv k) k l a p_ _) ?_
    rw [Int.toNat_natCast]
    repeat (refine Tot.t (decide_eq_true (by omega)) ?_)
    refine Tot.cond (fun hc => Tot.ret ⟨fun _ => ⟨i, hi, str_eq.1 hc⟩, fun _ => rfl⟩) (fun hc => next () fun j hj => ?_)
    rcases Nat.lt_or_ge j i with g | g
    · exact h j g
    · rw [show j = i by omega]
      intro hb
      rw [str_eq.2 hb] at hc
      cases hc
/-! names -/
structure NQ (l : List (List C)) (u v : Int) (i : Nat) (w : List (List C)) : Prop where
  le : w.length ≤ i
  all : ∀ m, m < i → u ≤ gi (l.getD m []) 0 → gi (l.getD m []) 0 ≤ v → ∃ j, j < w.length ∧ isN w (gs (l.getD m []) 1) (gs (l.getD m []) 2) j
theorem isN_app {w x : List (List C)} {a b : ByteArray} {j : Nat} (hj : j < w.length) (h : isN w a b j) : isN (w ++ x) a b j := by
  unfold isN at h ⊢
  rw [getD_app, if_pos hj]
  exact h
theorem NQ.skip {l : List (List C)} {u v : Int} {i : Nat} {w : List (List C)} (h : NQ l u v i w) (hn : u ≤ gi (l.getD i []) 0 → gi (l.getD i []) 0 ≤ v → ∃ j, j < w.length ∧ isN w (gs (l.getD i []) 1) (gs (l.getD i []) 2) j) : NQ l u v (i + 1) w := ⟨by have := h.le; omega, fun m hm a b => by
  rcases Nat.lt_or_ge m i with g | g
  · exact h.all m g a b
  · rw [show m = i by omega] at a b ⊢; exact hn a b⟩
theorem NQ.add {l : List (List C)} {u v : Int} {i : Nat} {w : List (List C)} (h : NQ l u v i w) : NQ l u v (i + 1) (w ++ [[C.str (gs (l.getD i []) 1), C.str (gs (l.getD i []) 2)]]) := ⟨by have := h.le; simp; omega, fun m hm a b => by
  rcases Nat.lt_or_ge m i with g | g
  · obtain ⟨j, c, d⟩ := h.all m g a b
    exact ⟨j, by simp; omega, isN_app c d⟩
  · rw [show m = i by omega]
    refine ⟨w.length, by simp, ?_⟩
    unfold isN
    rw [get_last]
    exact ⟨rfl, rfl⟩⟩
theorem names_tot (l : List (List C)) (u v : Int) (hl : l.length ≤ 1000) : Tot (fun k _ _ => (lv k).orielref12_Names l u v) (NQ l u v l.length) := by
  refine orielref12_Names_up _ _ _ (Tot.congr ?_ (fun k _ _ => orielref12_Names_q (lv k) k l u v))
  have l1 := Tot.loop (H := fun k x y z w => orielref12_Names_l1 (lv k) k l u v x z w) (Q := NQ l u v l.length) (n := l.length) (NQ l u v) (by omega) (fun w h => by
    refine Tot.step0 (fun k p_ q_ => orielref12_Names_l1_q (lv k) k l u v p_ _ _) ?_
    exact Tot.f (decide_eq_false (by omega)) (Tot.ret h)) (fun i w hi h next => by
    have hwl := h.le
    refine Tot.step0 (fun k p_ q_ => orielref12_Names_l1_q (lv k) k l u v p_ _ _) ?_
    rw [Int.toNat_natCast]
    repeat (refine Tot.t (decide_eq_true (by omega)) ?_)
    refine Tot.cond (fun c1 => ?_) (fun c1 => next _ (h.skip fun a _ => by have := of_decide_eq_false c1; omega))
    repeat (refine Tot.t (decide_eq_true (by omega)) ?_)
    refine Tot.cond (fun c2 => ?_) (fun c2 => next _ (h.skip fun _ b => by have := of_decide_eq_false c2; omega))
    repeat (refine Tot.t (decide_eq_true (by omega)) ?_)
    refine Tot.bind (hasName_tot w _ _ (by omega)) fun r hr => Tot.cond (fun hb => ?_) (fun hb => next _ (h.skip fun _ _ => hr.1 (by simpa using hb)))
    repeat (refine Tot.t (decide_eq_true (by omega)) ?_)
    exact Tot.t (roomy_of bytes27 (by omega)) (next _ h.add))
  refine Tot.in0 (Tot.loop (H := fun k x y z (_ : Unit) => orielref12_Names_l0 (lv k) k l u v x z) (n := l.length) (fun i _ => NQ l u v i []) (by omega) (fun _ h => ?_) (fun i _ hi h next => ?_) _ 0 () rfl (by omega) ⟨Nat.le_refl _, fun m hm => by omega⟩)
  · refine Tot.step0 (fun k p_ q_ => orielref12_Names_l0_q (lv k) k l u v p_ _) ?_
    exact Tot.f (decide_eq_false (by omega)) (Tot.ret h)
  · refine Tot.step0 (fun k p_ q_ => orielref12_Names_l0_q (lv k) k l u v p_ _) ?_
    rw [Int.toNat_natCast]
    repeat (refine Tot.t (decide_eq_true (by omega)) ?_)
    refine Tot.cond (fun c1 => ?_) (fun c1 => next () (h.skip fun a _ => by have := of_decide_eq_false c1; omega))
    repeat (refine Tot.t (decide_eq_true (by omega)) ?_)
    refine Tot.cond (fun c2 => ?_) (fun c2 => next () (h.skip fun _ b => by have := of_decide_eq_false c2; omega))
    repeat (refine Tot.t (decide_eq_true (by omega)) ?_)
    refine Tot.bind (hasName_tot [] _ _ (by simp)) fun r hr => Tot.cond (fun hb => ?_) (fun hb => next () (h.skip fun _ _ => hr.1 (by simpa using hb)))
    repeat (refine Tot.t (decide_eq_true (by omega)) ?_)
    have := l1 _ (i + 1) _ rfl (by omega) h.add
    rw [wrap_id (x := (i : Int) + 1) (by omega) (by omega), show ((i : Int) + 1) = ((i + 1 : Nat) : Int) by omega]
    exact this
/-! values -/
structure VQ (l : List (List C)) (u : Int) (a b : ByteArray) (i : Nat) (w : List (List C)) : Prop where
  le : w.length ≤ i
  all : ∀ m, m < i → gi (l.getD m []) 0 = u → gs (l.getD m []) 1 = a → gs (l.getD m []) 2 = b → ∃ j, j < w.length ∧ gs (w.getD j []) 0 = gs (l.getD m []) 3
theorem VQ.skip {l : List (List C)} {u : Int} {a b : ByteArray} {i : Nat} {w : List (List C)} (h : VQ l u a b i w) (hn : gi (l.getD i []) 0 = u → gs (l.getD i []) 1 = a → gs (l.getD i []) 2 = b → ∃ j, j < w.length ∧ gs (w.getD j []) 0 = gs (l.getD i []) 3) : VQ l u a b (i + 1) w := ⟨by have := h.le; omega, fun m hm x y z => by
  rcases Nat.lt_or_ge m i with g | g
  · exact h.all m g x y z
  · rw [show m = i by omega] at x y z ⊢; exact hn x y z⟩
theorem VQ.add {l : List (List C)} {u : Int} {a b : ByteArray} {i : Nat} {w : List (List C)} (h : VQ l u a b i w) : VQ l u a b (i + 1) (w ++ [[C.str (gs (l.getD i []) 3)]]) := ⟨by have := h.le; simp; omega, fun m hm x y z => by
  rcases Nat.lt_or_ge m i with g | g
  · obtain ⟨j, c, d⟩ := h.all m g x y z
    exact ⟨j, by simp; omega, by rw [getD_app, if_pos c]; exact d⟩
  · rw [show m = i by omega]
    exact ⟨w.length, by simp, by rw [get_last]; rfl⟩⟩
theorem values_tot (l : List (List C)) (u : Int) (a b : ByteArray) (hl : l.length ≤ 1000) : Tot (fun k _ _ => (lv k).orielref12_Values l u a b) (VQ l u a b l.length) := by
  refine orielref12_Values_up _ _ _ _ (Tot.congr ?_ (fun k _ _ => orielref12_Values_q (lv k) k l u a b))
  have l1 := Tot.loop (H := fun k x y z w => orielref12_Values_l1 (lv k) k l u a b x z w) (Q := VQ l u a b l.length) (n := l.length) (VQ l u a b) (by omega) (fun w h => by
    refine Tot.step0 (fun k p_ q_ => orielref12_Values_l1_q (lv k) k l u a b p_ _ _) ?_
    exact Tot.f (decide_eq_false (by omega)) (Tot.ret h)) (fun i w hi h next => by
    have hwl := h.le
    refine Tot.step0 (fun k p_ q_ => orielref12_Values_l1_q (lv k) k l u a b p_ _ _) ?_
    rw [Int.toNat_natCast]
    repeat (refine Tot.t (decide_eq_true (by omega)) ?_)
    refine Tot.cond (fun c1 => ?_) (fun c1 => next _ (h.skip fun x _ _ => absurd x (ne_of_beq_false c1)))
    repeat (refine Tot.t (decide_eq_true (by omega)) ?_)
    refine Tot.cond (fun c2 => ?_) (fun c2 => next _ (h.skip fun _ y z => by rw [name_eq.2 ⟨y, z⟩] at c2; cases c2))
    repeat (refine Tot.t (decide_eq_true (by omega)) ?_)
    refine Tot.bind (has_tot w _ (by omega)) fun r hr => Tot.cond (fun hb => ?_) (fun hb => next _ (h.skip fun _ _ _ => hr.1 (by simpa using hb)))
    repeat (refine Tot.t (decide_eq_true (by omega)) ?_)
    exact Tot.t (roomy_of bytes9 (by omega)) (next _ h.add))
  refine Tot.in0 (Tot.loop (H := fun k x y z (_ : Unit) => orielref12_Values_l0 (lv k) k l u a b x z) (n := l.length) (fun i _ => VQ l u a b i []) (by omega) (fun _ h => ?_) (fun i _ hi h next => ?_) _ 0 () rfl (by omega) ⟨Nat.le_refl _, fun m hm => by omega⟩)
  · refine Tot.step0 (fun k p_ q_ => orielref12_Values_l0_q (lv k) k l u a b p_ _) ?_
    exact Tot.f (decide_eq_false (by omega)) (Tot.ret h)
  · refine Tot.step0 (fun k p_ q_ => orielref12_Values_l0_q (lv k) k l u a b p_ _) ?_
    rw [Int.toNat_natCast]
    repeat (refine Tot.t (decide_eq_true (by omega)) ?_)
    refine Tot.cond (fun c1 => ?_) (fun c1 => next () (h.skip fun x _ _ => absurd x (ne_of_beq_false c1)))
    repeat (refine Tot.t (decide_eq_true (by omega)) ?_)
    refine Tot.cond (fun c2 => ?_) (fun c2 => next () (h.skip fun _ y z => by rw [name_eq.2 ⟨y, z⟩] at c2; cases c2))
    repeat (refine Tot.t (decide_eq_true (by omega)) ?_)
    refine Tot.bind (has_tot [] _ (by simp)) fun r hr => Tot.cond (fun hb => ?_) (fun hb => next () (h.skip fun _ _ _ => hr.1 (by simpa using hb)))
    repeat (refine Tot.t (decide_eq_true (by omega)) ?_)
    have := l1 _ (i + 1) _ rfl (by omega) h.add
    rw [wrap_id (x := (i : Int) + 1) (by omega) (by omega), show ((i : Int) + 1) = ((i + 1 : Nat) : Int) by omega]
    exact this
/-! the value of an attribute -/
def VV (ea : List (List C)) (a b : ByteArray) (l : List (List C)) (r : Int) : Prop := ∃ r0, Af ea a b r0 ∧ (r0 = -1 → r = -1) ∧ (r0 ≠ -1 → (r = l.length ∧ ∀ k, k < l.length → gs (l.getD k []) 0 ≠ av ea r0) ∨ ∃ k : Nat, k < l.length ∧ r = k ∧ gs (l.getD k []) 0 = av ea r0)
theorem value19_tot (ek : Int) (e1 e2 : ByteArray) (ea : List (List C)) (et a b : ByteArray) (l : List (List C)) (hal : ea.length ≤ 1048576) (hl : l.length ≤ 1000) : Tot (fun k _ _ => (lv k).orielref19_value ek e1 e2 ea et a b l) (VV ea a b l) := by
  refine orielref19_value_up _ _ _ _ _ _ _ _ (Tot.congr ?_ (fun k _ _ => orielref19_value_q (lv k) k ek e1 e2 ea et a b l))
  refine Tot.in0 (Tot.loop (H := fun k x y z (_ : Unit) => orielref19_value_l0 (lv k) k ek e1 e2 ea et a b l x z) (n := ea.length) (fun i _ => ∀ j, j < i → ¬ (gs (ea.getD j []) 0 = a ∧ gs (ea.getD j []) 1 = b)) (by omega) (fun _ h => ?_) (fun i _ hi h next => ?_) _ 0 () rfl (by omega) (fun j hj => by omega))
  · refine Tot.step0 (fun k p_ q_ => orielref19_value_l0_q (lv k) k ek e1 e2 ea et a b l p_ _) ?_
    exact Tot.f (decide_eq_false (by omega)) (Tot.ret ⟨-1, .inl ⟨rfl, h⟩, fun _ => rfl, fun h => absurd rfl h⟩)
  · refine Tot.step0 (fun k p_ q_ => orielref19_value_l0_q (lv k) k ek e1 e2 ea et a b l p_ _) ?_
    rw [Int.toNat_natCast]
    repeat (refine Tot.t (decide_eq_true (by omega)) ?_)
    refine Tot.cond (fun hc => ?_) (fun hc => next () fun j hj => ?_)
    · have haf : Af ea a b i := .inr ⟨i, rfl, hi, name_eq.1 hc, h⟩
      have hav : av ea (i : Int) = gs (ea.getD i []) 2 := by
        unfold av
        rw [if_neg (by omega), Int.toNat_natCast]
      refine Tot.in1 (Tot.loop (H := fun k x y z (_ : Unit) => orielref19_value_l1 (lv k) k ek e1 e2 ea et a b l x y (i : Int) z) (n := l.length) (fun j _ => ∀ k, k < j → gs (l.getD k []) 0 ≠ av ea (i : Int)) (by omega) (fun _ g => ?_) (fun j _ hj g nx => ?_) _ 0 () rfl (by omega) (fun j hj => by omega))
      · refine Tot.step1 (fun k p_ q_ => orielref19_value_l1_q (lv k) k ek e1 e2 ea et a b l p_ q_ _ _) ?_
        exact Tot.f (decide_eq_false (by omega)) (Tot.ret ⟨i, haf, fun h => by omega, fun _ => .inl ⟨rfl, g⟩⟩)
      · refine Tot.step1 (fun k p_ q_ => orielref19_value_l1_q (lv k) k ek e1 e2 ea et a b l p_ q_ _ _) ?_
        rw [Int.toNat_natCast, Int.toNat_natCast]
        repeat (refine Tot.t (decide_eq_true (by omega)) ?_)
        refine Tot.cond (fun hd => Tot.ret ⟨i, haf, fun h => by omega, fun _ => .inr ⟨j, hj, rfl, by rw [hav]; exact str_eq.1 hd⟩⟩) (fun hd => nx () fun k hk => ?_)
        rcases Nat.lt_or_ge k j with q | q
        · exact g k q
        · rw [show k = j by omega, hav]
          intro hb
          rw [str_eq.2 hb] at hd
          cases hd
    · rcases Nat.lt_or_ge j i with g | g
      · exact h j g
      · rw [show j = i by omega]
        intro hb
        rw [name_eq.2 hb] at hc
        cases hc
/-! all that is spoken of -/
structure MQ (l : List (List C)) (r : List (List C) × List (List C) × List (List C) × List (List C)) : Prop where
  n4 : NQ l 4 4 l.length r.1
  n56 : NQ l 5 6 l.length r.2.1
  vl : r.2.2.1.length = r.2.1.length
  v : ∀ i, i < r.2.1.length → VQ l 6 (gs (r.2.1.getD i []) 0) (gs (r.2.1.getD i []) 1) l.length (gr (r.2.2.1.getD i []) 0)
  t : VQ l 7 ⟨#[]⟩ ⟨#[]⟩ l.length r.2.2.2
theorem smake_tot {p : List C} (h : Good p) : Tot (fun k _ _ => (lv k).orielref19_Make (gi p 0) (gr p 1) (gr p 2)) (MQ (fl 16 true p)) := by
  have hl : (fl 16 true p).length ≤ 64 := Nat.le_trans (fl_len 16 true p) (h.sz 16)
  refine orielref19_Make_up _ _ _ (Tot.congr ?_ (fun k _ _ => orielref19_Make_q (lv k) k (gi p 0) (gr p 1) (gr p 2)))
  refine Tot.bind (rfil_tot h) fun r hr => ?_
  subst hr
  refine Tot.bind (names_tot _ 4 4 (by omega)) fun w4 h4 => ?_
  refine Tot.bind (names_tot _ 5 6 (by omega)) fun w5 h5 => ?_
  refine Tot.bind (values_tot _ 7 _ _ (by omega)) fun wt ht => ?_
  have hwl := h5.le
  generalize fl 16 true p = l at *
  refine Tot.in0 (g := fun k p_ q_ => orielref19_Make_l0 (lv k) k (gi p 0) (gr p 1) (gr p 2) p_ l w4 w5 wt) ?_
  refine Tot.step0 (fun k p_ q_ => orielref19_Make_l0_q (lv k) k (gi p 0) (gr p 1) (gr p 2) p_ _ _ _ _) ?_
  refine Tot.cond (fun h0 => ?_) (fun h0 => Tot.ret ⟨h4, h5, ?_, fun i hi => ?_, ht⟩)
  · have h0 := of_decide_eq_true h0
    refine Tot.t (decide_eq_true (by omega)) (Tot.bind (values_tot l 6 _ _ (by omega)) fun r hr => ?_)
    refine Tot.loop (H := fun k x y z w => orielref19_Make_l1 (lv k) k (gi p 0) (gr p 1) (gr p 2) x z l w4 w5 w wt) (n := w5.length) (fun i w => w.length = i ∧ ∀ m, m < i → VQ l 6 (gs (w5.getD m []) 0) (gs (w5.getD m []) 1) l.length (gr (w.getD m []) 0)) (by omega) (fun w hw => ?_) (fun i w hi hw next => ?_) _ 1 _ rfl (by omega) ⟨rfl, fun m hm => by rw [show m = 0 by omega]; exact hr⟩
    · refine Tot.step0 (fun k p_ q_ => orielref19_Make_l1_q (lv k) k (gi p 0) (gr p 1) (gr p 2) p_ _ _ _ _ _ _) ?_
      exact Tot.f (decide_eq_false (by omega)) (Tot.ret ⟨h4, h5, hw.1, hw.2, ht⟩)
    · obtain ⟨hw1, hw2⟩ := hw
      refine Tot.step0 (fun k p_ q_ => orielref19_Make_l1_q (lv k) k (gi p 0) (gr p 1) (gr p 2) p_ _ _ _ _ _ _) ?_
      rw [Int.toNat_natCast]
      repeat (refine Tot.t (decide_eq_true (by omega)) ?_)
      refine Tot.bind (values_tot l 6 _ _ (by omega)) fun r hr => Tot.t (roomy_of bytes95 (by omega)) (next _ ⟨by simp [hw1], fun m hm => ?_⟩)
      rw [getD_app]
      split
      · exact hw2 m (by omega)
      · rw [show m = i by omega, show i - w.length = 0 by omega]
        exact hr
  · have h0 := of_decide_eq_false h0
    show 0 = w5.length
    omega
  · have h0 := of_decide_eq_false h0
    exact absurd hi (by show ¬ i < w5.length; omega)
/-! alike -/
theorem vv_alike {ea ga l : List (List C)} {a b : ByteArray} {r : Int} (h : VV ea a b l r) (h' : VV ga a b l r) : ∃ x y, Af ea a b x ∧ Af ga a b y ∧ (x = -1 ↔ y = -1) ∧ (∀ v : ByteArray, (∃ j, j < l.length ∧ gs (l.getD j []) 0 = v) → x ≠ -1 → (av ea x = v ↔ av ga y = v)) := by
  obtain ⟨x, a1, a2, a3⟩ := h
  obtain ⟨y, b1, b2, b3⟩ := h'
  have nn : ∀ {z : Int} {u : List (List C)}, (z ≠ -1 → (r = l.length ∧ ∀ k, k < l.length → gs (l.getD k []) 0 ≠ av u z) ∨ ∃ k : Nat, k < l.length ∧ r = k ∧ gs (l.getD k []) 0 = av u z) → z ≠ -1 → r ≠ -1 := fun h hz => by
    rcases h hz with ⟨e, _⟩ | ⟨k, _, e, _⟩ <;> omega
  have hxy : x = -1 ↔ y = -1 := ⟨fun e => Classical.byContradiction fun hy => nn b3 hy (a2 e), fun e => Classical.byContradiction fun hx => nn a3 hx (b2 e)⟩
  refine ⟨x, y, a1, b1, hxy, fun v ⟨j, hj, hv⟩ hx => ?_⟩
  have hy : y ≠ -1 := fun e => hx (hxy.2 e)
  rcases a3 hx with ⟨e, f⟩ | ⟨k, e, e', f⟩
  · rcases b3 hy with ⟨_, g⟩ | ⟨k, hk, e', _⟩
    · exact ⟨fun q => absurd (hv.trans q.symm) (f j hj), fun q => absurd (hv.trans q.symm) (g j hj)⟩
    · omega
  · rcases b3 hy with ⟨g, _⟩ | ⟨m, _, g, g'⟩
    · omega
    · have : k = m := by omega
      subst this
      rw [← f, ← g']
theorem like19_tot {p : List C} (h : Good p) (ek : Int) (e1 e2 : ByteArray) (ea : List (List C)) (et : ByteArray) (gk : Int) (g1 g2 : ByteArray) (ga : List (List C)) (gt : ByteArray) (hal : ea.length ≤ 1048576) (hgl : ga.length ≤ 1048576) (hk : ek ≠ 1 → ek = 2) : Tot (fun k _ _ => (lv k).orielref19_Like (gi p 0) (gr p 1) (gr p 2) ek e1 e2 ea et gk g1 g2 ga gt) (fun r => r = true → ek = gk ∧ ∀ f, f ∈ fl 16 true p → N7 f → Lk ek e1 e2 ea et g1 g2 ga gt f) := by
  have hl : (fl 16 true p).length ≤ 64 := Nat.le_trans (fl_len 16 true p) (h.sz 16)
  have no : Tot (fun _ _ _ => some false) (fun r => r = true → ek = gk ∧ ∀ f, f ∈ fl 16 true p → N7 f → Lk ek e1 e2 ea et g1 g2 ga gt f) := Tot.ret (fun h => by cases h)
  refine orielref19_Like_up _ _ _ _ _ _ _ _ _ _ _ _ _ (Tot.congr ?_ (fun k _ _ => orielref19_Like_q (lv k) k (gi p 0) (gr p 1) (gr p 2) ek e1 e2 ea et gk g1 g2 ga gt))
  refine Tot.bind (smake_tot h) fun r hr => ?_
  obtain ⟨w4, w5, vs, wt⟩ := r
  obtain ⟨h4, h5, hvl, hv, ht⟩ := hr
  dsimp only at h4 h5 hvl hv ht ⊢
  have l4 := h4.le
  have l5 := h5.le
  have lt := ht.le
  have lv' : ∀ i, i < w5.length → (gr (vs.getD i []) 0).length ≤ (fl 16 true p).length := fun i hi => (hv i hi).le
  generalize hFL : fl 16 true p = FL at *
  refine Tot.cond (fun _ => no) (fun hkk => ?_)
  have hkk : ek = gk := by simpa using hkk
  refine Tot.cond (fun k2 => ?_) (fun k2 => ?_)
  · have k2 : ek = 2 := eq_of_beq k2
    refine Tot.in0 (Tot.loop (H := fun k x y z (_ : Unit) => orielref19_Like_l0 (lv k) k (gi p 0) (gr p 1) (gr p 2) ek e1 e2 ea et gk g1 g2 ga gt x z w4 w5 vs wt) (n := wt.length) (fun i _ => ∀ j, j < i → (et = gs (wt.getD j []) 0 ↔ gt = gs (wt.getD j []) 0)) (by omega) (fun _ q => ?_) (fun i _ hi q next => ?_) _ 0 () rfl (by omega) (fun j hj => by omega))
    · refine Tot.step0 (fun k p_ q_ => orielref19_Like_l0_q (lv k) k (gi p 0) (gr p 1) (gr p 2) ek e1 e2 ea et gk g1 g2 ga gt p_ _ _ _ _ _) ?_
      refine Tot.f (decide_eq_false (by omega)) (Tot.ret fun _ => ⟨hkk, fun f hf h7 => ⟨fun _ e => by omega, fun e _ => ?_, fun _ e => by omega⟩⟩)
      obtain ⟨m, hm, rfl⟩ := mem_getD hf
      obtain ⟨a, b⟩ := h7 e
      obtain ⟨j, hj, hje⟩ := ht.all m hm e a b
      rw [← hje]
      exact q j hj
    · refine Tot.step0 (fun k p_ q_ => orielref19_Like_l0_q (lv k) k (gi p 0) (gr p 1) (gr p 2) ek e1 e2 ea et gk g1 g2 ga gt p_ _ _ _ _ _) ?_
      rw [Int.toNat_natCast]
      repeat (refine Tot.t (decide_eq_true (by omega)) ?_)
      refine Tot.cond (fun _ => no) (fun hc => next () fun j hj => ?_)
      rcases Nat.lt_or_ge j i with g | g
      · exact q j g
      · rw [show j = i by omega]
        have hc : (et.toList == (gs (wt.getD i []) 0).toList) = (gt.toList == (gs (wt.getD i []) 0).toList) := by simpa using hc
        rw [← str_eq, hc, str_eq]
  · have k2 := ne_of_beq_false k2
    have k1 : ek = 1 := Classical.byContradiction fun e => k2 (hk e)
    refine Tot.in0 (Tot.loop (H := fun k x y z (_ : Unit) => orielref19_Like_l1 (lv k) k (gi p 0) (gr p 1) (gr p 2) ek e1 e2 ea et gk g1 g2 ga gt x z w4 w5 vs wt) (n := w4.length) (fun i _ => ∀ j, j < i → ((e1 = gs (w4.getD j []) 0 ∧ e2 = gs (w4.getD j []) 1) ↔ (g1 = gs (w4.getD j []) 0 ∧ g2 = gs (w4.getD j []) 1))) (by omega) (fun _ q => ?_) (fun i _ hi q next => ?_) _ 0 () rfl (by omega) (fun j hj => by omega))
    · refine Tot.step0 (fun k p_ q_ => orielref19_Like_l1_q (lv k) k (gi p 0) (gr p 1) (gr p 2) ek e1 e2 ea et gk g1 g2 ga gt p_ _ _ _ _ _) ?_
      refine Tot.f (decide_eq_false (by omega)) ?_
      refine Tot.in0 (Tot.loop (H := fun k x y z (_ : Unit) => orielref19_Like_l2 (lv k) k (gi p 0) (gr p 1) (gr p 2) ek e1 e2 ea et gk g1 g2 ga gt x z w4 w5 vs wt) (n := w5.length) (fun i _ => ∀ j, j < i → ∃ r, VV ea (gs (w5.getD j []) 0) (gs (w5.getD j []) 1) (gr (vs.getD j []) 0) r ∧ VV ga (gs (w5.getD j []) 0) (gs (w5.getD j []) 1) (gr (vs.getD j []) 0) r) (by omega) (fun _ u => ?_) (fun i _ hi u next => ?_) _ 0 () rfl (by omega) (fun j hj => by omega))
      · refine Tot.step0 (fun k p_ q_ => orielref19_Like_l2_q (lv k) k (gi p 0) (gr p 1) (gr p 2) ek e1 e2 ea et gk g1 g2 ga gt p_ _ _ _ _ _) ?_
        refine Tot.f (decide_eq_false (by omega)) (Tot.ret fun _ => ⟨hkk, fun f hf h7 => ⟨fun e _ => ?_, fun _ e => absurd k1 e, fun e _ => ?_⟩⟩)
        · obtain ⟨m, hm, rfl⟩ := mem_getD hf
          obtain ⟨j, hj, hje⟩ := h4.all m hm (by omega) (by omega)
          rw [← hje.1, ← hje.2]
          exact q j hj
        · obtain ⟨m, hm, rfl⟩ := mem_getD hf
          obtain ⟨j, hj, hje⟩ := h5.all m hm (by omega) (by omega)
          obtain ⟨r, v1, v2⟩ := u j hj
          obtain ⟨x, y, a1, a2, a3, a4⟩ := vv_alike v1 v2
          rw [← hje.1, ← hje.2]
          exact ⟨x, y, a1, a2, a3, fun e6 hx => a4 _ ((hv j hj).all m hm e6 hje.1.symm hje.2.symm) hx⟩
      · have := lv' i hi
        refine Tot.step0 (fun k p_ q_ => orielref19_Like_l2_q (lv k) k (gi p 0) (gr p 1) (gr p 2) ek e1 e2 ea et gk g1 g2 ga gt p_ _ _ _ _ _) ?_
        rw [Int.toNat_natCast]
        repeat (refine Tot.t (decide_eq_true (by omega)) ?_)
        refine Tot.bind (value19_tot _ _ _ _ _ _ _ _ hal (by omega)) fun r1 hr1 => ?_
        repeat (refine Tot.t (decide_eq_true (by omega)) ?_)
        refine Tot.bind (value19_tot _ _ _ _ _ _ _ _ hgl (by omega)) fun r2 hr2 => ?_
        refine Tot.cond (fun _ => no) (fun hc => next () fun j hj => ?_)
        have hc : r1 = r2 := by simpa using hc
        subst hc
        rcases Nat.lt_or_ge j i with g | g
        · exact u j g
        · rw [show j = i by omega]
          exact ⟨r1, hr1, hr2⟩
    · refine Tot.step0 (fun k p_ q_ => orielref19_Like_l1_q (lv k) k (gi p 0) (gr p 1) (gr p 2) ek e1 e2 ea et gk g1 g2 ga gt p_ _ _ _ _ _) ?_
      rw [Int.toNat_natCast]
      repeat (refine Tot.t (decide_eq_true (by omega)) ?_)
      refine Tot.cond (fun _ => no) (fun hc => next () fun j hj => ?_)
      rcases Nat.lt_or_ge j i with g | g
      · exact q j g
      · rw [show j = i by omega]
        have hc : ((e1 == gs (w4.getD i []) 0) && ((e2 == gs (w4.getD i []) 1) && true)) = ((g1 == gs (w4.getD i []) 0) && ((g2 == gs (w4.getD i []) 1) && true)) := by
          revert hc
          generalize ((e1 == gs (w4.getD i []) 0) && ((e2 == gs (w4.getD i []) 1) && true)) = u
          generalize ((g1 == gs (w4.getD i []) 0) && ((g2 == gs (w4.getD i []) 1) && true)) = v
          cases u <;> cases v <;> simp
        rw [← name_eq, hc, name_eq]
-- Like
def HA (L : List C → Prop) (k : Bool) (a : List C) : Prop := ∀ e, HL L e k a
theorem HL.mp {L L' : List C → Prop} : ∀ {d : Nat} {k : Bool} {a : List C}, HL (fun x => L x → L' x) d k a → HL L d k a → HL L' d k a := by
  intro d
  induction d with
  | zero => intro k a _ _; exact trivial
  | succ d ih =>
    intro k a h g
    cases k with
    | true => exact ⟨fun i hi => ih (h.1 i hi) (g.1 i hi), fun i hi => ih (h.2 i hi) (g.2 i hi)⟩
    | false => exact ⟨h.1 g.1, fun i hi => ih (h.2.1 i hi) (g.2.1 i hi), fun i hi => ih (h.2.2 i hi) (g.2.2 i hi)⟩
theorem hl_fl {L : List C → Prop} (hL : ∀ a, L (nf a) → L a) : ∀ {d : Nat} {k : Bool} {a : List C}, (∀ x, x ∈ fl d k a → L x) → HL L d k a := by
  intro d
  induction d with
  | zero => intro k a _; exact trivial
  | succ d ih =>
    intro k a h
    cases k with
    | true => exact ⟨fun i hi => ih fun x hx => h x (List.mem_append_left _ (List.mem_flatMap.2 ⟨_, getD_mem hi, hx⟩)), fun i hi => ih fun x hx => h x (List.mem_append_right _ (List.mem_flatMap.2 ⟨_, getD_mem hi, hx⟩))⟩
    | false => exact ⟨hL a (h _ (List.mem_append_left _ (List.mem_append_left _ (List.mem_singleton.2 rfl)))), fun i hi => ih fun x hx => h x (List.mem_append_left _ (List.mem_append_right _ (List.mem_flatMap.2 ⟨_, getD_mem hi, hx⟩))), fun i hi => ih fun x hx => h x (List.mem_append_right _ (List.mem_flatMap.2 ⟨_, getD_mem hi, hx⟩))⟩
theorem HL.ge {L : List C → Prop} {d : Nat} {k : Bool} {a : List C} (ho : ok d k a) (h : HL L d k a) : ∀ j, HL L (d + j) k a := by
  intro j
  induction j with
  | zero => exact h
  | succ j ih => exact HL.up (ok_le (Nat.le_add_right d j) ho) ih
theorem HL.lt {L : List C → Prop} {k : Bool} {a : List C} : ∀ {j d : Nat}, HL L (d + j) k a → HL L d k a := by
  intro j
  induction j with
  | zero => intro d h; exact h
  | succ j ih => intro d h; exact ih (HL.down h)
theorem HA.of {L : List C → Prop} {d : Nat} {k : Bool} {a : List C} (ho : ok d k a) (h : HL L d k a) : HA L k a := fun e => by
  rcases Nat.lt_or_ge e d with g | g
  · exact HL.lt (j := d - e) (by rw [show e + (d - e) = d by omega]; exact h)
  · have := HL.ge ho h (e - d)
    rwa [show d + (e - d) = e by omega] at this
theorem HA.sub {L : List C → Prop} {a x : List C} (h : HA L true a) (hx : x ∈ gr a 1) : HA L true x := fun e => by
  obtain ⟨i, hi, rfl⟩ := mem_getD hx
  exact (h (e + 1)).1 i hi
theorem HA.test {L : List C → Prop} {a x : List C} (h : HA L true a) (hx : x ∈ gr a 2) : HA L false x := fun e => by
  obtain ⟨i, hi, rfl⟩ := mem_getD hx
  exact (h (e + 1)).2 i hi
theorem HA.fsub {L : List C → Prop} {a x : List C} (h : HA L false a) (hx : x ∈ gr a 4) : HA L false x := fun e => by
  obtain ⟨i, hi, rfl⟩ := mem_getD hx
  exact (h (e + 1)).2.1 i hi
theorem HA.way {L : List C → Prop} {a x : List C} (h : HA L false a) (hx : x ∈ gr a 5) : HA L true x := fun e => by
  obtain ⟨i, hi, rfl⟩ := mem_getD hx
  exact (h (e + 1)).2.2 i hi
theorem HA.row3 {L : List C → Prop} {a : List C} (h : HA L true a) : HA L true (row3 a) := fun e => by
  cases e with
  | zero => exact trivial
  | succ e => exact h (e + 1)
theorem HA.nf {L : List C → Prop} (hL : ∀ a, L a → L (nf a)) {a : List C} (h : HA L false a) : HA L false (nf a) := fun e => by
  cases e with
  | zero => exact trivial
  | succ e => exact ⟨hL a (h 1).1, (h (e + 1)).2⟩
theorem HA.inn {L : List C → Prop} : ∀ {d : Nat} {k : Bool} {a : List C}, HA L k a → ∀ x, x ∈ Go.Vm.T.inn d k a → HA L true x := by
  intro d
  induction d with
  | zero => intro k a _ x hx; cases hx
  | succ d ih =>
    intro k a h x hx
    cases k with
    | true =>
      rcases List.mem_append.1 hx with hx | hx
      · obtain ⟨y, hy, hxy⟩ := List.mem_flatMap.1 hx
        exact ih (h.sub hy) x hxy
      · obtain ⟨y, hy, hxy⟩ := List.mem_flatMap.1 hx
        exact ih (h.test hy) x hxy
    | false =>
      rcases List.mem_append.1 hx with hx | hx
      · obtain ⟨y, hy, hxy⟩ := List.mem_flatMap.1 hx
        exact ih (h.fsub hy) x hxy
      · obtain ⟨y, hy, hxy⟩ := List.mem_flatMap.1 hx
        rcases List.mem_append.1 hxy with hxy | hxy
        · exact ih (h.way hy) x hxy
        · rw [List.mem_singleton.1 hxy]; exact (h.way hy).row3
theorem HA.dd {L : List C → Prop} : ∀ {l D : List (List C)}, (∀ x, x ∈ D → HA L true x) → (∀ x, x ∈ l → HA L true x) → ∀ x, x ∈ l.foldl add1 D → HA L true x := by
  intro l
  induction l with
  | nil => intro D hD _ x hx; exact hD x hx
  | cons y l ih =>
    intro D hD hl x hx
    refine ih (D := add1 D y) (fun z hz => ?_) (fun z hz => hl z (List.mem_cons_of_mem _ hz)) x hx
    by_cases he : ∃ z, z ∈ D ∧ Alike true z y
    · rw [add1_old he] at hz; exact hD z hz
    · rw [add1_new he] at hz
      rcases List.mem_append.1 hz with hz | hz
      · exact hD z hz
      · rw [List.mem_singleton.1 hz]; exact (hl y List.mem_cons_self).row3
theorem HA.T {L : List C → Prop} : ∀ d, ∀ (a : List C), HA L true a → ∀ (n t : Int) x, x ∈ (mk d (gi a 0) (gr a 1) (gr a 2) n t).T → HA L false x := by
  intro d
  induction d with
  | zero => intro a _ n t x hx; cases hx
  | succ d ih =>
    intro a ha n t x hx
    have hsub : ∀ r, r ∈ gr a 1 → ∀ n t x, x ∈ (mk d (gi r 0) (gr r 1) (gr r 2) n t).T → HA L false x := fun r hr n t => ih _ (ha.sub hr) n t
    unfold mk at hx
    split at hx
    · split at hx
      · cases hx
      · rename_i r l hrl
        exact seqF_T (fun r hr => hsub r (by rw [hrl]; exact List.mem_cons_of_mem _ hr)) (hsub r (by rw [hrl]; exact List.mem_cons_self) _ _) x hx
    · split at hx
      · exact altF_T hsub (fun x hx => by cases hx) x hx
      · split at hx
        · split at hx
          · cases hx
          · rename_i r l hrl
            exact hsub r (by rw [hrl]; exact List.mem_cons_self) _ _ x hx
        · split at hx
          · exact ha.test hx
          · cases hx
section
variable {p : List C} {E T ea ga : List (List C)} {n s e ek : Int} {e1 e2 et g1 g2 gt : ByteArray} {h1 h2 : Bool} {b1 b2 : ByteArray}
theorem hs_same (h : Good p) (hal : ea.length ≤ 1048576) (hgl : ga.length ≤ 1048576) {bits TT : List (List C)} (hl : (bits.length : Int) = sumn (DD p)) (hT : ∀ x, x ∈ TT → OkF x) (hA : ∀ x, x ∈ TT → HA (Lk ek e1 e2 ea et g1 g2 ga gt) false x) : hsOf (DD p) ((DD p).map rrow) (bases 0 (DD p)) n s e E T ek e1 e2 ea et bits TT = hsOf (DD p) ((DD p).map rrow) (bases 0 (DD p)) n s e E T ek g1 g2 ga gt bits TT := by
  unfold hsOf
  refine List.map_congr_left fun f hf => ?_
  obtain ⟨b, q1, q2⟩ := two (n := n) (s := s) (e := e) (E := E) (T := T) 16 (Nat.le_refl _) (ctx_of (p := []) h hl hal) (ctx_of (p := []) h hl hgl) f (hT f hf).ok (hT f hf).sm (hA f hf 16)
  have r1 := (hh_ok (holds_ex (n := n) (s := s) (e := e) (E := E) (T := T) (ek := ek) (e1 := e1) (e2 := e2) (et := et) h hal hl hT f hf)).rf
  have r2 := (hh_ok (holds_ex (n := n) (s := s) (e := e) (E := E) (T := T) (ek := ek) (e1 := g1) (e2 := g2) (et := gt) h hgl hl hT f hf)).rf
  rw [Tot.uniq r1 q1, Tot.uniq r2 q2]
theorem sb_same (h : Good p) (hal : ea.length ≤ 1048576) (hgl : ga.length ≤ 1048576) (hA : HA (Lk ek e1 e2 ea et g1 g2 ga gt) true p) : ∀ i, i ≤ (DD p).length → sbits p n s e E T ek e1 e2 ea et h1 b1 h2 b2 i = sbits p n s e E T ek g1 g2 ga gt h1 b1 h2 b2 i := by
  intro i
  induction i with
  | zero => intro _; rfl
  | succ i ih =>
    intro hi
    have hgi := h.ded.good _ (getD_mem (d := []) (show i < (DD p).length by omega))
    have hx : HA (Lk ek e1 e2 ea et g1 g2 ga gt) true ((DD p).getD i []) := HA.dd (fun x hx => by cases hx) (fun x hx => hA.inn x hx) _ (getD_mem (show i < (DD p).length by omega))
    have hs := hs_same (n := n) (s := s) (e := e) (E := E) (T := T) (ek := ek) (e1 := e1) (e2 := e2) (et := et) (g1 := g1) (g2 := g2) (gt := gt) h hal hgl (sb_len (n := n) (s := s) (e := e) (E := E) (T := T) (ek := ek) (e1 := e1) (e2 := e2) (ea := ea) (et := et) (h1 := h1) (b1 := b1) (h2 := h2) (b2 := b2) h i) (mach_T hgi) (fun x hx' => by
      obtain ⟨y, hy, rfl⟩ := List.mem_map.1 hx'
      exact HA.nf (fun _ h => h) (HA.T 16 _ hx 0 0 y hy))
    unfold sbits
    rw [hs, ih (by omega)]
end
theorem right9k_tot (a : List C) (ha : SmR BB a) : Tot (fun k _ _ => (lv k).orielref09_Right (gi a 0) (gs a 1) (gs a 2) (gr a 3) (gs a 4)) (fun r => r = true → gi a 0 = 1 ∨ gi a 0 = 2 ∨ gi a 0 = 3) := by
  have q := right9_tot a ha
  by_cases hk : gi a 0 = 1 ∨ gi a 0 = 2 ∨ gi a 0 = 3
  · exact q.mono fun _ _ _ => hk
  have no : ∀ v, Tot (fun k _ _ => orielref09_Right_l0 (lv k) k (gi a 0) (gs a 1) (gs a 2) (gr a 3) (gs a 4) v) (fun r => r = true → gi a 0 = 1 ∨ gi a 0 = 2 ∨ gi a 0 = 3) := fun v => by
    refine Tot.congr ?_ (fun k p_ q_ => orielref09_Right_l0_q (lv k) k (gi a 0) (gs a 1) (gs a 2) (gr a 3) (gs a 4) v )
    exact Tot.f (beq_false_of_ne (by omega)) (Tot.f (beq_false_of_ne (by omega)) (Tot.t (by rw [beq_false_of_ne (show gi a 0 ≠ 1 by omega)]; rfl) (Tot.ret fun h => by cases h)))
  refine orielref09_Right_up _ _ _ _ _ (Tot.congr ?_ (fun k _ _ => orielref09_Right_q (lv k) k (gi a 0) (gs a 1) (gs a 2) (gr a 3) (gs a 4)))
  exact Tot.cond (fun _ => no _) (fun _ => no _)
theorem nodek_tot (a : List C) (ha : SmR BB a) : Tot (fun k _ _ => (lv k).oriellaw20_node (gi a 0) (gs a 1) (gs a 2) (gr a 3) (gs a 4)) (fun r => r = true → gi a 0 ≠ 1 → gi a 0 = 2) := by
  have hal : (gr a 3).length ≤ 1048576 := (ha.gr 3).1
  refine oriellaw20_node_up _ _ _ _ _ (Tot.congr ?_ (fun k _ _ => oriellaw20_node_q (lv k) k (gi a 0) (gs a 1) (gs a 2) (gr a 3) (gs a 4)))
  refine Tot.bind (right9k_tot a ha) fun r hr => Tot.cond (fun hb => Tot.cond (fun h3 => ?_) (fun _ => Tot.ret fun h => by cases h)) (fun _ => Tot.ret fun h => by cases h)
  have h3 : gi a 0 ≠ 3 := by simpa using h3
  have hk := hr hb
  exact (Tot.bind (Q := fun _ => True) (few_tot _ (by simp) (fun i => by
    cases i with
    | zero => exact hal
    | succ i => exact Nat.zero_le _)) fun r _ => Tot.ret trivial).mono fun _ _ _ h1 => by omega
theorem like_tot (p ev gv : List C) (x y z : Int) (hp : SmR BB p) (hev : SmR BB ev) (hgv : SmR BB gv) : Tot (fun k _ _ => (lv k).oriellaw20_KindLike (gi p 0) (gr p 1) (gr p 2) (gi ev 0) (gs ev 1) (gs ev 2) (gr ev 3) (gs ev 4) (gi gv 0) (gs gv 1) (gs gv 2) (gr gv 3) (gs gv 4) x y z) (fun r => r = true) := by
  have hal : (gr ev 3).length ≤ 1048576 := (hev.gr 3).1
  have hgl : (gr gv 3).length ≤ 1048576 := (hgv.gr 3).1
  have aw : Tot (fun n _ _ => ((lv n).oriellaw20_awake).bind fun r => some r) (fun r => r = true) := Tot.bind awake_tot fun r hr => Tot.ret hr
  refine oriellaw20_KindLike_up _ _ _ _ _ _ _ _ _ _ _ _ _ _ _ _ (Tot.congr ?_ (fun k _ _ => oriellaw20_KindLike_q (lv k) k (gi p 0) (gr p 1) (gr p 2) (gi ev 0) (gs ev 1) (gs ev 2) (gr ev 3) (gs ev 4) (gi gv 0) (gs gv 1) (gs gv 2) (gr gv 3) (gs gv 4) x y z))
  refine Tot.bind awake_tot fun r hr => ?_
  subst hr
  refine Tot.f rfl (Tot.bind (Tot.and (right_tot p hp) (right7_tot p hp)) fun r hr => Tot.cond (fun _ => aw) (fun hb => ?_))
  have hrt : r = true := by simpa using hb
  subst hrt
  have h := to_good hp (hr.1 rfl)
  have h7 := hr.2 rfl
  refine Tot.bind (nodek_tot ev hev) fun r hk => Tot.cond (fun _ => aw) (fun hb => ?_)
  have hk := hk (by simpa using hb)
  refine Tot.bind (nodek_tot gv hgv) fun r _ => Tot.cond (fun _ => aw) (fun _ => ?_)
  refine Tot.bind (like19_tot h (gi ev 0) (gs ev 1) (gs ev 2) (gr ev 3) (gs ev 4) (gi gv 0) (gs gv 1) (gs gv 2) (gr gv 3) (gs gv 4) hal hgl hk) fun r hr => Tot.cond (fun _ => aw) (fun hb => ?_)
  obtain ⟨hkk, hlk⟩ := hr (by simpa using hb)
  have hA : HA (Lk (gi ev 0) (gs ev 1) (gs ev 2) (gr ev 3) (gs ev 4) (gs gv 1) (gs gv 2) (gr gv 3) (gs gv 4)) true p := HA.of h.ok (HL.mp (hl_fl (L := fun x => N7 x → Lk (gi ev 0) (gs ev 1) (gs ev 2) (gr ev 3) (gs ev 4) (gs gv 1) (gs gv 2) (gr gv 3) (gs gv 4) x) (fun a h => h) fun f hf => hlk f hf) h7)
  refine Tot.bind (rmake_tot h) fun r hr => ?_
  subst hr
  refine Tot.bind (sort_tot h _ _ _ _ _ _ _ _) fun f hf => ?_
  refine Tot.bind (sort_tot h _ _ _ _ _ _ _ _) fun g hg => ?_
  have k1 : f.1 = true → (f.2.2.size : Int) = sumn (DD p) := fun e => hf.2 (by rw [← hf.1]; exact e)
  have k2 : g.1 = true → (g.2.2.size : Int) = sumn (DD p) := fun e => hg.2 (by rw [← hg.1]; exact e)
  refine Tot.bind (kstep_tot h hal k1 k2) fun r hr => ?_
  subst hr
  refine Tot.bind (kstep_tot h hgl k1 k2) fun r hr => ?_
  subst hr
  rw [← hkk, sb_same h hal hgl hA _ (Nat.le_refl _)]
  exact Tot.ret (by simp [ba_eq])
end Go.Vm.T
