/- The functions, as the machine tells them: levels. -/
import Derived.Test.YtkdlhnmidbnpkaaVmTab
set_option linter.unusedVariables false
set_option maxHeartbeats 4000000
set_option maxRecDepth 100000
namespace Go.Vm.T
open Go Go.Vm Go.Proofs
noncomputable def lv : Nat → Lv
  | 0 => { oriellaw20_KindLike := fun _ _ _ _ _ _ _ _ _ _ _ _ _ _ _ _ => none, orielref18_Holds := fun _ _ _ _ _ _ _ _ _ _ _ _ _ _ _ _ _ _ _ _ => none, oriellaw20_awake := none, orielref18_Find := fun _ _ _ _ _ _ _ _ _ _ _ => none, orielref18_Make := fun _ _ _ => none, orielref12_Same := fun _ _ _ _ _ _ => none, orielref17_Compile := fun _ _ _ => none, orielref12_SameFilter := fun _ _ _ _ _ _ _ _ _ _ _ _ => none, orielref17_add := fun _ _ _ _ _ _ _ _ => none, orielref17_edge := fun _ _ _ _ _ _ _ _ _ => none, orielref18_Inner := fun _ _ _ => none, orielref18_within := fun _ _ _ _ _ _ => none, kind_Step := fun _ _ _ _ _ _ _ _ _ _ _ _ _ _ _ _ _ _ _ => none, strat_Items := fun _ _ _ _ _ _ _ _ => none, kind_maker_prog := fun _ _ _ _ _ _ _ _ _ _ _ _ _ _ _ _ _ _ _ _ _ => none, strat_Tests := fun _ _ _ _ _ _ _ _ _ _ _ _ _ _ _ _ _ _ _ => none, strat_node_holds := fun _ _ _ _ _ _ _ _ _ _ _ _ _ _ _ _ _ _ _ _ => none, strat_node_attr := fun _ _ _ _ _ _ _ _ _ _ _ _ _ _ _ _ => none, api_Filter := fun _ _ _ _ _ _ _ _ _ _ _ _ _ _ _ => none, api_Filter_2 := fun _ _ _ _ _ _ _ _ _ _ _ _ _ _ _ => none, api_Path := fun _ _ _ _ _ _ _ _ _ _ _ _ _ _ _ => none, api_Filter_3 := fun _ _ _ _ _ _ _ _ _ _ _ _ _ _ _ => none, api_Filter_4 := fun _ _ _ _ _ _ _ _ _ _ _ _ _ _ _ => none, api_Path_2 := fun _ _ _ _ _ _ _ _ _ _ _ _ _ _ _ => none, strat_node_fails := fun _ _ _ _ _ _ _ _ _ _ _ _ _ _ _ _ _ _ _ _ => none, strat_node_holds_2 := fun _ _ _ _ _ _ _ _ _ _ _ _ _ _ _ _ _ _ _ _ => none, strat_node_leads := fun _ _ _ _ _ _ _ _ _ _ _ _ _ _ _ _ _ => none, strat_node_attr_2 := fun _ _ _ _ _ _ _ _ _ _ _ _ _ _ _ _ => none, strat_Find := fun _ _ _ _ _ _ _ _ _ _ _ => none, api_Path_3 := fun _ _ _ _ => none, strat_Find_1 := fun _ _ _ _ _ _ => none, path_Same := fun _ _ _ _ _ _ => none, api_Path_4 := fun _ _ => none, kind_Whole := fun _ _ _ _ _ _ _ _ _ => none, kind_maker_leads := fun _ _ _ _ _ _ _ _ _ _ _ _ _ _ _ _ _ _ _ _ _ _ _ _ _ _ => none, api_Filter_5 := fun _ _ => none, word_Whole := fun _ => none, kind_good := fun _ _ _ _ => none, path_sameFilter := fun _ _ _ _ _ _ _ _ _ _ _ _ => none, word_Begins := fun _ => none, word_Right := fun _ _ _ _ _ => none, word_named := fun _ _ => none, word_text := fun _ => none, name_Plain := fun _ => none, utf_All := fun _ => none, char_Start := fun _ => none, utf_Rune := fun _ _ => none, char_in := fun _ _ => none, utf_forms := none, word_Nodes := fun _ => none, word_Depth := fun _ => none, char_All := fun _ => none, utf_span := fun _ _ => none, char_Char := fun _ => none, char_Blank := fun _ => none, kind_Arrive := fun _ _ _ _ _ _ _ _ _ _ _ _ _ _ _ _ _ _ _ _ _ _ => none, word_attrs := fun _ => none, char_Part := fun _ => none, orielref12_Right := fun _ _ _ => none, orielref12_Size := fun _ _ _ => none, orielref12_size := fun _ _ _ _ => none, orielref12_sizeFilter := fun _ _ _ _ _ _ _ => none, orielref12_path := fun _ _ _ _ => none, orielref12_filter := fun _ _ _ _ _ _ _ => none, orielref12_named := fun _ _ => none, orielref04_Right := fun _ => none, orielref03_Plain := fun _ => none, orielref01_All := fun _ => none, orielref02_Start := fun _ => none, orielref01_Rune := fun _ _ => none, orielref01_Put := fun _ => none, orielref01_cut := fun _ _ => none, orielref01_value := fun _ _ _ => none, oriellaw20_node := fun _ _ _ _ _ => none, orielref02_Char := fun _ => none, orielref02_Part := fun _ => none, orielref01_begins := fun _ _ _ => none, orielref09_Right := fun _ _ _ _ _ => none, orielref02_Blank := fun _ => none, orielref09_named := fun _ _ => none, orielref05_Find := fun _ _ _ => none, orielref09_Few := fun _ => none, orielref19_Like := fun _ _ _ _ _ _ _ _ _ _ _ _ _ => none, orielref19_Make := fun _ _ _ => none, orielref12_Filters := fun _ _ _ => none, orielref12_within := fun _ _ _ _ _ _ => none, orielref12_Names := fun _ _ _ => none, orielref12_hasName := fun _ _ _ => none, orielref12_Values := fun _ _ _ _ => none, orielref12_Has := fun _ _ => none, orielref19_value := fun _ _ _ _ _ _ _ _ => none, oriellaw20_sort := fun _ _ _ _ _ _ _ _ _ _ _ => none, orielref18_Items := fun _ _ _ _ _ _ _ _ => none }
  | n + 1 => { oriellaw20_KindLike := oriellaw20_KindLike_b (lv n) n, orielref18_Holds := orielref18_Holds_b (lv n) n, oriellaw20_awake := oriellaw20_awake_b (lv n) n, orielref18_Find := orielref18_Find_b (lv n) n, orielref18_Make := orielref18_Make_b (lv n) n, orielref12_Same := orielref12_Same_b (lv n) n, orielref17_Compile := orielref17_Compile_b (lv n) n, orielref12_SameFilter := orielref12_SameFilter_b (lv n) n, orielref17_add := orielref17_add_b (lv n) n, orielref17_edge := orielref17_edge_b (lv n) n, orielref18_Inner := orielref18_Inner_b (lv n) n, orielref18_within := orielref18_within_b (lv n) n, kind_Step := kind_Step_b (lv n) n, strat_Items := strat_Items_b (lv n) n, kind_maker_prog := kind_maker_prog_b (lv n) n, strat_Tests := strat_Tests_b (lv n) n, strat_node_holds := strat_node_holds_b (lv n) n, strat_node_attr := strat_node_attr_b (lv n) n, api_Filter := api_Filter_b (lv n) n, api_Filter_2 := api_Filter_2_b (lv n) n, api_Path := api_Path_b (lv n) n, api_Filter_3 := api_Filter_3_b (lv n) n, api_Filter_4 := api_Filter_4_b (lv n) n, api_Path_2 := api_Path_2_b (lv n) n, strat_node_fails := strat_node_fails_b (lv n) n, strat_node_holds_2 := strat_node_holds_2_b (lv n) n, strat_node_leads := strat_node_leads_b (lv n) n, strat_node_attr_2 := strat_node_attr_2_b (lv n) n, strat_Find := strat_Find_b (lv n) n, api_Path_3 := api_Path_3_b (lv n) n, strat_Find_1 := strat_Find_1_b (lv n) n, path_Same := path_Same_b (lv n) n, api_Path_4 := api_Path_4_b (lv n) n, kind_Whole := kind_Whole_b (lv n) n, kind_maker_leads := kind_maker_leads_b (lv n) n, api_Filter_5 := api_Filter_5_b (lv n) n, word_Whole := word_Whole_b (lv n) n, kind_good := kind_good_b (lv n) n, path_sameFilter := path_sameFilter_b (lv n) n, word_Begins := word_Begins_b (lv n) n, word_Right := word_Right_b (lv n) n, word_named := word_named_b (lv n) n, word_text := word_text_b (lv n) n, name_Plain := name_Plain_b (lv n) n, utf_All := utf_All_b (lv n) n, char_Start := char_Start_b (lv n) n, utf_Rune := utf_Rune_b (lv n) n, char_in := char_in_b (lv n) n, utf_forms := utf_forms_b (lv n) n, word_Nodes := word_Nodes_b (lv n) n, word_Depth := word_Depth_b (lv n) n, char_All := char_All_b (lv n) n, utf_span := utf_span_b (lv n) n, char_Char := char_Char_b (lv n) n, char_Blank := char_Blank_b (lv n) n, kind_Arrive := kind_Arrive_b (lv n) n, word_attrs := word_attrs_b (lv n) n, char_Part := char_Part_b (lv n) n, orielref12_Right := orielref12_Right_b (lv n) n, orielref12_Size := orielref12_Size_b (lv n) n, orielref12_size := orielref12_size_b (lv n) n, orielref12_sizeFilter := orielref12_sizeFilter_b (lv n) n, orielref12_path := orielref12_path_b (lv n) n, orielref12_filter := orielref12_filter_b (lv n) n, orielref12_named := orielref12_named_b (lv n) n, orielref04_Right := orielref04_Right_b (lv n) n, orielref03_Plain := orielref03_Plain_b (lv n) n, orielref01_All := orielref01_All_b (lv n) n, orielref02_Start := orielref02_Start_b (lv n) n, orielref01_Rune := orielref01_Rune_b (lv n) n, orielref01_Put := orielref01_Put_b (lv n) n, orielref01_cut := orielref01_cut_b (lv n) n, orielref01_value := orielref01_value_b (lv n) n, oriellaw20_node := oriellaw20_node_b (lv n) n, orielref02_Char := orielref02_Char_b (lv n) n, orielref02_Part := orielref02_Part_b (lv n) n, orielref01_begins := orielref01_begins_b (lv n) n, orielref09_Right := orielref09_Right_b (lv n) n, orielref02_Blank := orielref02_Blank_b (lv n) n, orielref09_named := orielref09_named_b (lv n) n, orielref05_Find := orielref05_Find_b (lv n) n, orielref09_Few := orielref09_Few_b (lv n) n, orielref19_Like := orielref19_Like_b (lv n) n, orielref19_Make := orielref19_Make_b (lv n) n, orielref12_Filters := orielref12_Filters_b (lv n) n, orielref12_within := orielref12_within_b (lv n) n, orielref12_Names := orielref12_Names_b (lv n) n, orielref12_hasName := orielref12_hasName_b (lv n) n, orielref12_Values := orielref12_Values_b (lv n) n, orielref12_Has := orielref12_Has_b (lv n) n, orielref19_value := orielref19_value_b (lv n) n, oriellaw20_sort := oriellaw20_sort_b (lv n) n, orielref18_Items := orielref18_Items_b (lv n) n }
noncomputable abbrev CL (n : Nat) : FuncId → List Arg → Option Res := call Try.prog noExt kp n
def OKo (n : Nat) (o : Lv → {Ω : Type} → FuncId → List Arg → (Res → Option Ω) → Option Ω → Option Ω) : Prop := (∀ m, n = m + 1 → ∀ {Ω : Type}, TabOK (Ω := Ω) (CL m) (orK (lv m))) → ∀ {Ω : Type} {f : FuncId} {l : List Arg} {K : Res → Option Ω} {next : Option Ω} {r : Ω}, o (lv n) f l K next = some r → (∃ R, CL n f l = some R ∧ K R = some r) ∨ next = some r
theorem oriellaw20_KindLike_lv (n : Nat) : (lv (n + 1)).oriellaw20_KindLike = oriellaw20_KindLike_b (lv n) n := by kernel_rfl
theorem oriellaw20_KindLike_up (x0_0 : Int) (x0_1 x0_2 : LL) (x1_0 : Int) (x1_1 x1_2 : ByteArray) (x1_3 : LL) (x1_4 : ByteArray) (x2_0 : Int) (x2_1 x2_2 : ByteArray) (x2_3 : LL) (x2_4 : ByteArray) (x3 x4 x5 : Int) {Q : Bool → Prop} (h : Tot (fun n _ _ => oriellaw20_KindLike_b (lv n) n x0_0 x0_1 x0_2 x1_0 x1_1 x1_2 x1_3 x1_4 x2_0 x2_1 x2_2 x2_3 x2_4 x3 x4 x5) Q) : Tot (fun n _ _ => (lv n).oriellaw20_KindLike x0_0 x0_1 x0_2 x1_0 x1_1 x1_2 x1_3 x1_4 x2_0 x2_1 x2_2 x2_3 x2_4 x3 x4 x5) Q := Tot.up (fun n => by rw [oriellaw20_KindLike_lv]) h
theorem oriellaw20_KindLike_ok (n : Nat) : OKo n oriellaw20_KindLike_o := fun ih {_ _ _ _ _ _} h => by
  refine rowO_ok (cl := CL n) (ea := oriellaw20_KindLike_e) (dr := oriellaw20_KindLike_d) (fun _ _ h => oriellaw20_KindLike_ae h) (fun _ _ h => oriellaw20_KindLike_dr h) (fun a v h => ?_) h
  cases n with
  | zero => cases h
  | succ n =>
    rw [oriellaw20_KindLike_lv] at h
    exact bodyK_ok noEq_ok (ih n rfl) rfl (fun _ _ h => oriellaw20_KindLike_dr h) h
theorem orielref18_Holds_lv (n : Nat) : (lv (n + 1)).orielref18_Holds = orielref18_Holds_b (lv n) n := by kernel_rfl
theorem orielref18_Holds_up (x0_0 x0_1 x0_2 : LL) (x0_3 x0_4 x0_5 : Int) (x0_6 x0_7 : LL) (x1_0 : Int) (x1_1 x1_2 x1_3 : ByteArray) (x1_4 x1_5 : LL) (x2_0 : Int) (x2_1 x2_2 : ByteArray) (x2_3 : LL) (x2_4 : ByteArray) (x3 : LL) {Q : Bool → Prop} (h : Tot (fun n _ _ => orielref18_Holds_b (lv n) n x0_0 x0_1 x0_2 x0_3 x0_4 x0_5 x0_6 x0_7 x1_0 x1_1 x1_2 x1_3 x1_4 x1_5 x2_0 x2_1 x2_2 x2_3 x2_4 x3) Q) : Tot (fun n _ _ => (lv n).orielref18_Holds x0_0 x0_1 x0_2 x0_3 x0_4 x0_5 x0_6 x0_7 x1_0 x1_1 x1_2 x1_3 x1_4 x1_5 x2_0 x2_1 x2_2 x2_3 x2_4 x3) Q := Tot.up (fun n => by rw [orielref18_Holds_lv]) h
theorem orielref18_Holds_ok (n : Nat) : OKo n orielref18_Holds_o := fun ih {_ _ _ _ _ _} h => by
  refine rowO_ok (cl := CL n) (ea := orielref18_Holds_e) (dr := orielref18_Holds_d) (fun _ _ h => orielref18_Holds_ae h) (fun _ _ h => orielref18_Holds_dr h) (fun a v h => ?_) h
  cases n with
  | zero => cases h
  | succ n =>
    rw [orielref18_Holds_lv] at h
    exact bodyK_ok noEq_ok (ih n rfl) rfl (fun _ _ h => orielref18_Holds_dr h) h
theorem oriellaw20_awake_lv (n : Nat) : (lv (n + 1)).oriellaw20_awake = oriellaw20_awake_b (lv n) n := by kernel_rfl
theorem oriellaw20_awake_ok (n : Nat) : OKo n oriellaw20_awake_o := fun ih {_ _ _ _ _ _} h => by
  refine rowO_ok (cl := CL n) (ea := oriellaw20_awake_e) (dr := oriellaw20_awake_d) (fun _ _ h => oriellaw20_awake_ae h) (fun _ _ h => oriellaw20_awake_dr h) (fun a v h => ?_) h
  cases n with
  | zero => cases h
  | succ n =>
    rw [oriellaw20_awake_lv] at h
    exact bodyK_ok noEq_ok (ih n rfl) rfl (fun _ _ h => oriellaw20_awake_dr h) h
theorem orielref18_Find_lv (n : Nat) : (lv (n + 1)).orielref18_Find = orielref18_Find_b (lv n) n := by kernel_rfl
theorem orielref18_Find_up (x0_0 x0_1 x0_2 : LL) (x0_3 x0_4 x0_5 : Int) (x0_6 x0_7 : LL) (x1_0 : Int) (x1_1 x1_2 : LL) {Q : Int → Prop} (h : Tot (fun n _ _ => orielref18_Find_b (lv n) n x0_0 x0_1 x0_2 x0_3 x0_4 x0_5 x0_6 x0_7 x1_0 x1_1 x1_2) Q) : Tot (fun n _ _ => (lv n).orielref18_Find x0_0 x0_1 x0_2 x0_3 x0_4 x0_5 x0_6 x0_7 x1_0 x1_1 x1_2) Q := Tot.up (fun n => by rw [orielref18_Find_lv]) h
theorem orielref18_Find_ok (n : Nat) : OKo n orielref18_Find_o := fun ih {_ _ _ _ _ _} h => by
  refine rowO_ok (cl := CL n) (ea := orielref18_Find_e) (dr := orielref18_Find_d) (fun _ _ h => orielref18_Find_ae h) (fun _ _ h => orielref18_Find_dr h) (fun a v h => ?_) h
  cases n with
  | zero => cases h
  | succ n =>
    rw [orielref18_Find_lv] at h
    exact bodyK_ok noEq_ok (ih n rfl) rfl (fun _ _ h => orielref18_Find_dr h) h
theorem orielref18_Make_lv (n : Nat) : (lv (n + 1)).orielref18_Make = orielref18_Make_b (lv n) n := by kernel_rfl
theorem orielref18_Make_up (x0_0 : Int) (x0_1 x0_2 : LL) {Q : (LL × LL × LL × Int × Int × Int × LL × LL) → Prop} (h : Tot (fun n _ _ => orielref18_Make_b (lv n) n x0_0 x0_1 x0_2) Q) : Tot (fun n _ _ => (lv n).orielref18_Make x0_0 x0_1 x0_2) Q := Tot.up (fun n => by rw [orielref18_Make_lv]) h
theorem orielref18_Make_ok (n : Nat) : OKo n orielref18_Make_o := fun ih {_ _ _ _ _ _} h => by
  refine rowO_ok (cl := CL n) (ea := orielref18_Make_e) (dr := orielref18_Make_d) (fun _ _ h => orielref18_Make_ae h) (fun _ _ h => orielref18_Make_dr h) (fun a v h => ?_) h
  cases n with
  | zero => cases h
  | succ n =>
    rw [orielref18_Make_lv] at h
    exact bodyK_ok noEq_ok (ih n rfl) rfl (fun _ _ h => orielref18_Make_dr h) h
theorem orielref12_Same_lv (n : Nat) : (lv (n + 1)).orielref12_Same = orielref12_Same_b (lv n) n := by kernel_rfl
theorem orielref12_Same_up (x0_0 : Int) (x0_1 x0_2 : LL) (x1_0 : Int) (x1_1 x1_2 : LL) {Q : Bool → Prop} (h : Tot (fun n _ _ => orielref12_Same_b (lv n) n x0_0 x0_1 x0_2 x1_0 x1_1 x1_2) Q) : Tot (fun n _ _ => (lv n).orielref12_Same x0_0 x0_1 x0_2 x1_0 x1_1 x1_2) Q := Tot.up (fun n => by rw [orielref12_Same_lv]) h
theorem orielref12_Same_ok (n : Nat) : OKo n orielref12_Same_o := fun ih {_ _ _ _ _ _} h => by
  refine rowO_ok (cl := CL n) (ea := orielref12_Same_e) (dr := orielref12_Same_d) (fun _ _ h => orielref12_Same_ae h) (fun _ _ h => orielref12_Same_dr h) (fun a v h => ?_) h
  cases n with
  | zero => cases h
  | succ n =>
    rw [orielref12_Same_lv] at h
    exact bodyK_ok noEq_ok (ih n rfl) rfl (fun _ _ h => orielref12_Same_dr h) h
theorem orielref17_Compile_lv (n : Nat) : (lv (n + 1)).orielref17_Compile = orielref17_Compile_b (lv n) n := by kernel_rfl
theorem orielref17_Compile_up (x0_0 : Int) (x0_1 x0_2 : LL) {Q : (Int × Int × Int × LL × LL) → Prop} (h : Tot (fun n _ _ => orielref17_Compile_b (lv n) n x0_0 x0_1 x0_2) Q) : Tot (fun n _ _ => (lv n).orielref17_Compile x0_0 x0_1 x0_2) Q := Tot.up (fun n => by rw [orielref17_Compile_lv]) h
theorem orielref17_Compile_ok (n : Nat) : OKo n orielref17_Compile_o := fun ih {_ _ _ _ _ _} h => by
  refine rowO_ok (cl := CL n) (ea := orielref17_Compile_e) (dr := orielref17_Compile_d) (fun _ _ h => orielref17_Compile_ae h) (fun _ _ h => orielref17_Compile_dr h) (fun a v h => ?_) h
  cases n with
  | zero => cases h
  | succ n =>
    rw [orielref17_Compile_lv] at h
    exact bodyK_ok noEq_ok (ih n rfl) rfl (fun _ _ h => orielref17_Compile_dr h) h
theorem orielref12_SameFilter_lv (n : Nat) : (lv (n + 1)).orielref12_SameFilter = orielref12_SameFilter_b (lv n) n := by kernel_rfl
theorem orielref12_SameFilter_up (x0_0 : Int) (x0_1 x0_2 x0_3 : ByteArray) (x0_4 x0_5 : LL) (x1_0 : Int) (x1_1 x1_2 x1_3 : ByteArray) (x1_4 x1_5 : LL) {Q : Bool → Prop} (h : Tot (fun n _ _ => orielref12_SameFilter_b (lv n) n x0_0 x0_1 x0_2 x0_3 x0_4 x0_5 x1_0 x1_1 x1_2 x1_3 x1_4 x1_5) Q) : Tot (fun n _ _ => (lv n).orielref12_SameFilter x0_0 x0_1 x0_2 x0_3 x0_4 x0_5 x1_0 x1_1 x1_2 x1_3 x1_4 x1_5) Q := Tot.up (fun n => by rw [orielref12_SameFilter_lv]) h
theorem orielref12_SameFilter_ok (n : Nat) : OKo n orielref12_SameFilter_o := fun ih {_ _ _ _ _ _} h => by
  refine rowO_ok (cl := CL n) (ea := orielref12_SameFilter_e) (dr := orielref12_SameFilter_d) (fun _ _ h => orielref12_SameFilter_ae h) (fun _ _ h => orielref12_SameFilter_dr h) (fun a v h => ?_) h
  cases n with
  | zero => cases h
  | succ n =>
    rw [orielref12_SameFilter_lv] at h
    exact bodyK_ok noEq_ok (ih n rfl) rfl (fun _ _ h => orielref12_SameFilter_dr h) h
theorem orielref17_add_lv (n : Nat) : (lv (n + 1)).orielref17_add = orielref17_add_b (lv n) n := by kernel_rfl
theorem orielref17_add_up (x0_0 x0_1 x0_2 : Int) (x0_3 x0_4 : LL) (x1_0 : Int) (x1_1 x1_2 : LL) {Q : (Int × Int × Int × LL × LL × Int × Int) → Prop} (h : Tot (fun n _ _ => orielref17_add_b (lv n) n x0_0 x0_1 x0_2 x0_3 x0_4 x1_0 x1_1 x1_2) Q) : Tot (fun n _ _ => (lv n).orielref17_add x0_0 x0_1 x0_2 x0_3 x0_4 x1_0 x1_1 x1_2) Q := Tot.up (fun n => by rw [orielref17_add_lv]) h
theorem orielref17_add_ok (n : Nat) : OKo n orielref17_add_o := fun ih {_ _ _ _ _ _} h => by
  refine rowO_ok (cl := CL n) (ea := orielref17_add_e) (dr := orielref17_add_d) (fun _ _ h => orielref17_add_ae h) (fun _ _ h => orielref17_add_dr h) (fun a v h => ?_) h
  cases n with
  | zero => cases h
  | succ n =>
    rw [orielref17_add_lv] at h
    exact bodyK_ok noEq_ok (ih n rfl) rfl (fun _ _ h => orielref17_add_dr h) h
theorem orielref17_edge_lv (n : Nat) : (lv (n + 1)).orielref17_edge = orielref17_edge_b (lv n) n := by kernel_rfl
theorem orielref17_edge_up (x0_0 x0_1 x0_2 : Int) (x0_3 x0_4 : LL) (x1 x2 x3 x4 : Int) {Q : (Int × Int × Int × LL × LL) → Prop} (h : Tot (fun n _ _ => orielref17_edge_b (lv n) n x0_0 x0_1 x0_2 x0_3 x0_4 x1 x2 x3 x4) Q) : Tot (fun n _ _ => (lv n).orielref17_edge x0_0 x0_1 x0_2 x0_3 x0_4 x1 x2 x3 x4) Q := Tot.up (fun n => by rw [orielref17_edge_lv]) h
theorem orielref17_edge_ok (n : Nat) : OKo n orielref17_edge_o := fun ih {_ _ _ _ _ _} h => by
  refine rowO_ok (cl := CL n) (ea := orielref17_edge_e) (dr := orielref17_edge_d) (fun _ _ h => orielref17_edge_ae h) (fun _ _ h => orielref17_edge_dr h) (fun a v h => ?_) h
  cases n with
  | zero => cases h
  | succ n =>
    rw [orielref17_edge_lv] at h
    exact bodyK_ok noEq_ok (ih n rfl) rfl (fun _ _ h => orielref17_edge_dr h) h
theorem orielref18_Inner_lv (n : Nat) : (lv (n + 1)).orielref18_Inner = orielref18_Inner_b (lv n) n := by kernel_rfl
theorem orielref18_Inner_up (x0_0 : Int) (x0_1 x0_2 : LL) {Q : LL → Prop} (h : Tot (fun n _ _ => orielref18_Inner_b (lv n) n x0_0 x0_1 x0_2) Q) : Tot (fun n _ _ => (lv n).orielref18_Inner x0_0 x0_1 x0_2) Q := Tot.up (fun n => by rw [orielref18_Inner_lv]) h
theorem orielref18_Inner_ok (n : Nat) : OKo n orielref18_Inner_o := fun ih {_ _ _ _ _ _} h => by
  refine rowO_ok (cl := CL n) (ea := orielref18_Inner_e) (dr := orielref18_Inner_d) (fun _ _ h => orielref18_Inner_ae h) (fun _ _ h => orielref18_Inner_dr h) (fun a v h => ?_) h
  cases n with
  | zero => cases h
  | succ n =>
    rw [orielref18_Inner_lv] at h
    exact bodyK_ok noEq_ok (ih n rfl) rfl (fun _ _ h => orielref18_Inner_dr h) h
theorem orielref18_within_lv (n : Nat) : (lv (n + 1)).orielref18_within = orielref18_within_b (lv n) n := by kernel_rfl
theorem orielref18_within_up (x0_0 : Int) (x0_1 x0_2 x0_3 : ByteArray) (x0_4 x0_5 : LL) {Q : LL → Prop} (h : Tot (fun n _ _ => orielref18_within_b (lv n) n x0_0 x0_1 x0_2 x0_3 x0_4 x0_5) Q) : Tot (fun n _ _ => (lv n).orielref18_within x0_0 x0_1 x0_2 x0_3 x0_4 x0_5) Q := Tot.up (fun n => by rw [orielref18_within_lv]) h
theorem orielref18_within_ok (n : Nat) : OKo n orielref18_within_o := fun ih {_ _ _ _ _ _} h => by
  refine rowO_ok (cl := CL n) (ea := orielref18_within_e) (dr := orielref18_within_d) (fun _ _ h => orielref18_within_ae h) (fun _ _ h => orielref18_within_dr h) (fun a v h => ?_) h
  cases n with
  | zero => cases h
  | succ n =>
    rw [orielref18_within_lv] at h
    exact bodyK_ok noEq_ok (ih n rfl) rfl (fun _ _ h => orielref18_within_dr h) h
theorem kind_Step_lv (n : Nat) : (lv (n + 1)).kind_Step = kind_Step_b (lv n) n := by kernel_rfl
theorem kind_Step_up (x0_0 x0_1 x0_2 : LL) (x0_3 x0_4 x0_5 : Int) (x0_6 x0_7 : LL) (x1_0 : Int) (x1_1 x1_2 : ByteArray) (x1_3 : LL) (x1_4 : ByteArray) (x2_0 x2_1 : Bool) (x2_2 : ByteArray) (x3_0 x3_1 : Bool) (x3_2 : ByteArray) {Q : (Bool × Bool × ByteArray) → Prop} (h : Tot (fun n _ _ => kind_Step_b (lv n) n x0_0 x0_1 x0_2 x0_3 x0_4 x0_5 x0_6 x0_7 x1_0 x1_1 x1_2 x1_3 x1_4 x2_0 x2_1 x2_2 x3_0 x3_1 x3_2) Q) : Tot (fun n _ _ => (lv n).kind_Step x0_0 x0_1 x0_2 x0_3 x0_4 x0_5 x0_6 x0_7 x1_0 x1_1 x1_2 x1_3 x1_4 x2_0 x2_1 x2_2 x3_0 x3_1 x3_2) Q := Tot.up (fun n => by rw [kind_Step_lv]) h
theorem kind_Step_ok (n : Nat) : OKo n kind_Step_o := fun ih {_ _ _ _ _ _} h => by
  refine rowO_ok (cl := CL n) (ea := kind_Step_e) (dr := kind_Step_d) (fun _ _ h => kind_Step_ae h) (fun _ _ h => kind_Step_dr h) (fun a v h => ?_) h
  cases n with
  | zero => cases h
  | succ n =>
    rw [kind_Step_lv] at h
    exact bodyK_ok noEq_ok (ih n rfl) rfl (fun _ _ h => kind_Step_dr h) h
theorem strat_Items_lv (n : Nat) : (lv (n + 1)).strat_Items = strat_Items_b (lv n) n := by kernel_rfl
theorem strat_Items_up (x0_0 x0_1 x0_2 : LL) (x0_3 x0_4 x0_5 : Int) (x0_6 x0_7 : LL) {Q : Int → Prop} (h : Tot (fun n _ _ => strat_Items_b (lv n) n x0_0 x0_1 x0_2 x0_3 x0_4 x0_5 x0_6 x0_7) Q) : Tot (fun n _ _ => (lv n).strat_Items x0_0 x0_1 x0_2 x0_3 x0_4 x0_5 x0_6 x0_7) Q := Tot.up (fun n => by rw [strat_Items_lv]) h
theorem strat_Items_ok (n : Nat) : OKo n strat_Items_o := fun ih {_ _ _ _ _ _} h => by
  refine rowO_ok (cl := CL n) (ea := strat_Items_e) (dr := strat_Items_d) (fun _ _ h => strat_Items_ae h) (fun _ _ h => strat_Items_dr h) (fun a v h => ?_) h
  cases n with
  | zero => cases h
  | succ n =>
    rw [strat_Items_lv] at h
    exact bodyK_ok noEq_ok (ih n rfl) rfl (fun _ _ h => strat_Items_dr h) h
theorem kind_maker_prog_lv (n : Nat) : (lv (n + 1)).kind_maker_prog = kind_maker_prog_b (lv n) n := by kernel_rfl
theorem kind_maker_prog_up (x0_0 x0_1 x0_2 : LL) (x0_3 x0_4 x0_5 : Int) (x0_6 x0_7 : LL) (x0_8 : Int) (x0_9 x0_10 : ByteArray) (x0_11 : LL) (x0_12 : ByteArray) (x0_13 x0_14 : Bool) (x0_15 : ByteArray) (x0_16 x0_17 : Bool) (x0_18 : ByteArray) (x0_19 : LL) (x1 : Int) {Q : (LL × LL × LL × Int × Int × Int × LL × LL × Int × ByteArray × ByteArray × LL × ByteArray × Bool × Bool × ByteArray × Bool × Bool × ByteArray × LL) → Prop} (h : Tot (fun n _ _ => kind_maker_prog_b (lv n) n x0_0 x0_1 x0_2 x0_3 x0_4 x0_5 x0_6 x0_7 x0_8 x0_9 x0_10 x0_11 x0_12 x0_13 x0_14 x0_15 x0_16 x0_17 x0_18 x0_19 x1) Q) : Tot (fun n _ _ => (lv n).kind_maker_prog x0_0 x0_1 x0_2 x0_3 x0_4 x0_5 x0_6 x0_7 x0_8 x0_9 x0_10 x0_11 x0_12 x0_13 x0_14 x0_15 x0_16 x0_17 x0_18 x0_19 x1) Q := Tot.up (fun n => by rw [kind_maker_prog_lv]) h
theorem kind_maker_prog_ok (n : Nat) : OKo n kind_maker_prog_o := fun ih {_ _ _ _ _ _} h => by
  refine rowO_ok (cl := CL n) (ea := kind_maker_prog_e) (dr := kind_maker_prog_d) (fun _ _ h => kind_maker_prog_ae h) (fun _ _ h => kind_maker_prog_dr h) (fun a v h => ?_) h
  cases n with
  | zero => cases h
  | succ n =>
    rw [kind_maker_prog_lv] at h
    exact bodyK_ok noEq_ok (ih n rfl) rfl (fun _ _ h => kind_maker_prog_dr h) h
theorem strat_Tests_lv (n : Nat) : (lv (n + 1)).strat_Tests = strat_Tests_b (lv n) n := by kernel_rfl
theorem strat_Tests_up (x0_0 x0_1 x0_2 : LL) (x0_3 x0_4 x0_5 : Int) (x0_6 x0_7 : LL) (x1_0 x1_1 x1_2 : Int) (x1_3 x1_4 : LL) (x2_0 : Int) (x2_1 x2_2 : ByteArray) (x2_3 : LL) (x2_4 : ByteArray) (x3 : LL) {Q : LL → Prop} (h : Tot (fun n _ _ => strat_Tests_b (lv n) n x0_0 x0_1 x0_2 x0_3 x0_4 x0_5 x0_6 x0_7 x1_0 x1_1 x1_2 x1_3 x1_4 x2_0 x2_1 x2_2 x2_3 x2_4 x3) Q) : Tot (fun n _ _ => (lv n).strat_Tests x0_0 x0_1 x0_2 x0_3 x0_4 x0_5 x0_6 x0_7 x1_0 x1_1 x1_2 x1_3 x1_4 x2_0 x2_1 x2_2 x2_3 x2_4 x3) Q := Tot.up (fun n => by rw [strat_Tests_lv]) h
theorem strat_Tests_ok (n : Nat) : OKo n strat_Tests_o := fun ih {_ _ _ _ _ _} h => by
  refine rowO_ok (cl := CL n) (ea := strat_Tests_e) (dr := strat_Tests_d) (fun _ _ h => strat_Tests_ae h) (fun _ _ h => strat_Tests_dr h) (fun a v h => ?_) h
  cases n with
  | zero => cases h
  | succ n =>
    rw [strat_Tests_lv] at h
    exact bodyK_ok noEq_ok (ih n rfl) rfl (fun _ _ h => strat_Tests_dr h) h
theorem strat_node_holds_lv (n : Nat) : (lv (n + 1)).strat_node_holds = strat_node_holds_b (lv n) n := by kernel_rfl
theorem strat_node_holds_up (x0_0 x0_1 x0_2 : LL) (x0_3 x0_4 x0_5 : Int) (x0_6 x0_7 : LL) (x0_8 : Int) (x0_9 x0_10 : ByteArray) (x0_11 : LL) (x0_12 : ByteArray) (x0_13 : LL) (x1_0 : Int) (x1_1 x1_2 x1_3 : ByteArray) (x1_4 x1_5 : LL) {Q : (Bool × LL × LL × LL × Int × Int × Int × LL × LL × Int × ByteArray × ByteArray × LL × ByteArray × LL) → Prop} (h : Tot (fun n _ _ => strat_node_holds_b (lv n) n x0_0 x0_1 x0_2 x0_3 x0_4 x0_5 x0_6 x0_7 x0_8 x0_9 x0_10 x0_11 x0_12 x0_13 x1_0 x1_1 x1_2 x1_3 x1_4 x1_5) Q) : Tot (fun n _ _ => (lv n).strat_node_holds x0_0 x0_1 x0_2 x0_3 x0_4 x0_5 x0_6 x0_7 x0_8 x0_9 x0_10 x0_11 x0_12 x0_13 x1_0 x1_1 x1_2 x1_3 x1_4 x1_5) Q := Tot.up (fun n => by rw [strat_node_holds_lv]) h
theorem strat_node_holds_ok (n : Nat) : OKo n strat_node_holds_o := fun ih {_ _ _ _ _ _} h => by
  refine rowO_ok (cl := CL n) (ea := strat_node_holds_e) (dr := strat_node_holds_d) (fun _ _ h => strat_node_holds_ae h) (fun _ _ h => strat_node_holds_dr h) (fun a v h => ?_) h
  cases n with
  | zero => cases h
  | succ n =>
    rw [strat_node_holds_lv] at h
    exact bodyK_ok noEq_ok (ih n rfl) rfl (fun _ _ h => strat_node_holds_dr h) h
theorem strat_node_attr_lv (n : Nat) : (lv (n + 1)).strat_node_attr = strat_node_attr_b (lv n) n := by kernel_rfl
theorem strat_node_attr_up (x0_0 x0_1 x0_2 : LL) (x0_3 x0_4 x0_5 : Int) (x0_6 x0_7 : LL) (x0_8 : Int) (x0_9 x0_10 : ByteArray) (x0_11 : LL) (x0_12 : ByteArray) (x0_13 : LL) (x1_0 x1_1 : ByteArray) {Q : (ByteArray × Bool × LL × LL × LL × Int × Int × Int × LL × LL × Int × ByteArray × ByteArray × LL × ByteArray × LL) → Prop} (h : Tot (fun n _ _ => strat_node_attr_b (lv n) n x0_0 x0_1 x0_2 x0_3 x0_4 x0_5 x0_6 x0_7 x0_8 x0_9 x0_10 x0_11 x0_12 x0_13 x1_0 x1_1) Q) : Tot (fun n _ _ => (lv n).strat_node_attr x0_0 x0_1 x0_2 x0_3 x0_4 x0_5 x0_6 x0_7 x0_8 x0_9 x0_10 x0_11 x0_12 x0_13 x1_0 x1_1) Q := Tot.up (fun n => by rw [strat_node_attr_lv]) h
theorem strat_node_attr_ok (n : Nat) : OKo n strat_node_attr_o := fun ih {_ _ _ _ _ _} h => by
  refine rowO_ok (cl := CL n) (ea := strat_node_attr_e) (dr := strat_node_attr_d) (fun _ _ h => strat_node_attr_ae h) (fun _ _ h => strat_node_attr_dr h) (fun a v h => ?_) h
  cases n with
  | zero => cases h
  | succ n =>
    rw [strat_node_attr_lv] at h
    exact bodyK_ok noEq_ok (ih n rfl) rfl (fun _ _ h => strat_node_attr_dr h) h
theorem api_Filter_lv (n : Nat) : (lv (n + 1)).api_Filter = api_Filter_b (lv n) n := by kernel_rfl
theorem api_Filter_up (x0 x1_0 x1_1 x1_2 : LL) (x1_3 x1_4 x1_5 : Int) (x1_6 x1_7 : LL) (x1_8 : Int) (x1_9 x1_10 : ByteArray) (x1_11 : LL) (x1_12 : ByteArray) (x1_13 : LL) {Q : Bool → Prop} (h : Tot (fun n _ _ => api_Filter_b (lv n) n x0 x1_0 x1_1 x1_2 x1_3 x1_4 x1_5 x1_6 x1_7 x1_8 x1_9 x1_10 x1_11 x1_12 x1_13) Q) : Tot (fun n _ _ => (lv n).api_Filter x0 x1_0 x1_1 x1_2 x1_3 x1_4 x1_5 x1_6 x1_7 x1_8 x1_9 x1_10 x1_11 x1_12 x1_13) Q := Tot.up (fun n => by rw [api_Filter_lv]) h
theorem api_Filter_ok (n : Nat) : OKo n api_Filter_o := fun ih {_ _ _ _ _ _} h => by
  refine rowO_ok (cl := CL n) (ea := api_Filter_e) (dr := api_Filter_d) (fun _ _ h => api_Filter_ae h) (fun _ _ h => api_Filter_dr h) (fun a v h => ?_) h
  cases n with
  | zero => cases h
  | succ n =>
    rw [api_Filter_lv] at h
    exact bodyK_ok noEq_ok (ih n rfl) rfl (fun _ _ h => api_Filter_dr h) h
theorem api_Filter_2_lv (n : Nat) : (lv (n + 1)).api_Filter_2 = api_Filter_2_b (lv n) n := by kernel_rfl
theorem api_Filter_2_up (x0 x1_0 x1_1 x1_2 : LL) (x1_3 x1_4 x1_5 : Int) (x1_6 x1_7 : LL) (x1_8 : Int) (x1_9 x1_10 : ByteArray) (x1_11 : LL) (x1_12 : ByteArray) (x1_13 : LL) {Q : Bool → Prop} (h : Tot (fun n _ _ => api_Filter_2_b (lv n) n x0 x1_0 x1_1 x1_2 x1_3 x1_4 x1_5 x1_6 x1_7 x1_8 x1_9 x1_10 x1_11 x1_12 x1_13) Q) : Tot (fun n _ _ => (lv n).api_Filter_2 x0 x1_0 x1_1 x1_2 x1_3 x1_4 x1_5 x1_6 x1_7 x1_8 x1_9 x1_10 x1_11 x1_12 x1_13) Q := Tot.up (fun n => by rw [api_Filter_2_lv]) h
theorem api_Filter_2_ok (n : Nat) : OKo n api_Filter_2_o := fun ih {_ _ _ _ _ _} h => by
  refine rowO_ok (cl := CL n) (ea := api_Filter_2_e) (dr := api_Filter_2_d) (fun _ _ h => api_Filter_2_ae h) (fun _ _ h => api_Filter_2_dr h) (fun a v h => ?_) h
  cases n with
  | zero => cases h
  | succ n =>
    rw [api_Filter_2_lv] at h
    exact bodyK_ok noEq_ok (ih n rfl) rfl (fun _ _ h => api_Filter_2_dr h) h
theorem api_Path_lv (n : Nat) : (lv (n + 1)).api_Path = api_Path_b (lv n) n := by kernel_rfl
theorem api_Path_up (x0 x1_0 x1_1 x1_2 : LL) (x1_3 x1_4 x1_5 : Int) (x1_6 x1_7 : LL) (x1_8 : Int) (x1_9 x1_10 : ByteArray) (x1_11 : LL) (x1_12 : ByteArray) (x1_13 : LL) {Q : Bool → Prop} (h : Tot (fun n _ _ => api_Path_b (lv n) n x0 x1_0 x1_1 x1_2 x1_3 x1_4 x1_5 x1_6 x1_7 x1_8 x1_9 x1_10 x1_11 x1_12 x1_13) Q) : Tot (fun n _ _ => (lv n).api_Path x0 x1_0 x1_1 x1_2 x1_3 x1_4 x1_5 x1_6 x1_7 x1_8 x1_9 x1_10 x1_11 x1_12 x1_13) Q := Tot.up (fun n => by rw [api_Path_lv]) h
theorem api_Path_ok (n : Nat) : OKo n api_Path_o := fun ih {_ _ _ _ _ _} h => by
  refine rowO_ok (cl := CL n) (ea := api_Path_e) (dr := api_Path_d) (fun _ _ h => api_Path_ae h) (fun _ _ h => api_Path_dr h) (fun a v h => ?_) h
  cases n with
  | zero => cases h
  | succ n =>
    rw [api_Path_lv] at h
    exact bodyK_ok noEq_ok (ih n rfl) rfl (fun _ _ h => api_Path_dr h) h
theorem api_Filter_3_lv (n : Nat) : (lv (n + 1)).api_Filter_3 = api_Filter_3_b (lv n) n := by kernel_rfl
theorem api_Filter_3_up (x0 x1_0 x1_1 x1_2 : LL) (x1_3 x1_4 x1_5 : Int) (x1_6 x1_7 : LL) (x1_8 : Int) (x1_9 x1_10 : ByteArray) (x1_11 : LL) (x1_12 : ByteArray) (x1_13 : LL) {Q : Int → Prop} (h : Tot (fun n _ _ => api_Filter_3_b (lv n) n x0 x1_0 x1_1 x1_2 x1_3 x1_4 x1_5 x1_6 x1_7 x1_8 x1_9 x1_10 x1_11 x1_12 x1_13) Q) : Tot (fun n _ _ => (lv n).api_Filter_3 x0 x1_0 x1_1 x1_2 x1_3 x1_4 x1_5 x1_6 x1_7 x1_8 x1_9 x1_10 x1_11 x1_12 x1_13) Q := Tot.up (fun n => by rw [api_Filter_3_lv]) h
theorem api_Filter_3_ok (n : Nat) : OKo n api_Filter_3_o := fun ih {_ _ _ _ _ _} h => by
  refine rowO_ok (cl := CL n) (ea := api_Filter_3_e) (dr := api_Filter_3_d) (fun _ _ h => api_Filter_3_ae h) (fun _ _ h => api_Filter_3_dr h) (fun a v h => ?_) h
  cases n with
  | zero => cases h
  | succ n =>
    rw [api_Filter_3_lv] at h
    exact bodyK_ok noEq_ok (ih n rfl) rfl (fun _ _ h => api_Filter_3_dr h) h
theorem api_Filter_4_lv (n : Nat) : (lv (n + 1)).api_Filter_4 = api_Filter_4_b (lv n) n := by kernel_rfl
theorem api_Filter_4_up (x0 x1_0 x1_1 x1_2 : LL) (x1_3 x1_4 x1_5 : Int) (x1_6 x1_7 : LL) (x1_8 : Int) (x1_9 x1_10 : ByteArray) (x1_11 : LL) (x1_12 : ByteArray) (x1_13 : LL) {Q : Int → Prop} (h : Tot (fun n _ _ => api_Filter_4_b (lv n) n x0 x1_0 x1_1 x1_2 x1_3 x1_4 x1_5 x1_6 x1_7 x1_8 x1_9 x1_10 x1_11 x1_12 x1_13) Q) : Tot (fun n _ _ => (lv n).api_Filter_4 x0 x1_0 x1_1 x1_2 x1_3 x1_4 x1_5 x1_6 x1_7 x1_8 x1_9 x1_10 x1_11 x1_12 x1_13) Q := Tot.up (fun n => by rw [api_Filter_4_lv]) h
theorem api_Filter_4_ok (n : Nat) : OKo n api_Filter_4_o := fun ih {_ _ _ _ _ _} h => by
  refine rowO_ok (cl := CL n) (ea := api_Filter_4_e) (dr := api_Filter_4_d) (fun _ _ h => api_Filter_4_ae h) (fun _ _ h => api_Filter_4_dr h) (fun a v h => ?_) h
  cases n with
  | zero => cases h
  | succ n =>
    rw [api_Filter_4_lv] at h
    exact bodyK_ok noEq_ok (ih n rfl) rfl (fun _ _ h => api_Filter_4_dr h) h
theorem api_Path_2_lv (n : Nat) : (lv (n + 1)).api_Path_2 = api_Path_2_b (lv n) n := by kernel_rfl
theorem api_Path_2_up (x0 x1_0 x1_1 x1_2 : LL) (x1_3 x1_4 x1_5 : Int) (x1_6 x1_7 : LL) (x1_8 : Int) (x1_9 x1_10 : ByteArray) (x1_11 : LL) (x1_12 : ByteArray) (x1_13 : LL) {Q : Int → Prop} (h : Tot (fun n _ _ => api_Path_2_b (lv n) n x0 x1_0 x1_1 x1_2 x1_3 x1_4 x1_5 x1_6 x1_7 x1_8 x1_9 x1_10 x1_11 x1_12 x1_13) Q) : Tot (fun n _ _ => (lv n).api_Path_2 x0 x1_0 x1_1 x1_2 x1_3 x1_4 x1_5 x1_6 x1_7 x1_8 x1_9 x1_10 x1_11 x1_12 x1_13) Q := Tot.up (fun n => by rw [api_Path_2_lv]) h
theorem api_Path_2_ok (n : Nat) : OKo n api_Path_2_o := fun ih {_ _ _ _ _ _} h => by
  refine rowO_ok (cl := CL n) (ea := api_Path_2_e) (dr := api_Path_2_d) (fun _ _ h => api_Path_2_ae h) (fun _ _ h => api_Path_2_dr h) (fun a v h => ?_) h
  cases n with
  | zero => cases h
  | succ n =>
    rw [api_Path_2_lv] at h
    exact bodyK_ok noEq_ok (ih n rfl) rfl (fun _ _ h => api_Path_2_dr h) h
theorem strat_node_fails_lv (n : Nat) : (lv (n + 1)).strat_node_fails = strat_node_fails_b (lv n) n := by kernel_rfl
theorem strat_node_fails_up (x0_0 x0_1 x0_2 : LL) (x0_3 x0_4 x0_5 : Int) (x0_6 x0_7 : LL) (x0_8 : Int) (x0_9 x0_10 : ByteArray) (x0_11 : LL) (x0_12 : ByteArray) (x0_13 : LL) (x1_0 : Int) (x1_1 x1_2 x1_3 : ByteArray) (x1_4 x1_5 : LL) {Q : Bool → Prop} (h : Tot (fun n _ _ => strat_node_fails_b (lv n) n x0_0 x0_1 x0_2 x0_3 x0_4 x0_5 x0_6 x0_7 x0_8 x0_9 x0_10 x0_11 x0_12 x0_13 x1_0 x1_1 x1_2 x1_3 x1_4 x1_5) Q) : Tot (fun n _ _ => (lv n).strat_node_fails x0_0 x0_1 x0_2 x0_3 x0_4 x0_5 x0_6 x0_7 x0_8 x0_9 x0_10 x0_11 x0_12 x0_13 x1_0 x1_1 x1_2 x1_3 x1_4 x1_5) Q := Tot.up (fun n => by rw [strat_node_fails_lv]) h
theorem strat_node_fails_ok (n : Nat) : OKo n strat_node_fails_o := fun ih {_ _ _ _ _ _} h => by
  refine rowO_ok (cl := CL n) (ea := strat_node_fails_e) (dr := strat_node_fails_d) (fun _ _ h => strat_node_fails_ae h) (fun _ _ h => strat_node_fails_dr h) (fun a v h => ?_) h
  cases n with
  | zero => cases h
  | succ n =>
    rw [strat_node_fails_lv] at h
    exact bodyK_ok noEq_ok (ih n rfl) rfl (fun _ _ h => strat_node_fails_dr h) h
theorem strat_node_holds_2_lv (n : Nat) : (lv (n + 1)).strat_node_holds_2 = strat_node_holds_2_b (lv n) n := by kernel_rfl
theorem strat_node_holds_2_up (x0_0 x0_1 x0_2 : LL) (x0_3 x0_4 x0_5 : Int) (x0_6 x0_7 : LL) (x0_8 : Int) (x0_9 x0_10 : ByteArray) (x0_11 : LL) (x0_12 : ByteArray) (x0_13 : LL) (x1_0 : Int) (x1_1 x1_2 x1_3 : ByteArray) (x1_4 x1_5 : LL) {Q : Bool → Prop} (h : Tot (fun n _ _ => strat_node_holds_2_b (lv n) n x0_0 x0_1 x0_2 x0_3 x0_4 x0_5 x0_6 x0_7 x0_8 x0_9 x0_10 x0_11 x0_12 x0_13 x1_0 x1_1 x1_2 x1_3 x1_4 x1_5) Q) : Tot (fun n _ _ => (lv n).strat_node_holds_2 x0_0 x0_1 x0_2 x0_3 x0_4 x0_5 x0_6 x0_7 x0_8 x0_9 x0_10 x0_11 x0_12 x0_13 x1_0 x1_1 x1_2 x1_3 x1_4 x1_5) Q := Tot.up (fun n => by rw [strat_node_holds_2_lv]) h
theorem strat_node_holds_2_ok (n : Nat) : OKo n strat_node_holds_2_o := fun ih {_ _ _ _ _ _} h => by
  refine rowO_ok (cl := CL n) (ea := strat_node_holds_2_e) (dr := strat_node_holds_2_d) (fun _ _ h => strat_node_holds_2_ae h) (fun _ _ h => strat_node_holds_2_dr h) (fun a v h => ?_) h
  cases n with
  | zero => cases h
  | succ n =>
    rw [strat_node_holds_2_lv] at h
    exact bodyK_ok noEq_ok (ih n rfl) rfl (fun _ _ h => strat_node_holds_2_dr h) h
theorem strat_node_leads_lv (n : Nat) : (lv (n + 1)).strat_node_leads = strat_node_leads_b (lv n) n := by kernel_rfl
theorem strat_node_leads_up (x0_0 x0_1 x0_2 : LL) (x0_3 x0_4 x0_5 : Int) (x0_6 x0_7 : LL) (x0_8 : Int) (x0_9 x0_10 : ByteArray) (x0_11 : LL) (x0_12 : ByteArray) (x0_13 : LL) (x1_0 : Int) (x1_1 x1_2 : LL) {Q : Bool → Prop} (h : Tot (fun n _ _ => strat_node_leads_b (lv n) n x0_0 x0_1 x0_2 x0_3 x0_4 x0_5 x0_6 x0_7 x0_8 x0_9 x0_10 x0_11 x0_12 x0_13 x1_0 x1_1 x1_2) Q) : Tot (fun n _ _ => (lv n).strat_node_leads x0_0 x0_1 x0_2 x0_3 x0_4 x0_5 x0_6 x0_7 x0_8 x0_9 x0_10 x0_11 x0_12 x0_13 x1_0 x1_1 x1_2) Q := Tot.up (fun n => by rw [strat_node_leads_lv]) h
theorem strat_node_leads_ok (n : Nat) : OKo n strat_node_leads_o := fun ih {_ _ _ _ _ _} h => by
  refine rowO_ok (cl := CL n) (ea := strat_node_leads_e) (dr := strat_node_leads_d) (fun _ _ h => strat_node_leads_ae h) (fun _ _ h => strat_node_leads_dr h) (fun a v h => ?_) h
  cases n with
  | zero => cases h
  | succ n =>
    rw [strat_node_leads_lv] at h
    exact bodyK_ok noEq_ok (ih n rfl) rfl (fun _ _ h => strat_node_leads_dr h) h
theorem strat_node_attr_2_lv (n : Nat) : (lv (n + 1)).strat_node_attr_2 = strat_node_attr_2_b (lv n) n := by kernel_rfl
theorem strat_node_attr_2_up (x0_0 x0_1 x0_2 : LL) (x0_3 x0_4 x0_5 : Int) (x0_6 x0_7 : LL) (x0_8 : Int) (x0_9 x0_10 : ByteArray) (x0_11 : LL) (x0_12 : ByteArray) (x0_13 : LL) (x1_0 x1_1 : ByteArray) {Q : (ByteArray × Bool) → Prop} (h : Tot (fun n _ _ => strat_node_attr_2_b (lv n) n x0_0 x0_1 x0_2 x0_3 x0_4 x0_5 x0_6 x0_7 x0_8 x0_9 x0_10 x0_11 x0_12 x0_13 x1_0 x1_1) Q) : Tot (fun n _ _ => (lv n).strat_node_attr_2 x0_0 x0_1 x0_2 x0_3 x0_4 x0_5 x0_6 x0_7 x0_8 x0_9 x0_10 x0_11 x0_12 x0_13 x1_0 x1_1) Q := Tot.up (fun n => by rw [strat_node_attr_2_lv]) h
theorem strat_node_attr_2_ok (n : Nat) : OKo n strat_node_attr_2_o := fun ih {_ _ _ _ _ _} h => by
  refine rowO_ok (cl := CL n) (ea := strat_node_attr_2_e) (dr := strat_node_attr_2_d) (fun _ _ h => strat_node_attr_2_ae h) (fun _ _ h => strat_node_attr_2_dr h) (fun a v h => ?_) h
  cases n with
  | zero => cases h
  | succ n =>
    rw [strat_node_attr_2_lv] at h
    exact bodyK_ok noEq_ok (ih n rfl) rfl (fun _ _ h => strat_node_attr_2_dr h) h
theorem strat_Find_lv (n : Nat) : (lv (n + 1)).strat_Find = strat_Find_b (lv n) n := by kernel_rfl
theorem strat_Find_up (x0_0 x0_1 x0_2 : LL) (x0_3 x0_4 x0_5 : Int) (x0_6 x0_7 : LL) (x1_0 : Int) (x1_1 x1_2 : LL) {Q : Int → Prop} (h : Tot (fun n _ _ => strat_Find_b (lv n) n x0_0 x0_1 x0_2 x0_3 x0_4 x0_5 x0_6 x0_7 x1_0 x1_1 x1_2) Q) : Tot (fun n _ _ => (lv n).strat_Find x0_0 x0_1 x0_2 x0_3 x0_4 x0_5 x0_6 x0_7 x1_0 x1_1 x1_2) Q := Tot.up (fun n => by rw [strat_Find_lv]) h
theorem strat_Find_ok (n : Nat) : OKo n strat_Find_o := fun ih {_ _ _ _ _ _} h => by
  refine rowO_ok (cl := CL n) (ea := strat_Find_e) (dr := strat_Find_d) (fun _ _ h => strat_Find_ae h) (fun _ _ h => strat_Find_dr h) (fun a v h => ?_) h
  cases n with
  | zero => cases h
  | succ n =>
    rw [strat_Find_lv] at h
    exact bodyK_ok noEq_ok (ih n rfl) rfl (fun _ _ h => strat_Find_dr h) h
theorem api_Path_3_lv (n : Nat) : (lv (n + 1)).api_Path_3 = api_Path_3_b (lv n) n := by kernel_rfl
theorem api_Path_3_up (x0 : LL) (x1_0 : Int) (x1_1 x1_2 : LL) {Q : Int → Prop} (h : Tot (fun n _ _ => api_Path_3_b (lv n) n x0 x1_0 x1_1 x1_2) Q) : Tot (fun n _ _ => (lv n).api_Path_3 x0 x1_0 x1_1 x1_2) Q := Tot.up (fun n => by rw [api_Path_3_lv]) h
theorem api_Path_3_ok (n : Nat) : OKo n api_Path_3_o := fun ih {_ _ _ _ _ _} h => by
  refine rowO_ok (cl := CL n) (ea := api_Path_3_e) (dr := api_Path_3_d) (fun _ _ h => api_Path_3_ae h) (fun _ _ h => api_Path_3_dr h) (fun a v h => ?_) h
  cases n with
  | zero => cases h
  | succ n =>
    rw [api_Path_3_lv] at h
    exact bodyK_ok noEq_ok (ih n rfl) rfl (fun _ _ h => api_Path_3_dr h) h
theorem strat_Find_1_lv (n : Nat) : (lv (n + 1)).strat_Find_1 = strat_Find_1_b (lv n) n := by kernel_rfl
theorem strat_Find_1_up (x0_0 : Int) (x0_1 x0_2 : LL) (x1_0 : Int) (x1_1 x1_2 : LL) {Q : Bool → Prop} (h : Tot (fun n _ _ => strat_Find_1_b (lv n) n x0_0 x0_1 x0_2 x1_0 x1_1 x1_2) Q) : Tot (fun n _ _ => (lv n).strat_Find_1 x0_0 x0_1 x0_2 x1_0 x1_1 x1_2) Q := Tot.up (fun n => by rw [strat_Find_1_lv]) h
theorem strat_Find_1_ok (n : Nat) : OKo n strat_Find_1_o := fun ih {_ _ _ _ _ _} h => by
  refine rowO_ok (cl := CL n) (ea := strat_Find_1_e) (dr := strat_Find_1_d) (fun _ _ h => strat_Find_1_ae h) (fun _ _ h => strat_Find_1_dr h) (fun a v h => ?_) h
  cases n with
  | zero => cases h
  | succ n =>
    rw [strat_Find_1_lv] at h
    exact bodyK_ok noEq_ok (ih n rfl) rfl (fun _ _ h => strat_Find_1_dr h) h
theorem path_Same_lv (n : Nat) : (lv (n + 1)).path_Same = path_Same_b (lv n) n := by kernel_rfl
theorem path_Same_up (x0_0 : Int) (x0_1 x0_2 : LL) (x1_0 : Int) (x1_1 x1_2 : LL) {Q : Bool → Prop} (h : Tot (fun n _ _ => path_Same_b (lv n) n x0_0 x0_1 x0_2 x1_0 x1_1 x1_2) Q) : Tot (fun n _ _ => (lv n).path_Same x0_0 x0_1 x0_2 x1_0 x1_1 x1_2) Q := Tot.up (fun n => by rw [path_Same_lv]) h
theorem path_Same_ok (n : Nat) : OKo n path_Same_o := fun ih {_ _ _ _ _ _} h => by
  refine rowO_ok (cl := CL n) (ea := path_Same_e) (dr := path_Same_d) (fun _ _ h => path_Same_ae h) (fun _ _ h => path_Same_dr h) (fun a v h => ?_) h
  cases n with
  | zero => cases h
  | succ n =>
    rw [path_Same_lv] at h
    exact bodyK_ok noEq_ok (ih n rfl) rfl (fun _ _ h => path_Same_dr h) h
theorem api_Path_4_lv (n : Nat) : (lv (n + 1)).api_Path_4 = api_Path_4_b (lv n) n := by kernel_rfl
theorem api_Path_4_up (x0 x1 : LL) {Q : Bool → Prop} (h : Tot (fun n _ _ => api_Path_4_b (lv n) n x0 x1) Q) : Tot (fun n _ _ => (lv n).api_Path_4 x0 x1) Q := Tot.up (fun n => by rw [api_Path_4_lv]) h
theorem api_Path_4_ok (n : Nat) : OKo n api_Path_4_o := fun ih {_ _ _ _ _ _} h => by
  refine rowO_ok (cl := CL n) (ea := api_Path_4_e) (dr := api_Path_4_d) (fun _ _ h => api_Path_4_ae h) (fun _ _ h => api_Path_4_dr h) (fun a v h => ?_) h
  cases n with
  | zero => cases h
  | succ n =>
    rw [api_Path_4_lv] at h
    exact bodyK_ok noEq_ok (ih n rfl) rfl (fun _ _ h => api_Path_4_dr h) h
theorem kind_Whole_lv (n : Nat) : (lv (n + 1)).kind_Whole = kind_Whole_b (lv n) n := by kernel_rfl
theorem kind_Whole_ok (n : Nat) : OKo n kind_Whole_o := fun ih {_ _ _ _ _ _} h => by
  refine rowO_ok (cl := CL n) (ea := kind_Whole_e) (dr := kind_Whole_d) (fun _ _ h => kind_Whole_ae h) (fun _ _ h => kind_Whole_dr h) (fun a v h => ?_) h
  cases n with
  | zero => cases h
  | succ n =>
    rw [kind_Whole_lv] at h
    exact bodyK_ok noEq_ok (ih n rfl) rfl (fun _ _ h => kind_Whole_dr h) h
theorem kind_maker_leads_lv (n : Nat) : (lv (n + 1)).kind_maker_leads = kind_maker_leads_b (lv n) n := by kernel_rfl
theorem kind_maker_leads_up (x0_0 x0_1 x0_2 : LL) (x0_3 x0_4 x0_5 : Int) (x0_6 x0_7 : LL) (x0_8 : Int) (x0_9 x0_10 : ByteArray) (x0_11 : LL) (x0_12 : ByteArray) (x0_13 x0_14 : Bool) (x0_15 : ByteArray) (x0_16 x0_17 : Bool) (x0_18 : ByteArray) (x0_19 : LL) (x1 x2_0 x2_1 x2_2 x2_3 : Int) (x3 : LL) {Q : (Bool × LL × LL × LL × Int × Int × Int × LL × LL × Int × ByteArray × ByteArray × LL × ByteArray × Bool × Bool × ByteArray × Bool × Bool × ByteArray × LL) → Prop} (h : Tot (fun n _ _ => kind_maker_leads_b (lv n) n x0_0 x0_1 x0_2 x0_3 x0_4 x0_5 x0_6 x0_7 x0_8 x0_9 x0_10 x0_11 x0_12 x0_13 x0_14 x0_15 x0_16 x0_17 x0_18 x0_19 x1 x2_0 x2_1 x2_2 x2_3 x3) Q) : Tot (fun n _ _ => (lv n).kind_maker_leads x0_0 x0_1 x0_2 x0_3 x0_4 x0_5 x0_6 x0_7 x0_8 x0_9 x0_10 x0_11 x0_12 x0_13 x0_14 x0_15 x0_16 x0_17 x0_18 x0_19 x1 x2_0 x2_1 x2_2 x2_3 x3) Q := Tot.up (fun n => by rw [kind_maker_leads_lv]) h
theorem kind_maker_leads_ok (n : Nat) : OKo n kind_maker_leads_o := fun ih {_ _ _ _ _ _} h => by
  refine rowO_ok (cl := CL n) (ea := kind_maker_leads_e) (dr := kind_maker_leads_d) (fun _ _ h => kind_maker_leads_ae h) (fun _ _ h => kind_maker_leads_dr h) (fun a v h => ?_) h
  cases n with
  | zero => cases h
  | succ n =>
    rw [kind_maker_leads_lv] at h
    exact bodyK_ok noEq_ok (ih n rfl) rfl (fun _ _ h => kind_maker_leads_dr h) h
theorem api_Filter_5_lv (n : Nat) : (lv (n + 1)).api_Filter_5 = api_Filter_5_b (lv n) n := by kernel_rfl
theorem api_Filter_5_up (x0 x1 : LL) {Q : Bool → Prop} (h : Tot (fun n _ _ => api_Filter_5_b (lv n) n x0 x1) Q) : Tot (fun n _ _ => (lv n).api_Filter_5 x0 x1) Q := Tot.up (fun n => by rw [api_Filter_5_lv]) h
theorem api_Filter_5_ok (n : Nat) : OKo n api_Filter_5_o := fun ih {_ _ _ _ _ _} h => by
  refine rowO_ok (cl := CL n) (ea := api_Filter_5_e) (dr := api_Filter_5_d) (fun _ _ h => api_Filter_5_ae h) (fun _ _ h => api_Filter_5_dr h) (fun a v h => ?_) h
  cases n with
  | zero => cases h
  | succ n =>
    rw [api_Filter_5_lv] at h
    exact bodyK_ok noEq_ok (ih n rfl) rfl (fun _ _ h => api_Filter_5_dr h) h
theorem word_Whole_lv (n : Nat) : (lv (n + 1)).word_Whole = word_Whole_b (lv n) n := by kernel_rfl
theorem word_Whole_ok (n : Nat) : OKo n word_Whole_o := fun ih {_ _ _ _ _ _} h => by
  refine rowO_ok (cl := CL n) (ea := word_Whole_e) (dr := word_Whole_d) (fun _ _ h => word_Whole_ae h) (fun _ _ h => word_Whole_dr h) (fun a v h => ?_) h
  cases n with
  | zero => cases h
  | succ n =>
    rw [word_Whole_lv] at h
    exact bodyK_ok noEq_ok (ih n rfl) rfl (fun _ _ h => word_Whole_dr h) h
theorem kind_good_lv (n : Nat) : (lv (n + 1)).kind_good = kind_good_b (lv n) n := by kernel_rfl
theorem kind_good_up (x0_0 x0_1 : Bool) (x0_2 : ByteArray) (x1 : Int) {Q : Bool → Prop} (h : Tot (fun n _ _ => kind_good_b (lv n) n x0_0 x0_1 x0_2 x1) Q) : Tot (fun n _ _ => (lv n).kind_good x0_0 x0_1 x0_2 x1) Q := Tot.up (fun n => by rw [kind_good_lv]) h
theorem kind_good_ok (n : Nat) : OKo n kind_good_o := fun ih {_ _ _ _ _ _} h => by
  refine rowO_ok (cl := CL n) (ea := kind_good_e) (dr := kind_good_d) (fun _ _ h => kind_good_ae h) (fun _ _ h => kind_good_dr h) (fun a v h => ?_) h
  cases n with
  | zero => cases h
  | succ n =>
    rw [kind_good_lv] at h
    exact bodyK_ok noEq_ok (ih n rfl) rfl (fun _ _ h => kind_good_dr h) h
theorem path_sameFilter_lv (n : Nat) : (lv (n + 1)).path_sameFilter = path_sameFilter_b (lv n) n := by kernel_rfl
theorem path_sameFilter_up (x0_0 : Int) (x0_1 x0_2 x0_3 : ByteArray) (x0_4 x0_5 : LL) (x1_0 : Int) (x1_1 x1_2 x1_3 : ByteArray) (x1_4 x1_5 : LL) {Q : Bool → Prop} (h : Tot (fun n _ _ => path_sameFilter_b (lv n) n x0_0 x0_1 x0_2 x0_3 x0_4 x0_5 x1_0 x1_1 x1_2 x1_3 x1_4 x1_5) Q) : Tot (fun n _ _ => (lv n).path_sameFilter x0_0 x0_1 x0_2 x0_3 x0_4 x0_5 x1_0 x1_1 x1_2 x1_3 x1_4 x1_5) Q := Tot.up (fun n => by rw [path_sameFilter_lv]) h
theorem path_sameFilter_ok (n : Nat) : OKo n path_sameFilter_o := fun ih {_ _ _ _ _ _} h => by
  refine rowO_ok (cl := CL n) (ea := path_sameFilter_e) (dr := path_sameFilter_d) (fun _ _ h => path_sameFilter_ae h) (fun _ _ h => path_sameFilter_dr h) (fun a v h => ?_) h
  cases n with
  | zero => cases h
  | succ n =>
    rw [path_sameFilter_lv] at h
    exact bodyK_ok noEq_ok (ih n rfl) rfl (fun _ _ h => path_sameFilter_dr h) h
theorem word_Begins_lv (n : Nat) : (lv (n + 1)).word_Begins = word_Begins_b (lv n) n := by kernel_rfl
theorem word_Begins_ok (n : Nat) : OKo n word_Begins_o := fun ih {_ _ _ _ _ _} h => by
  refine rowO_ok (cl := CL n) (ea := word_Begins_e) (dr := word_Begins_d) (fun _ _ h => word_Begins_ae h) (fun _ _ h => word_Begins_dr h) (fun a v h => ?_) h
  cases n with
  | zero => cases h
  | succ n =>
    rw [word_Begins_lv] at h
    exact bodyK_ok noEq_ok (ih n rfl) rfl (fun _ _ h => word_Begins_dr h) h
theorem word_Right_lv (n : Nat) : (lv (n + 1)).word_Right = word_Right_b (lv n) n := by kernel_rfl
theorem word_Right_ok (n : Nat) : OKo n word_Right_o := fun ih {_ _ _ _ _ _} h => by
  refine rowO_ok (cl := CL n) (ea := word_Right_e) (dr := word_Right_d) (fun _ _ h => word_Right_ae h) (fun _ _ h => word_Right_dr h) (fun a v h => ?_) h
  cases n with
  | zero => cases h
  | succ n =>
    rw [word_Right_lv] at h
    exact bodyK_ok noEq_ok (ih n rfl) rfl (fun _ _ h => word_Right_dr h) h
theorem word_named_lv (n : Nat) : (lv (n + 1)).word_named = word_named_b (lv n) n := by kernel_rfl
theorem word_named_ok (n : Nat) : OKo n word_named_o := fun ih {_ _ _ _ _ _} h => by
  refine rowO_ok (cl := CL n) (ea := word_named_e) (dr := word_named_d) (fun _ _ h => word_named_ae h) (fun _ _ h => word_named_dr h) (fun a v h => ?_) h
  cases n with
  | zero => cases h
  | succ n =>
    rw [word_named_lv] at h
    exact bodyK_ok noEq_ok (ih n rfl) rfl (fun _ _ h => word_named_dr h) h
theorem word_text_lv (n : Nat) : (lv (n + 1)).word_text = word_text_b (lv n) n := by kernel_rfl
theorem word_text_ok (n : Nat) : OKo n word_text_o := fun ih {_ _ _ _ _ _} h => by
  refine rowO_ok (cl := CL n) (ea := word_text_e) (dr := word_text_d) (fun _ _ h => word_text_ae h) (fun _ _ h => word_text_dr h) (fun a v h => ?_) h
  cases n with
  | zero => cases h
  | succ n =>
    rw [word_text_lv] at h
    exact bodyK_ok noEq_ok (ih n rfl) rfl (fun _ _ h => word_text_dr h) h
theorem name_Plain_lv (n : Nat) : (lv (n + 1)).name_Plain = name_Plain_b (lv n) n := by kernel_rfl
theorem name_Plain_ok (n : Nat) : OKo n name_Plain_o := fun ih {_ _ _ _ _ _} h => by
  refine rowO_ok (cl := CL n) (ea := name_Plain_e) (dr := name_Plain_d) (fun _ _ h => name_Plain_ae h) (fun _ _ h => name_Plain_dr h) (fun a v h => ?_) h
  cases n with
  | zero => cases h
  | succ n =>
    rw [name_Plain_lv] at h
    exact bodyK_ok noEq_ok (ih n rfl) rfl (fun _ _ h => name_Plain_dr h) h
theorem utf_All_lv (n : Nat) : (lv (n + 1)).utf_All = utf_All_b (lv n) n := by kernel_rfl
theorem utf_All_ok (n : Nat) : OKo n utf_All_o := fun ih {_ _ _ _ _ _} h => by
  refine rowO_ok (cl := CL n) (ea := utf_All_e) (dr := utf_All_d) (fun _ _ h => utf_All_ae h) (fun _ _ h => utf_All_dr h) (fun a v h => ?_) h
  cases n with
  | zero => cases h
  | succ n =>
    rw [utf_All_lv] at h
    exact bodyK_ok noEq_ok (ih n rfl) rfl (fun _ _ h => utf_All_dr h) h
theorem char_Start_lv (n : Nat) : (lv (n + 1)).char_Start = char_Start_b (lv n) n := by kernel_rfl
theorem char_Start_ok (n : Nat) : OKo n char_Start_o := fun ih {_ _ _ _ _ _} h => by
  refine rowO_ok (cl := CL n) (ea := char_Start_e) (dr := char_Start_d) (fun _ _ h => char_Start_ae h) (fun _ _ h => char_Start_dr h) (fun a v h => ?_) h
  cases n with
  | zero => cases h
  | succ n =>
    rw [char_Start_lv] at h
    exact bodyK_ok noEq_ok (ih n rfl) rfl (fun _ _ h => char_Start_dr h) h
theorem utf_Rune_lv (n : Nat) : (lv (n + 1)).utf_Rune = utf_Rune_b (lv n) n := by kernel_rfl
theorem utf_Rune_ok (n : Nat) : OKo n utf_Rune_o := fun ih {_ _ _ _ _ _} h => by
  refine rowO_ok (cl := CL n) (ea := utf_Rune_e) (dr := utf_Rune_d) (fun _ _ h => utf_Rune_ae h) (fun _ _ h => utf_Rune_dr h) (fun a v h => ?_) h
  cases n with
  | zero => cases h
  | succ n =>
    rw [utf_Rune_lv] at h
    exact bodyK_ok noEq_ok (ih n rfl) rfl (fun _ _ h => utf_Rune_dr h) h
theorem char_in_lv (n : Nat) : (lv (n + 1)).char_in = char_in_b (lv n) n := by kernel_rfl
theorem char_in_ok (n : Nat) : OKo n char_in_o := fun ih {_ _ _ _ _ _} h => by
  refine rowO_ok (cl := CL n) (ea := char_in_e) (dr := char_in_d) (fun _ _ h => char_in_ae h) (fun _ _ h => char_in_dr h) (fun a v h => ?_) h
  cases n with
  | zero => cases h
  | succ n =>
    rw [char_in_lv] at h
    exact bodyK_ok noEq_ok (ih n rfl) rfl (fun _ _ h => char_in_dr h) h
theorem utf_forms_lv (n : Nat) : (lv (n + 1)).utf_forms = utf_forms_b (lv n) n := by kernel_rfl
theorem utf_forms_ok (n : Nat) : OKo n utf_forms_o := fun ih {_ _ _ _ _ _} h => by
  refine rowO_ok (cl := CL n) (ea := utf_forms_e) (dr := utf_forms_d) (fun _ _ h => utf_forms_ae h) (fun _ _ h => utf_forms_dr h) (fun a v h => ?_) h
  cases n with
  | zero => cases h
  | succ n =>
    rw [utf_forms_lv] at h
    exact bodyK_ok noEq_ok (ih n rfl) rfl (fun _ _ h => utf_forms_dr h) h
theorem word_Nodes_lv (n : Nat) : (lv (n + 1)).word_Nodes = word_Nodes_b (lv n) n := by kernel_rfl
theorem word_Nodes_ok (n : Nat) : OKo n word_Nodes_o := fun ih {_ _ _ _ _ _} h => by
  refine rowO_ok (cl := CL n) (ea := word_Nodes_e) (dr := word_Nodes_d) (fun _ _ h => word_Nodes_ae h) (fun _ _ h => word_Nodes_dr h) (fun a v h => ?_) h
  cases n with
  | zero => cases h
  | succ n =>
    rw [word_Nodes_lv] at h
    exact bodyK_ok noEq_ok (ih n rfl) rfl (fun _ _ h => word_Nodes_dr h) h
theorem word_Depth_lv (n : Nat) : (lv (n + 1)).word_Depth = word_Depth_b (lv n) n := by kernel_rfl
theorem word_Depth_ok (n : Nat) : OKo n word_Depth_o := fun ih {_ _ _ _ _ _} h => by
  refine rowO_ok (cl := CL n) (ea := word_Depth_e) (dr := word_Depth_d) (fun _ _ h => word_Depth_ae h) (fun _ _ h => word_Depth_dr h) (fun a v h => ?_) h
  cases n with
  | zero => cases h
  | succ n =>
    rw [word_Depth_lv] at h
    exact bodyK_ok noEq_ok (ih n rfl) rfl (fun _ _ h => word_Depth_dr h) h
theorem char_All_lv (n : Nat) : (lv (n + 1)).char_All = char_All_b (lv n) n := by kernel_rfl
theorem char_All_ok (n : Nat) : OKo n char_All_o := fun ih {_ _ _ _ _ _} h => by
  refine rowO_ok (cl := CL n) (ea := char_All_e) (dr := char_All_d) (fun _ _ h => char_All_ae h) (fun _ _ h => char_All_dr h) (fun a v h => ?_) h
  cases n with
  | zero => cases h
  | succ n =>
    rw [char_All_lv] at h
    exact bodyK_ok noEq_ok (ih n rfl) rfl (fun _ _ h => char_All_dr h) h
theorem utf_span_lv (n : Nat) : (lv (n + 1)).utf_span = utf_span_b (lv n) n := by kernel_rfl
theorem utf_span_ok (n : Nat) : OKo n utf_span_o := fun ih {_ _ _ _ _ _} h => by
  refine rowO_ok (cl := CL n) (ea := utf_span_e) (dr := utf_span_d) (fun _ _ h => utf_span_ae h) (fun _ _ h => utf_span_dr h) (fun a v h => ?_) h
  cases n with
  | zero => cases h
  | succ n =>
    rw [utf_span_lv] at h
    exact bodyK_ok noEq_ok (ih n rfl) rfl (fun _ _ h => utf_span_dr h) h
theorem char_Char_lv (n : Nat) : (lv (n + 1)).char_Char = char_Char_b (lv n) n := by kernel_rfl
theorem char_Char_ok (n : Nat) : OKo n char_Char_o := fun ih {_ _ _ _ _ _} h => by
  refine rowO_ok (cl := CL n) (ea := char_Char_e) (dr := char_Char_d) (fun _ _ h => char_Char_ae h) (fun _ _ h => char_Char_dr h) (fun a v h => ?_) h
  cases n with
  | zero => cases h
  | succ n =>
    rw [char_Char_lv] at h
    exact bodyK_ok noEq_ok (ih n rfl) rfl (fun _ _ h => char_Char_dr h) h
theorem char_Blank_lv (n : Nat) : (lv (n + 1)).char_Blank = char_Blank_b (lv n) n := by kernel_rfl
theorem char_Blank_ok (n : Nat) : OKo n char_Blank_o := fun ih {_ _ _ _ _ _} h => by
  refine rowO_ok (cl := CL n) (ea := char_Blank_e) (dr := char_Blank_d) (fun _ _ h => char_Blank_ae h) (fun _ _ h => char_Blank_dr h) (fun a v h => ?_) h
  cases n with
  | zero => cases h
  | succ n =>
    rw [char_Blank_lv] at h
    exact bodyK_ok noEq_ok (ih n rfl) rfl (fun _ _ h => char_Blank_dr h) h
theorem kind_Arrive_lv (n : Nat) : (lv (n + 1)).kind_Arrive = kind_Arrive_b (lv n) n := by kernel_rfl
theorem kind_Arrive_ok (n : Nat) : OKo n kind_Arrive_o := fun ih {_ _ _ _ _ _} h => by
  refine rowO_ok (cl := CL n) (ea := kind_Arrive_e) (dr := kind_Arrive_d) (fun _ _ h => kind_Arrive_ae h) (fun _ _ h => kind_Arrive_dr h) (fun a v h => ?_) h
  cases n with
  | zero => cases h
  | succ n =>
    rw [kind_Arrive_lv] at h
    exact bodyK_ok noEq_ok (ih n rfl) rfl (fun _ _ h => kind_Arrive_dr h) h
theorem word_attrs_lv (n : Nat) : (lv (n + 1)).word_attrs = word_attrs_b (lv n) n := by kernel_rfl
theorem word_attrs_ok (n : Nat) : OKo n word_attrs_o := fun ih {_ _ _ _ _ _} h => by
  refine rowO_ok (cl := CL n) (ea := word_attrs_e) (dr := word_attrs_d) (fun _ _ h => word_attrs_ae h) (fun _ _ h => word_attrs_dr h) (fun a v h => ?_) h
  cases n with
  | zero => cases h
  | succ n =>
    rw [word_attrs_lv] at h
    exact bodyK_ok noEq_ok (ih n rfl) rfl (fun _ _ h => word_attrs_dr h) h
theorem char_Part_lv (n : Nat) : (lv (n + 1)).char_Part = char_Part_b (lv n) n := by kernel_rfl
theorem char_Part_ok (n : Nat) : OKo n char_Part_o := fun ih {_ _ _ _ _ _} h => by
  refine rowO_ok (cl := CL n) (ea := char_Part_e) (dr := char_Part_d) (fun _ _ h => char_Part_ae h) (fun _ _ h => char_Part_dr h) (fun a v h => ?_) h
  cases n with
  | zero => cases h
  | succ n =>
    rw [char_Part_lv] at h
    exact bodyK_ok noEq_ok (ih n rfl) rfl (fun _ _ h => char_Part_dr h) h
theorem orielref12_Right_lv (n : Nat) : (lv (n + 1)).orielref12_Right = orielref12_Right_b (lv n) n := by kernel_rfl
theorem orielref12_Right_up (x0_0 : Int) (x0_1 x0_2 : LL) {Q : Bool → Prop} (h : Tot (fun n _ _ => orielref12_Right_b (lv n) n x0_0 x0_1 x0_2) Q) : Tot (fun n _ _ => (lv n).orielref12_Right x0_0 x0_1 x0_2) Q := Tot.up (fun n => by rw [orielref12_Right_lv]) h
theorem orielref12_Right_ok (n : Nat) : OKo n orielref12_Right_o := fun ih {_ _ _ _ _ _} h => by
  refine rowO_ok (cl := CL n) (ea := orielref12_Right_e) (dr := orielref12_Right_d) (fun _ _ h => orielref12_Right_ae h) (fun _ _ h => orielref12_Right_dr h) (fun a v h => ?_) h
  cases n with
  | zero => cases h
  | succ n =>
    rw [orielref12_Right_lv] at h
    exact bodyK_ok noEq_ok (ih n rfl) rfl (fun _ _ h => orielref12_Right_dr h) h
theorem orielref12_Size_lv (n : Nat) : (lv (n + 1)).orielref12_Size = orielref12_Size_b (lv n) n := by kernel_rfl
theorem orielref12_Size_up (x0_0 : Int) (x0_1 x0_2 : LL) {Q : Int → Prop} (h : Tot (fun n _ _ => orielref12_Size_b (lv n) n x0_0 x0_1 x0_2) Q) : Tot (fun n _ _ => (lv n).orielref12_Size x0_0 x0_1 x0_2) Q := Tot.up (fun n => by rw [orielref12_Size_lv]) h
theorem orielref12_Size_ok (n : Nat) : OKo n orielref12_Size_o := fun ih {_ _ _ _ _ _} h => by
  refine rowO_ok (cl := CL n) (ea := orielref12_Size_e) (dr := orielref12_Size_d) (fun _ _ h => orielref12_Size_ae h) (fun _ _ h => orielref12_Size_dr h) (fun a v h => ?_) h
  cases n with
  | zero => cases h
  | succ n =>
    rw [orielref12_Size_lv] at h
    exact bodyK_ok noEq_ok (ih n rfl) rfl (fun _ _ h => orielref12_Size_dr h) h
theorem orielref12_size_lv (n : Nat) : (lv (n + 1)).orielref12_size = orielref12_size_b (lv n) n := by kernel_rfl
theorem orielref12_size_up (x0_0 : Int) (x0_1 x0_2 : LL) (x1 : Int) {Q : Int → Prop} (h : Tot (fun n _ _ => orielref12_size_b (lv n) n x0_0 x0_1 x0_2 x1) Q) : Tot (fun n _ _ => (lv n).orielref12_size x0_0 x0_1 x0_2 x1) Q := Tot.up (fun n => by rw [orielref12_size_lv]) h
theorem orielref12_size_ok (n : Nat) : OKo n orielref12_size_o := fun ih {_ _ _ _ _ _} h => by
  refine rowO_ok (cl := CL n) (ea := orielref12_size_e) (dr := orielref12_size_d) (fun _ _ h => orielref12_size_ae h) (fun _ _ h => orielref12_size_dr h) (fun a v h => ?_) h
  cases n with
  | zero => cases h
  | succ n =>
    rw [orielref12_size_lv] at h
    exact bodyK_ok noEq_ok (ih n rfl) rfl (fun _ _ h => orielref12_size_dr h) h
theorem orielref12_sizeFilter_lv (n : Nat) : (lv (n + 1)).orielref12_sizeFilter = orielref12_sizeFilter_b (lv n) n := by kernel_rfl
theorem orielref12_sizeFilter_up (x0_0 : Int) (x0_1 x0_2 x0_3 : ByteArray) (x0_4 x0_5 : LL) (x1 : Int) {Q : Int → Prop} (h : Tot (fun n _ _ => orielref12_sizeFilter_b (lv n) n x0_0 x0_1 x0_2 x0_3 x0_4 x0_5 x1) Q) : Tot (fun n _ _ => (lv n).orielref12_sizeFilter x0_0 x0_1 x0_2 x0_3 x0_4 x0_5 x1) Q := Tot.up (fun n => by rw [orielref12_sizeFilter_lv]) h
theorem orielref12_sizeFilter_ok (n : Nat) : OKo n orielref12_sizeFilter_o := fun ih {_ _ _ _ _ _} h => by
  refine rowO_ok (cl := CL n) (ea := orielref12_sizeFilter_e) (dr := orielref12_sizeFilter_d) (fun _ _ h => orielref12_sizeFilter_ae h) (fun _ _ h => orielref12_sizeFilter_dr h) (fun a v h => ?_) h
  cases n with
  | zero => cases h
  | succ n =>
    rw [orielref12_sizeFilter_lv] at h
    exact bodyK_ok noEq_ok (ih n rfl) rfl (fun _ _ h => orielref12_sizeFilter_dr h) h
theorem orielref12_path_lv (n : Nat) : (lv (n + 1)).orielref12_path = orielref12_path_b (lv n) n := by kernel_rfl
theorem orielref12_path_up (x0_0 : Int) (x0_1 x0_2 : LL) (x1 : Int) {Q : Bool → Prop} (h : Tot (fun n _ _ => orielref12_path_b (lv n) n x0_0 x0_1 x0_2 x1) Q) : Tot (fun n _ _ => (lv n).orielref12_path x0_0 x0_1 x0_2 x1) Q := Tot.up (fun n => by rw [orielref12_path_lv]) h
theorem orielref12_path_ok (n : Nat) : OKo n orielref12_path_o := fun ih {_ _ _ _ _ _} h => by
  refine rowO_ok (cl := CL n) (ea := orielref12_path_e) (dr := orielref12_path_d) (fun _ _ h => orielref12_path_ae h) (fun _ _ h => orielref12_path_dr h) (fun a v h => ?_) h
  cases n with
  | zero => cases h
  | succ n =>
    rw [orielref12_path_lv] at h
    exact bodyK_ok noEq_ok (ih n rfl) rfl (fun _ _ h => orielref12_path_dr h) h
theorem orielref12_filter_lv (n : Nat) : (lv (n + 1)).orielref12_filter = orielref12_filter_b (lv n) n := by kernel_rfl
theorem orielref12_filter_up (x0_0 : Int) (x0_1 x0_2 x0_3 : ByteArray) (x0_4 x0_5 : LL) (x1 : Int) {Q : Bool → Prop} (h : Tot (fun n _ _ => orielref12_filter_b (lv n) n x0_0 x0_1 x0_2 x0_3 x0_4 x0_5 x1) Q) : Tot (fun n _ _ => (lv n).orielref12_filter x0_0 x0_1 x0_2 x0_3 x0_4 x0_5 x1) Q := Tot.up (fun n => by rw [orielref12_filter_lv]) h
theorem orielref12_filter_ok (n : Nat) : OKo n orielref12_filter_o := fun ih {_ _ _ _ _ _} h => by
  refine rowO_ok (cl := CL n) (ea := orielref12_filter_e) (dr := orielref12_filter_d) (fun _ _ h => orielref12_filter_ae h) (fun _ _ h => orielref12_filter_dr h) (fun a v h => ?_) h
  cases n with
  | zero => cases h
  | succ n =>
    rw [orielref12_filter_lv] at h
    exact bodyK_ok noEq_ok (ih n rfl) rfl (fun _ _ h => orielref12_filter_dr h) h
theorem orielref12_named_lv (n : Nat) : (lv (n + 1)).orielref12_named = orielref12_named_b (lv n) n := by kernel_rfl
theorem orielref12_named_up (x0_0 x0_1 : ByteArray) {Q : Bool → Prop} (h : Tot (fun n _ _ => orielref12_named_b (lv n) n x0_0 x0_1) Q) : Tot (fun n _ _ => (lv n).orielref12_named x0_0 x0_1) Q := Tot.up (fun n => by rw [orielref12_named_lv]) h
theorem orielref12_named_ok (n : Nat) : OKo n orielref12_named_o := fun ih {_ _ _ _ _ _} h => by
  refine rowO_ok (cl := CL n) (ea := orielref12_named_e) (dr := orielref12_named_d) (fun _ _ h => orielref12_named_ae h) (fun _ _ h => orielref12_named_dr h) (fun a v h => ?_) h
  cases n with
  | zero => cases h
  | succ n =>
    rw [orielref12_named_lv] at h
    exact bodyK_ok noEq_ok (ih n rfl) rfl (fun _ _ h => orielref12_named_dr h) h
theorem orielref04_Right_lv (n : Nat) : (lv (n + 1)).orielref04_Right = orielref04_Right_b (lv n) n := by kernel_rfl
theorem orielref04_Right_up (x0 : ByteArray) {Q : Bool → Prop} (h : Tot (fun n _ _ => orielref04_Right_b (lv n) n x0) Q) : Tot (fun n _ _ => (lv n).orielref04_Right x0) Q := Tot.up (fun n => by rw [orielref04_Right_lv]) h
theorem orielref04_Right_ok (n : Nat) : OKo n orielref04_Right_o := fun ih {_ _ _ _ _ _} h => by
  refine rowO_ok (cl := CL n) (ea := orielref04_Right_e) (dr := orielref04_Right_d) (fun _ _ h => orielref04_Right_ae h) (fun _ _ h => orielref04_Right_dr h) (fun a v h => ?_) h
  cases n with
  | zero => cases h
  | succ n =>
    rw [orielref04_Right_lv] at h
    exact bodyK_ok noEq_ok (ih n rfl) rfl (fun _ _ h => orielref04_Right_dr h) h
theorem orielref03_Plain_lv (n : Nat) : (lv (n + 1)).orielref03_Plain = orielref03_Plain_b (lv n) n := by kernel_rfl
theorem orielref03_Plain_up (x0 : ByteArray) {Q : Bool → Prop} (h : Tot (fun n _ _ => orielref03_Plain_b (lv n) n x0) Q) : Tot (fun n _ _ => (lv n).orielref03_Plain x0) Q := Tot.up (fun n => by rw [orielref03_Plain_lv]) h
theorem orielref03_Plain_ok (n : Nat) : OKo n orielref03_Plain_o := fun ih {_ _ _ _ _ _} h => by
  refine rowO_ok (cl := CL n) (ea := orielref03_Plain_e) (dr := orielref03_Plain_d) (fun _ _ h => orielref03_Plain_ae h) (fun _ _ h => orielref03_Plain_dr h) (fun a v h => ?_) h
  cases n with
  | zero => cases h
  | succ n =>
    rw [orielref03_Plain_lv] at h
    exact bodyK_ok noEq_ok (ih n rfl) rfl (fun _ _ h => orielref03_Plain_dr h) h
theorem orielref01_All_lv (n : Nat) : (lv (n + 1)).orielref01_All = orielref01_All_b (lv n) n := by kernel_rfl
theorem orielref01_All_up (x0 : ByteArray) {Q : (LL × Int × Int) → Prop} (h : Tot (fun n _ _ => orielref01_All_b (lv n) n x0) Q) : Tot (fun n _ _ => (lv n).orielref01_All x0) Q := Tot.up (fun n => by rw [orielref01_All_lv]) h
theorem orielref01_All_ok (n : Nat) : OKo n orielref01_All_o := fun ih {_ _ _ _ _ _} h => by
  refine rowO_ok (cl := CL n) (ea := orielref01_All_e) (dr := orielref01_All_d) (fun _ _ h => orielref01_All_ae h) (fun _ _ h => orielref01_All_dr h) (fun a v h => ?_) h
  cases n with
  | zero => cases h
  | succ n =>
    rw [orielref01_All_lv] at h
    exact bodyK_ok noEq_ok (ih n rfl) rfl (fun _ _ h => orielref01_All_dr h) h
theorem orielref02_Start_lv (n : Nat) : (lv (n + 1)).orielref02_Start = orielref02_Start_b (lv n) n := by kernel_rfl
theorem orielref02_Start_up (x0 : Int) {Q : Bool → Prop} (h : Tot (fun n _ _ => orielref02_Start_b (lv n) n x0) Q) : Tot (fun n _ _ => (lv n).orielref02_Start x0) Q := Tot.up (fun n => by rw [orielref02_Start_lv]) h
theorem orielref02_Start_ok (n : Nat) : OKo n orielref02_Start_o := fun ih {_ _ _ _ _ _} h => by
  refine rowO_ok (cl := CL n) (ea := orielref02_Start_e) (dr := orielref02_Start_d) (fun _ _ h => orielref02_Start_ae h) (fun _ _ h => orielref02_Start_dr h) (fun a v h => ?_) h
  cases n with
  | zero => cases h
  | succ n =>
    rw [orielref02_Start_lv] at h
    exact bodyK_ok noEq_ok (ih n rfl) rfl (fun _ _ h => orielref02_Start_dr h) h
theorem orielref01_Rune_lv (n : Nat) : (lv (n + 1)).orielref01_Rune = orielref01_Rune_b (lv n) n := by kernel_rfl
theorem orielref01_Rune_up (x0 : ByteArray) (x1 : Int) {Q : (Int × Int × Int) → Prop} (h : Tot (fun n _ _ => orielref01_Rune_b (lv n) n x0 x1) Q) : Tot (fun n _ _ => (lv n).orielref01_Rune x0 x1) Q := Tot.up (fun n => by rw [orielref01_Rune_lv]) h
theorem orielref01_Rune_ok (n : Nat) : OKo n orielref01_Rune_o := fun ih {_ _ _ _ _ _} h => by
  refine rowO_ok (cl := CL n) (ea := orielref01_Rune_e) (dr := orielref01_Rune_d) (fun _ _ h => orielref01_Rune_ae h) (fun _ _ h => orielref01_Rune_dr h) (fun a v h => ?_) h
  cases n with
  | zero => cases h
  | succ n =>
    rw [orielref01_Rune_lv] at h
    exact bodyK_ok noEq_ok (ih n rfl) rfl (fun _ _ h => orielref01_Rune_dr h) h
theorem orielref01_Put_lv (n : Nat) : (lv (n + 1)).orielref01_Put = orielref01_Put_b (lv n) n := by kernel_rfl
theorem orielref01_Put_up (x0 : Int) {Q : LL → Prop} (h : Tot (fun n _ _ => orielref01_Put_b (lv n) n x0) Q) : Tot (fun n _ _ => (lv n).orielref01_Put x0) Q := Tot.up (fun n => by rw [orielref01_Put_lv]) h
theorem orielref01_Put_ok (n : Nat) : OKo n orielref01_Put_o := fun ih {_ _ _ _ _ _} h => by
  refine rowO_ok (cl := CL n) (ea := orielref01_Put_e) (dr := orielref01_Put_d) (fun _ _ h => orielref01_Put_ae h) (fun _ _ h => orielref01_Put_dr h) (fun a v h => ?_) h
  cases n with
  | zero => cases h
  | succ n =>
    rw [orielref01_Put_lv] at h
    exact bodyK_ok noEq_ok (ih n rfl) rfl (fun _ _ h => orielref01_Put_dr h) h
theorem orielref01_cut_lv (n : Nat) : (lv (n + 1)).orielref01_cut = orielref01_cut_b (lv n) n := by kernel_rfl
theorem orielref01_cut_up (x0 : ByteArray) (x1 : Int) {Q : Bool → Prop} (h : Tot (fun n _ _ => orielref01_cut_b (lv n) n x0 x1) Q) : Tot (fun n _ _ => (lv n).orielref01_cut x0 x1) Q := Tot.up (fun n => by rw [orielref01_cut_lv]) h
theorem orielref01_cut_ok (n : Nat) : OKo n orielref01_cut_o := fun ih {_ _ _ _ _ _} h => by
  refine rowO_ok (cl := CL n) (ea := orielref01_cut_e) (dr := orielref01_cut_d) (fun _ _ h => orielref01_cut_ae h) (fun _ _ h => orielref01_cut_dr h) (fun a v h => ?_) h
  cases n with
  | zero => cases h
  | succ n =>
    rw [orielref01_cut_lv] at h
    exact bodyK_ok noEq_ok (ih n rfl) rfl (fun _ _ h => orielref01_cut_dr h) h
theorem orielref01_value_lv (n : Nat) : (lv (n + 1)).orielref01_value = orielref01_value_b (lv n) n := by kernel_rfl
theorem orielref01_value_up (x0 : ByteArray) (x1 x2 : Int) {Q : Int → Prop} (h : Tot (fun n _ _ => orielref01_value_b (lv n) n x0 x1 x2) Q) : Tot (fun n _ _ => (lv n).orielref01_value x0 x1 x2) Q := Tot.up (fun n => by rw [orielref01_value_lv]) h
theorem orielref01_value_ok (n : Nat) : OKo n orielref01_value_o := fun ih {_ _ _ _ _ _} h => by
  refine rowO_ok (cl := CL n) (ea := orielref01_value_e) (dr := orielref01_value_d) (fun _ _ h => orielref01_value_ae h) (fun _ _ h => orielref01_value_dr h) (fun a v h => ?_) h
  cases n with
  | zero => cases h
  | succ n =>
    rw [orielref01_value_lv] at h
    exact bodyK_ok noEq_ok (ih n rfl) rfl (fun _ _ h => orielref01_value_dr h) h
theorem oriellaw20_node_lv (n : Nat) : (lv (n + 1)).oriellaw20_node = oriellaw20_node_b (lv n) n := by kernel_rfl
theorem oriellaw20_node_up (x0_0 : Int) (x0_1 x0_2 : ByteArray) (x0_3 : LL) (x0_4 : ByteArray) {Q : Bool → Prop} (h : Tot (fun n _ _ => oriellaw20_node_b (lv n) n x0_0 x0_1 x0_2 x0_3 x0_4) Q) : Tot (fun n _ _ => (lv n).oriellaw20_node x0_0 x0_1 x0_2 x0_3 x0_4) Q := Tot.up (fun n => by rw [oriellaw20_node_lv]) h
theorem oriellaw20_node_ok (n : Nat) : OKo n oriellaw20_node_o := fun ih {_ _ _ _ _ _} h => by
  refine rowO_ok (cl := CL n) (ea := oriellaw20_node_e) (dr := oriellaw20_node_d) (fun _ _ h => oriellaw20_node_ae h) (fun _ _ h => oriellaw20_node_dr h) (fun a v h => ?_) h
  cases n with
  | zero => cases h
  | succ n =>
    rw [oriellaw20_node_lv] at h
    exact bodyK_ok noEq_ok (ih n rfl) rfl (fun _ _ h => oriellaw20_node_dr h) h
theorem orielref02_Char_lv (n : Nat) : (lv (n + 1)).orielref02_Char = orielref02_Char_b (lv n) n := by kernel_rfl
theorem orielref02_Char_up (x0 : Int) {Q : Bool → Prop} (h : Tot (fun n _ _ => orielref02_Char_b (lv n) n x0) Q) : Tot (fun n _ _ => (lv n).orielref02_Char x0) Q := Tot.up (fun n => by rw [orielref02_Char_lv]) h
theorem orielref02_Char_ok (n : Nat) : OKo n orielref02_Char_o := fun ih {_ _ _ _ _ _} h => by
  refine rowO_ok (cl := CL n) (ea := orielref02_Char_e) (dr := orielref02_Char_d) (fun _ _ h => orielref02_Char_ae h) (fun _ _ h => orielref02_Char_dr h) (fun a v h => ?_) h
  cases n with
  | zero => cases h
  | succ n =>
    rw [orielref02_Char_lv] at h
    exact bodyK_ok noEq_ok (ih n rfl) rfl (fun _ _ h => orielref02_Char_dr h) h
theorem orielref02_Part_lv (n : Nat) : (lv (n + 1)).orielref02_Part = orielref02_Part_b (lv n) n := by kernel_rfl
theorem orielref02_Part_up (x0 : Int) {Q : Bool → Prop} (h : Tot (fun n _ _ => orielref02_Part_b (lv n) n x0) Q) : Tot (fun n _ _ => (lv n).orielref02_Part x0) Q := Tot.up (fun n => by rw [orielref02_Part_lv]) h
theorem orielref02_Part_ok (n : Nat) : OKo n orielref02_Part_o := fun ih {_ _ _ _ _ _} h => by
  refine rowO_ok (cl := CL n) (ea := orielref02_Part_e) (dr := orielref02_Part_d) (fun _ _ h => orielref02_Part_ae h) (fun _ _ h => orielref02_Part_dr h) (fun a v h => ?_) h
  cases n with
  | zero => cases h
  | succ n =>
    rw [orielref02_Part_lv] at h
    exact bodyK_ok noEq_ok (ih n rfl) rfl (fun _ _ h => orielref02_Part_dr h) h
theorem orielref01_begins_lv (n : Nat) : (lv (n + 1)).orielref01_begins = orielref01_begins_b (lv n) n := by kernel_rfl
theorem orielref01_begins_up (x0 : ByteArray) (x1 : Int) (x2 : LL) {Q : Bool → Prop} (h : Tot (fun n _ _ => orielref01_begins_b (lv n) n x0 x1 x2) Q) : Tot (fun n _ _ => (lv n).orielref01_begins x0 x1 x2) Q := Tot.up (fun n => by rw [orielref01_begins_lv]) h
theorem orielref01_begins_ok (n : Nat) : OKo n orielref01_begins_o := fun ih {_ _ _ _ _ _} h => by
  refine rowO_ok (cl := CL n) (ea := orielref01_begins_e) (dr := orielref01_begins_d) (fun _ _ h => orielref01_begins_ae h) (fun _ _ h => orielref01_begins_dr h) (fun a v h => ?_) h
  cases n with
  | zero => cases h
  | succ n =>
    rw [orielref01_begins_lv] at h
    exact bodyK_ok noEq_ok (ih n rfl) rfl (fun _ _ h => orielref01_begins_dr h) h
theorem orielref09_Right_lv (n : Nat) : (lv (n + 1)).orielref09_Right = orielref09_Right_b (lv n) n := by kernel_rfl
theorem orielref09_Right_up (x0_0 : Int) (x0_1 x0_2 : ByteArray) (x0_3 : LL) (x0_4 : ByteArray) {Q : Bool → Prop} (h : Tot (fun n _ _ => orielref09_Right_b (lv n) n x0_0 x0_1 x0_2 x0_3 x0_4) Q) : Tot (fun n _ _ => (lv n).orielref09_Right x0_0 x0_1 x0_2 x0_3 x0_4) Q := Tot.up (fun n => by rw [orielref09_Right_lv]) h
theorem orielref09_Right_ok (n : Nat) : OKo n orielref09_Right_o := fun ih {_ _ _ _ _ _} h => by
  refine rowO_ok (cl := CL n) (ea := orielref09_Right_e) (dr := orielref09_Right_d) (fun _ _ h => orielref09_Right_ae h) (fun _ _ h => orielref09_Right_dr h) (fun a v h => ?_) h
  cases n with
  | zero => cases h
  | succ n =>
    rw [orielref09_Right_lv] at h
    exact bodyK_ok noEq_ok (ih n rfl) rfl (fun _ _ h => orielref09_Right_dr h) h
theorem orielref02_Blank_lv (n : Nat) : (lv (n + 1)).orielref02_Blank = orielref02_Blank_b (lv n) n := by kernel_rfl
theorem orielref02_Blank_up (x0 : Int) {Q : Bool → Prop} (h : Tot (fun n _ _ => orielref02_Blank_b (lv n) n x0) Q) : Tot (fun n _ _ => (lv n).orielref02_Blank x0) Q := Tot.up (fun n => by rw [orielref02_Blank_lv]) h
theorem orielref02_Blank_ok (n : Nat) : OKo n orielref02_Blank_o := fun ih {_ _ _ _ _ _} h => by
  refine rowO_ok (cl := CL n) (ea := orielref02_Blank_e) (dr := orielref02_Blank_d) (fun _ _ h => orielref02_Blank_ae h) (fun _ _ h => orielref02_Blank_dr h) (fun a v h => ?_) h
  cases n with
  | zero => cases h
  | succ n =>
    rw [orielref02_Blank_lv] at h
    exact bodyK_ok noEq_ok (ih n rfl) rfl (fun _ _ h => orielref02_Blank_dr h) h
theorem orielref09_named_lv (n : Nat) : (lv (n + 1)).orielref09_named = orielref09_named_b (lv n) n := by kernel_rfl
theorem orielref09_named_up (x0_0 x0_1 : ByteArray) {Q : Bool → Prop} (h : Tot (fun n _ _ => orielref09_named_b (lv n) n x0_0 x0_1) Q) : Tot (fun n _ _ => (lv n).orielref09_named x0_0 x0_1) Q := Tot.up (fun n => by rw [orielref09_named_lv]) h
theorem orielref09_named_ok (n : Nat) : OKo n orielref09_named_o := fun ih {_ _ _ _ _ _} h => by
  refine rowO_ok (cl := CL n) (ea := orielref09_named_e) (dr := orielref09_named_d) (fun _ _ h => orielref09_named_ae h) (fun _ _ h => orielref09_named_dr h) (fun a v h => ?_) h
  cases n with
  | zero => cases h
  | succ n =>
    rw [orielref09_named_lv] at h
    exact bodyK_ok noEq_ok (ih n rfl) rfl (fun _ _ h => orielref09_named_dr h) h
theorem orielref05_Find_lv (n : Nat) : (lv (n + 1)).orielref05_Find = orielref05_Find_b (lv n) n := by kernel_rfl
theorem orielref05_Find_up (x0 : ByteArray) (x1 : Int) (x2 : ByteArray) {Q : Int → Prop} (h : Tot (fun n _ _ => orielref05_Find_b (lv n) n x0 x1 x2) Q) : Tot (fun n _ _ => (lv n).orielref05_Find x0 x1 x2) Q := Tot.up (fun n => by rw [orielref05_Find_lv]) h
theorem orielref05_Find_ok (n : Nat) : OKo n orielref05_Find_o := fun ih {_ _ _ _ _ _} h => by
  refine rowO_ok (cl := CL n) (ea := orielref05_Find_e) (dr := orielref05_Find_d) (fun _ _ h => orielref05_Find_ae h) (fun _ _ h => orielref05_Find_dr h) (fun a v h => ?_) h
  cases n with
  | zero => cases h
  | succ n =>
    rw [orielref05_Find_lv] at h
    exact bodyK_ok noEq_ok (ih n rfl) rfl (fun _ _ h => orielref05_Find_dr h) h
theorem orielref09_Few_lv (n : Nat) : (lv (n + 1)).orielref09_Few = orielref09_Few_b (lv n) n := by kernel_rfl
theorem orielref09_Few_up (x0 : LL) {Q : Bool → Prop} (h : Tot (fun n _ _ => orielref09_Few_b (lv n) n x0) Q) : Tot (fun n _ _ => (lv n).orielref09_Few x0) Q := Tot.up (fun n => by rw [orielref09_Few_lv]) h
theorem orielref09_Few_ok (n : Nat) : OKo n orielref09_Few_o := fun ih {_ _ _ _ _ _} h => by
  refine rowO_ok (cl := CL n) (ea := orielref09_Few_e) (dr := orielref09_Few_d) (fun _ _ h => orielref09_Few_ae h) (fun _ _ h => orielref09_Few_dr h) (fun a v h => ?_) h
  cases n with
  | zero => cases h
  | succ n =>
    rw [orielref09_Few_lv] at h
    exact bodyK_ok noEq_ok (ih n rfl) rfl (fun _ _ h => orielref09_Few_dr h) h
theorem orielref19_Like_lv (n : Nat) : (lv (n + 1)).orielref19_Like = orielref19_Like_b (lv n) n := by kernel_rfl
theorem orielref19_Like_up (x0_0 : Int) (x0_1 x0_2 : LL) (x1_0 : Int) (x1_1 x1_2 : ByteArray) (x1_3 : LL) (x1_4 : ByteArray) (x2_0 : Int) (x2_1 x2_2 : ByteArray) (x2_3 : LL) (x2_4 : ByteArray) {Q : Bool → Prop} (h : Tot (fun n _ _ => orielref19_Like_b (lv n) n x0_0 x0_1 x0_2 x1_0 x1_1 x1_2 x1_3 x1_4 x2_0 x2_1 x2_2 x2_3 x2_4) Q) : Tot (fun n _ _ => (lv n).orielref19_Like x0_0 x0_1 x0_2 x1_0 x1_1 x1_2 x1_3 x1_4 x2_0 x2_1 x2_2 x2_3 x2_4) Q := Tot.up (fun n => by rw [orielref19_Like_lv]) h
theorem orielref19_Like_ok (n : Nat) : OKo n orielref19_Like_o := fun ih {_ _ _ _ _ _} h => by
  refine rowO_ok (cl := CL n) (ea := orielref19_Like_e) (dr := orielref19_Like_d) (fun _ _ h => orielref19_Like_ae h) (fun _ _ h => orielref19_Like_dr h) (fun a v h => ?_) h
  cases n with
  | zero => cases h
  | succ n =>
    rw [orielref19_Like_lv] at h
    exact bodyK_ok noEq_ok (ih n rfl) rfl (fun _ _ h => orielref19_Like_dr h) h
theorem orielref19_Make_lv (n : Nat) : (lv (n + 1)).orielref19_Make = orielref19_Make_b (lv n) n := by kernel_rfl
theorem orielref19_Make_up (x0_0 : Int) (x0_1 x0_2 : LL) {Q : (LL × LL × LL × LL) → Prop} (h : Tot (fun n _ _ => orielref19_Make_b (lv n) n x0_0 x0_1 x0_2) Q) : Tot (fun n _ _ => (lv n).orielref19_Make x0_0 x0_1 x0_2) Q := Tot.up (fun n => by rw [orielref19_Make_lv]) h
theorem orielref19_Make_ok (n : Nat) : OKo n orielref19_Make_o := fun ih {_ _ _ _ _ _} h => by
  refine rowO_ok (cl := CL n) (ea := orielref19_Make_e) (dr := orielref19_Make_d) (fun _ _ h => orielref19_Make_ae h) (fun _ _ h => orielref19_Make_dr h) (fun a v h => ?_) h
  cases n with
  | zero => cases h
  | succ n =>
    rw [orielref19_Make_lv] at h
    exact bodyK_ok noEq_ok (ih n rfl) rfl (fun _ _ h => orielref19_Make_dr h) h
theorem orielref12_Filters_lv (n : Nat) : (lv (n + 1)).orielref12_Filters = orielref12_Filters_b (lv n) n := by kernel_rfl
theorem orielref12_Filters_up (x0_0 : Int) (x0_1 x0_2 : LL) {Q : LL → Prop} (h : Tot (fun n _ _ => orielref12_Filters_b (lv n) n x0_0 x0_1 x0_2) Q) : Tot (fun n _ _ => (lv n).orielref12_Filters x0_0 x0_1 x0_2) Q := Tot.up (fun n => by rw [orielref12_Filters_lv]) h
theorem orielref12_Filters_ok (n : Nat) : OKo n orielref12_Filters_o := fun ih {_ _ _ _ _ _} h => by
  refine rowO_ok (cl := CL n) (ea := orielref12_Filters_e) (dr := orielref12_Filters_d) (fun _ _ h => orielref12_Filters_ae h) (fun _ _ h => orielref12_Filters_dr h) (fun a v h => ?_) h
  cases n with
  | zero => cases h
  | succ n =>
    rw [orielref12_Filters_lv] at h
    exact bodyK_ok noEq_ok (ih n rfl) rfl (fun _ _ h => orielref12_Filters_dr h) h
theorem orielref12_within_lv (n : Nat) : (lv (n + 1)).orielref12_within = orielref12_within_b (lv n) n := by kernel_rfl
theorem orielref12_within_up (x0_0 : Int) (x0_1 x0_2 x0_3 : ByteArray) (x0_4 x0_5 : LL) {Q : LL → Prop} (h : Tot (fun n _ _ => orielref12_within_b (lv n) n x0_0 x0_1 x0_2 x0_3 x0_4 x0_5) Q) : Tot (fun n _ _ => (lv n).orielref12_within x0_0 x0_1 x0_2 x0_3 x0_4 x0_5) Q := Tot.up (fun n => by rw [orielref12_within_lv]) h
theorem orielref12_within_ok (n : Nat) : OKo n orielref12_within_o := fun ih {_ _ _ _ _ _} h => by
  refine rowO_ok (cl := CL n) (ea := orielref12_within_e) (dr := orielref12_within_d) (fun _ _ h => orielref12_within_ae h) (fun _ _ h => orielref12_within_dr h) (fun a v h => ?_) h
  cases n with
  | zero => cases h
  | succ n =>
    rw [orielref12_within_lv] at h
    exact bodyK_ok noEq_ok (ih n rfl) rfl (fun _ _ h => orielref12_within_dr h) h
theorem orielref12_Names_lv (n : Nat) : (lv (n + 1)).orielref12_Names = orielref12_Names_b (lv n) n := by kernel_rfl
theorem orielref12_Names_up (x0 : LL) (x1 x2 : Int) {Q : LL → Prop} (h : Tot (fun n _ _ => orielref12_Names_b (lv n) n x0 x1 x2) Q) : Tot (fun n _ _ => (lv n).orielref12_Names x0 x1 x2) Q := Tot.up (fun n => by rw [orielref12_Names_lv]) h
theorem orielref12_Names_ok (n : Nat) : OKo n orielref12_Names_o := fun ih {_ _ _ _ _ _} h => by
  refine rowO_ok (cl := CL n) (ea := orielref12_Names_e) (dr := orielref12_Names_d) (fun _ _ h => orielref12_Names_ae h) (fun _ _ h => orielref12_Names_dr h) (fun a v h => ?_) h
  cases n with
  | zero => cases h
  | succ n =>
    rw [orielref12_Names_lv] at h
    exact bodyK_ok noEq_ok (ih n rfl) rfl (fun _ _ h => orielref12_Names_dr h) h
theorem orielref12_hasName_lv (n : Nat) : (lv (n + 1)).orielref12_hasName = orielref12_hasName_b (lv n) n := by kernel_rfl
theorem orielref12_hasName_up (x0 : LL) (x1_0 x1_1 : ByteArray) {Q : Bool → Prop} (h : Tot (fun n _ _ => orielref12_hasName_b (lv n) n x0 x1_0 x1_1) Q) : Tot (fun n _ _ => (lv n).orielref12_hasName x0 x1_0 x1_1) Q := Tot.up (fun n => by rw [orielref12_hasName_lv]) h
theorem orielref12_hasName_ok (n : Nat) : OKo n orielref12_hasName_o := fun ih {_ _ _ _ _ _} h => by
  refine rowO_ok (cl := CL n) (ea := orielref12_hasName_e) (dr := orielref12_hasName_d) (fun _ _ h => orielref12_hasName_ae h) (fun _ _ h => orielref12_hasName_dr h) (fun a v h => ?_) h
  cases n with
  | zero => cases h
  | succ n =>
    rw [orielref12_hasName_lv] at h
    exact bodyK_ok noEq_ok (ih n rfl) rfl (fun _ _ h => orielref12_hasName_dr h) h
theorem orielref12_Values_lv (n : Nat) : (lv (n + 1)).orielref12_Values = orielref12_Values_b (lv n) n := by kernel_rfl
theorem orielref12_Values_up (x0 : LL) (x1 : Int) (x2_0 x2_1 : ByteArray) {Q : LL → Prop} (h : Tot (fun n _ _ => orielref12_Values_b (lv n) n x0 x1 x2_0 x2_1) Q) : Tot (fun n _ _ => (lv n).orielref12_Values x0 x1 x2_0 x2_1) Q := Tot.up (fun n => by rw [orielref12_Values_lv]) h
theorem orielref12_Values_ok (n : Nat) : OKo n orielref12_Values_o := fun ih {_ _ _ _ _ _} h => by
  refine rowO_ok (cl := CL n) (ea := orielref12_Values_e) (dr := orielref12_Values_d) (fun _ _ h => orielref12_Values_ae h) (fun _ _ h => orielref12_Values_dr h) (fun a v h => ?_) h
  cases n with
  | zero => cases h
  | succ n =>
    rw [orielref12_Values_lv] at h
    exact bodyK_ok noEq_ok (ih n rfl) rfl (fun _ _ h => orielref12_Values_dr h) h
theorem orielref12_Has_lv (n : Nat) : (lv (n + 1)).orielref12_Has = orielref12_Has_b (lv n) n := by kernel_rfl
theorem orielref12_Has_up (x0 : LL) (x1 : ByteArray) {Q : Bool → Prop} (h : Tot (fun n _ _ => orielref12_Has_b (lv n) n x0 x1) Q) : Tot (fun n _ _ => (lv n).orielref12_Has x0 x1) Q := Tot.up (fun n => by rw [orielref12_Has_lv]) h
theorem orielref12_Has_ok (n : Nat) : OKo n orielref12_Has_o := fun ih {_ _ _ _ _ _} h => by
  refine rowO_ok (cl := CL n) (ea := orielref12_Has_e) (dr := orielref12_Has_d) (fun _ _ h => orielref12_Has_ae h) (fun _ _ h => orielref12_Has_dr h) (fun a v h => ?_) h
  cases n with
  | zero => cases h
  | succ n =>
    rw [orielref12_Has_lv] at h
    exact bodyK_ok noEq_ok (ih n rfl) rfl (fun _ _ h => orielref12_Has_dr h) h
theorem orielref19_value_lv (n : Nat) : (lv (n + 1)).orielref19_value = orielref19_value_b (lv n) n := by kernel_rfl
theorem orielref19_value_up (x0_0 : Int) (x0_1 x0_2 : ByteArray) (x0_3 : LL) (x0_4 x1_0 x1_1 : ByteArray) (x2 : LL) {Q : Int → Prop} (h : Tot (fun n _ _ => orielref19_value_b (lv n) n x0_0 x0_1 x0_2 x0_3 x0_4 x1_0 x1_1 x2) Q) : Tot (fun n _ _ => (lv n).orielref19_value x0_0 x0_1 x0_2 x0_3 x0_4 x1_0 x1_1 x2) Q := Tot.up (fun n => by rw [orielref19_value_lv]) h
theorem orielref19_value_ok (n : Nat) : OKo n orielref19_value_o := fun ih {_ _ _ _ _ _} h => by
  refine rowO_ok (cl := CL n) (ea := orielref19_value_e) (dr := orielref19_value_d) (fun _ _ h => orielref19_value_ae h) (fun _ _ h => orielref19_value_dr h) (fun a v h => ?_) h
  cases n with
  | zero => cases h
  | succ n =>
    rw [orielref19_value_lv] at h
    exact bodyK_ok noEq_ok (ih n rfl) rfl (fun _ _ h => orielref19_value_dr h) h
theorem oriellaw20_sort_lv (n : Nat) : (lv (n + 1)).oriellaw20_sort = oriellaw20_sort_b (lv n) n := by kernel_rfl
theorem oriellaw20_sort_up (x0_0 x0_1 x0_2 : LL) (x0_3 x0_4 x0_5 : Int) (x0_6 x0_7 : LL) (x1 : Int) (x2 x3 : Bool) {Q : (Bool × Bool × ByteArray) → Prop} (h : Tot (fun n _ _ => oriellaw20_sort_b (lv n) n x0_0 x0_1 x0_2 x0_3 x0_4 x0_5 x0_6 x0_7 x1 x2 x3) Q) : Tot (fun n _ _ => (lv n).oriellaw20_sort x0_0 x0_1 x0_2 x0_3 x0_4 x0_5 x0_6 x0_7 x1 x2 x3) Q := Tot.up (fun n => by rw [oriellaw20_sort_lv]) h
theorem oriellaw20_sort_ok (n : Nat) : OKo n oriellaw20_sort_o := fun ih {_ _ _ _ _ _} h => by
  refine rowO_ok (cl := CL n) (ea := oriellaw20_sort_e) (dr := oriellaw20_sort_d) (fun _ _ h => oriellaw20_sort_ae h) (fun _ _ h => oriellaw20_sort_dr h) (fun a v h => ?_) h
  cases n with
  | zero => cases h
  | succ n =>
    rw [oriellaw20_sort_lv] at h
    exact bodyK_ok noEq_ok (ih n rfl) rfl (fun _ _ h => oriellaw20_sort_dr h) h
theorem orielref18_Items_lv (n : Nat) : (lv (n + 1)).orielref18_Items = orielref18_Items_b (lv n) n := by kernel_rfl
theorem orielref18_Items_up (x0_0 x0_1 x0_2 : LL) (x0_3 x0_4 x0_5 : Int) (x0_6 x0_7 : LL) {Q : Int → Prop} (h : Tot (fun n _ _ => orielref18_Items_b (lv n) n x0_0 x0_1 x0_2 x0_3 x0_4 x0_5 x0_6 x0_7) Q) : Tot (fun n _ _ => (lv n).orielref18_Items x0_0 x0_1 x0_2 x0_3 x0_4 x0_5 x0_6 x0_7) Q := Tot.up (fun n => by rw [orielref18_Items_lv]) h
theorem orielref18_Items_ok (n : Nat) : OKo n orielref18_Items_o := fun ih {_ _ _ _ _ _} h => by
  refine rowO_ok (cl := CL n) (ea := orielref18_Items_e) (dr := orielref18_Items_d) (fun _ _ h => orielref18_Items_ae h) (fun _ _ h => orielref18_Items_dr h) (fun a v h => ?_) h
  cases n with
  | zero => cases h
  | succ n =>
    rw [orielref18_Items_lv] at h
    exact bodyK_ok noEq_ok (ih n rfl) rfl (fun _ _ h => orielref18_Items_dr h) h
theorem lv_ok : ∀ n, ∀ {Ω : Type}, TabOK (Ω := Ω) (call Try.prog noExt kp n) (orK (lv n)) := by
  intro n
  induction n with
  | zero =>
    intro Ω f l K r h
    have ih : ∀ m, 0 = m + 1 → ∀ {Ω : Type}, TabOK (Ω := Ω) (call Try.prog noExt kp m) (orK (lv m)) := fun m e => by cases e
    rcases oriellaw20_KindLike_ok _ ih h with h | h
    · exact h
    rcases orielref18_Holds_ok _ ih h with h | h
    · exact h
    rcases oriellaw20_awake_ok _ ih h with h | h
    · exact h
    rcases orielref18_Find_ok _ ih h with h | h
    · exact h
    rcases orielref18_Make_ok _ ih h with h | h
    · exact h
    rcases orielref12_Same_ok _ ih h with h | h
    · exact h
    rcases orielref17_Compile_ok _ ih h with h | h
    · exact h
    rcases orielref12_SameFilter_ok _ ih h with h | h
    · exact h
    rcases orielref17_add_ok _ ih h with h | h
    · exact h
    rcases orielref17_edge_ok _ ih h with h | h
    · exact h
    rcases orielref18_Inner_ok _ ih h with h | h
    · exact h
    rcases orielref18_within_ok _ ih h with h | h
    · exact h
    rcases kind_Step_ok _ ih h with h | h
    · exact h
    rcases strat_Items_ok _ ih h with h | h
    · exact h
    rcases kind_maker_prog_ok _ ih h with h | h
    · exact h
    rcases strat_Tests_ok _ ih h with h | h
    · exact h
    rcases strat_node_holds_ok _ ih h with h | h
    · exact h
    rcases strat_node_attr_ok _ ih h with h | h
    · exact h
    rcases api_Filter_ok _ ih h with h | h
    · exact h
    rcases api_Filter_2_ok _ ih h with h | h
    · exact h
    rcases api_Path_ok _ ih h with h | h
    · exact h
    rcases api_Filter_3_ok _ ih h with h | h
    · exact h
    rcases api_Filter_4_ok _ ih h with h | h
    · exact h
    rcases api_Path_2_ok _ ih h with h | h
    · exact h
    rcases strat_node_fails_ok _ ih h with h | h
    · exact h
    rcases strat_node_holds_2_ok _ ih h with h | h
    · exact h
    rcases strat_node_leads_ok _ ih h with h | h
    · exact h
    rcases strat_node_attr_2_ok _ ih h with h | h
    · exact h
    rcases strat_Find_ok _ ih h with h | h
    · exact h
    rcases api_Path_3_ok _ ih h with h | h
    · exact h
    rcases strat_Find_1_ok _ ih h with h | h
    · exact h
    rcases path_Same_ok _ ih h with h | h
    · exact h
    rcases api_Path_4_ok _ ih h with h | h
    · exact h
    rcases kind_Whole_ok _ ih h with h | h
    · exact h
    rcases kind_maker_leads_ok _ ih h with h | h
    · exact h
    rcases api_Filter_5_ok _ ih h with h | h
    · exact h
    rcases word_Whole_ok _ ih h with h | h
    · exact h
    rcases kind_good_ok _ ih h with h | h
    · exact h
    rcases path_sameFilter_ok _ ih h with h | h
    · exact h
    rcases word_Begins_ok _ ih h with h | h
    · exact h
    rcases word_Right_ok _ ih h with h | h
    · exact h
    rcases word_named_ok _ ih h with h | h
    · exact h
    rcases word_text_ok _ ih h with h | h
    · exact h
    rcases name_Plain_ok _ ih h with h | h
    · exact h
    rcases utf_All_ok _ ih h with h | h
    · exact h
    rcases char_Start_ok _ ih h with h | h
    · exact h
    rcases utf_Rune_ok _ ih h with h | h
    · exact h
    rcases char_in_ok _ ih h with h | h
    · exact h
    rcases utf_forms_ok _ ih h with h | h
    · exact h
    rcases word_Nodes_ok _ ih h with h | h
    · exact h
    rcases word_Depth_ok _ ih h with h | h
    · exact h
    rcases char_All_ok _ ih h with h | h
    · exact h
    rcases utf_span_ok _ ih h with h | h
    · exact h
    rcases char_Char_ok _ ih h with h | h
    · exact h
    rcases char_Blank_ok _ ih h with h | h
    · exact h
    rcases kind_Arrive_ok _ ih h with h | h
    · exact h
    rcases word_attrs_ok _ ih h with h | h
    · exact h
    rcases char_Part_ok _ ih h with h | h
    · exact h
    rcases orielref12_Right_ok _ ih h with h | h
    · exact h
    rcases orielref12_Size_ok _ ih h with h | h
    · exact h
    rcases orielref12_size_ok _ ih h with h | h
    · exact h
    rcases orielref12_sizeFilter_ok _ ih h with h | h
    · exact h
    rcases orielref12_path_ok _ ih h with h | h
    · exact h
    rcases orielref12_filter_ok _ ih h with h | h
    · exact h
    rcases orielref12_named_ok _ ih h with h | h
    · exact h
    rcases orielref04_Right_ok _ ih h with h | h
    · exact h
    rcases orielref03_Plain_ok _ ih h with h | h
    · exact h
    rcases orielref01_All_ok _ ih h with h | h
    · exact h
    rcases orielref02_Start_ok _ ih h with h | h
    · exact h
    rcases orielref01_Rune_ok _ ih h with h | h
    · exact h
    rcases orielref01_Put_ok _ ih h with h | h
    · exact h
    rcases orielref01_cut_ok _ ih h with h | h
    · exact h
    rcases orielref01_value_ok _ ih h with h | h
    · exact h
    rcases oriellaw20_node_ok _ ih h with h | h
    · exact h
    rcases orielref02_Char_ok _ ih h with h | h
    · exact h
    rcases orielref02_Part_ok _ ih h with h | h
    · exact h
    rcases orielref01_begins_ok _ ih h with h | h
    · exact h
    rcases orielref09_Right_ok _ ih h with h | h
    · exact h
    rcases orielref02_Blank_ok _ ih h with h | h
    · exact h
    rcases orielref09_named_ok _ ih h with h | h
    · exact h
    rcases orielref05_Find_ok _ ih h with h | h
    · exact h
    rcases orielref09_Few_ok _ ih h with h | h
    · exact h
    rcases orielref19_Like_ok _ ih h with h | h
    · exact h
    rcases orielref19_Make_ok _ ih h with h | h
    · exact h
    rcases orielref12_Filters_ok _ ih h with h | h
    · exact h
    rcases orielref12_within_ok _ ih h with h | h
    · exact h
    rcases orielref12_Names_ok _ ih h with h | h
    · exact h
    rcases orielref12_hasName_ok _ ih h with h | h
    · exact h
    rcases orielref12_Values_ok _ ih h with h | h
    · exact h
    rcases orielref12_Has_ok _ ih h with h | h
    · exact h
    rcases orielref19_value_ok _ ih h with h | h
    · exact h
    rcases oriellaw20_sort_ok _ ih h with h | h
    · exact h
    rcases orielref18_Items_ok _ ih h with h | h
    · exact h
    cases h
  | succ n ih0 =>
    intro Ω f l K r h
    have ih : ∀ m, n + 1 = m + 1 → ∀ {Ω : Type}, TabOK (Ω := Ω) (call Try.prog noExt kp m) (orK (lv m)) := fun m e => by cases e; exact ih0
    rcases oriellaw20_KindLike_ok _ ih h with h | h
    · exact h
    rcases orielref18_Holds_ok _ ih h with h | h
    · exact h
    rcases oriellaw20_awake_ok _ ih h with h | h
    · exact h
    rcases orielref18_Find_ok _ ih h with h | h
    · exact h
    rcases orielref18_Make_ok _ ih h with h | h
    · exact h
    rcases orielref12_Same_ok _ ih h with h | h
    · exact h
    rcases orielref17_Compile_ok _ ih h with h | h
    · exact h
    rcases orielref12_SameFilter_ok _ ih h with h | h
    · exact h
    rcases orielref17_add_ok _ ih h with h | h
    · exact h
    rcases orielref17_edge_ok _ ih h with h | h
    · exact h
    rcases orielref18_Inner_ok _ ih h with h | h
    · exact h
    rcases orielref18_within_ok _ ih h with h | h
    · exact h
    rcases kind_Step_ok _ ih h with h | h
    · exact h
    rcases strat_Items_ok _ ih h with h | h
    · exact h
    rcases kind_maker_prog_ok _ ih h with h | h
    · exact h
    rcases strat_Tests_ok _ ih h with h | h
    · exact h
    rcases strat_node_holds_ok _ ih h with h | h
    · exact h
    rcases strat_node_attr_ok _ ih h with h | h
    · exact h
    rcases api_Filter_ok _ ih h with h | h
    · exact h
    rcases api_Filter_2_ok _ ih h with h | h
    · exact h
    rcases api_Path_ok _ ih h with h | h
    · exact h
    rcases api_Filter_3_ok _ ih h with h | h
    · exact h
    rcases api_Filter_4_ok _ ih h with h | h
    · exact h
    rcases api_Path_2_ok _ ih h with h | h
    · exact h
    rcases strat_node_fails_ok _ ih h with h | h
    · exact h
    rcases strat_node_holds_2_ok _ ih h with h | h
    · exact h
    rcases strat_node_leads_ok _ ih h with h | h
    · exact h
    rcases strat_node_attr_2_ok _ ih h with h | h
    · exact h
    rcases strat_Find_ok _ ih h with h | h
    · exact h
    rcases api_Path_3_ok _ ih h with h | h
    · exact h
    rcases strat_Find_1_ok _ ih h with h | h
    · exact h
    rcases path_Same_ok _ ih h with h | h
    · exact h
    rcases api_Path_4_ok _ ih h with h | h
    · exact h
    rcases kind_Whole_ok _ ih h with h | h
    · exact h
    rcases kind_maker_leads_ok _ ih h with h | h
    · exact h
    rcases api_Filter_5_ok _ ih h with h | h
    · exact h
    rcases word_Whole_ok _ ih h with h | h
    · exact h
    rcases kind_good_ok _ ih h with h | h
    · exact h
    rcases path_sameFilter_ok _ ih h with h | h
    · exact h
    rcases word_Begins_ok _ ih h with h | h
    · exact h
    rcases word_Right_ok _ ih h with h | h
    · exact h
    rcases word_named_ok _ ih h with h | h
    · exact h
    rcases word_text_ok _ ih h with h | h
    · exact h
    rcases name_Plain_ok _ ih h with h | h
    · exact h
    rcases utf_All_ok _ ih h with h | h
    · exact h
    rcases char_Start_ok _ ih h with h | h
    · exact h
    rcases utf_Rune_ok _ ih h with h | h
    · exact h
    rcases char_in_ok _ ih h with h | h
    · exact h
    rcases utf_forms_ok _ ih h with h | h
    · exact h
    rcases word_Nodes_ok _ ih h with h | h
    · exact h
    rcases word_Depth_ok _ ih h with h | h
    · exact h
    rcases char_All_ok _ ih h with h | h
    · exact h
    rcases utf_span_ok _ ih h with h | h
    · exact h
    rcases char_Char_ok _ ih h with h | h
    · exact h
    rcases char_Blank_ok _ ih h with h | h
    · exact h
    rcases kind_Arrive_ok _ ih h with h | h
    · exact h
    rcases word_attrs_ok _ ih h with h | h
    · exact h
    rcases char_Part_ok _ ih h with h | h
    · exact h
    rcases orielref12_Right_ok _ ih h with h | h
    · exact h
    rcases orielref12_Size_ok _ ih h with h | h
    · exact h
    rcases orielref12_size_ok _ ih h with h | h
    · exact h
    rcases orielref12_sizeFilter_ok _ ih h with h | h
    · exact h
    rcases orielref12_path_ok _ ih h with h | h
    · exact h
    rcases orielref12_filter_ok _ ih h with h | h
    · exact h
    rcases orielref12_named_ok _ ih h with h | h
    · exact h
    rcases orielref04_Right_ok _ ih h with h | h
    · exact h
    rcases orielref03_Plain_ok _ ih h with h | h
    · exact h
    rcases orielref01_All_ok _ ih h with h | h
    · exact h
    rcases orielref02_Start_ok _ ih h with h | h
    · exact h
    rcases orielref01_Rune_ok _ ih h with h | h
    · exact h
    rcases orielref01_Put_ok _ ih h with h | h
    · exact h
    rcases orielref01_cut_ok _ ih h with h | h
    · exact h
    rcases orielref01_value_ok _ ih h with h | h
    · exact h
    rcases oriellaw20_node_ok _ ih h with h | h
    · exact h
    rcases orielref02_Char_ok _ ih h with h | h
    · exact h
    rcases orielref02_Part_ok _ ih h with h | h
    · exact h
    rcases orielref01_begins_ok _ ih h with h | h
    · exact h
    rcases orielref09_Right_ok _ ih h with h | h
    · exact h
    rcases orielref02_Blank_ok _ ih h with h | h
    · exact h
    rcases orielref09_named_ok _ ih h with h | h
    · exact h
    rcases orielref05_Find_ok _ ih h with h | h
    · exact h
    rcases orielref09_Few_ok _ ih h with h | h
    · exact h
    rcases orielref19_Like_ok _ ih h with h | h
    · exact h
    rcases orielref19_Make_ok _ ih h with h | h
    · exact h
    rcases orielref12_Filters_ok _ ih h with h | h
    · exact h
    rcases orielref12_within_ok _ ih h with h | h
    · exact h
    rcases orielref12_Names_ok _ ih h with h | h
    · exact h
    rcases orielref12_hasName_ok _ ih h with h | h
    · exact h
    rcases orielref12_Values_ok _ ih h with h | h
    · exact h
    rcases orielref12_Has_ok _ ih h with h | h
    · exact h
    rcases orielref19_value_ok _ ih h with h | h
    · exact h
    rcases oriellaw20_sort_ok _ ih h with h | h
    · exact h
    rcases orielref18_Items_ok _ ih h with h | h
    · exact h
    cases h
end Go.Vm.T
