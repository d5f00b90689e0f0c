/- The functions, as the machine tells them: levels. -/
import Derived.Test.YtjobiohbddlfcaaVmTab
set_option linter.unusedVariables false
set_option maxHeartbeats 4000000
set_option maxRecDepth 100000
namespace Go.Vm.T
open Go Go.Vm Go.Proofs
noncomputable def lv : Nat → Lv
  | 0 => { oriellaw18_StratJudges := fun _ _ _ _ _ => none, orielref18_Holds := fun _ _ _ _ _ _ _ _ _ _ _ _ _ _ _ _ _ _ _ _ => none, oriellaw18_awake := none, orielref18_Find := fun _ _ _ _ _ _ _ _ _ _ _ => none, strat_Make := fun _ _ _ => none, orielref12_Same := fun _ _ _ _ _ _ => none, strat_maker_path := fun _ _ _ _ => none, orielref12_SameFilter := fun _ _ _ _ _ _ _ _ _ _ _ _ => none, strat_maker_filter := fun _ _ _ _ _ _ _ => none, api_Path := fun _ _ _ _ => none, api_Path_2 := fun _ _ _ _ => none, strat_maker_filter_1 := fun _ _ _ _ _ _ => none, path_Same := fun _ _ _ _ _ _ => none, api_Path_3 := fun _ _ => none, prog_Compile := fun _ _ _ => none, api_Filter := fun _ _ => none, prog_maker_path := fun _ _ _ _ _ _ _ _ => none, path_sameFilter := fun _ _ _ _ _ _ _ _ _ _ _ _ => none, prog_maker_step := fun _ _ _ _ _ _ _ => none, prog_maker_seq := fun _ _ _ _ _ _ => none, prog_maker_alt := fun _ _ _ _ _ _ => none, prog_maker_state := fun _ _ _ _ _ => none, prog_maker_lay := fun _ _ _ _ _ _ => none, prog_maker_free := fun _ _ _ _ _ _ _ => none, strat_Items := fun _ _ _ _ _ _ _ _ => none, orielref12_Right := fun _ _ _ => none, strat_Find := fun _ _ _ _ _ _ _ _ _ _ _ => none, orielref12_Size := fun _ _ _ => none, api_Path_4 := fun _ _ _ _ => none, orielref12_size := fun _ _ _ _ => none, strat_Find_1 := fun _ _ _ _ _ _ => none, orielref12_sizeFilter := fun _ _ _ _ _ _ _ => none, strat_Holds := fun _ _ _ _ _ _ _ _ _ _ _ _ _ _ _ _ _ _ _ _ => none, orielref12_path := fun _ _ _ _ => none, strat_node_holds := fun _ _ _ _ _ _ _ _ _ _ _ _ _ _ _ _ _ _ _ _ => none, orielref12_filter := fun _ _ _ _ _ _ _ => none, strat_node_attr := fun _ _ _ _ _ _ _ _ _ _ _ _ _ _ _ _ => none, api_Filter_2 := fun _ _ _ _ _ _ _ _ _ _ _ _ _ _ _ => none, api_Filter_3 := fun _ _ _ _ _ _ _ _ _ _ _ _ _ _ _ => none, api_Path_5 := fun _ _ _ _ _ _ _ _ _ _ _ _ _ _ _ => none, orielref12_named := fun _ _ => none, orielref04_Right := fun _ => none, api_Filter_4 := fun _ _ _ _ _ _ _ _ _ _ _ _ _ _ _ => none, api_Filter_5 := fun _ _ _ _ _ _ _ _ _ _ _ _ _ _ _ => none, api_Path_6 := fun _ _ _ _ _ _ _ _ _ _ _ _ _ _ _ => none, orielref03_Plain := fun _ => none, orielref01_All := fun _ => none, strat_node_fails := fun _ _ _ _ _ _ _ _ _ _ _ _ _ _ _ _ _ _ _ _ => none, strat_node_holds_2 := fun _ _ _ _ _ _ _ _ _ _ _ _ _ _ _ _ _ _ _ _ => none, strat_node_leads := fun _ _ _ _ _ _ _ _ _ _ _ _ _ _ _ _ _ => none, orielref02_Start := fun _ => none, orielref01_Rune := fun _ _ => none, strat_node_attr_2 := fun _ _ _ _ _ _ _ _ _ _ _ _ _ _ _ _ => none, orielref01_Put := fun _ => none, orielref01_cut := fun _ _ => none, orielref01_value := fun _ _ _ => none, orielref09_Few := fun _ => none, orielref02_Char := fun _ => none, orielref02_Part := fun _ => none, orielref01_begins := fun _ _ _ => none, orielref02_Blank := fun _ => none, orielref10_Whole := fun _ => none, strat_Tests := fun _ _ _ _ _ _ _ _ _ _ _ _ _ _ _ _ _ _ _ => none, orielref05_Find := fun _ _ _ => none, orielref09_Depth := fun _ => none, orielref09_Right := fun _ _ _ _ _ => none, orielref09_named := fun _ _ => none, orielref16_Make := fun _ => none, orielref16_From := fun _ _ _ _ _ _ => none, orielref12_Filters := fun _ _ _ => none, orielref16_leads := fun _ _ _ _ _ _ => none, orielref12_within := fun _ _ _ _ _ _ => none, orielref16_first := fun _ _ _ => none, orielref16_has := fun _ _ => none, orielref16_next := fun _ _ _ => none, orielref16_Holds := fun _ _ _ _ _ _ _ _ _ => none, orielref16_number := fun _ _ _ => none, orielref10_End := fun _ _ => none }
  | n + 1 => { oriellaw18_StratJudges := oriellaw18_StratJudges_b (lv n) n, orielref18_Holds := orielref18_Holds_b (lv n) n, oriellaw18_awake := oriellaw18_awake_b (lv n) n, orielref18_Find := orielref18_Find_b (lv n) n, strat_Make := strat_Make_b (lv n) n, orielref12_Same := orielref12_Same_b (lv n) n, strat_maker_path := strat_maker_path_b (lv n) n, orielref12_SameFilter := orielref12_SameFilter_b (lv n) n, strat_maker_filter := strat_maker_filter_b (lv n) n, api_Path := api_Path_b (lv n) n, api_Path_2 := api_Path_2_b (lv n) n, strat_maker_filter_1 := strat_maker_filter_1_b (lv n) n, path_Same := path_Same_b (lv n) n, api_Path_3 := api_Path_3_b (lv n) n, prog_Compile := prog_Compile_b (lv n) n, api_Filter := api_Filter_b (lv n) n, prog_maker_path := prog_maker_path_b (lv n) n, path_sameFilter := path_sameFilter_b (lv n) n, prog_maker_step := prog_maker_step_b (lv n) n, prog_maker_seq := prog_maker_seq_b (lv n) n, prog_maker_alt := prog_maker_alt_b (lv n) n, prog_maker_state := prog_maker_state_b (lv n) n, prog_maker_lay := prog_maker_lay_b (lv n) n, prog_maker_free := prog_maker_free_b (lv n) n, strat_Items := strat_Items_b (lv n) n, orielref12_Right := orielref12_Right_b (lv n) n, strat_Find := strat_Find_b (lv n) n, orielref12_Size := orielref12_Size_b (lv n) n, api_Path_4 := api_Path_4_b (lv n) n, orielref12_size := orielref12_size_b (lv n) n, strat_Find_1 := strat_Find_1_b (lv n) n, orielref12_sizeFilter := orielref12_sizeFilter_b (lv n) n, strat_Holds := strat_Holds_b (lv n) n, orielref12_path := orielref12_path_b (lv n) n, strat_node_holds := strat_node_holds_b (lv n) n, orielref12_filter := orielref12_filter_b (lv n) n, strat_node_attr := strat_node_attr_b (lv n) n, api_Filter_2 := api_Filter_2_b (lv n) n, api_Filter_3 := api_Filter_3_b (lv n) n, api_Path_5 := api_Path_5_b (lv n) n, orielref12_named := orielref12_named_b (lv n) n, orielref04_Right := orielref04_Right_b (lv n) n, api_Filter_4 := api_Filter_4_b (lv n) n, api_Filter_5 := api_Filter_5_b (lv n) n, api_Path_6 := api_Path_6_b (lv n) n, orielref03_Plain := orielref03_Plain_b (lv n) n, orielref01_All := orielref01_All_b (lv n) n, strat_node_fails := strat_node_fails_b (lv n) n, strat_node_holds_2 := strat_node_holds_2_b (lv n) n, strat_node_leads := strat_node_leads_b (lv n) n, orielref02_Start := orielref02_Start_b (lv n) n, orielref01_Rune := orielref01_Rune_b (lv n) n, strat_node_attr_2 := strat_node_attr_2_b (lv n) n, orielref01_Put := orielref01_Put_b (lv n) n, orielref01_cut := orielref01_cut_b (lv n) n, orielref01_value := orielref01_value_b (lv n) n, orielref09_Few := orielref09_Few_b (lv n) n, orielref02_Char := orielref02_Char_b (lv n) n, orielref02_Part := orielref02_Part_b (lv n) n, orielref01_begins := orielref01_begins_b (lv n) n, orielref02_Blank := orielref02_Blank_b (lv n) n, orielref10_Whole := orielref10_Whole_b (lv n) n, strat_Tests := strat_Tests_b (lv n) n, orielref05_Find := orielref05_Find_b (lv n) n, orielref09_Depth := orielref09_Depth_b (lv n) n, orielref09_Right := orielref09_Right_b (lv n) n, orielref09_named := orielref09_named_b (lv n) n, orielref16_Make := orielref16_Make_b (lv n) n, orielref16_From := orielref16_From_b (lv n) n, orielref12_Filters := orielref12_Filters_b (lv n) n, orielref16_leads := orielref16_leads_b (lv n) n, orielref12_within := orielref12_within_b (lv n) n, orielref16_first := orielref16_first_b (lv n) n, orielref16_has := orielref16_has_b (lv n) n, orielref16_next := orielref16_next_b (lv n) n, orielref16_Holds := orielref16_Holds_b (lv n) n, orielref16_number := orielref16_number_b (lv n) n, orielref10_End := orielref10_End_b (lv n) n }
noncomputable abbrev CL (n : Nat) : FuncId → List Arg → Option Res := call Try.prog noExt kp n
def OKo (n : Nat) (o : Lv → {Ω : Type} → FuncId → List Arg → (Res → Option Ω) → Option Ω → Option Ω) : Prop := (∀ m, n = m + 1 → ∀ {Ω : Type}, TabOK (Ω := Ω) (CL m) (orK (lv m))) → ∀ {Ω : Type} {f : FuncId} {l : List Arg} {K : Res → Option Ω} {next : Option Ω} {r : Ω}, o (lv n) f l K next = some r → (∃ R, CL n f l = some R ∧ K R = some r) ∨ next = some r
theorem oriellaw18_StratJudges_lv (n : Nat) : (lv (n + 1)).oriellaw18_StratJudges = oriellaw18_StratJudges_b (lv n) n := by kernel_rfl
theorem oriellaw18_StratJudges_up (x0_0 : Int) (x0_1 x0_2 x1 : LL) (x2 : Int) {Q : Bool → Prop} (h : Tot (fun n _ _ => oriellaw18_StratJudges_b (lv n) n x0_0 x0_1 x0_2 x1 x2) Q) : Tot (fun n _ _ => (lv n).oriellaw18_StratJudges x0_0 x0_1 x0_2 x1 x2) Q := Tot.up (fun n => by rw [oriellaw18_StratJudges_lv]) h
theorem oriellaw18_StratJudges_ok (n : Nat) : OKo n oriellaw18_StratJudges_o := fun ih {_ _ _ _ _ _} h => by
  refine rowO_ok (cl := CL n) (ea := oriellaw18_StratJudges_e) (dr := oriellaw18_StratJudges_d) (fun _ _ h => oriellaw18_StratJudges_ae h) (fun _ _ h => oriellaw18_StratJudges_dr h) (fun a v h => ?_) h
  cases n with
  | zero => cases h
  | succ n =>
    rw [oriellaw18_StratJudges_lv] at h
    exact bodyK_ok noEq_ok (ih n rfl) rfl (fun _ _ h => oriellaw18_StratJudges_dr h) h
theorem orielref18_Holds_lv (n : Nat) : (lv (n + 1)).orielref18_Holds = orielref18_Holds_b (lv n) n := by kernel_rfl
theorem orielref18_Holds_up (x0_0 x0_1 x0_2 : LL) (x0_3 x0_4 x0_5 : Int) (x0_6 x0_7 : LL) (x1_0 : Int) (x1_1 x1_2 x1_3 : ByteArray) (x1_4 x1_5 : LL) (x2_0 : Int) (x2_1 x2_2 : ByteArray) (x2_3 : LL) (x2_4 : ByteArray) (x3 : LL) {Q : Bool → Prop} (h : Tot (fun n _ _ => orielref18_Holds_b (lv n) n x0_0 x0_1 x0_2 x0_3 x0_4 x0_5 x0_6 x0_7 x1_0 x1_1 x1_2 x1_3 x1_4 x1_5 x2_0 x2_1 x2_2 x2_3 x2_4 x3) Q) : Tot (fun n _ _ => (lv n).orielref18_Holds x0_0 x0_1 x0_2 x0_3 x0_4 x0_5 x0_6 x0_7 x1_0 x1_1 x1_2 x1_3 x1_4 x1_5 x2_0 x2_1 x2_2 x2_3 x2_4 x3) Q := Tot.up (fun n => by rw [orielref18_Holds_lv]) h
theorem orielref18_Holds_ok (n : Nat) : OKo n orielref18_Holds_o := fun ih {_ _ _ _ _ _} h => by
  refine rowO_ok (cl := CL n) (ea := orielref18_Holds_e) (dr := orielref18_Holds_d) (fun _ _ h => orielref18_Holds_ae h) (fun _ _ h => orielref18_Holds_dr h) (fun a v h => ?_) h
  cases n with
  | zero => cases h
  | succ n =>
    rw [orielref18_Holds_lv] at h
    exact bodyK_ok noEq_ok (ih n rfl) rfl (fun _ _ h => orielref18_Holds_dr h) h
theorem oriellaw18_awake_lv (n : Nat) : (lv (n + 1)).oriellaw18_awake = oriellaw18_awake_b (lv n) n := by kernel_rfl
theorem oriellaw18_awake_ok (n : Nat) : OKo n oriellaw18_awake_o := fun ih {_ _ _ _ _ _} h => by
  refine rowO_ok (cl := CL n) (ea := oriellaw18_awake_e) (dr := oriellaw18_awake_d) (fun _ _ h => oriellaw18_awake_ae h) (fun _ _ h => oriellaw18_awake_dr h) (fun a v h => ?_) h
  cases n with
  | zero => cases h
  | succ n =>
    rw [oriellaw18_awake_lv] at h
    exact bodyK_ok noEq_ok (ih n rfl) rfl (fun _ _ h => oriellaw18_awake_dr h) h
theorem orielref18_Find_lv (n : Nat) : (lv (n + 1)).orielref18_Find = orielref18_Find_b (lv n) n := by kernel_rfl
theorem orielref18_Find_up (x0_0 x0_1 x0_2 : LL) (x0_3 x0_4 x0_5 : Int) (x0_6 x0_7 : LL) (x1_0 : Int) (x1_1 x1_2 : LL) {Q : Int → Prop} (h : Tot (fun n _ _ => orielref18_Find_b (lv n) n x0_0 x0_1 x0_2 x0_3 x0_4 x0_5 x0_6 x0_7 x1_0 x1_1 x1_2) Q) : Tot (fun n _ _ => (lv n).orielref18_Find x0_0 x0_1 x0_2 x0_3 x0_4 x0_5 x0_6 x0_7 x1_0 x1_1 x1_2) Q := Tot.up (fun n => by rw [orielref18_Find_lv]) h
theorem orielref18_Find_ok (n : Nat) : OKo n orielref18_Find_o := fun ih {_ _ _ _ _ _} h => by
  refine rowO_ok (cl := CL n) (ea := orielref18_Find_e) (dr := orielref18_Find_d) (fun _ _ h => orielref18_Find_ae h) (fun _ _ h => orielref18_Find_dr h) (fun a v h => ?_) h
  cases n with
  | zero => cases h
  | succ n =>
    rw [orielref18_Find_lv] at h
    exact bodyK_ok noEq_ok (ih n rfl) rfl (fun _ _ h => orielref18_Find_dr h) h
theorem strat_Make_lv (n : Nat) : (lv (n + 1)).strat_Make = strat_Make_b (lv n) n := by kernel_rfl
theorem strat_Make_up (x0_0 : Int) (x0_1 x0_2 : LL) {Q : (LL × LL × LL × Int × Int × Int × LL × LL) → Prop} (h : Tot (fun n _ _ => strat_Make_b (lv n) n x0_0 x0_1 x0_2) Q) : Tot (fun n _ _ => (lv n).strat_Make x0_0 x0_1 x0_2) Q := Tot.up (fun n => by rw [strat_Make_lv]) h
theorem strat_Make_ok (n : Nat) : OKo n strat_Make_o := fun ih {_ _ _ _ _ _} h => by
  refine rowO_ok (cl := CL n) (ea := strat_Make_e) (dr := strat_Make_d) (fun _ _ h => strat_Make_ae h) (fun _ _ h => strat_Make_dr h) (fun a v h => ?_) h
  cases n with
  | zero => cases h
  | succ n =>
    rw [strat_Make_lv] at h
    exact bodyK_ok noEq_ok (ih n rfl) rfl (fun _ _ h => strat_Make_dr h) h
theorem orielref12_Same_lv (n : Nat) : (lv (n + 1)).orielref12_Same = orielref12_Same_b (lv n) n := by kernel_rfl
theorem orielref12_Same_up (x0_0 : Int) (x0_1 x0_2 : LL) (x1_0 : Int) (x1_1 x1_2 : LL) {Q : Bool → Prop} (h : Tot (fun n _ _ => orielref12_Same_b (lv n) n x0_0 x0_1 x0_2 x1_0 x1_1 x1_2) Q) : Tot (fun n _ _ => (lv n).orielref12_Same x0_0 x0_1 x0_2 x1_0 x1_1 x1_2) Q := Tot.up (fun n => by rw [orielref12_Same_lv]) h
theorem orielref12_Same_ok (n : Nat) : OKo n orielref12_Same_o := fun ih {_ _ _ _ _ _} h => by
  refine rowO_ok (cl := CL n) (ea := orielref12_Same_e) (dr := orielref12_Same_d) (fun _ _ h => orielref12_Same_ae h) (fun _ _ h => orielref12_Same_dr h) (fun a v h => ?_) h
  cases n with
  | zero => cases h
  | succ n =>
    rw [orielref12_Same_lv] at h
    exact bodyK_ok noEq_ok (ih n rfl) rfl (fun _ _ h => orielref12_Same_dr h) h
theorem strat_maker_path_lv (n : Nat) : (lv (n + 1)).strat_maker_path = strat_maker_path_b (lv n) n := by kernel_rfl
theorem strat_maker_path_up (x0 : LL) (x1_0 : Int) (x1_1 x1_2 : LL) {Q : LL → Prop} (h : Tot (fun n _ _ => strat_maker_path_b (lv n) n x0 x1_0 x1_1 x1_2) Q) : Tot (fun n _ _ => (lv n).strat_maker_path x0 x1_0 x1_1 x1_2) Q := Tot.up (fun n => by rw [strat_maker_path_lv]) h
theorem strat_maker_path_ok (n : Nat) : OKo n strat_maker_path_o := fun ih {_ _ _ _ _ _} h => by
  refine rowO_ok (cl := CL n) (ea := strat_maker_path_e) (dr := strat_maker_path_d) (fun _ _ h => strat_maker_path_ae h) (fun _ _ h => strat_maker_path_dr h) (fun a v h => ?_) h
  cases n with
  | zero => cases h
  | succ n =>
    rw [strat_maker_path_lv] at h
    exact bodyK_ok noEq_ok (ih n rfl) rfl (fun _ _ h => strat_maker_path_dr h) h
theorem orielref12_SameFilter_lv (n : Nat) : (lv (n + 1)).orielref12_SameFilter = orielref12_SameFilter_b (lv n) n := by kernel_rfl
theorem orielref12_SameFilter_up (x0_0 : Int) (x0_1 x0_2 x0_3 : ByteArray) (x0_4 x0_5 : LL) (x1_0 : Int) (x1_1 x1_2 x1_3 : ByteArray) (x1_4 x1_5 : LL) {Q : Bool → Prop} (h : Tot (fun n _ _ => orielref12_SameFilter_b (lv n) n x0_0 x0_1 x0_2 x0_3 x0_4 x0_5 x1_0 x1_1 x1_2 x1_3 x1_4 x1_5) Q) : Tot (fun n _ _ => (lv n).orielref12_SameFilter x0_0 x0_1 x0_2 x0_3 x0_4 x0_5 x1_0 x1_1 x1_2 x1_3 x1_4 x1_5) Q := Tot.up (fun n => by rw [orielref12_SameFilter_lv]) h
theorem orielref12_SameFilter_ok (n : Nat) : OKo n orielref12_SameFilter_o := fun ih {_ _ _ _ _ _} h => by
  refine rowO_ok (cl := CL n) (ea := orielref12_SameFilter_e) (dr := orielref12_SameFilter_d) (fun _ _ h => orielref12_SameFilter_ae h) (fun _ _ h => orielref12_SameFilter_dr h) (fun a v h => ?_) h
  cases n with
  | zero => cases h
  | succ n =>
    rw [orielref12_SameFilter_lv] at h
    exact bodyK_ok noEq_ok (ih n rfl) rfl (fun _ _ h => orielref12_SameFilter_dr h) h
theorem strat_maker_filter_lv (n : Nat) : (lv (n + 1)).strat_maker_filter = strat_maker_filter_b (lv n) n := by kernel_rfl
theorem strat_maker_filter_up (x0 : LL) (x1_0 : Int) (x1_1 x1_2 x1_3 : ByteArray) (x1_4 x1_5 : LL) {Q : LL → Prop} (h : Tot (fun n _ _ => strat_maker_filter_b (lv n) n x0 x1_0 x1_1 x1_2 x1_3 x1_4 x1_5) Q) : Tot (fun n _ _ => (lv n).strat_maker_filter x0 x1_0 x1_1 x1_2 x1_3 x1_4 x1_5) Q := Tot.up (fun n => by rw [strat_maker_filter_lv]) h
theorem strat_maker_filter_ok (n : Nat) : OKo n strat_maker_filter_o := fun ih {_ _ _ _ _ _} h => by
  refine rowO_ok (cl := CL n) (ea := strat_maker_filter_e) (dr := strat_maker_filter_d) (fun _ _ h => strat_maker_filter_ae h) (fun _ _ h => strat_maker_filter_dr h) (fun a v h => ?_) h
  cases n with
  | zero => cases h
  | succ n =>
    rw [strat_maker_filter_lv] at h
    exact bodyK_ok eqLL_ok (ih n rfl) rfl (fun _ _ h => strat_maker_filter_dr h) h
theorem api_Path_lv (n : Nat) : (lv (n + 1)).api_Path = api_Path_b (lv n) n := by kernel_rfl
theorem api_Path_up (x0 : LL) (x1_0 : Int) (x1_1 x1_2 : LL) {Q : Bool → Prop} (h : Tot (fun n _ _ => api_Path_b (lv n) n x0 x1_0 x1_1 x1_2) Q) : Tot (fun n _ _ => (lv n).api_Path x0 x1_0 x1_1 x1_2) Q := Tot.up (fun n => by rw [api_Path_lv]) h
theorem api_Path_ok (n : Nat) : OKo n api_Path_o := fun ih {_ _ _ _ _ _} h => by
  refine rowO_ok (cl := CL n) (ea := api_Path_e) (dr := api_Path_d) (fun _ _ h => api_Path_ae h) (fun _ _ h => api_Path_dr h) (fun a v h => ?_) h
  cases n with
  | zero => cases h
  | succ n =>
    rw [api_Path_lv] at h
    exact bodyK_ok noEq_ok (ih n rfl) rfl (fun _ _ h => api_Path_dr h) h
theorem api_Path_2_lv (n : Nat) : (lv (n + 1)).api_Path_2 = api_Path_2_b (lv n) n := by kernel_rfl
theorem api_Path_2_up (x0 : LL) (x1_0 : Int) (x1_1 x1_2 : LL) {Q : Int → Prop} (h : Tot (fun n _ _ => api_Path_2_b (lv n) n x0 x1_0 x1_1 x1_2) Q) : Tot (fun n _ _ => (lv n).api_Path_2 x0 x1_0 x1_1 x1_2) Q := Tot.up (fun n => by rw [api_Path_2_lv]) h
theorem api_Path_2_ok (n : Nat) : OKo n api_Path_2_o := fun ih {_ _ _ _ _ _} h => by
  refine rowO_ok (cl := CL n) (ea := api_Path_2_e) (dr := api_Path_2_d) (fun _ _ h => api_Path_2_ae h) (fun _ _ h => api_Path_2_dr h) (fun a v h => ?_) h
  cases n with
  | zero => cases h
  | succ n =>
    rw [api_Path_2_lv] at h
    exact bodyK_ok noEq_ok (ih n rfl) rfl (fun _ _ h => api_Path_2_dr h) h
theorem strat_maker_filter_1_lv (n : Nat) : (lv (n + 1)).strat_maker_filter_1 = strat_maker_filter_1_b (lv n) n := by kernel_rfl
theorem strat_maker_filter_1_up (x0_0 : Int) (x0_1 x0_2 : LL) (x1_0 : Int) (x1_1 x1_2 : LL) {Q : Bool → Prop} (h : Tot (fun n _ _ => strat_maker_filter_1_b (lv n) n x0_0 x0_1 x0_2 x1_0 x1_1 x1_2) Q) : Tot (fun n _ _ => (lv n).strat_maker_filter_1 x0_0 x0_1 x0_2 x1_0 x1_1 x1_2) Q := Tot.up (fun n => by rw [strat_maker_filter_1_lv]) h
theorem strat_maker_filter_1_ok (n : Nat) : OKo n strat_maker_filter_1_o := fun ih {_ _ _ _ _ _} h => by
  refine rowO_ok (cl := CL n) (ea := strat_maker_filter_1_e) (dr := strat_maker_filter_1_d) (fun _ _ h => strat_maker_filter_1_ae h) (fun _ _ h => strat_maker_filter_1_dr h) (fun a v h => ?_) h
  cases n with
  | zero => cases h
  | succ n =>
    rw [strat_maker_filter_1_lv] at h
    exact bodyK_ok noEq_ok (ih n rfl) rfl (fun _ _ h => strat_maker_filter_1_dr h) h
theorem path_Same_lv (n : Nat) : (lv (n + 1)).path_Same = path_Same_b (lv n) n := by kernel_rfl
theorem path_Same_up (x0_0 : Int) (x0_1 x0_2 : LL) (x1_0 : Int) (x1_1 x1_2 : LL) {Q : Bool → Prop} (h : Tot (fun n _ _ => path_Same_b (lv n) n x0_0 x0_1 x0_2 x1_0 x1_1 x1_2) Q) : Tot (fun n _ _ => (lv n).path_Same x0_0 x0_1 x0_2 x1_0 x1_1 x1_2) Q := Tot.up (fun n => by rw [path_Same_lv]) h
theorem path_Same_ok (n : Nat) : OKo n path_Same_o := fun ih {_ _ _ _ _ _} h => by
  refine rowO_ok (cl := CL n) (ea := path_Same_e) (dr := path_Same_d) (fun _ _ h => path_Same_ae h) (fun _ _ h => path_Same_dr h) (fun a v h => ?_) h
  cases n with
  | zero => cases h
  | succ n =>
    rw [path_Same_lv] at h
    exact bodyK_ok noEq_ok (ih n rfl) rfl (fun _ _ h => path_Same_dr h) h
theorem api_Path_3_lv (n : Nat) : (lv (n + 1)).api_Path_3 = api_Path_3_b (lv n) n := by kernel_rfl
theorem api_Path_3_up (x0 x1 : LL) {Q : Bool → Prop} (h : Tot (fun n _ _ => api_Path_3_b (lv n) n x0 x1) Q) : Tot (fun n _ _ => (lv n).api_Path_3 x0 x1) Q := Tot.up (fun n => by rw [api_Path_3_lv]) h
theorem api_Path_3_ok (n : Nat) : OKo n api_Path_3_o := fun ih {_ _ _ _ _ _} h => by
  refine rowO_ok (cl := CL n) (ea := api_Path_3_e) (dr := api_Path_3_d) (fun _ _ h => api_Path_3_ae h) (fun _ _ h => api_Path_3_dr h) (fun a v h => ?_) h
  cases n with
  | zero => cases h
  | succ n =>
    rw [api_Path_3_lv] at h
    exact bodyK_ok noEq_ok (ih n rfl) rfl (fun _ _ h => api_Path_3_dr h) h
theorem prog_Compile_lv (n : Nat) : (lv (n + 1)).prog_Compile = prog_Compile_b (lv n) n := by kernel_rfl
theorem prog_Compile_up (x0_0 : Int) (x0_1 x0_2 : LL) {Q : (Int × Int × Int × LL × LL) → Prop} (h : Tot (fun n _ _ => prog_Compile_b (lv n) n x0_0 x0_1 x0_2) Q) : Tot (fun n _ _ => (lv n).prog_Compile x0_0 x0_1 x0_2) Q := Tot.up (fun n => by rw [prog_Compile_lv]) h
theorem prog_Compile_ok (n : Nat) : OKo n prog_Compile_o := fun ih {_ _ _ _ _ _} h => by
  refine rowO_ok (cl := CL n) (ea := prog_Compile_e) (dr := prog_Compile_d) (fun _ _ h => prog_Compile_ae h) (fun _ _ h => prog_Compile_dr h) (fun a v h => ?_) h
  cases n with
  | zero => cases h
  | succ n =>
    rw [prog_Compile_lv] at h
    exact bodyK_ok noEq_ok (ih n rfl) rfl (fun _ _ h => prog_Compile_dr h) h
theorem api_Filter_lv (n : Nat) : (lv (n + 1)).api_Filter = api_Filter_b (lv n) n := by kernel_rfl
theorem api_Filter_up (x0 x1 : LL) {Q : Bool → Prop} (h : Tot (fun n _ _ => api_Filter_b (lv n) n x0 x1) Q) : Tot (fun n _ _ => (lv n).api_Filter x0 x1) Q := Tot.up (fun n => by rw [api_Filter_lv]) h
theorem api_Filter_ok (n : Nat) : OKo n api_Filter_o := fun ih {_ _ _ _ _ _} h => by
  refine rowO_ok (cl := CL n) (ea := api_Filter_e) (dr := api_Filter_d) (fun _ _ h => api_Filter_ae h) (fun _ _ h => api_Filter_dr h) (fun a v h => ?_) h
  cases n with
  | zero => cases h
  | succ n =>
    rw [api_Filter_lv] at h
    exact bodyK_ok noEq_ok (ih n rfl) rfl (fun _ _ h => api_Filter_dr h) h
theorem prog_maker_path_lv (n : Nat) : (lv (n + 1)).prog_maker_path = prog_maker_path_b (lv n) n := by kernel_rfl
theorem prog_maker_path_up (x0_0 x0_1 x0_2 : Int) (x0_3 x0_4 : LL) (x1_0 : Int) (x1_1 x1_2 : LL) {Q : (Int × Int × Int × Int × Int × LL × LL) → Prop} (h : Tot (fun n _ _ => prog_maker_path_b (lv n) n x0_0 x0_1 x0_2 x0_3 x0_4 x1_0 x1_1 x1_2) Q) : Tot (fun n _ _ => (lv n).prog_maker_path x0_0 x0_1 x0_2 x0_3 x0_4 x1_0 x1_1 x1_2) Q := Tot.up (fun n => by rw [prog_maker_path_lv]) h
theorem prog_maker_path_ok (n : Nat) : OKo n prog_maker_path_o := fun ih {_ _ _ _ _ _} h => by
  refine rowO_ok (cl := CL n) (ea := prog_maker_path_e) (dr := prog_maker_path_d) (fun _ _ h => prog_maker_path_ae h) (fun _ _ h => prog_maker_path_dr h) (fun a v h => ?_) h
  cases n with
  | zero => cases h
  | succ n =>
    rw [prog_maker_path_lv] at h
    exact bodyK_ok noEq_ok (ih n rfl) rfl (fun _ _ h => prog_maker_path_dr h) h
theorem path_sameFilter_lv (n : Nat) : (lv (n + 1)).path_sameFilter = path_sameFilter_b (lv n) n := by kernel_rfl
theorem path_sameFilter_up (x0_0 : Int) (x0_1 x0_2 x0_3 : ByteArray) (x0_4 x0_5 : LL) (x1_0 : Int) (x1_1 x1_2 x1_3 : ByteArray) (x1_4 x1_5 : LL) {Q : Bool → Prop} (h : Tot (fun n _ _ => path_sameFilter_b (lv n) n x0_0 x0_1 x0_2 x0_3 x0_4 x0_5 x1_0 x1_1 x1_2 x1_3 x1_4 x1_5) Q) : Tot (fun n _ _ => (lv n).path_sameFilter x0_0 x0_1 x0_2 x0_3 x0_4 x0_5 x1_0 x1_1 x1_2 x1_3 x1_4 x1_5) Q := Tot.up (fun n => by rw [path_sameFilter_lv]) h
theorem path_sameFilter_ok (n : Nat) : OKo n path_sameFilter_o := fun ih {_ _ _ _ _ _} h => by
  refine rowO_ok (cl := CL n) (ea := path_sameFilter_e) (dr := path_sameFilter_d) (fun _ _ h => path_sameFilter_ae h) (fun _ _ h => path_sameFilter_dr h) (fun a v h => ?_) h
  cases n with
  | zero => cases h
  | succ n =>
    rw [path_sameFilter_lv] at h
    exact bodyK_ok noEq_ok (ih n rfl) rfl (fun _ _ h => path_sameFilter_dr h) h
theorem prog_maker_step_lv (n : Nat) : (lv (n + 1)).prog_maker_step = prog_maker_step_b (lv n) n := by kernel_rfl
theorem prog_maker_step_up (x0_0 x0_1 x0_2 : Int) (x0_3 x0_4 : LL) (x1 x2 : Int) {Q : (Int × Int × Int × Int × Int × LL × LL) → Prop} (h : Tot (fun n _ _ => prog_maker_step_b (lv n) n x0_0 x0_1 x0_2 x0_3 x0_4 x1 x2) Q) : Tot (fun n _ _ => (lv n).prog_maker_step x0_0 x0_1 x0_2 x0_3 x0_4 x1 x2) Q := Tot.up (fun n => by rw [prog_maker_step_lv]) h
theorem prog_maker_step_ok (n : Nat) : OKo n prog_maker_step_o := fun ih {_ _ _ _ _ _} h => by
  refine rowO_ok (cl := CL n) (ea := prog_maker_step_e) (dr := prog_maker_step_d) (fun _ _ h => prog_maker_step_ae h) (fun _ _ h => prog_maker_step_dr h) (fun a v h => ?_) h
  cases n with
  | zero => cases h
  | succ n =>
    rw [prog_maker_step_lv] at h
    exact bodyK_ok noEq_ok (ih n rfl) rfl (fun _ _ h => prog_maker_step_dr h) h
theorem prog_maker_seq_lv (n : Nat) : (lv (n + 1)).prog_maker_seq = prog_maker_seq_b (lv n) n := by kernel_rfl
theorem prog_maker_seq_up (x0_0 x0_1 x0_2 : Int) (x0_3 x0_4 x1 : LL) {Q : (Int × Int × Int × Int × Int × LL × LL) → Prop} (h : Tot (fun n _ _ => prog_maker_seq_b (lv n) n x0_0 x0_1 x0_2 x0_3 x0_4 x1) Q) : Tot (fun n _ _ => (lv n).prog_maker_seq x0_0 x0_1 x0_2 x0_3 x0_4 x1) Q := Tot.up (fun n => by rw [prog_maker_seq_lv]) h
theorem prog_maker_seq_ok (n : Nat) : OKo n prog_maker_seq_o := fun ih {_ _ _ _ _ _} h => by
  refine rowO_ok (cl := CL n) (ea := prog_maker_seq_e) (dr := prog_maker_seq_d) (fun _ _ h => prog_maker_seq_ae h) (fun _ _ h => prog_maker_seq_dr h) (fun a v h => ?_) h
  cases n with
  | zero => cases h
  | succ n =>
    rw [prog_maker_seq_lv] at h
    exact bodyK_ok noEq_ok (ih n rfl) rfl (fun _ _ h => prog_maker_seq_dr h) h
theorem prog_maker_alt_lv (n : Nat) : (lv (n + 1)).prog_maker_alt = prog_maker_alt_b (lv n) n := by kernel_rfl
theorem prog_maker_alt_up (x0_0 x0_1 x0_2 : Int) (x0_3 x0_4 x1 : LL) {Q : (Int × Int × Int × Int × Int × LL × LL) → Prop} (h : Tot (fun n _ _ => prog_maker_alt_b (lv n) n x0_0 x0_1 x0_2 x0_3 x0_4 x1) Q) : Tot (fun n _ _ => (lv n).prog_maker_alt x0_0 x0_1 x0_2 x0_3 x0_4 x1) Q := Tot.up (fun n => by rw [prog_maker_alt_lv]) h
theorem prog_maker_alt_ok (n : Nat) : OKo n prog_maker_alt_o := fun ih {_ _ _ _ _ _} h => by
  refine rowO_ok (cl := CL n) (ea := prog_maker_alt_e) (dr := prog_maker_alt_d) (fun _ _ h => prog_maker_alt_ae h) (fun _ _ h => prog_maker_alt_dr h) (fun a v h => ?_) h
  cases n with
  | zero => cases h
  | succ n =>
    rw [prog_maker_alt_lv] at h
    exact bodyK_ok noEq_ok (ih n rfl) rfl (fun _ _ h => prog_maker_alt_dr h) h
theorem prog_maker_state_lv (n : Nat) : (lv (n + 1)).prog_maker_state = prog_maker_state_b (lv n) n := by kernel_rfl
theorem prog_maker_state_up (x0_0 x0_1 x0_2 : Int) (x0_3 x0_4 : LL) {Q : (Int × Int × Int × Int × LL × LL) → Prop} (h : Tot (fun n _ _ => prog_maker_state_b (lv n) n x0_0 x0_1 x0_2 x0_3 x0_4) Q) : Tot (fun n _ _ => (lv n).prog_maker_state x0_0 x0_1 x0_2 x0_3 x0_4) Q := Tot.up (fun n => by rw [prog_maker_state_lv]) h
theorem prog_maker_state_ok (n : Nat) : OKo n prog_maker_state_o := fun ih {_ _ _ _ _ _} h => by
  refine rowO_ok (cl := CL n) (ea := prog_maker_state_e) (dr := prog_maker_state_d) (fun _ _ h => prog_maker_state_ae h) (fun _ _ h => prog_maker_state_dr h) (fun a v h => ?_) h
  cases n with
  | zero => cases h
  | succ n =>
    rw [prog_maker_state_lv] at h
    exact bodyK_ok noEq_ok (ih n rfl) rfl (fun _ _ h => prog_maker_state_dr h) h
theorem prog_maker_lay_lv (n : Nat) : (lv (n + 1)).prog_maker_lay = prog_maker_lay_b (lv n) n := by kernel_rfl
theorem prog_maker_lay_up (x0_0 x0_1 x0_2 : Int) (x0_3 x0_4 x1 : LL) {Q : (Int × Int × Int × LL × LL) → Prop} (h : Tot (fun n _ _ => prog_maker_lay_b (lv n) n x0_0 x0_1 x0_2 x0_3 x0_4 x1) Q) : Tot (fun n _ _ => (lv n).prog_maker_lay x0_0 x0_1 x0_2 x0_3 x0_4 x1) Q := Tot.up (fun n => by rw [prog_maker_lay_lv]) h
theorem prog_maker_lay_ok (n : Nat) : OKo n prog_maker_lay_o := fun ih {_ _ _ _ _ _} h => by
  refine rowO_ok (cl := CL n) (ea := prog_maker_lay_e) (dr := prog_maker_lay_d) (fun _ _ h => prog_maker_lay_ae h) (fun _ _ h => prog_maker_lay_dr h) (fun a v h => ?_) h
  cases n with
  | zero => cases h
  | succ n =>
    rw [prog_maker_lay_lv] at h
    exact bodyK_ok noEq_ok (ih n rfl) rfl (fun _ _ h => prog_maker_lay_dr h) h
theorem prog_maker_free_lv (n : Nat) : (lv (n + 1)).prog_maker_free = prog_maker_free_b (lv n) n := by kernel_rfl
theorem prog_maker_free_up (x0_0 x0_1 x0_2 : Int) (x0_3 x0_4 : LL) (x1 x2 : Int) {Q : (Int × Int × Int × LL × LL) → Prop} (h : Tot (fun n _ _ => prog_maker_free_b (lv n) n x0_0 x0_1 x0_2 x0_3 x0_4 x1 x2) Q) : Tot (fun n _ _ => (lv n).prog_maker_free x0_0 x0_1 x0_2 x0_3 x0_4 x1 x2) Q := Tot.up (fun n => by rw [prog_maker_free_lv]) h
theorem prog_maker_free_ok (n : Nat) : OKo n prog_maker_free_o := fun ih {_ _ _ _ _ _} h => by
  refine rowO_ok (cl := CL n) (ea := prog_maker_free_e) (dr := prog_maker_free_d) (fun _ _ h => prog_maker_free_ae h) (fun _ _ h => prog_maker_free_dr h) (fun a v h => ?_) h
  cases n with
  | zero => cases h
  | succ n =>
    rw [prog_maker_free_lv] at h
    exact bodyK_ok noEq_ok (ih n rfl) rfl (fun _ _ h => prog_maker_free_dr h) h
theorem strat_Items_lv (n : Nat) : (lv (n + 1)).strat_Items = strat_Items_b (lv n) n := by kernel_rfl
theorem strat_Items_up (x0_0 x0_1 x0_2 : LL) (x0_3 x0_4 x0_5 : Int) (x0_6 x0_7 : LL) {Q : Int → Prop} (h : Tot (fun n _ _ => strat_Items_b (lv n) n x0_0 x0_1 x0_2 x0_3 x0_4 x0_5 x0_6 x0_7) Q) : Tot (fun n _ _ => (lv n).strat_Items x0_0 x0_1 x0_2 x0_3 x0_4 x0_5 x0_6 x0_7) Q := Tot.up (fun n => by rw [strat_Items_lv]) h
theorem strat_Items_ok (n : Nat) : OKo n strat_Items_o := fun ih {_ _ _ _ _ _} h => by
  refine rowO_ok (cl := CL n) (ea := strat_Items_e) (dr := strat_Items_d) (fun _ _ h => strat_Items_ae h) (fun _ _ h => strat_Items_dr h) (fun a v h => ?_) h
  cases n with
  | zero => cases h
  | succ n =>
    rw [strat_Items_lv] at h
    exact bodyK_ok noEq_ok (ih n rfl) rfl (fun _ _ h => strat_Items_dr h) h
theorem orielref12_Right_lv (n : Nat) : (lv (n + 1)).orielref12_Right = orielref12_Right_b (lv n) n := by kernel_rfl
theorem orielref12_Right_up (x0_0 : Int) (x0_1 x0_2 : LL) {Q : Bool → Prop} (h : Tot (fun n _ _ => orielref12_Right_b (lv n) n x0_0 x0_1 x0_2) Q) : Tot (fun n _ _ => (lv n).orielref12_Right x0_0 x0_1 x0_2) Q := Tot.up (fun n => by rw [orielref12_Right_lv]) h
theorem orielref12_Right_ok (n : Nat) : OKo n orielref12_Right_o := fun ih {_ _ _ _ _ _} h => by
  refine rowO_ok (cl := CL n) (ea := orielref12_Right_e) (dr := orielref12_Right_d) (fun _ _ h => orielref12_Right_ae h) (fun _ _ h => orielref12_Right_dr h) (fun a v h => ?_) h
  cases n with
  | zero => cases h
  | succ n =>
    rw [orielref12_Right_lv] at h
    exact bodyK_ok noEq_ok (ih n rfl) rfl (fun _ _ h => orielref12_Right_dr h) h
theorem strat_Find_lv (n : Nat) : (lv (n + 1)).strat_Find = strat_Find_b (lv n) n := by kernel_rfl
theorem strat_Find_up (x0_0 x0_1 x0_2 : LL) (x0_3 x0_4 x0_5 : Int) (x0_6 x0_7 : LL) (x1_0 : Int) (x1_1 x1_2 : LL) {Q : Int → Prop} (h : Tot (fun n _ _ => strat_Find_b (lv n) n x0_0 x0_1 x0_2 x0_3 x0_4 x0_5 x0_6 x0_7 x1_0 x1_1 x1_2) Q) : Tot (fun n _ _ => (lv n).strat_Find x0_0 x0_1 x0_2 x0_3 x0_4 x0_5 x0_6 x0_7 x1_0 x1_1 x1_2) Q := Tot.up (fun n => by rw [strat_Find_lv]) h
theorem strat_Find_ok (n : Nat) : OKo n strat_Find_o := fun ih {_ _ _ _ _ _} h => by
  refine rowO_ok (cl := CL n) (ea := strat_Find_e) (dr := strat_Find_d) (fun _ _ h => strat_Find_ae h) (fun _ _ h => strat_Find_dr h) (fun a v h => ?_) h
  cases n with
  | zero => cases h
  | succ n =>
    rw [strat_Find_lv] at h
    exact bodyK_ok noEq_ok (ih n rfl) rfl (fun _ _ h => strat_Find_dr h) h
theorem orielref12_Size_lv (n : Nat) : (lv (n + 1)).orielref12_Size = orielref12_Size_b (lv n) n := by kernel_rfl
theorem orielref12_Size_up (x0_0 : Int) (x0_1 x0_2 : LL) {Q : Int → Prop} (h : Tot (fun n _ _ => orielref12_Size_b (lv n) n x0_0 x0_1 x0_2) Q) : Tot (fun n _ _ => (lv n).orielref12_Size x0_0 x0_1 x0_2) Q := Tot.up (fun n => by rw [orielref12_Size_lv]) h
theorem orielref12_Size_ok (n : Nat) : OKo n orielref12_Size_o := fun ih {_ _ _ _ _ _} h => by
  refine rowO_ok (cl := CL n) (ea := orielref12_Size_e) (dr := orielref12_Size_d) (fun _ _ h => orielref12_Size_ae h) (fun _ _ h => orielref12_Size_dr h) (fun a v h => ?_) h
  cases n with
  | zero => cases h
  | succ n =>
    rw [orielref12_Size_lv] at h
    exact bodyK_ok noEq_ok (ih n rfl) rfl (fun _ _ h => orielref12_Size_dr h) h
theorem api_Path_4_lv (n : Nat) : (lv (n + 1)).api_Path_4 = api_Path_4_b (lv n) n := by kernel_rfl
theorem api_Path_4_up (x0 : LL) (x1_0 : Int) (x1_1 x1_2 : LL) {Q : Int → Prop} (h : Tot (fun n _ _ => api_Path_4_b (lv n) n x0 x1_0 x1_1 x1_2) Q) : Tot (fun n _ _ => (lv n).api_Path_4 x0 x1_0 x1_1 x1_2) Q := Tot.up (fun n => by rw [api_Path_4_lv]) h
theorem api_Path_4_ok (n : Nat) : OKo n api_Path_4_o := fun ih {_ _ _ _ _ _} h => by
  refine rowO_ok (cl := CL n) (ea := api_Path_4_e) (dr := api_Path_4_d) (fun _ _ h => api_Path_4_ae h) (fun _ _ h => api_Path_4_dr h) (fun a v h => ?_) h
  cases n with
  | zero => cases h
  | succ n =>
    rw [api_Path_4_lv] at h
    exact bodyK_ok noEq_ok (ih n rfl) rfl (fun _ _ h => api_Path_4_dr h) h
theorem orielref12_size_lv (n : Nat) : (lv (n + 1)).orielref12_size = orielref12_size_b (lv n) n := by kernel_rfl
theorem orielref12_size_up (x0_0 : Int) (x0_1 x0_2 : LL) (x1 : Int) {Q : Int → Prop} (h : Tot (fun n _ _ => orielref12_size_b (lv n) n x0_0 x0_1 x0_2 x1) Q) : Tot (fun n _ _ => (lv n).orielref12_size x0_0 x0_1 x0_2 x1) Q := Tot.up (fun n => by rw [orielref12_size_lv]) h
theorem orielref12_size_ok (n : Nat) : OKo n orielref12_size_o := fun ih {_ _ _ _ _ _} h => by
  refine rowO_ok (cl := CL n) (ea := orielref12_size_e) (dr := orielref12_size_d) (fun _ _ h => orielref12_size_ae h) (fun _ _ h => orielref12_size_dr h) (fun a v h => ?_) h
  cases n with
  | zero => cases h
  | succ n =>
    rw [orielref12_size_lv] at h
    exact bodyK_ok noEq_ok (ih n rfl) rfl (fun _ _ h => orielref12_size_dr h) h
theorem strat_Find_1_lv (n : Nat) : (lv (n + 1)).strat_Find_1 = strat_Find_1_b (lv n) n := by kernel_rfl
theorem strat_Find_1_up (x0_0 : Int) (x0_1 x0_2 : LL) (x1_0 : Int) (x1_1 x1_2 : LL) {Q : Bool → Prop} (h : Tot (fun n _ _ => strat_Find_1_b (lv n) n x0_0 x0_1 x0_2 x1_0 x1_1 x1_2) Q) : Tot (fun n _ _ => (lv n).strat_Find_1 x0_0 x0_1 x0_2 x1_0 x1_1 x1_2) Q := Tot.up (fun n => by rw [strat_Find_1_lv]) h
theorem strat_Find_1_ok (n : Nat) : OKo n strat_Find_1_o := fun ih {_ _ _ _ _ _} h => by
  refine rowO_ok (cl := CL n) (ea := strat_Find_1_e) (dr := strat_Find_1_d) (fun _ _ h => strat_Find_1_ae h) (fun _ _ h => strat_Find_1_dr h) (fun a v h => ?_) h
  cases n with
  | zero => cases h
  | succ n =>
    rw [strat_Find_1_lv] at h
    exact bodyK_ok noEq_ok (ih n rfl) rfl (fun _ _ h => strat_Find_1_dr h) h
theorem orielref12_sizeFilter_lv (n : Nat) : (lv (n + 1)).orielref12_sizeFilter = orielref12_sizeFilter_b (lv n) n := by kernel_rfl
theorem orielref12_sizeFilter_up (x0_0 : Int) (x0_1 x0_2 x0_3 : ByteArray) (x0_4 x0_5 : LL) (x1 : Int) {Q : Int → Prop} (h : Tot (fun n _ _ => orielref12_sizeFilter_b (lv n) n x0_0 x0_1 x0_2 x0_3 x0_4 x0_5 x1) Q) : Tot (fun n _ _ => (lv n).orielref12_sizeFilter x0_0 x0_1 x0_2 x0_3 x0_4 x0_5 x1) Q := Tot.up (fun n => by rw [orielref12_sizeFilter_lv]) h
theorem orielref12_sizeFilter_ok (n : Nat) : OKo n orielref12_sizeFilter_o := fun ih {_ _ _ _ _ _} h => by
  refine rowO_ok (cl := CL n) (ea := orielref12_sizeFilter_e) (dr := orielref12_sizeFilter_d) (fun _ _ h => orielref12_sizeFilter_ae h) (fun _ _ h => orielref12_sizeFilter_dr h) (fun a v h => ?_) h
  cases n with
  | zero => cases h
  | succ n =>
    rw [orielref12_sizeFilter_lv] at h
    exact bodyK_ok noEq_ok (ih n rfl) rfl (fun _ _ h => orielref12_sizeFilter_dr h) h
theorem strat_Holds_lv (n : Nat) : (lv (n + 1)).strat_Holds = strat_Holds_b (lv n) n := by kernel_rfl
theorem strat_Holds_up (x0_0 x0_1 x0_2 : LL) (x0_3 x0_4 x0_5 : Int) (x0_6 x0_7 : LL) (x1_0 : Int) (x1_1 x1_2 x1_3 : ByteArray) (x1_4 x1_5 : LL) (x2_0 : Int) (x2_1 x2_2 : ByteArray) (x2_3 : LL) (x2_4 : ByteArray) (x3 : LL) {Q : Bool → Prop} (h : Tot (fun n _ _ => strat_Holds_b (lv n) n x0_0 x0_1 x0_2 x0_3 x0_4 x0_5 x0_6 x0_7 x1_0 x1_1 x1_2 x1_3 x1_4 x1_5 x2_0 x2_1 x2_2 x2_3 x2_4 x3) Q) : Tot (fun n _ _ => (lv n).strat_Holds x0_0 x0_1 x0_2 x0_3 x0_4 x0_5 x0_6 x0_7 x1_0 x1_1 x1_2 x1_3 x1_4 x1_5 x2_0 x2_1 x2_2 x2_3 x2_4 x3) Q := Tot.up (fun n => by rw [strat_Holds_lv]) h
theorem strat_Holds_ok (n : Nat) : OKo n strat_Holds_o := fun ih {_ _ _ _ _ _} h => by
  refine rowO_ok (cl := CL n) (ea := strat_Holds_e) (dr := strat_Holds_d) (fun _ _ h => strat_Holds_ae h) (fun _ _ h => strat_Holds_dr h) (fun a v h => ?_) h
  cases n with
  | zero => cases h
  | succ n =>
    rw [strat_Holds_lv] at h
    exact bodyK_ok noEq_ok (ih n rfl) rfl (fun _ _ h => strat_Holds_dr h) h
theorem orielref12_path_lv (n : Nat) : (lv (n + 1)).orielref12_path = orielref12_path_b (lv n) n := by kernel_rfl
theorem orielref12_path_up (x0_0 : Int) (x0_1 x0_2 : LL) (x1 : Int) {Q : Bool → Prop} (h : Tot (fun n _ _ => orielref12_path_b (lv n) n x0_0 x0_1 x0_2 x1) Q) : Tot (fun n _ _ => (lv n).orielref12_path x0_0 x0_1 x0_2 x1) Q := Tot.up (fun n => by rw [orielref12_path_lv]) h
theorem orielref12_path_ok (n : Nat) : OKo n orielref12_path_o := fun ih {_ _ _ _ _ _} h => by
  refine rowO_ok (cl := CL n) (ea := orielref12_path_e) (dr := orielref12_path_d) (fun _ _ h => orielref12_path_ae h) (fun _ _ h => orielref12_path_dr h) (fun a v h => ?_) h
  cases n with
  | zero => cases h
  | succ n =>
    rw [orielref12_path_lv] at h
    exact bodyK_ok noEq_ok (ih n rfl) rfl (fun _ _ h => orielref12_path_dr h) h
theorem strat_node_holds_lv (n : Nat) : (lv (n + 1)).strat_node_holds = strat_node_holds_b (lv n) n := by kernel_rfl
theorem strat_node_holds_up (x0_0 x0_1 x0_2 : LL) (x0_3 x0_4 x0_5 : Int) (x0_6 x0_7 : LL) (x0_8 : Int) (x0_9 x0_10 : ByteArray) (x0_11 : LL) (x0_12 : ByteArray) (x0_13 : LL) (x1_0 : Int) (x1_1 x1_2 x1_3 : ByteArray) (x1_4 x1_5 : LL) {Q : (Bool × LL × LL × LL × Int × Int × Int × LL × LL × Int × ByteArray × ByteArray × LL × ByteArray × LL) → Prop} (h : Tot (fun n _ _ => strat_node_holds_b (lv n) n x0_0 x0_1 x0_2 x0_3 x0_4 x0_5 x0_6 x0_7 x0_8 x0_9 x0_10 x0_11 x0_12 x0_13 x1_0 x1_1 x1_2 x1_3 x1_4 x1_5) Q) : Tot (fun n _ _ => (lv n).strat_node_holds x0_0 x0_1 x0_2 x0_3 x0_4 x0_5 x0_6 x0_7 x0_8 x0_9 x0_10 x0_11 x0_12 x0_13 x1_0 x1_1 x1_2 x1_3 x1_4 x1_5) Q := Tot.up (fun n => by rw [strat_node_holds_lv]) h
theorem strat_node_holds_ok (n : Nat) : OKo n strat_node_holds_o := fun ih {_ _ _ _ _ _} h => by
  refine rowO_ok (cl := CL n) (ea := strat_node_holds_e) (dr := strat_node_holds_d) (fun _ _ h => strat_node_holds_ae h) (fun _ _ h => strat_node_holds_dr h) (fun a v h => ?_) h
  cases n with
  | zero => cases h
  | succ n =>
    rw [strat_node_holds_lv] at h
    exact bodyK_ok noEq_ok (ih n rfl) rfl (fun _ _ h => strat_node_holds_dr h) h
theorem orielref12_filter_lv (n : Nat) : (lv (n + 1)).orielref12_filter = orielref12_filter_b (lv n) n := by kernel_rfl
theorem orielref12_filter_up (x0_0 : Int) (x0_1 x0_2 x0_3 : ByteArray) (x0_4 x0_5 : LL) (x1 : Int) {Q : Bool → Prop} (h : Tot (fun n _ _ => orielref12_filter_b (lv n) n x0_0 x0_1 x0_2 x0_3 x0_4 x0_5 x1) Q) : Tot (fun n _ _ => (lv n).orielref12_filter x0_0 x0_1 x0_2 x0_3 x0_4 x0_5 x1) Q := Tot.up (fun n => by rw [orielref12_filter_lv]) h
theorem orielref12_filter_ok (n : Nat) : OKo n orielref12_filter_o := fun ih {_ _ _ _ _ _} h => by
  refine rowO_ok (cl := CL n) (ea := orielref12_filter_e) (dr := orielref12_filter_d) (fun _ _ h => orielref12_filter_ae h) (fun _ _ h => orielref12_filter_dr h) (fun a v h => ?_) h
  cases n with
  | zero => cases h
  | succ n =>
    rw [orielref12_filter_lv] at h
    exact bodyK_ok noEq_ok (ih n rfl) rfl (fun _ _ h => orielref12_filter_dr h) h
theorem strat_node_attr_lv (n : Nat) : (lv (n + 1)).strat_node_attr = strat_node_attr_b (lv n) n := by kernel_rfl
theorem strat_node_attr_up (x0_0 x0_1 x0_2 : LL) (x0_3 x0_4 x0_5 : Int) (x0_6 x0_7 : LL) (x0_8 : Int) (x0_9 x0_10 : ByteArray) (x0_11 : LL) (x0_12 : ByteArray) (x0_13 : LL) (x1_0 x1_1 : ByteArray) {Q : (ByteArray × Bool × LL × LL × LL × Int × Int × Int × LL × LL × Int × ByteArray × ByteArray × LL × ByteArray × LL) → Prop} (h : Tot (fun n _ _ => strat_node_attr_b (lv n) n x0_0 x0_1 x0_2 x0_3 x0_4 x0_5 x0_6 x0_7 x0_8 x0_9 x0_10 x0_11 x0_12 x0_13 x1_0 x1_1) Q) : Tot (fun n _ _ => (lv n).strat_node_attr x0_0 x0_1 x0_2 x0_3 x0_4 x0_5 x0_6 x0_7 x0_8 x0_9 x0_10 x0_11 x0_12 x0_13 x1_0 x1_1) Q := Tot.up (fun n => by rw [strat_node_attr_lv]) h
theorem strat_node_attr_ok (n : Nat) : OKo n strat_node_attr_o := fun ih {_ _ _ _ _ _} h => by
  refine rowO_ok (cl := CL n) (ea := strat_node_attr_e) (dr := strat_node_attr_d) (fun _ _ h => strat_node_attr_ae h) (fun _ _ h => strat_node_attr_dr h) (fun a v h => ?_) h
  cases n with
  | zero => cases h
  | succ n =>
    rw [strat_node_attr_lv] at h
    exact bodyK_ok noEq_ok (ih n rfl) rfl (fun _ _ h => strat_node_attr_dr h) h
theorem api_Filter_2_lv (n : Nat) : (lv (n + 1)).api_Filter_2 = api_Filter_2_b (lv n) n := by kernel_rfl
theorem api_Filter_2_up (x0 x1_0 x1_1 x1_2 : LL) (x1_3 x1_4 x1_5 : Int) (x1_6 x1_7 : LL) (x1_8 : Int) (x1_9 x1_10 : ByteArray) (x1_11 : LL) (x1_12 : ByteArray) (x1_13 : LL) {Q : Bool → Prop} (h : Tot (fun n _ _ => api_Filter_2_b (lv n) n x0 x1_0 x1_1 x1_2 x1_3 x1_4 x1_5 x1_6 x1_7 x1_8 x1_9 x1_10 x1_11 x1_12 x1_13) Q) : Tot (fun n _ _ => (lv n).api_Filter_2 x0 x1_0 x1_1 x1_2 x1_3 x1_4 x1_5 x1_6 x1_7 x1_8 x1_9 x1_10 x1_11 x1_12 x1_13) Q := Tot.up (fun n => by rw [api_Filter_2_lv]) h
theorem api_Filter_2_ok (n : Nat) : OKo n api_Filter_2_o := fun ih {_ _ _ _ _ _} h => by
  refine rowO_ok (cl := CL n) (ea := api_Filter_2_e) (dr := api_Filter_2_d) (fun _ _ h => api_Filter_2_ae h) (fun _ _ h => api_Filter_2_dr h) (fun a v h => ?_) h
  cases n with
  | zero => cases h
  | succ n =>
    rw [api_Filter_2_lv] at h
    exact bodyK_ok noEq_ok (ih n rfl) rfl (fun _ _ h => api_Filter_2_dr h) h
theorem api_Filter_3_lv (n : Nat) : (lv (n + 1)).api_Filter_3 = api_Filter_3_b (lv n) n := by kernel_rfl
theorem api_Filter_3_up (x0 x1_0 x1_1 x1_2 : LL) (x1_3 x1_4 x1_5 : Int) (x1_6 x1_7 : LL) (x1_8 : Int) (x1_9 x1_10 : ByteArray) (x1_11 : LL) (x1_12 : ByteArray) (x1_13 : LL) {Q : Bool → Prop} (h : Tot (fun n _ _ => api_Filter_3_b (lv n) n x0 x1_0 x1_1 x1_2 x1_3 x1_4 x1_5 x1_6 x1_7 x1_8 x1_9 x1_10 x1_11 x1_12 x1_13) Q) : Tot (fun n _ _ => (lv n).api_Filter_3 x0 x1_0 x1_1 x1_2 x1_3 x1_4 x1_5 x1_6 x1_7 x1_8 x1_9 x1_10 x1_11 x1_12 x1_13) Q := Tot.up (fun n => by rw [api_Filter_3_lv]) h
theorem api_Filter_3_ok (n : Nat) : OKo n api_Filter_3_o := fun ih {_ _ _ _ _ _} h => by
  refine rowO_ok (cl := CL n) (ea := api_Filter_3_e) (dr := api_Filter_3_d) (fun _ _ h => api_Filter_3_ae h) (fun _ _ h => api_Filter_3_dr h) (fun a v h => ?_) h
  cases n with
  | zero => cases h
  | succ n =>
    rw [api_Filter_3_lv] at h
    exact bodyK_ok noEq_ok (ih n rfl) rfl (fun _ _ h => api_Filter_3_dr h) h
theorem api_Path_5_lv (n : Nat) : (lv (n + 1)).api_Path_5 = api_Path_5_b (lv n) n := by kernel_rfl
theorem api_Path_5_up (x0 x1_0 x1_1 x1_2 : LL) (x1_3 x1_4 x1_5 : Int) (x1_6 x1_7 : LL) (x1_8 : Int) (x1_9 x1_10 : ByteArray) (x1_11 : LL) (x1_12 : ByteArray) (x1_13 : LL) {Q : Bool → Prop} (h : Tot (fun n _ _ => api_Path_5_b (lv n) n x0 x1_0 x1_1 x1_2 x1_3 x1_4 x1_5 x1_6 x1_7 x1_8 x1_9 x1_10 x1_11 x1_12 x1_13) Q) : Tot (fun n _ _ => (lv n).api_Path_5 x0 x1_0 x1_1 x1_2 x1_3 x1_4 x1_5 x1_6 x1_7 x1_8 x1_9 x1_10 x1_11 x1_12 x1_13) Q := Tot.up (fun n => by rw [api_Path_5_lv]) h
theorem api_Path_5_ok (n : Nat) : OKo n api_Path_5_o := fun ih {_ _ _ _ _ _} h => by
  refine rowO_ok (cl := CL n) (ea := api_Path_5_e) (dr := api_Path_5_d) (fun _ _ h => api_Path_5_ae h) (fun _ _ h => api_Path_5_dr h) (fun a v h => ?_) h
  cases n with
  | zero => cases h
  | succ n =>
    rw [api_Path_5_lv] at h
    exact bodyK_ok noEq_ok (ih n rfl) rfl (fun _ _ h => api_Path_5_dr h) h
theorem orielref12_named_lv (n : Nat) : (lv (n + 1)).orielref12_named = orielref12_named_b (lv n) n := by kernel_rfl
theorem orielref12_named_up (x0_0 x0_1 : ByteArray) {Q : Bool → Prop} (h : Tot (fun n _ _ => orielref12_named_b (lv n) n x0_0 x0_1) Q) : Tot (fun n _ _ => (lv n).orielref12_named x0_0 x0_1) Q := Tot.up (fun n => by rw [orielref12_named_lv]) h
theorem orielref12_named_ok (n : Nat) : OKo n orielref12_named_o := fun ih {_ _ _ _ _ _} h => by
  refine rowO_ok (cl := CL n) (ea := orielref12_named_e) (dr := orielref12_named_d) (fun _ _ h => orielref12_named_ae h) (fun _ _ h => orielref12_named_dr h) (fun a v h => ?_) h
  cases n with
  | zero => cases h
  | succ n =>
    rw [orielref12_named_lv] at h
    exact bodyK_ok noEq_ok (ih n rfl) rfl (fun _ _ h => orielref12_named_dr h) h
theorem orielref04_Right_lv (n : Nat) : (lv (n + 1)).orielref04_Right = orielref04_Right_b (lv n) n := by kernel_rfl
theorem orielref04_Right_up (x0 : ByteArray) {Q : Bool → Prop} (h : Tot (fun n _ _ => orielref04_Right_b (lv n) n x0) Q) : Tot (fun n _ _ => (lv n).orielref04_Right x0) Q := Tot.up (fun n => by rw [orielref04_Right_lv]) h
theorem orielref04_Right_ok (n : Nat) : OKo n orielref04_Right_o := fun ih {_ _ _ _ _ _} h => by
  refine rowO_ok (cl := CL n) (ea := orielref04_Right_e) (dr := orielref04_Right_d) (fun _ _ h => orielref04_Right_ae h) (fun _ _ h => orielref04_Right_dr h) (fun a v h => ?_) h
  cases n with
  | zero => cases h
  | succ n =>
    rw [orielref04_Right_lv] at h
    exact bodyK_ok noEq_ok (ih n rfl) rfl (fun _ _ h => orielref04_Right_dr h) h
theorem api_Filter_4_lv (n : Nat) : (lv (n + 1)).api_Filter_4 = api_Filter_4_b (lv n) n := by kernel_rfl
theorem api_Filter_4_up (x0 x1_0 x1_1 x1_2 : LL) (x1_3 x1_4 x1_5 : Int) (x1_6 x1_7 : LL) (x1_8 : Int) (x1_9 x1_10 : ByteArray) (x1_11 : LL) (x1_12 : ByteArray) (x1_13 : LL) {Q : Int → Prop} (h : Tot (fun n _ _ => api_Filter_4_b (lv n) n x0 x1_0 x1_1 x1_2 x1_3 x1_4 x1_5 x1_6 x1_7 x1_8 x1_9 x1_10 x1_11 x1_12 x1_13) Q) : Tot (fun n _ _ => (lv n).api_Filter_4 x0 x1_0 x1_1 x1_2 x1_3 x1_4 x1_5 x1_6 x1_7 x1_8 x1_9 x1_10 x1_11 x1_12 x1_13) Q := Tot.up (fun n => by rw [api_Filter_4_lv]) h
theorem api_Filter_4_ok (n : Nat) : OKo n api_Filter_4_o := fun ih {_ _ _ _ _ _} h => by
  refine rowO_ok (cl := CL n) (ea := api_Filter_4_e) (dr := api_Filter_4_d) (fun _ _ h => api_Filter_4_ae h) (fun _ _ h => api_Filter_4_dr h) (fun a v h => ?_) h
  cases n with
  | zero => cases h
  | succ n =>
    rw [api_Filter_4_lv] at h
    exact bodyK_ok noEq_ok (ih n rfl) rfl (fun _ _ h => api_Filter_4_dr h) h
theorem api_Filter_5_lv (n : Nat) : (lv (n + 1)).api_Filter_5 = api_Filter_5_b (lv n) n := by kernel_rfl
theorem api_Filter_5_up (x0 x1_0 x1_1 x1_2 : LL) (x1_3 x1_4 x1_5 : Int) (x1_6 x1_7 : LL) (x1_8 : Int) (x1_9 x1_10 : ByteArray) (x1_11 : LL) (x1_12 : ByteArray) (x1_13 : LL) {Q : Int → Prop} (h : Tot (fun n _ _ => api_Filter_5_b (lv n) n x0 x1_0 x1_1 x1_2 x1_3 x1_4 x1_5 x1_6 x1_7 x1_8 x1_9 x1_10 x1_11 x1_12 x1_13) Q) : Tot (fun n _ _ => (lv n).api_Filter_5 x0 x1_0 x1_1 x1_2 x1_3 x1_4 x1_5 x1_6 x1_7 x1_8 x1_9 x1_10 x1_11 x1_12 x1_13) Q := Tot.up (fun n => by rw [api_Filter_5_lv]) h
theorem api_Filter_5_ok (n : Nat) : OKo n api_Filter_5_o := fun ih {_ _ _ _ _ _} h => by
  refine rowO_ok (cl := CL n) (ea := api_Filter_5_e) (dr := api_Filter_5_d) (fun _ _ h => api_Filter_5_ae h) (fun _ _ h => api_Filter_5_dr h) (fun a v h => ?_) h
  cases n with
  | zero => cases h
  | succ n =>
    rw [api_Filter_5_lv] at h
    exact bodyK_ok noEq_ok (ih n rfl) rfl (fun _ _ h => api_Filter_5_dr h) h
theorem api_Path_6_lv (n : Nat) : (lv (n + 1)).api_Path_6 = api_Path_6_b (lv n) n := by kernel_rfl
theorem api_Path_6_up (x0 x1_0 x1_1 x1_2 : LL) (x1_3 x1_4 x1_5 : Int) (x1_6 x1_7 : LL) (x1_8 : Int) (x1_9 x1_10 : ByteArray) (x1_11 : LL) (x1_12 : ByteArray) (x1_13 : LL) {Q : Int → Prop} (h : Tot (fun n _ _ => api_Path_6_b (lv n) n x0 x1_0 x1_1 x1_2 x1_3 x1_4 x1_5 x1_6 x1_7 x1_8 x1_9 x1_10 x1_11 x1_12 x1_13) Q) : Tot (fun n _ _ => (lv n).api_Path_6 x0 x1_0 x1_1 x1_2 x1_3 x1_4 x1_5 x1_6 x1_7 x1_8 x1_9 x1_10 x1_11 x1_12 x1_13) Q := Tot.up (fun n => by rw [api_Path_6_lv]) h
theorem api_Path_6_ok (n : Nat) : OKo n api_Path_6_o := fun ih {_ _ _ _ _ _} h => by
  refine rowO_ok (cl := CL n) (ea := api_Path_6_e) (dr := api_Path_6_d) (fun _ _ h => api_Path_6_ae h) (fun _ _ h => api_Path_6_dr h) (fun a v h => ?_) h
  cases n with
  | zero => cases h
  | succ n =>
    rw [api_Path_6_lv] at h
    exact bodyK_ok noEq_ok (ih n rfl) rfl (fun _ _ h => api_Path_6_dr h) h
theorem orielref03_Plain_lv (n : Nat) : (lv (n + 1)).orielref03_Plain = orielref03_Plain_b (lv n) n := by kernel_rfl
theorem orielref03_Plain_up (x0 : ByteArray) {Q : Bool → Prop} (h : Tot (fun n _ _ => orielref03_Plain_b (lv n) n x0) Q) : Tot (fun n _ _ => (lv n).orielref03_Plain x0) Q := Tot.up (fun n => by rw [orielref03_Plain_lv]) h
theorem orielref03_Plain_ok (n : Nat) : OKo n orielref03_Plain_o := fun ih {_ _ _ _ _ _} h => by
  refine rowO_ok (cl := CL n) (ea := orielref03_Plain_e) (dr := orielref03_Plain_d) (fun _ _ h => orielref03_Plain_ae h) (fun _ _ h => orielref03_Plain_dr h) (fun a v h => ?_) h
  cases n with
  | zero => cases h
  | succ n =>
    rw [orielref03_Plain_lv] at h
    exact bodyK_ok noEq_ok (ih n rfl) rfl (fun _ _ h => orielref03_Plain_dr h) h
theorem orielref01_All_lv (n : Nat) : (lv (n + 1)).orielref01_All = orielref01_All_b (lv n) n := by kernel_rfl
theorem orielref01_All_up (x0 : ByteArray) {Q : (LL × Int × Int) → Prop} (h : Tot (fun n _ _ => orielref01_All_b (lv n) n x0) Q) : Tot (fun n _ _ => (lv n).orielref01_All x0) Q := Tot.up (fun n => by rw [orielref01_All_lv]) h
theorem orielref01_All_ok (n : Nat) : OKo n orielref01_All_o := fun ih {_ _ _ _ _ _} h => by
  refine rowO_ok (cl := CL n) (ea := orielref01_All_e) (dr := orielref01_All_d) (fun _ _ h => orielref01_All_ae h) (fun _ _ h => orielref01_All_dr h) (fun a v h => ?_) h
  cases n with
  | zero => cases h
  | succ n =>
    rw [orielref01_All_lv] at h
    exact bodyK_ok noEq_ok (ih n rfl) rfl (fun _ _ h => orielref01_All_dr h) h
theorem strat_node_fails_lv (n : Nat) : (lv (n + 1)).strat_node_fails = strat_node_fails_b (lv n) n := by kernel_rfl
theorem strat_node_fails_up (x0_0 x0_1 x0_2 : LL) (x0_3 x0_4 x0_5 : Int) (x0_6 x0_7 : LL) (x0_8 : Int) (x0_9 x0_10 : ByteArray) (x0_11 : LL) (x0_12 : ByteArray) (x0_13 : LL) (x1_0 : Int) (x1_1 x1_2 x1_3 : ByteArray) (x1_4 x1_5 : LL) {Q : Bool → Prop} (h : Tot (fun n _ _ => strat_node_fails_b (lv n) n x0_0 x0_1 x0_2 x0_3 x0_4 x0_5 x0_6 x0_7 x0_8 x0_9 x0_10 x0_11 x0_12 x0_13 x1_0 x1_1 x1_2 x1_3 x1_4 x1_5) Q) : Tot (fun n _ _ => (lv n).strat_node_fails x0_0 x0_1 x0_2 x0_3 x0_4 x0_5 x0_6 x0_7 x0_8 x0_9 x0_10 x0_11 x0_12 x0_13 x1_0 x1_1 x1_2 x1_3 x1_4 x1_5) Q := Tot.up (fun n => by rw [strat_node_fails_lv]) h
theorem strat_node_fails_ok (n : Nat) : OKo n strat_node_fails_o := fun ih {_ _ _ _ _ _} h => by
  refine rowO_ok (cl := CL n) (ea := strat_node_fails_e) (dr := strat_node_fails_d) (fun _ _ h => strat_node_fails_ae h) (fun _ _ h => strat_node_fails_dr h) (fun a v h => ?_) h
  cases n with
  | zero => cases h
  | succ n =>
    rw [strat_node_fails_lv] at h
    exact bodyK_ok noEq_ok (ih n rfl) rfl (fun _ _ h => strat_node_fails_dr h) h
theorem strat_node_holds_2_lv (n : Nat) : (lv (n + 1)).strat_node_holds_2 = strat_node_holds_2_b (lv n) n := by kernel_rfl
theorem strat_node_holds_2_up (x0_0 x0_1 x0_2 : LL) (x0_3 x0_4 x0_5 : Int) (x0_6 x0_7 : LL) (x0_8 : Int) (x0_9 x0_10 : ByteArray) (x0_11 : LL) (x0_12 : ByteArray) (x0_13 : LL) (x1_0 : Int) (x1_1 x1_2 x1_3 : ByteArray) (x1_4 x1_5 : LL) {Q : Bool → Prop} (h : Tot (fun n _ _ => strat_node_holds_2_b (lv n) n x0_0 x0_1 x0_2 x0_3 x0_4 x0_5 x0_6 x0_7 x0_8 x0_9 x0_10 x0_11 x0_12 x0_13 x1_0 x1_1 x1_2 x1_3 x1_4 x1_5) Q) : Tot (fun n _ _ => (lv n).strat_node_holds_2 x0_0 x0_1 x0_2 x0_3 x0_4 x0_5 x0_6 x0_7 x0_8 x0_9 x0_10 x0_11 x0_12 x0_13 x1_0 x1_1 x1_2 x1_3 x1_4 x1_5) Q := Tot.up (fun n => by rw [strat_node_holds_2_lv]) h
theorem strat_node_holds_2_ok (n : Nat) : OKo n strat_node_holds_2_o := fun ih {_ _ _ _ _ _} h => by
  refine rowO_ok (cl := CL n) (ea := strat_node_holds_2_e) (dr := strat_node_holds_2_d) (fun _ _ h => strat_node_holds_2_ae h) (fun _ _ h => strat_node_holds_2_dr h) (fun a v h => ?_) h
  cases n with
  | zero => cases h
  | succ n =>
    rw [strat_node_holds_2_lv] at h
    exact bodyK_ok noEq_ok (ih n rfl) rfl (fun _ _ h => strat_node_holds_2_dr h) h
theorem strat_node_leads_lv (n : Nat) : (lv (n + 1)).strat_node_leads = strat_node_leads_b (lv n) n := by kernel_rfl
theorem strat_node_leads_up (x0_0 x0_1 x0_2 : LL) (x0_3 x0_4 x0_5 : Int) (x0_6 x0_7 : LL) (x0_8 : Int) (x0_9 x0_10 : ByteArray) (x0_11 : LL) (x0_12 : ByteArray) (x0_13 : LL) (x1_0 : Int) (x1_1 x1_2 : LL) {Q : Bool → Prop} (h : Tot (fun n _ _ => strat_node_leads_b (lv n) n x0_0 x0_1 x0_2 x0_3 x0_4 x0_5 x0_6 x0_7 x0_8 x0_9 x0_10 x0_11 x0_12 x0_13 x1_0 x1_1 x1_2) Q) : Tot (fun n _ _ => (lv n).strat_node_leads x0_0 x0_1 x0_2 x0_3 x0_4 x0_5 x0_6 x0_7 x0_8 x0_9 x0_10 x0_11 x0_12 x0_13 x1_0 x1_1 x1_2) Q := Tot.up (fun n => by rw [strat_node_leads_lv]) h
theorem strat_node_leads_ok (n : Nat) : OKo n strat_node_leads_o := fun ih {_ _ _ _ _ _} h => by
  refine rowO_ok (cl := CL n) (ea := strat_node_leads_e) (dr := strat_node_leads_d) (fun _ _ h => strat_node_leads_ae h) (fun _ _ h => strat_node_leads_dr h) (fun a v h => ?_) h
  cases n with
  | zero => cases h
  | succ n =>
    rw [strat_node_leads_lv] at h
    exact bodyK_ok noEq_ok (ih n rfl) rfl (fun _ _ h => strat_node_leads_dr h) h
theorem orielref02_Start_lv (n : Nat) : (lv (n + 1)).orielref02_Start = orielref02_Start_b (lv n) n := by kernel_rfl
theorem orielref02_Start_up (x0 : Int) {Q : Bool → Prop} (h : Tot (fun n _ _ => orielref02_Start_b (lv n) n x0) Q) : Tot (fun n _ _ => (lv n).orielref02_Start x0) Q := Tot.up (fun n => by rw [orielref02_Start_lv]) h
theorem orielref02_Start_ok (n : Nat) : OKo n orielref02_Start_o := fun ih {_ _ _ _ _ _} h => by
  refine rowO_ok (cl := CL n) (ea := orielref02_Start_e) (dr := orielref02_Start_d) (fun _ _ h => orielref02_Start_ae h) (fun _ _ h => orielref02_Start_dr h) (fun a v h => ?_) h
  cases n with
  | zero => cases h
  | succ n =>
    rw [orielref02_Start_lv] at h
    exact bodyK_ok noEq_ok (ih n rfl) rfl (fun _ _ h => orielref02_Start_dr h) h
theorem orielref01_Rune_lv (n : Nat) : (lv (n + 1)).orielref01_Rune = orielref01_Rune_b (lv n) n := by kernel_rfl
theorem orielref01_Rune_up (x0 : ByteArray) (x1 : Int) {Q : (Int × Int × Int) → Prop} (h : Tot (fun n _ _ => orielref01_Rune_b (lv n) n x0 x1) Q) : Tot (fun n _ _ => (lv n).orielref01_Rune x0 x1) Q := Tot.up (fun n => by rw [orielref01_Rune_lv]) h
theorem orielref01_Rune_ok (n : Nat) : OKo n orielref01_Rune_o := fun ih {_ _ _ _ _ _} h => by
  refine rowO_ok (cl := CL n) (ea := orielref01_Rune_e) (dr := orielref01_Rune_d) (fun _ _ h => orielref01_Rune_ae h) (fun _ _ h => orielref01_Rune_dr h) (fun a v h => ?_) h
  cases n with
  | zero => cases h
  | succ n =>
    rw [orielref01_Rune_lv] at h
    exact bodyK_ok noEq_ok (ih n rfl) rfl (fun _ _ h => orielref01_Rune_dr h) h
theorem strat_node_attr_2_lv (n : Nat) : (lv (n + 1)).strat_node_attr_2 = strat_node_attr_2_b (lv n) n := by kernel_rfl
theorem strat_node_attr_2_up (x0_0 x0_1 x0_2 : LL) (x0_3 x0_4 x0_5 : Int) (x0_6 x0_7 : LL) (x0_8 : Int) (x0_9 x0_10 : ByteArray) (x0_11 : LL) (x0_12 : ByteArray) (x0_13 : LL) (x1_0 x1_1 : ByteArray) {Q : (ByteArray × Bool) → Prop} (h : Tot (fun n _ _ => strat_node_attr_2_b (lv n) n x0_0 x0_1 x0_2 x0_3 x0_4 x0_5 x0_6 x0_7 x0_8 x0_9 x0_10 x0_11 x0_12 x0_13 x1_0 x1_1) Q) : Tot (fun n _ _ => (lv n).strat_node_attr_2 x0_0 x0_1 x0_2 x0_3 x0_4 x0_5 x0_6 x0_7 x0_8 x0_9 x0_10 x0_11 x0_12 x0_13 x1_0 x1_1) Q := Tot.up (fun n => by rw [strat_node_attr_2_lv]) h
theorem strat_node_attr_2_ok (n : Nat) : OKo n strat_node_attr_2_o := fun ih {_ _ _ _ _ _} h => by
  refine rowO_ok (cl := CL n) (ea := strat_node_attr_2_e) (dr := strat_node_attr_2_d) (fun _ _ h => strat_node_attr_2_ae h) (fun _ _ h => strat_node_attr_2_dr h) (fun a v h => ?_) h
  cases n with
  | zero => cases h
  | succ n =>
    rw [strat_node_attr_2_lv] at h
    exact bodyK_ok noEq_ok (ih n rfl) rfl (fun _ _ h => strat_node_attr_2_dr h) h
theorem orielref01_Put_lv (n : Nat) : (lv (n + 1)).orielref01_Put = orielref01_Put_b (lv n) n := by kernel_rfl
theorem orielref01_Put_up (x0 : Int) {Q : LL → Prop} (h : Tot (fun n _ _ => orielref01_Put_b (lv n) n x0) Q) : Tot (fun n _ _ => (lv n).orielref01_Put x0) Q := Tot.up (fun n => by rw [orielref01_Put_lv]) h
theorem orielref01_Put_ok (n : Nat) : OKo n orielref01_Put_o := fun ih {_ _ _ _ _ _} h => by
  refine rowO_ok (cl := CL n) (ea := orielref01_Put_e) (dr := orielref01_Put_d) (fun _ _ h => orielref01_Put_ae h) (fun _ _ h => orielref01_Put_dr h) (fun a v h => ?_) h
  cases n with
  | zero => cases h
  | succ n =>
    rw [orielref01_Put_lv] at h
    exact bodyK_ok noEq_ok (ih n rfl) rfl (fun _ _ h => orielref01_Put_dr h) h
theorem orielref01_cut_lv (n : Nat) : (lv (n + 1)).orielref01_cut = orielref01_cut_b (lv n) n := by kernel_rfl
theorem orielref01_cut_up (x0 : ByteArray) (x1 : Int) {Q : Bool → Prop} (h : Tot (fun n _ _ => orielref01_cut_b (lv n) n x0 x1) Q) : Tot (fun n _ _ => (lv n).orielref01_cut x0 x1) Q := Tot.up (fun n => by rw [orielref01_cut_lv]) h
theorem orielref01_cut_ok (n : Nat) : OKo n orielref01_cut_o := fun ih {_ _ _ _ _ _} h => by
  refine rowO_ok (cl := CL n) (ea := orielref01_cut_e) (dr := orielref01_cut_d) (fun _ _ h => orielref01_cut_ae h) (fun _ _ h => orielref01_cut_dr h) (fun a v h => ?_) h
  cases n with
  | zero => cases h
  | succ n =>
    rw [orielref01_cut_lv] at h
    exact bodyK_ok noEq_ok (ih n rfl) rfl (fun _ _ h => orielref01_cut_dr h) h
theorem orielref01_value_lv (n : Nat) : (lv (n + 1)).orielref01_value = orielref01_value_b (lv n) n := by kernel_rfl
theorem orielref01_value_up (x0 : ByteArray) (x1 x2 : Int) {Q : Int → Prop} (h : Tot (fun n _ _ => orielref01_value_b (lv n) n x0 x1 x2) Q) : Tot (fun n _ _ => (lv n).orielref01_value x0 x1 x2) Q := Tot.up (fun n => by rw [orielref01_value_lv]) h
theorem orielref01_value_ok (n : Nat) : OKo n orielref01_value_o := fun ih {_ _ _ _ _ _} h => by
  refine rowO_ok (cl := CL n) (ea := orielref01_value_e) (dr := orielref01_value_d) (fun _ _ h => orielref01_value_ae h) (fun _ _ h => orielref01_value_dr h) (fun a v h => ?_) h
  cases n with
  | zero => cases h
  | succ n =>
    rw [orielref01_value_lv] at h
    exact bodyK_ok noEq_ok (ih n rfl) rfl (fun _ _ h => orielref01_value_dr h) h
theorem orielref09_Few_lv (n : Nat) : (lv (n + 1)).orielref09_Few = orielref09_Few_b (lv n) n := by kernel_rfl
theorem orielref09_Few_up (x0 : LL) {Q : Bool → Prop} (h : Tot (fun n _ _ => orielref09_Few_b (lv n) n x0) Q) : Tot (fun n _ _ => (lv n).orielref09_Few x0) Q := Tot.up (fun n => by rw [orielref09_Few_lv]) h
theorem orielref09_Few_ok (n : Nat) : OKo n orielref09_Few_o := fun ih {_ _ _ _ _ _} h => by
  refine rowO_ok (cl := CL n) (ea := orielref09_Few_e) (dr := orielref09_Few_d) (fun _ _ h => orielref09_Few_ae h) (fun _ _ h => orielref09_Few_dr h) (fun a v h => ?_) h
  cases n with
  | zero => cases h
  | succ n =>
    rw [orielref09_Few_lv] at h
    exact bodyK_ok noEq_ok (ih n rfl) rfl (fun _ _ h => orielref09_Few_dr h) h
theorem orielref02_Char_lv (n : Nat) : (lv (n + 1)).orielref02_Char = orielref02_Char_b (lv n) n := by kernel_rfl
theorem orielref02_Char_up (x0 : Int) {Q : Bool → Prop} (h : Tot (fun n _ _ => orielref02_Char_b (lv n) n x0) Q) : Tot (fun n _ _ => (lv n).orielref02_Char x0) Q := Tot.up (fun n => by rw [orielref02_Char_lv]) h
theorem orielref02_Char_ok (n : Nat) : OKo n orielref02_Char_o := fun ih {_ _ _ _ _ _} h => by
  refine rowO_ok (cl := CL n) (ea := orielref02_Char_e) (dr := orielref02_Char_d) (fun _ _ h => orielref02_Char_ae h) (fun _ _ h => orielref02_Char_dr h) (fun a v h => ?_) h
  cases n with
  | zero => cases h
  | succ n =>
    rw [orielref02_Char_lv] at h
    exact bodyK_ok noEq_ok (ih n rfl) rfl (fun _ _ h => orielref02_Char_dr h) h
theorem orielref02_Part_lv (n : Nat) : (lv (n + 1)).orielref02_Part = orielref02_Part_b (lv n) n := by kernel_rfl
theorem orielref02_Part_up (x0 : Int) {Q : Bool → Prop} (h : Tot (fun n _ _ => orielref02_Part_b (lv n) n x0) Q) : Tot (fun n _ _ => (lv n).orielref02_Part x0) Q := Tot.up (fun n => by rw [orielref02_Part_lv]) h
theorem orielref02_Part_ok (n : Nat) : OKo n orielref02_Part_o := fun ih {_ _ _ _ _ _} h => by
  refine rowO_ok (cl := CL n) (ea := orielref02_Part_e) (dr := orielref02_Part_d) (fun _ _ h => orielref02_Part_ae h) (fun _ _ h => orielref02_Part_dr h) (fun a v h => ?_) h
  cases n with
  | zero => cases h
  | succ n =>
    rw [orielref02_Part_lv] at h
    exact bodyK_ok noEq_ok (ih n rfl) rfl (fun _ _ h => orielref02_Part_dr h) h
theorem orielref01_begins_lv (n : Nat) : (lv (n + 1)).orielref01_begins = orielref01_begins_b (lv n) n := by kernel_rfl
theorem orielref01_begins_up (x0 : ByteArray) (x1 : Int) (x2 : LL) {Q : Bool → Prop} (h : Tot (fun n _ _ => orielref01_begins_b (lv n) n x0 x1 x2) Q) : Tot (fun n _ _ => (lv n).orielref01_begins x0 x1 x2) Q := Tot.up (fun n => by rw [orielref01_begins_lv]) h
theorem orielref01_begins_ok (n : Nat) : OKo n orielref01_begins_o := fun ih {_ _ _ _ _ _} h => by
  refine rowO_ok (cl := CL n) (ea := orielref01_begins_e) (dr := orielref01_begins_d) (fun _ _ h => orielref01_begins_ae h) (fun _ _ h => orielref01_begins_dr h) (fun a v h => ?_) h
  cases n with
  | zero => cases h
  | succ n =>
    rw [orielref01_begins_lv] at h
    exact bodyK_ok noEq_ok (ih n rfl) rfl (fun _ _ h => orielref01_begins_dr h) h
theorem orielref02_Blank_lv (n : Nat) : (lv (n + 1)).orielref02_Blank = orielref02_Blank_b (lv n) n := by kernel_rfl
theorem orielref02_Blank_up (x0 : Int) {Q : Bool → Prop} (h : Tot (fun n _ _ => orielref02_Blank_b (lv n) n x0) Q) : Tot (fun n _ _ => (lv n).orielref02_Blank x0) Q := Tot.up (fun n => by rw [orielref02_Blank_lv]) h
theorem orielref02_Blank_ok (n : Nat) : OKo n orielref02_Blank_o := fun ih {_ _ _ _ _ _} h => by
  refine rowO_ok (cl := CL n) (ea := orielref02_Blank_e) (dr := orielref02_Blank_d) (fun _ _ h => orielref02_Blank_ae h) (fun _ _ h => orielref02_Blank_dr h) (fun a v h => ?_) h
  cases n with
  | zero => cases h
  | succ n =>
    rw [orielref02_Blank_lv] at h
    exact bodyK_ok noEq_ok (ih n rfl) rfl (fun _ _ h => orielref02_Blank_dr h) h
theorem orielref10_Whole_lv (n : Nat) : (lv (n + 1)).orielref10_Whole = orielref10_Whole_b (lv n) n := by kernel_rfl
theorem orielref10_Whole_up (x0 : LL) {Q : Bool → Prop} (h : Tot (fun n _ _ => orielref10_Whole_b (lv n) n x0) Q) : Tot (fun n _ _ => (lv n).orielref10_Whole x0) Q := Tot.up (fun n => by rw [orielref10_Whole_lv]) h
theorem orielref10_Whole_ok (n : Nat) : OKo n orielref10_Whole_o := fun ih {_ _ _ _ _ _} h => by
  refine rowO_ok (cl := CL n) (ea := orielref10_Whole_e) (dr := orielref10_Whole_d) (fun _ _ h => orielref10_Whole_ae h) (fun _ _ h => orielref10_Whole_dr h) (fun a v h => ?_) h
  cases n with
  | zero => cases h
  | succ n =>
    rw [orielref10_Whole_lv] at h
    exact bodyK_ok noEq_ok (ih n rfl) rfl (fun _ _ h => orielref10_Whole_dr h) h
theorem strat_Tests_lv (n : Nat) : (lv (n + 1)).strat_Tests = strat_Tests_b (lv n) n := by kernel_rfl
theorem strat_Tests_ok (n : Nat) : OKo n strat_Tests_o := fun ih {_ _ _ _ _ _} h => by
  refine rowO_ok (cl := CL n) (ea := strat_Tests_e) (dr := strat_Tests_d) (fun _ _ h => strat_Tests_ae h) (fun _ _ h => strat_Tests_dr h) (fun a v h => ?_) h
  cases n with
  | zero => cases h
  | succ n =>
    rw [strat_Tests_lv] at h
    exact bodyK_ok noEq_ok (ih n rfl) rfl (fun _ _ h => strat_Tests_dr h) h
theorem orielref05_Find_lv (n : Nat) : (lv (n + 1)).orielref05_Find = orielref05_Find_b (lv n) n := by kernel_rfl
theorem orielref05_Find_up (x0 : ByteArray) (x1 : Int) (x2 : ByteArray) {Q : Int → Prop} (h : Tot (fun n _ _ => orielref05_Find_b (lv n) n x0 x1 x2) Q) : Tot (fun n _ _ => (lv n).orielref05_Find x0 x1 x2) Q := Tot.up (fun n => by rw [orielref05_Find_lv]) h
theorem orielref05_Find_ok (n : Nat) : OKo n orielref05_Find_o := fun ih {_ _ _ _ _ _} h => by
  refine rowO_ok (cl := CL n) (ea := orielref05_Find_e) (dr := orielref05_Find_d) (fun _ _ h => orielref05_Find_ae h) (fun _ _ h => orielref05_Find_dr h) (fun a v h => ?_) h
  cases n with
  | zero => cases h
  | succ n =>
    rw [orielref05_Find_lv] at h
    exact bodyK_ok noEq_ok (ih n rfl) rfl (fun _ _ h => orielref05_Find_dr h) h
theorem orielref09_Depth_lv (n : Nat) : (lv (n + 1)).orielref09_Depth = orielref09_Depth_b (lv n) n := by kernel_rfl
theorem orielref09_Depth_up (x0 : LL) {Q : Int → Prop} (h : Tot (fun n _ _ => orielref09_Depth_b (lv n) n x0) Q) : Tot (fun n _ _ => (lv n).orielref09_Depth x0) Q := Tot.up (fun n => by rw [orielref09_Depth_lv]) h
theorem orielref09_Depth_ok (n : Nat) : OKo n orielref09_Depth_o := fun ih {_ _ _ _ _ _} h => by
  refine rowO_ok (cl := CL n) (ea := orielref09_Depth_e) (dr := orielref09_Depth_d) (fun _ _ h => orielref09_Depth_ae h) (fun _ _ h => orielref09_Depth_dr h) (fun a v h => ?_) h
  cases n with
  | zero => cases h
  | succ n =>
    rw [orielref09_Depth_lv] at h
    exact bodyK_ok noEq_ok (ih n rfl) rfl (fun _ _ h => orielref09_Depth_dr h) h
theorem orielref09_Right_lv (n : Nat) : (lv (n + 1)).orielref09_Right = orielref09_Right_b (lv n) n := by kernel_rfl
theorem orielref09_Right_up (x0_0 : Int) (x0_1 x0_2 : ByteArray) (x0_3 : LL) (x0_4 : ByteArray) {Q : Bool → Prop} (h : Tot (fun n _ _ => orielref09_Right_b (lv n) n x0_0 x0_1 x0_2 x0_3 x0_4) Q) : Tot (fun n _ _ => (lv n).orielref09_Right x0_0 x0_1 x0_2 x0_3 x0_4) Q := Tot.up (fun n => by rw [orielref09_Right_lv]) h
theorem orielref09_Right_ok (n : Nat) : OKo n orielref09_Right_o := fun ih {_ _ _ _ _ _} h => by
  refine rowO_ok (cl := CL n) (ea := orielref09_Right_e) (dr := orielref09_Right_d) (fun _ _ h => orielref09_Right_ae h) (fun _ _ h => orielref09_Right_dr h) (fun a v h => ?_) h
  cases n with
  | zero => cases h
  | succ n =>
    rw [orielref09_Right_lv] at h
    exact bodyK_ok noEq_ok (ih n rfl) rfl (fun _ _ h => orielref09_Right_dr h) h
theorem orielref09_named_lv (n : Nat) : (lv (n + 1)).orielref09_named = orielref09_named_b (lv n) n := by kernel_rfl
theorem orielref09_named_up (x0_0 x0_1 : ByteArray) {Q : Bool → Prop} (h : Tot (fun n _ _ => orielref09_named_b (lv n) n x0_0 x0_1) Q) : Tot (fun n _ _ => (lv n).orielref09_named x0_0 x0_1) Q := Tot.up (fun n => by rw [orielref09_named_lv]) h
theorem orielref09_named_ok (n : Nat) : OKo n orielref09_named_o := fun ih {_ _ _ _ _ _} h => by
  refine rowO_ok (cl := CL n) (ea := orielref09_named_e) (dr := orielref09_named_d) (fun _ _ h => orielref09_named_ae h) (fun _ _ h => orielref09_named_dr h) (fun a v h => ?_) h
  cases n with
  | zero => cases h
  | succ n =>
    rw [orielref09_named_lv] at h
    exact bodyK_ok noEq_ok (ih n rfl) rfl (fun _ _ h => orielref09_named_dr h) h
theorem orielref16_Make_lv (n : Nat) : (lv (n + 1)).orielref16_Make = orielref16_Make_b (lv n) n := by kernel_rfl
theorem orielref16_Make_up (x0 : LL) {Q : (LL × LL) → Prop} (h : Tot (fun n _ _ => orielref16_Make_b (lv n) n x0) Q) : Tot (fun n _ _ => (lv n).orielref16_Make x0) Q := Tot.up (fun n => by rw [orielref16_Make_lv]) h
theorem orielref16_Make_ok (n : Nat) : OKo n orielref16_Make_o := fun ih {_ _ _ _ _ _} h => by
  refine rowO_ok (cl := CL n) (ea := orielref16_Make_e) (dr := orielref16_Make_d) (fun _ _ h => orielref16_Make_ae h) (fun _ _ h => orielref16_Make_dr h) (fun a v h => ?_) h
  cases n with
  | zero => cases h
  | succ n =>
    rw [orielref16_Make_lv] at h
    exact bodyK_ok noEq_ok (ih n rfl) rfl (fun _ _ h => orielref16_Make_dr h) h
theorem orielref16_From_lv (n : Nat) : (lv (n + 1)).orielref16_From = orielref16_From_b (lv n) n := by kernel_rfl
theorem orielref16_From_up (x0_0 x0_1 : LL) (x1_0 : Int) (x1_1 x1_2 : LL) (x2 : Int) {Q : LL → Prop} (h : Tot (fun n _ _ => orielref16_From_b (lv n) n x0_0 x0_1 x1_0 x1_1 x1_2 x2) Q) : Tot (fun n _ _ => (lv n).orielref16_From x0_0 x0_1 x1_0 x1_1 x1_2 x2) Q := Tot.up (fun n => by rw [orielref16_From_lv]) h
theorem orielref16_From_ok (n : Nat) : OKo n orielref16_From_o := fun ih {_ _ _ _ _ _} h => by
  refine rowO_ok (cl := CL n) (ea := orielref16_From_e) (dr := orielref16_From_d) (fun _ _ h => orielref16_From_ae h) (fun _ _ h => orielref16_From_dr h) (fun a v h => ?_) h
  cases n with
  | zero => cases h
  | succ n =>
    rw [orielref16_From_lv] at h
    exact bodyK_ok noEq_ok (ih n rfl) rfl (fun _ _ h => orielref16_From_dr h) h
theorem orielref12_Filters_lv (n : Nat) : (lv (n + 1)).orielref12_Filters = orielref12_Filters_b (lv n) n := by kernel_rfl
theorem orielref12_Filters_up (x0_0 : Int) (x0_1 x0_2 : LL) {Q : LL → Prop} (h : Tot (fun n _ _ => orielref12_Filters_b (lv n) n x0_0 x0_1 x0_2) Q) : Tot (fun n _ _ => (lv n).orielref12_Filters x0_0 x0_1 x0_2) Q := Tot.up (fun n => by rw [orielref12_Filters_lv]) h
theorem orielref12_Filters_ok (n : Nat) : OKo n orielref12_Filters_o := fun ih {_ _ _ _ _ _} h => by
  refine rowO_ok (cl := CL n) (ea := orielref12_Filters_e) (dr := orielref12_Filters_d) (fun _ _ h => orielref12_Filters_ae h) (fun _ _ h => orielref12_Filters_dr h) (fun a v h => ?_) h
  cases n with
  | zero => cases h
  | succ n =>
    rw [orielref12_Filters_lv] at h
    exact bodyK_ok noEq_ok (ih n rfl) rfl (fun _ _ h => orielref12_Filters_dr h) h
theorem orielref16_leads_lv (n : Nat) : (lv (n + 1)).orielref16_leads = orielref16_leads_b (lv n) n := by kernel_rfl
theorem orielref16_leads_up (x0_0 x0_1 : LL) (x1_0 : Int) (x1_1 x1_2 x2 : LL) {Q : LL → Prop} (h : Tot (fun n _ _ => orielref16_leads_b (lv n) n x0_0 x0_1 x1_0 x1_1 x1_2 x2) Q) : Tot (fun n _ _ => (lv n).orielref16_leads x0_0 x0_1 x1_0 x1_1 x1_2 x2) Q := Tot.up (fun n => by rw [orielref16_leads_lv]) h
theorem orielref16_leads_ok (n : Nat) : OKo n orielref16_leads_o := fun ih {_ _ _ _ _ _} h => by
  refine rowO_ok (cl := CL n) (ea := orielref16_leads_e) (dr := orielref16_leads_d) (fun _ _ h => orielref16_leads_ae h) (fun _ _ h => orielref16_leads_dr h) (fun a v h => ?_) h
  cases n with
  | zero => cases h
  | succ n =>
    rw [orielref16_leads_lv] at h
    exact bodyK_ok noEq_ok (ih n rfl) rfl (fun _ _ h => orielref16_leads_dr h) h
theorem orielref12_within_lv (n : Nat) : (lv (n + 1)).orielref12_within = orielref12_within_b (lv n) n := by kernel_rfl
theorem orielref12_within_up (x0_0 : Int) (x0_1 x0_2 x0_3 : ByteArray) (x0_4 x0_5 : LL) {Q : LL → Prop} (h : Tot (fun n _ _ => orielref12_within_b (lv n) n x0_0 x0_1 x0_2 x0_3 x0_4 x0_5) Q) : Tot (fun n _ _ => (lv n).orielref12_within x0_0 x0_1 x0_2 x0_3 x0_4 x0_5) Q := Tot.up (fun n => by rw [orielref12_within_lv]) h
theorem orielref12_within_ok (n : Nat) : OKo n orielref12_within_o := fun ih {_ _ _ _ _ _} h => by
  refine rowO_ok (cl := CL n) (ea := orielref12_within_e) (dr := orielref12_within_d) (fun _ _ h => orielref12_within_ae h) (fun _ _ h => orielref12_within_dr h) (fun a v h => ?_) h
  cases n with
  | zero => cases h
  | succ n =>
    rw [orielref12_within_lv] at h
    exact bodyK_ok noEq_ok (ih n rfl) rfl (fun _ _ h => orielref12_within_dr h) h
theorem orielref16_first_lv (n : Nat) : (lv (n + 1)).orielref16_first = orielref16_first_b (lv n) n := by kernel_rfl
theorem orielref16_first_up (x0_0 x0_1 : LL) (x1 : Int) {Q : Int → Prop} (h : Tot (fun n _ _ => orielref16_first_b (lv n) n x0_0 x0_1 x1) Q) : Tot (fun n _ _ => (lv n).orielref16_first x0_0 x0_1 x1) Q := Tot.up (fun n => by rw [orielref16_first_lv]) h
theorem orielref16_first_ok (n : Nat) : OKo n orielref16_first_o := fun ih {_ _ _ _ _ _} h => by
  refine rowO_ok (cl := CL n) (ea := orielref16_first_e) (dr := orielref16_first_d) (fun _ _ h => orielref16_first_ae h) (fun _ _ h => orielref16_first_dr h) (fun a v h => ?_) h
  cases n with
  | zero => cases h
  | succ n =>
    rw [orielref16_first_lv] at h
    exact bodyK_ok noEq_ok (ih n rfl) rfl (fun _ _ h => orielref16_first_dr h) h
theorem orielref16_has_lv (n : Nat) : (lv (n + 1)).orielref16_has = orielref16_has_b (lv n) n := by kernel_rfl
theorem orielref16_has_up (x0 : LL) (x1 : Int) {Q : Bool → Prop} (h : Tot (fun n _ _ => orielref16_has_b (lv n) n x0 x1) Q) : Tot (fun n _ _ => (lv n).orielref16_has x0 x1) Q := Tot.up (fun n => by rw [orielref16_has_lv]) h
theorem orielref16_has_ok (n : Nat) : OKo n orielref16_has_o := fun ih {_ _ _ _ _ _} h => by
  refine rowO_ok (cl := CL n) (ea := orielref16_has_e) (dr := orielref16_has_d) (fun _ _ h => orielref16_has_ae h) (fun _ _ h => orielref16_has_dr h) (fun a v h => ?_) h
  cases n with
  | zero => cases h
  | succ n =>
    rw [orielref16_has_lv] at h
    exact bodyK_ok noEq_ok (ih n rfl) rfl (fun _ _ h => orielref16_has_dr h) h
theorem orielref16_next_lv (n : Nat) : (lv (n + 1)).orielref16_next = orielref16_next_b (lv n) n := by kernel_rfl
theorem orielref16_next_up (x0_0 x0_1 : LL) (x1 : Int) {Q : Int → Prop} (h : Tot (fun n _ _ => orielref16_next_b (lv n) n x0_0 x0_1 x1) Q) : Tot (fun n _ _ => (lv n).orielref16_next x0_0 x0_1 x1) Q := Tot.up (fun n => by rw [orielref16_next_lv]) h
theorem orielref16_next_ok (n : Nat) : OKo n orielref16_next_o := fun ih {_ _ _ _ _ _} h => by
  refine rowO_ok (cl := CL n) (ea := orielref16_next_e) (dr := orielref16_next_d) (fun _ _ h => orielref16_next_ae h) (fun _ _ h => orielref16_next_dr h) (fun a v h => ?_) h
  cases n with
  | zero => cases h
  | succ n =>
    rw [orielref16_next_lv] at h
    exact bodyK_ok noEq_ok (ih n rfl) rfl (fun _ _ h => orielref16_next_dr h) h
theorem orielref16_Holds_lv (n : Nat) : (lv (n + 1)).orielref16_Holds = orielref16_Holds_b (lv n) n := by kernel_rfl
theorem orielref16_Holds_up (x0_0 x0_1 : LL) (x1_0 : Int) (x1_1 x1_2 x1_3 : ByteArray) (x1_4 x1_5 : LL) (x2 : Int) {Q : Bool → Prop} (h : Tot (fun n _ _ => orielref16_Holds_b (lv n) n x0_0 x0_1 x1_0 x1_1 x1_2 x1_3 x1_4 x1_5 x2) Q) : Tot (fun n _ _ => (lv n).orielref16_Holds x0_0 x0_1 x1_0 x1_1 x1_2 x1_3 x1_4 x1_5 x2) Q := Tot.up (fun n => by rw [orielref16_Holds_lv]) h
theorem orielref16_Holds_ok (n : Nat) : OKo n orielref16_Holds_o := fun ih {_ _ _ _ _ _} h => by
  refine rowO_ok (cl := CL n) (ea := orielref16_Holds_e) (dr := orielref16_Holds_d) (fun _ _ h => orielref16_Holds_ae h) (fun _ _ h => orielref16_Holds_dr h) (fun a v h => ?_) h
  cases n with
  | zero => cases h
  | succ n =>
    rw [orielref16_Holds_lv] at h
    exact bodyK_ok noEq_ok (ih n rfl) rfl (fun _ _ h => orielref16_Holds_dr h) h
theorem orielref16_number_lv (n : Nat) : (lv (n + 1)).orielref16_number = orielref16_number_b (lv n) n := by kernel_rfl
theorem orielref16_number_up (x0_0 x0_1 : LL) (x1 : Int) {Q : Int → Prop} (h : Tot (fun n _ _ => orielref16_number_b (lv n) n x0_0 x0_1 x1) Q) : Tot (fun n _ _ => (lv n).orielref16_number x0_0 x0_1 x1) Q := Tot.up (fun n => by rw [orielref16_number_lv]) h
theorem orielref16_number_ok (n : Nat) : OKo n orielref16_number_o := fun ih {_ _ _ _ _ _} h => by
  refine rowO_ok (cl := CL n) (ea := orielref16_number_e) (dr := orielref16_number_d) (fun _ _ h => orielref16_number_ae h) (fun _ _ h => orielref16_number_dr h) (fun a v h => ?_) h
  cases n with
  | zero => cases h
  | succ n =>
    rw [orielref16_number_lv] at h
    exact bodyK_ok noEq_ok (ih n rfl) rfl (fun _ _ h => orielref16_number_dr h) h
theorem orielref10_End_lv (n : Nat) : (lv (n + 1)).orielref10_End = orielref10_End_b (lv n) n := by kernel_rfl
theorem orielref10_End_up (x0 : LL) (x1 : Int) {Q : Int → Prop} (h : Tot (fun n _ _ => orielref10_End_b (lv n) n x0 x1) Q) : Tot (fun n _ _ => (lv n).orielref10_End x0 x1) Q := Tot.up (fun n => by rw [orielref10_End_lv]) h
theorem orielref10_End_ok (n : Nat) : OKo n orielref10_End_o := fun ih {_ _ _ _ _ _} h => by
  refine rowO_ok (cl := CL n) (ea := orielref10_End_e) (dr := orielref10_End_d) (fun _ _ h => orielref10_End_ae h) (fun _ _ h => orielref10_End_dr h) (fun a v h => ?_) h
  cases n with
  | zero => cases h
  | succ n =>
    rw [orielref10_End_lv] at h
    exact bodyK_ok noEq_ok (ih n rfl) rfl (fun _ _ h => orielref10_End_dr h) h
theorem lv_ok : ∀ n, ∀ {Ω : Type}, TabOK (Ω := Ω) (call Try.prog noExt kp n) (orK (lv n)) := by
  intro n
  induction n with
  | zero =>
    intro Ω f l K r h
    have ih : ∀ m, 0 = m + 1 → ∀ {Ω : Type}, TabOK (Ω := Ω) (call Try.prog noExt kp m) (orK (lv m)) := fun m e => by cases e
    rcases oriellaw18_StratJudges_ok _ ih h with h | h
    · exact h
    rcases orielref18_Holds_ok _ ih h with h | h
    · exact h
    rcases oriellaw18_awake_ok _ ih h with h | h
    · exact h
    rcases orielref18_Find_ok _ ih h with h | h
    · exact h
    rcases strat_Make_ok _ ih h with h | h
    · exact h
    rcases orielref12_Same_ok _ ih h with h | h
    · exact h
    rcases strat_maker_path_ok _ ih h with h | h
    · exact h
    rcases orielref12_SameFilter_ok _ ih h with h | h
    · exact h
    rcases strat_maker_filter_ok _ ih h with h | h
    · exact h
    rcases api_Path_ok _ ih h with h | h
    · exact h
    rcases api_Path_2_ok _ ih h with h | h
    · exact h
    rcases strat_maker_filter_1_ok _ ih h with h | h
    · exact h
    rcases path_Same_ok _ ih h with h | h
    · exact h
    rcases api_Path_3_ok _ ih h with h | h
    · exact h
    rcases prog_Compile_ok _ ih h with h | h
    · exact h
    rcases api_Filter_ok _ ih h with h | h
    · exact h
    rcases prog_maker_path_ok _ ih h with h | h
    · exact h
    rcases path_sameFilter_ok _ ih h with h | h
    · exact h
    rcases prog_maker_step_ok _ ih h with h | h
    · exact h
    rcases prog_maker_seq_ok _ ih h with h | h
    · exact h
    rcases prog_maker_alt_ok _ ih h with h | h
    · exact h
    rcases prog_maker_state_ok _ ih h with h | h
    · exact h
    rcases prog_maker_lay_ok _ ih h with h | h
    · exact h
    rcases prog_maker_free_ok _ ih h with h | h
    · exact h
    rcases strat_Items_ok _ ih h with h | h
    · exact h
    rcases orielref12_Right_ok _ ih h with h | h
    · exact h
    rcases strat_Find_ok _ ih h with h | h
    · exact h
    rcases orielref12_Size_ok _ ih h with h | h
    · exact h
    rcases api_Path_4_ok _ ih h with h | h
    · exact h
    rcases orielref12_size_ok _ ih h with h | h
    · exact h
    rcases strat_Find_1_ok _ ih h with h | h
    · exact h
    rcases orielref12_sizeFilter_ok _ ih h with h | h
    · exact h
    rcases strat_Holds_ok _ ih h with h | h
    · exact h
    rcases orielref12_path_ok _ ih h with h | h
    · exact h
    rcases strat_node_holds_ok _ ih h with h | h
    · exact h
    rcases orielref12_filter_ok _ ih h with h | h
    · exact h
    rcases strat_node_attr_ok _ ih h with h | h
    · exact h
    rcases api_Filter_2_ok _ ih h with h | h
    · exact h
    rcases api_Filter_3_ok _ ih h with h | h
    · exact h
    rcases api_Path_5_ok _ ih h with h | h
    · exact h
    rcases orielref12_named_ok _ ih h with h | h
    · exact h
    rcases orielref04_Right_ok _ ih h with h | h
    · exact h
    rcases api_Filter_4_ok _ ih h with h | h
    · exact h
    rcases api_Filter_5_ok _ ih h with h | h
    · exact h
    rcases api_Path_6_ok _ ih h with h | h
    · exact h
    rcases orielref03_Plain_ok _ ih h with h | h
    · exact h
    rcases orielref01_All_ok _ ih h with h | h
    · exact h
    rcases strat_node_fails_ok _ ih h with h | h
    · exact h
    rcases strat_node_holds_2_ok _ ih h with h | h
    · exact h
    rcases strat_node_leads_ok _ ih h with h | h
    · exact h
    rcases orielref02_Start_ok _ ih h with h | h
    · exact h
    rcases orielref01_Rune_ok _ ih h with h | h
    · exact h
    rcases strat_node_attr_2_ok _ ih h with h | h
    · exact h
    rcases orielref01_Put_ok _ ih h with h | h
    · exact h
    rcases orielref01_cut_ok _ ih h with h | h
    · exact h
    rcases orielref01_value_ok _ ih h with h | h
    · exact h
    rcases orielref09_Few_ok _ ih h with h | h
    · exact h
    rcases orielref02_Char_ok _ ih h with h | h
    · exact h
    rcases orielref02_Part_ok _ ih h with h | h
    · exact h
    rcases orielref01_begins_ok _ ih h with h | h
    · exact h
    rcases orielref02_Blank_ok _ ih h with h | h
    · exact h
    rcases orielref10_Whole_ok _ ih h with h | h
    · exact h
    rcases strat_Tests_ok _ ih h with h | h
    · exact h
    rcases orielref05_Find_ok _ ih h with h | h
    · exact h
    rcases orielref09_Depth_ok _ ih h with h | h
    · exact h
    rcases orielref09_Right_ok _ ih h with h | h
    · exact h
    rcases orielref09_named_ok _ ih h with h | h
    · exact h
    rcases orielref16_Make_ok _ ih h with h | h
    · exact h
    rcases orielref16_From_ok _ ih h with h | h
    · exact h
    rcases orielref12_Filters_ok _ ih h with h | h
    · exact h
    rcases orielref16_leads_ok _ ih h with h | h
    · exact h
    rcases orielref12_within_ok _ ih h with h | h
    · exact h
    rcases orielref16_first_ok _ ih h with h | h
    · exact h
    rcases orielref16_has_ok _ ih h with h | h
    · exact h
    rcases orielref16_next_ok _ ih h with h | h
    · exact h
    rcases orielref16_Holds_ok _ ih h with h | h
    · exact h
    rcases orielref16_number_ok _ ih h with h | h
    · exact h
    rcases orielref10_End_ok _ ih h with h | h
    · exact h
    cases h
  | succ n ih0 =>
    intro Ω f l K r h
    have ih : ∀ m, n + 1 = m + 1 → ∀ {Ω : Type}, TabOK (Ω := Ω) (call Try.prog noExt kp m) (orK (lv m)) := fun m e => by cases e; exact ih0
    rcases oriellaw18_StratJudges_ok _ ih h with h | h
    · exact h
    rcases orielref18_Holds_ok _ ih h with h | h
    · exact h
    rcases oriellaw18_awake_ok _ ih h with h | h
    · exact h
    rcases orielref18_Find_ok _ ih h with h | h
    · exact h
    rcases strat_Make_ok _ ih h with h | h
    · exact h
    rcases orielref12_Same_ok _ ih h with h | h
    · exact h
    rcases strat_maker_path_ok _ ih h with h | h
    · exact h
    rcases orielref12_SameFilter_ok _ ih h with h | h
    · exact h
    rcases strat_maker_filter_ok _ ih h with h | h
    · exact h
    rcases api_Path_ok _ ih h with h | h
    · exact h
    rcases api_Path_2_ok _ ih h with h | h
    · exact h
    rcases strat_maker_filter_1_ok _ ih h with h | h
    · exact h
    rcases path_Same_ok _ ih h with h | h
    · exact h
    rcases api_Path_3_ok _ ih h with h | h
    · exact h
    rcases prog_Compile_ok _ ih h with h | h
    · exact h
    rcases api_Filter_ok _ ih h with h | h
    · exact h
    rcases prog_maker_path_ok _ ih h with h | h
    · exact h
    rcases path_sameFilter_ok _ ih h with h | h
    · exact h
    rcases prog_maker_step_ok _ ih h with h | h
    · exact h
    rcases prog_maker_seq_ok _ ih h with h | h
    · exact h
    rcases prog_maker_alt_ok _ ih h with h | h
    · exact h
    rcases prog_maker_state_ok _ ih h with h | h
    · exact h
    rcases prog_maker_lay_ok _ ih h with h | h
    · exact h
    rcases prog_maker_free_ok _ ih h with h | h
    · exact h
    rcases strat_Items_ok _ ih h with h | h
    · exact h
    rcases orielref12_Right_ok _ ih h with h | h
    · exact h
    rcases strat_Find_ok _ ih h with h | h
    · exact h
    rcases orielref12_Size_ok _ ih h with h | h
    · exact h
    rcases api_Path_4_ok _ ih h with h | h
    · exact h
    rcases orielref12_size_ok _ ih h with h | h
    · exact h
    rcases strat_Find_1_ok _ ih h with h | h
    · exact h
    rcases orielref12_sizeFilter_ok _ ih h with h | h
    · exact h
    rcases strat_Holds_ok _ ih h with h | h
    · exact h
    rcases orielref12_path_ok _ ih h with h | h
    · exact h
    rcases strat_node_holds_ok _ ih h with h | h
    · exact h
    rcases orielref12_filter_ok _ ih h with h | h
    · exact h
    rcases strat_node_attr_ok _ ih h with h | h
    · exact h
    rcases api_Filter_2_ok _ ih h with h | h
    · exact h
    rcases api_Filter_3_ok _ ih h with h | h
    · exact h
    rcases api_Path_5_ok _ ih h with h | h
    · exact h
    rcases orielref12_named_ok _ ih h with h | h
    · exact h
    rcases orielref04_Right_ok _ ih h with h | h
    · exact h
    rcases api_Filter_4_ok _ ih h with h | h
    · exact h
    rcases api_Filter_5_ok _ ih h with h | h
    · exact h
    rcases api_Path_6_ok _ ih h with h | h
    · exact h
    rcases orielref03_Plain_ok _ ih h with h | h
    · exact h
    rcases orielref01_All_ok _ ih h with h | h
    · exact h
    rcases strat_node_fails_ok _ ih h with h | h
    · exact h
    rcases strat_node_holds_2_ok _ ih h with h | h
    · exact h
    rcases strat_node_leads_ok _ ih h with h | h
    · exact h
    rcases orielref02_Start_ok _ ih h with h | h
    · exact h
    rcases orielref01_Rune_ok _ ih h with h | h
    · exact h
    rcases strat_node_attr_2_ok _ ih h with h | h
    · exact h
    rcases orielref01_Put_ok _ ih h with h | h
    · exact h
    rcases orielref01_cut_ok _ ih h with h | h
    · exact h
    rcases orielref01_value_ok _ ih h with h | h
    · exact h
    rcases orielref09_Few_ok _ ih h with h | h
    · exact h
    rcases orielref02_Char_ok _ ih h with h | h
    · exact h
    rcases orielref02_Part_ok _ ih h with h | h
    · exact h
    rcases orielref01_begins_ok _ ih h with h | h
    · exact h
    rcases orielref02_Blank_ok _ ih h with h | h
    · exact h
    rcases orielref10_Whole_ok _ ih h with h | h
    · exact h
    rcases strat_Tests_ok _ ih h with h | h
    · exact h
    rcases orielref05_Find_ok _ ih h with h | h
    · exact h
    rcases orielref09_Depth_ok _ ih h with h | h
    · exact h
    rcases orielref09_Right_ok _ ih h with h | h
    · exact h
    rcases orielref09_named_ok _ ih h with h | h
    · exact h
    rcases orielref16_Make_ok _ ih h with h | h
    · exact h
    rcases orielref16_From_ok _ ih h with h | h
    · exact h
    rcases orielref12_Filters_ok _ ih h with h | h
    · exact h
    rcases orielref16_leads_ok _ ih h with h | h
    · exact h
    rcases orielref12_within_ok _ ih h with h | h
    · exact h
    rcases orielref16_first_ok _ ih h with h | h
    · exact h
    rcases orielref16_has_ok _ ih h with h | h
    · exact h
    rcases orielref16_next_ok _ ih h with h | h
    · exact h
    rcases orielref16_Holds_ok _ ih h with h | h
    · exact h
    rcases orielref16_number_ok _ ih h with h | h
    · exact h
    rcases orielref10_End_ok _ ih h with h | h
    · exact h
    cases h
end Go.Vm.T
