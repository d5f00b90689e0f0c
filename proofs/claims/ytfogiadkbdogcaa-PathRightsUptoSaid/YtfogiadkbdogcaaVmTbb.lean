/- The functions, as the machine tells them: levels. -/
import Derived.Test.YtfogiadkbdogcaaVmTab
set_option linter.unusedVariables false
set_option maxHeartbeats 4000000
set_option maxRecDepth 100000
namespace Go.Vm.T
open Go Go.Vm Go.Proofs
noncomputable def lv : Nat → Lv
  | 0 => { oriellaw12_PathRights := fun _ _ _ _ _ _ => none, oriellaw12_awake := none, oriellaw12_named := fun _ => none, path_Speaks := fun _ => none, path_gather_path := fun _ _ _ _ _ _ _ => none, path_gather_filter := fun _ _ _ _ _ _ _ _ _ _ => none, api_Name := fun _ _ _ => none, path_gather_attr := fun _ _ _ _ _ _ => none, path_add_string := fun _ _ => none, api_Name_2 := fun _ _ _ => none, api_Name_3 := fun _ _ _ => none, slices_Contains_string_string := fun _ _ => none, slices_Index_string_string := fun _ _ => none, path_Right := fun _ _ _ => none, path_measured := fun _ _ _ => none, path_measure_path := fun _ _ _ _ _ _ => none, path_measure_part := fun _ _ _ => none, path_add_string_2 := fun _ _ => none, path_measure_filter := fun _ _ _ _ _ _ _ _ _ => none, path_shape := fun _ _ _ _ _ _ => none, path_named := fun _ _ => none, path_value := fun _ => none, name_Plain := fun _ => none, utf_All := fun _ => none, char_Start := fun _ => none, utf_Rune := fun _ _ => none, char_in := fun _ _ => none, utf_forms := none, char_All := fun _ => none, utf_span := fun _ _ => none, char_Char := fun _ => none, char_Blank := fun _ => none, char_Part := fun _ => none, path_Size := fun _ _ _ => none, orielref12_Size := fun _ _ _ => none, path_Same := fun _ _ _ _ _ _ => none, orielref12_size := fun _ _ _ _ => none, api_Path := fun _ _ => none, orielref12_sizeFilter := fun _ _ _ _ _ _ _ => none, api_Filter := fun _ _ => none, path_sameFilter := fun _ _ _ _ _ _ _ _ _ _ _ _ => none, orielref12_Right := fun _ _ _ => none, orielref12_path := fun _ _ _ _ => none, orielref12_filter := fun _ _ _ _ _ _ _ => none, orielref12_named := fun _ _ => none, orielref04_Right := fun _ => none, orielref03_Plain := fun _ => none, orielref01_All := fun _ => none, orielref02_Start := fun _ => none, orielref01_Rune := fun _ _ => none, orielref01_Put := fun _ => none, orielref01_cut := fun _ _ => none, orielref01_value := fun _ _ _ => none, orielref12_Same := fun _ _ _ _ _ _ => none, orielref02_Char := fun _ => none, orielref02_Part := fun _ => none, orielref01_begins := fun _ _ _ => none, orielref12_SameFilter := fun _ _ _ _ _ _ _ _ _ _ _ _ => none, orielref02_Blank := fun _ => none, orielref05_Find := fun _ _ _ => none }
  | n + 1 => { oriellaw12_PathRights := oriellaw12_PathRights_b (lv n) n, oriellaw12_awake := oriellaw12_awake_b (lv n) n, oriellaw12_named := oriellaw12_named_b (lv n) n, path_Speaks := path_Speaks_b (lv n) n, path_gather_path := path_gather_path_b (lv n) n, path_gather_filter := path_gather_filter_b (lv n) n, api_Name := api_Name_b (lv n) n, path_gather_attr := path_gather_attr_b (lv n) n, path_add_string := path_add_string_b (lv n) n, api_Name_2 := api_Name_2_b (lv n) n, api_Name_3 := api_Name_3_b (lv n) n, slices_Contains_string_string := slices_Contains_string_string_b (lv n) n, slices_Index_string_string := slices_Index_string_string_b (lv n) n, path_Right := path_Right_b (lv n) n, path_measured := path_measured_b (lv n) n, path_measure_path := path_measure_path_b (lv n) n, path_measure_part := path_measure_part_b (lv n) n, path_add_string_2 := path_add_string_2_b (lv n) n, path_measure_filter := path_measure_filter_b (lv n) n, path_shape := path_shape_b (lv n) n, path_named := path_named_b (lv n) n, path_value := path_value_b (lv n) n, name_Plain := name_Plain_b (lv n) n, utf_All := utf_All_b (lv n) n, char_Start := char_Start_b (lv n) n, utf_Rune := utf_Rune_b (lv n) n, char_in := char_in_b (lv n) n, utf_forms := utf_forms_b (lv n) n, char_All := char_All_b (lv n) n, utf_span := utf_span_b (lv n) n, char_Char := char_Char_b (lv n) n, char_Blank := char_Blank_b (lv n) n, char_Part := char_Part_b (lv n) n, path_Size := path_Size_b (lv n) n, orielref12_Size := orielref12_Size_b (lv n) n, path_Same := path_Same_b (lv n) n, orielref12_size := orielref12_size_b (lv n) n, api_Path := api_Path_b (lv n) n, orielref12_sizeFilter := orielref12_sizeFilter_b (lv n) n, api_Filter := api_Filter_b (lv n) n, path_sameFilter := path_sameFilter_b (lv n) n, orielref12_Right := orielref12_Right_b (lv n) n, orielref12_path := orielref12_path_b (lv n) n, orielref12_filter := orielref12_filter_b (lv n) n, orielref12_named := orielref12_named_b (lv n) n, orielref04_Right := orielref04_Right_b (lv n) n, orielref03_Plain := orielref03_Plain_b (lv n) n, orielref01_All := orielref01_All_b (lv n) n, orielref02_Start := orielref02_Start_b (lv n) n, orielref01_Rune := orielref01_Rune_b (lv n) n, orielref01_Put := orielref01_Put_b (lv n) n, orielref01_cut := orielref01_cut_b (lv n) n, orielref01_value := orielref01_value_b (lv n) n, orielref12_Same := orielref12_Same_b (lv n) n, orielref02_Char := orielref02_Char_b (lv n) n, orielref02_Part := orielref02_Part_b (lv n) n, orielref01_begins := orielref01_begins_b (lv n) n, orielref12_SameFilter := orielref12_SameFilter_b (lv n) n, orielref02_Blank := orielref02_Blank_b (lv n) n, orielref05_Find := orielref05_Find_b (lv n) n }
noncomputable abbrev CL (n : Nat) : FuncId → List Arg → Option Res := call Try.prog extG kp n
def OKo (n : Nat) (o : Lv → {Ω : Type} → FuncId → List Arg → (Res → Option Ω) → Option Ω → Option Ω) : Prop := (∀ m, n = m + 1 → ∀ {Ω : Type}, TabOK (Ω := Ω) (CL m) (orK (lv m))) → ∀ {Ω : Type} {f : FuncId} {l : List Arg} {K : Res → Option Ω} {next : Option Ω} {r : Ω}, o (lv n) f l K next = some r → (∃ R, CL n f l = some R ∧ K R = some r) ∨ next = some r
theorem strings_ContainsAny_ok (n : Nat) : OKo n strings_ContainsAny_o := fun ih {_ _ _ _ _ _} h => by
  refine rowO_ok (cl := CL n) (ea := strings_ContainsAny_e) (dr := strings_ContainsAny_d) (fun _ _ h => strings_ContainsAny_ae h) (fun _ _ h => strings_ContainsAny_dr h) (fun a v h => ⟨strings_ContainsAny_r v, ext_call (by
    have h : anyV a.1 a.2 = some v := h
    unfold extG
    simp only [rowO, strings_ContainsAny_e, strings_ContainsAny_a, h, Option.bind_some]
    rfl), rfl⟩) h
theorem oriellaw12_PathRights_lv (n : Nat) : (lv (n + 1)).oriellaw12_PathRights = oriellaw12_PathRights_b (lv n) n := by kernel_rfl
theorem oriellaw12_PathRights_up (x0_0 : Int) (x0_1 x0_2 : LL) (x1_0 : Int) (x1_1 x1_2 : LL) {Q : Bool → Prop} (h : Tot (fun n _ _ => oriellaw12_PathRights_b (lv n) n x0_0 x0_1 x0_2 x1_0 x1_1 x1_2) Q) : Tot (fun n _ _ => (lv n).oriellaw12_PathRights x0_0 x0_1 x0_2 x1_0 x1_1 x1_2) Q := Tot.up (fun n => by rw [oriellaw12_PathRights_lv]) h
theorem oriellaw12_PathRights_ok (n : Nat) : OKo n oriellaw12_PathRights_o := fun ih {_ _ _ _ _ _} h => by
  refine rowO_ok (cl := CL n) (ea := oriellaw12_PathRights_e) (dr := oriellaw12_PathRights_d) (fun _ _ h => oriellaw12_PathRights_ae h) (fun _ _ h => oriellaw12_PathRights_dr h) (fun a v h => ?_) h
  cases n with
  | zero => cases h
  | succ n =>
    rw [oriellaw12_PathRights_lv] at h
    exact bodyK_ok noEq_ok (ih n rfl) (by kernel_rfl) (fun _ _ h => oriellaw12_PathRights_dr h) h
theorem oriellaw12_awake_lv (n : Nat) : (lv (n + 1)).oriellaw12_awake = oriellaw12_awake_b (lv n) n := by kernel_rfl
theorem oriellaw12_awake_ok (n : Nat) : OKo n oriellaw12_awake_o := fun ih {_ _ _ _ _ _} h => by
  refine rowO_ok (cl := CL n) (ea := oriellaw12_awake_e) (dr := oriellaw12_awake_d) (fun _ _ h => oriellaw12_awake_ae h) (fun _ _ h => oriellaw12_awake_dr h) (fun a v h => ?_) h
  cases n with
  | zero => cases h
  | succ n =>
    rw [oriellaw12_awake_lv] at h
    exact bodyK_ok noEq_ok (ih n rfl) (by kernel_rfl) (fun _ _ h => oriellaw12_awake_dr h) h
theorem oriellaw12_named_lv (n : Nat) : (lv (n + 1)).oriellaw12_named = oriellaw12_named_b (lv n) n := by kernel_rfl
theorem oriellaw12_named_ok (n : Nat) : OKo n oriellaw12_named_o := fun ih {_ _ _ _ _ _} h => by
  refine rowO_ok (cl := CL n) (ea := oriellaw12_named_e) (dr := oriellaw12_named_d) (fun _ _ h => oriellaw12_named_ae h) (fun _ _ h => oriellaw12_named_dr h) (fun a v h => ?_) h
  cases n with
  | zero => cases h
  | succ n =>
    rw [oriellaw12_named_lv] at h
    exact bodyK_ok noEq_ok (ih n rfl) (by kernel_rfl) (fun _ _ h => oriellaw12_named_dr h) h
theorem path_Speaks_lv (n : Nat) : (lv (n + 1)).path_Speaks = path_Speaks_b (lv n) n := by kernel_rfl
theorem path_Speaks_ok (n : Nat) : OKo n path_Speaks_o := fun ih {_ _ _ _ _ _} h => by
  refine rowO_ok (cl := CL n) (ea := path_Speaks_e) (dr := path_Speaks_d) (fun _ _ h => path_Speaks_ae h) (fun _ _ h => path_Speaks_dr h) (fun a v h => ?_) h
  cases n with
  | zero => cases h
  | succ n =>
    rw [path_Speaks_lv] at h
    exact bodyK_ok noEq_ok (ih n rfl) (by kernel_rfl) (fun _ _ h => path_Speaks_dr h) h
theorem path_gather_path_lv (n : Nat) : (lv (n + 1)).path_gather_path = path_gather_path_b (lv n) n := by kernel_rfl
theorem path_gather_path_ok (n : Nat) : OKo n path_gather_path_o := fun ih {_ _ _ _ _ _} h => by
  refine rowO_ok (cl := CL n) (ea := path_gather_path_e) (dr := path_gather_path_d) (fun _ _ h => path_gather_path_ae h) (fun _ _ h => path_gather_path_dr h) (fun a v h => ?_) h
  cases n with
  | zero => cases h
  | succ n =>
    rw [path_gather_path_lv] at h
    exact bodyK_ok noEq_ok (ih n rfl) (by kernel_rfl) (fun _ _ h => path_gather_path_dr h) h
theorem path_gather_filter_lv (n : Nat) : (lv (n + 1)).path_gather_filter = path_gather_filter_b (lv n) n := by kernel_rfl
theorem path_gather_filter_ok (n : Nat) : OKo n path_gather_filter_o := fun ih {_ _ _ _ _ _} h => by
  refine rowO_ok (cl := CL n) (ea := path_gather_filter_e) (dr := path_gather_filter_d) (fun _ _ h => path_gather_filter_ae h) (fun _ _ h => path_gather_filter_dr h) (fun a v h => ?_) h
  cases n with
  | zero => cases h
  | succ n =>
    rw [path_gather_filter_lv] at h
    exact bodyK_ok noEq_ok (ih n rfl) (by kernel_rfl) (fun _ _ h => path_gather_filter_dr h) h
theorem api_Name_lv (n : Nat) : (lv (n + 1)).api_Name = api_Name_b (lv n) n := by kernel_rfl
theorem api_Name_ok (n : Nat) : OKo n api_Name_o := fun ih {_ _ _ _ _ _} h => by
  refine rowO_ok (cl := CL n) (ea := api_Name_e) (dr := api_Name_d) (fun _ _ h => api_Name_ae h) (fun _ _ h => api_Name_dr h) (fun a v h => ?_) h
  cases n with
  | zero => cases h
  | succ n =>
    rw [api_Name_lv] at h
    exact bodyK_ok noEq_ok (ih n rfl) (by kernel_rfl) (fun _ _ h => api_Name_dr h) h
theorem path_gather_attr_lv (n : Nat) : (lv (n + 1)).path_gather_attr = path_gather_attr_b (lv n) n := by kernel_rfl
theorem path_gather_attr_ok (n : Nat) : OKo n path_gather_attr_o := fun ih {_ _ _ _ _ _} h => by
  refine rowO_ok (cl := CL n) (ea := path_gather_attr_e) (dr := path_gather_attr_d) (fun _ _ h => path_gather_attr_ae h) (fun _ _ h => path_gather_attr_dr h) (fun a v h => ?_) h
  cases n with
  | zero => cases h
  | succ n =>
    rw [path_gather_attr_lv] at h
    exact bodyK_ok noEq_ok (ih n rfl) (by kernel_rfl) (fun _ _ h => path_gather_attr_dr h) h
theorem path_add_string_lv (n : Nat) : (lv (n + 1)).path_add_string = path_add_string_b (lv n) n := by kernel_rfl
theorem path_add_string_ok (n : Nat) : OKo n path_add_string_o := fun ih {_ _ _ _ _ _} h => by
  refine rowO_ok (cl := CL n) (ea := path_add_string_e) (dr := path_add_string_d) (fun _ _ h => path_add_string_ae h) (fun _ _ h => path_add_string_dr h) (fun a v h => ?_) h
  cases n with
  | zero => cases h
  | succ n =>
    rw [path_add_string_lv] at h
    exact bodyK_ok noEq_ok (ih n rfl) (by kernel_rfl) (fun _ _ h => path_add_string_dr h) h
theorem api_Name_2_lv (n : Nat) : (lv (n + 1)).api_Name_2 = api_Name_2_b (lv n) n := by kernel_rfl
theorem api_Name_2_ok (n : Nat) : OKo n api_Name_2_o := fun ih {_ _ _ _ _ _} h => by
  refine rowO_ok (cl := CL n) (ea := api_Name_2_e) (dr := api_Name_2_d) (fun _ _ h => api_Name_2_ae h) (fun _ _ h => api_Name_2_dr h) (fun a v h => ?_) h
  cases n with
  | zero => cases h
  | succ n =>
    rw [api_Name_2_lv] at h
    exact bodyK_ok noEq_ok (ih n rfl) (by kernel_rfl) (fun _ _ h => api_Name_2_dr h) h
theorem api_Name_3_lv (n : Nat) : (lv (n + 1)).api_Name_3 = api_Name_3_b (lv n) n := by kernel_rfl
theorem api_Name_3_ok (n : Nat) : OKo n api_Name_3_o := fun ih {_ _ _ _ _ _} h => by
  refine rowO_ok (cl := CL n) (ea := api_Name_3_e) (dr := api_Name_3_d) (fun _ _ h => api_Name_3_ae h) (fun _ _ h => api_Name_3_dr h) (fun a v h => ?_) h
  cases n with
  | zero => cases h
  | succ n =>
    rw [api_Name_3_lv] at h
    exact bodyK_ok noEq_ok (ih n rfl) (by kernel_rfl) (fun _ _ h => api_Name_3_dr h) h
theorem slices_Contains_string_string_lv (n : Nat) : (lv (n + 1)).slices_Contains_string_string = slices_Contains_string_string_b (lv n) n := by kernel_rfl
theorem slices_Contains_string_string_ok (n : Nat) : OKo n slices_Contains_string_string_o := fun ih {_ _ _ _ _ _} h => by
  refine rowO_ok (cl := CL n) (ea := slices_Contains_string_string_e) (dr := slices_Contains_string_string_d) (fun _ _ h => slices_Contains_string_string_ae h) (fun _ _ h => slices_Contains_string_string_dr h) (fun a v h => ?_) h
  cases n with
  | zero => cases h
  | succ n =>
    rw [slices_Contains_string_string_lv] at h
    exact bodyK_ok noEq_ok (ih n rfl) (by kernel_rfl) (fun _ _ h => slices_Contains_string_string_dr h) h
theorem slices_Index_string_string_lv (n : Nat) : (lv (n + 1)).slices_Index_string_string = slices_Index_string_string_b (lv n) n := by kernel_rfl
theorem slices_Index_string_string_ok (n : Nat) : OKo n slices_Index_string_string_o := fun ih {_ _ _ _ _ _} h => by
  refine rowO_ok (cl := CL n) (ea := slices_Index_string_string_e) (dr := slices_Index_string_string_d) (fun _ _ h => slices_Index_string_string_ae h) (fun _ _ h => slices_Index_string_string_dr h) (fun a v h => ?_) h
  cases n with
  | zero => cases h
  | succ n =>
    rw [slices_Index_string_string_lv] at h
    exact bodyK_ok noEq_ok (ih n rfl) (by kernel_rfl) (fun _ _ h => slices_Index_string_string_dr h) h
theorem path_Right_lv (n : Nat) : (lv (n + 1)).path_Right = path_Right_b (lv n) n := by kernel_rfl
theorem path_Right_up (x0_0 : Int) (x0_1 x0_2 : LL) {Q : Bool → Prop} (h : Tot (fun n _ _ => path_Right_b (lv n) n x0_0 x0_1 x0_2) Q) : Tot (fun n _ _ => (lv n).path_Right x0_0 x0_1 x0_2) Q := Tot.up (fun n => by rw [path_Right_lv]) h
theorem path_Right_ok (n : Nat) : OKo n path_Right_o := fun ih {_ _ _ _ _ _} h => by
  refine rowO_ok (cl := CL n) (ea := path_Right_e) (dr := path_Right_d) (fun _ _ h => path_Right_ae h) (fun _ _ h => path_Right_dr h) (fun a v h => ?_) h
  cases n with
  | zero => cases h
  | succ n =>
    rw [path_Right_lv] at h
    exact bodyK_ok noEq_ok (ih n rfl) (by kernel_rfl) (fun _ _ h => path_Right_dr h) h
theorem path_measured_lv (n : Nat) : (lv (n + 1)).path_measured = path_measured_b (lv n) n := by kernel_rfl
theorem path_measured_up (x0_0 : Int) (x0_1 x0_2 : LL) {Q : (Int × Bool) → Prop} (h : Tot (fun n _ _ => path_measured_b (lv n) n x0_0 x0_1 x0_2) Q) : Tot (fun n _ _ => (lv n).path_measured x0_0 x0_1 x0_2) Q := Tot.up (fun n => by rw [path_measured_lv]) h
theorem path_measured_ok (n : Nat) : OKo n path_measured_o := fun ih {_ _ _ _ _ _} h => by
  refine rowO_ok (cl := CL n) (ea := path_measured_e) (dr := path_measured_d) (fun _ _ h => path_measured_ae h) (fun _ _ h => path_measured_dr h) (fun a v h => ?_) h
  cases n with
  | zero => cases h
  | succ n =>
    rw [path_measured_lv] at h
    exact bodyK_ok noEq_ok (ih n rfl) (by kernel_rfl) (fun _ _ h => path_measured_dr h) h
theorem path_measure_path_lv (n : Nat) : (lv (n + 1)).path_measure_path = path_measure_path_b (lv n) n := by kernel_rfl
theorem path_measure_path_up (x0_0 : Int) (x0_1 : Bool) (x1_0 : Int) (x1_1 x1_2 : LL) (x2 : Int) {Q : (Int × Bool) → Prop} (h : Tot (fun n _ _ => path_measure_path_b (lv n) n x0_0 x0_1 x1_0 x1_1 x1_2 x2) Q) : Tot (fun n _ _ => (lv n).path_measure_path x0_0 x0_1 x1_0 x1_1 x1_2 x2) Q := Tot.up (fun n => by rw [path_measure_path_lv]) h
theorem path_measure_path_ok (n : Nat) : OKo n path_measure_path_o := fun ih {_ _ _ _ _ _} h => by
  refine rowO_ok (cl := CL n) (ea := path_measure_path_e) (dr := path_measure_path_d) (fun _ _ h => path_measure_path_ae h) (fun _ _ h => path_measure_path_dr h) (fun a v h => ?_) h
  cases n with
  | zero => cases h
  | succ n =>
    rw [path_measure_path_lv] at h
    exact bodyK_ok noEq_ok (ih n rfl) (by kernel_rfl) (fun _ _ h => path_measure_path_dr h) h
theorem path_measure_part_lv (n : Nat) : (lv (n + 1)).path_measure_part = path_measure_part_b (lv n) n := by kernel_rfl
theorem path_measure_part_up (x0_0 : Int) (x0_1 : Bool) (x1 : Int) {Q : (Bool × Int × Bool) → Prop} (h : Tot (fun n _ _ => path_measure_part_b (lv n) n x0_0 x0_1 x1) Q) : Tot (fun n _ _ => (lv n).path_measure_part x0_0 x0_1 x1) Q := Tot.up (fun n => by rw [path_measure_part_lv]) h
theorem path_measure_part_ok (n : Nat) : OKo n path_measure_part_o := fun ih {_ _ _ _ _ _} h => by
  refine rowO_ok (cl := CL n) (ea := path_measure_part_e) (dr := path_measure_part_d) (fun _ _ h => path_measure_part_ae h) (fun _ _ h => path_measure_part_dr h) (fun a v h => ?_) h
  cases n with
  | zero => cases h
  | succ n =>
    rw [path_measure_part_lv] at h
    exact bodyK_ok noEq_ok (ih n rfl) (by kernel_rfl) (fun _ _ h => path_measure_part_dr h) h
theorem path_add_string_2_lv (n : Nat) : (lv (n + 1)).path_add_string_2 = path_add_string_2_b (lv n) n := by kernel_rfl
theorem path_add_string_2_ok (n : Nat) : OKo n path_add_string_2_o := fun ih {_ _ _ _ _ _} h => by
  refine rowO_ok (cl := CL n) (ea := path_add_string_2_e) (dr := path_add_string_2_d) (fun _ _ h => path_add_string_2_ae h) (fun _ _ h => path_add_string_2_dr h) (fun a v h => ?_) h
  cases n with
  | zero => cases h
  | succ n =>
    rw [path_add_string_2_lv] at h
    exact bodyK_ok noEq_ok (ih n rfl) (by kernel_rfl) (fun _ _ h => path_add_string_2_dr h) h
theorem path_measure_filter_lv (n : Nat) : (lv (n + 1)).path_measure_filter = path_measure_filter_b (lv n) n := by kernel_rfl
theorem path_measure_filter_up (x0_0 : Int) (x0_1 : Bool) (x1_0 : Int) (x1_1 x1_2 x1_3 : ByteArray) (x1_4 x1_5 : LL) (x2 : Int) {Q : (Int × Bool) → Prop} (h : Tot (fun n _ _ => path_measure_filter_b (lv n) n x0_0 x0_1 x1_0 x1_1 x1_2 x1_3 x1_4 x1_5 x2) Q) : Tot (fun n _ _ => (lv n).path_measure_filter x0_0 x0_1 x1_0 x1_1 x1_2 x1_3 x1_4 x1_5 x2) Q := Tot.up (fun n => by rw [path_measure_filter_lv]) h
theorem path_measure_filter_ok (n : Nat) : OKo n path_measure_filter_o := fun ih {_ _ _ _ _ _} h => by
  refine rowO_ok (cl := CL n) (ea := path_measure_filter_e) (dr := path_measure_filter_d) (fun _ _ h => path_measure_filter_ae h) (fun _ _ h => path_measure_filter_dr h) (fun a v h => ?_) h
  cases n with
  | zero => cases h
  | succ n =>
    rw [path_measure_filter_lv] at h
    exact bodyK_ok noEq_ok (ih n rfl) (by kernel_rfl) (fun _ _ h => path_measure_filter_dr h) h
theorem path_shape_lv (n : Nat) : (lv (n + 1)).path_shape = path_shape_b (lv n) n := by kernel_rfl
theorem path_shape_up (x0_0 : Int) (x0_1 x0_2 x0_3 : ByteArray) (x0_4 x0_5 : LL) {Q : Bool → Prop} (h : Tot (fun n _ _ => path_shape_b (lv n) n x0_0 x0_1 x0_2 x0_3 x0_4 x0_5) Q) : Tot (fun n _ _ => (lv n).path_shape x0_0 x0_1 x0_2 x0_3 x0_4 x0_5) Q := Tot.up (fun n => by rw [path_shape_lv]) h
theorem path_shape_ok (n : Nat) : OKo n path_shape_o := fun ih {_ _ _ _ _ _} h => by
  refine rowO_ok (cl := CL n) (ea := path_shape_e) (dr := path_shape_d) (fun _ _ h => path_shape_ae h) (fun _ _ h => path_shape_dr h) (fun a v h => ?_) h
  cases n with
  | zero => cases h
  | succ n =>
    rw [path_shape_lv] at h
    exact bodyK_ok noEq_ok (ih n rfl) (by kernel_rfl) (fun _ _ h => path_shape_dr h) h
theorem path_named_lv (n : Nat) : (lv (n + 1)).path_named = path_named_b (lv n) n := by kernel_rfl
theorem path_named_up (x0_0 x0_1 : ByteArray) {Q : Bool → Prop} (h : Tot (fun n _ _ => path_named_b (lv n) n x0_0 x0_1) Q) : Tot (fun n _ _ => (lv n).path_named x0_0 x0_1) Q := Tot.up (fun n => by rw [path_named_lv]) h
theorem path_named_ok (n : Nat) : OKo n path_named_o := fun ih {_ _ _ _ _ _} h => by
  refine rowO_ok (cl := CL n) (ea := path_named_e) (dr := path_named_d) (fun _ _ h => path_named_ae h) (fun _ _ h => path_named_dr h) (fun a v h => ?_) h
  cases n with
  | zero => cases h
  | succ n =>
    rw [path_named_lv] at h
    exact bodyK_ok noEq_ok (ih n rfl) (by kernel_rfl) (fun _ _ h => path_named_dr h) h
theorem path_value_lv (n : Nat) : (lv (n + 1)).path_value = path_value_b (lv n) n := by kernel_rfl
theorem path_value_up (x0 : ByteArray) {Q : Bool → Prop} (h : Tot (fun n _ _ => path_value_b (lv n) n x0) Q) : Tot (fun n _ _ => (lv n).path_value x0) Q := Tot.up (fun n => by rw [path_value_lv]) h
theorem path_value_ok (n : Nat) : OKo n path_value_o := fun ih {_ _ _ _ _ _} h => by
  refine rowO_ok (cl := CL n) (ea := path_value_e) (dr := path_value_d) (fun _ _ h => path_value_ae h) (fun _ _ h => path_value_dr h) (fun a v h => ?_) h
  cases n with
  | zero => cases h
  | succ n =>
    rw [path_value_lv] at h
    exact bodyK_ok noEq_ok (ih n rfl) (by kernel_rfl) (fun _ _ h => path_value_dr h) h
theorem name_Plain_lv (n : Nat) : (lv (n + 1)).name_Plain = name_Plain_b (lv n) n := by kernel_rfl
theorem name_Plain_up (x0 : ByteArray) {Q : Bool → Prop} (h : Tot (fun n _ _ => name_Plain_b (lv n) n x0) Q) : Tot (fun n _ _ => (lv n).name_Plain x0) Q := Tot.up (fun n => by rw [name_Plain_lv]) h
theorem name_Plain_ok (n : Nat) : OKo n name_Plain_o := fun ih {_ _ _ _ _ _} h => by
  refine rowO_ok (cl := CL n) (ea := name_Plain_e) (dr := name_Plain_d) (fun _ _ h => name_Plain_ae h) (fun _ _ h => name_Plain_dr h) (fun a v h => ?_) h
  cases n with
  | zero => cases h
  | succ n =>
    rw [name_Plain_lv] at h
    exact bodyK_ok noEq_ok (ih n rfl) (by kernel_rfl) (fun _ _ h => name_Plain_dr h) h
theorem utf_All_lv (n : Nat) : (lv (n + 1)).utf_All = utf_All_b (lv n) n := by kernel_rfl
theorem utf_All_up (x0 : ByteArray) {Q : (LL × Int × Int) → Prop} (h : Tot (fun n _ _ => utf_All_b (lv n) n x0) Q) : Tot (fun n _ _ => (lv n).utf_All x0) Q := Tot.up (fun n => by rw [utf_All_lv]) h
theorem utf_All_ok (n : Nat) : OKo n utf_All_o := fun ih {_ _ _ _ _ _} h => by
  refine rowO_ok (cl := CL n) (ea := utf_All_e) (dr := utf_All_d) (fun _ _ h => utf_All_ae h) (fun _ _ h => utf_All_dr h) (fun a v h => ?_) h
  cases n with
  | zero => cases h
  | succ n =>
    rw [utf_All_lv] at h
    exact bodyK_ok noEq_ok (ih n rfl) (by kernel_rfl) (fun _ _ h => utf_All_dr h) h
theorem char_Start_lv (n : Nat) : (lv (n + 1)).char_Start = char_Start_b (lv n) n := by kernel_rfl
theorem char_Start_up (x0 : Int) {Q : Bool → Prop} (h : Tot (fun n _ _ => char_Start_b (lv n) n x0) Q) : Tot (fun n _ _ => (lv n).char_Start x0) Q := Tot.up (fun n => by rw [char_Start_lv]) h
theorem char_Start_ok (n : Nat) : OKo n char_Start_o := fun ih {_ _ _ _ _ _} h => by
  refine rowO_ok (cl := CL n) (ea := char_Start_e) (dr := char_Start_d) (fun _ _ h => char_Start_ae h) (fun _ _ h => char_Start_dr h) (fun a v h => ?_) h
  cases n with
  | zero => cases h
  | succ n =>
    rw [char_Start_lv] at h
    exact bodyK_ok noEq_ok (ih n rfl) (by kernel_rfl) (fun _ _ h => char_Start_dr h) h
theorem utf_Rune_lv (n : Nat) : (lv (n + 1)).utf_Rune = utf_Rune_b (lv n) n := by kernel_rfl
theorem utf_Rune_up (x0 : ByteArray) (x1 : Int) {Q : (Int × Int × Int) → Prop} (h : Tot (fun n _ _ => utf_Rune_b (lv n) n x0 x1) Q) : Tot (fun n _ _ => (lv n).utf_Rune x0 x1) Q := Tot.up (fun n => by rw [utf_Rune_lv]) h
theorem utf_Rune_ok (n : Nat) : OKo n utf_Rune_o := fun ih {_ _ _ _ _ _} h => by
  refine rowO_ok (cl := CL n) (ea := utf_Rune_e) (dr := utf_Rune_d) (fun _ _ h => utf_Rune_ae h) (fun _ _ h => utf_Rune_dr h) (fun a v h => ?_) h
  cases n with
  | zero => cases h
  | succ n =>
    rw [utf_Rune_lv] at h
    exact bodyK_ok noEq_ok (ih n rfl) (by kernel_rfl) (fun _ _ h => utf_Rune_dr h) h
theorem char_in_lv (n : Nat) : (lv (n + 1)).char_in = char_in_b (lv n) n := by kernel_rfl
theorem char_in_up (x0 : Int) (x1 : LL) {Q : Bool → Prop} (h : Tot (fun n _ _ => char_in_b (lv n) n x0 x1) Q) : Tot (fun n _ _ => (lv n).char_in x0 x1) Q := Tot.up (fun n => by rw [char_in_lv]) h
theorem char_in_ok (n : Nat) : OKo n char_in_o := fun ih {_ _ _ _ _ _} h => by
  refine rowO_ok (cl := CL n) (ea := char_in_e) (dr := char_in_d) (fun _ _ h => char_in_ae h) (fun _ _ h => char_in_dr h) (fun a v h => ?_) h
  cases n with
  | zero => cases h
  | succ n =>
    rw [char_in_lv] at h
    exact bodyK_ok noEq_ok (ih n rfl) (by kernel_rfl) (fun _ _ h => char_in_dr h) h
theorem utf_forms_lv (n : Nat) : (lv (n + 1)).utf_forms = utf_forms_b (lv n) n := by kernel_rfl
theorem utf_forms_up {Q : (Int × Int × Int × Int × Int × Int × Int × Int × Int × Int × Int × Int) → Prop} (h : Tot (fun n _ _ => utf_forms_b (lv n) n) Q) : Tot (fun n _ _ => (lv n).utf_forms) Q := Tot.up (fun n => by rw [utf_forms_lv]) h
theorem utf_forms_ok (n : Nat) : OKo n utf_forms_o := fun ih {_ _ _ _ _ _} h => by
  refine rowO_ok (cl := CL n) (ea := utf_forms_e) (dr := utf_forms_d) (fun _ _ h => utf_forms_ae h) (fun _ _ h => utf_forms_dr h) (fun a v h => ?_) h
  cases n with
  | zero => cases h
  | succ n =>
    rw [utf_forms_lv] at h
    exact bodyK_ok noEq_ok (ih n rfl) (by kernel_rfl) (fun _ _ h => utf_forms_dr h) h
theorem char_All_lv (n : Nat) : (lv (n + 1)).char_All = char_All_b (lv n) n := by kernel_rfl
theorem char_All_up (x0 : ByteArray) {Q : Bool → Prop} (h : Tot (fun n _ _ => char_All_b (lv n) n x0) Q) : Tot (fun n _ _ => (lv n).char_All x0) Q := Tot.up (fun n => by rw [char_All_lv]) h
theorem char_All_ok (n : Nat) : OKo n char_All_o := fun ih {_ _ _ _ _ _} h => by
  refine rowO_ok (cl := CL n) (ea := char_All_e) (dr := char_All_d) (fun _ _ h => char_All_ae h) (fun _ _ h => char_All_dr h) (fun a v h => ?_) h
  cases n with
  | zero => cases h
  | succ n =>
    rw [char_All_lv] at h
    exact bodyK_ok noEq_ok (ih n rfl) (by kernel_rfl) (fun _ _ h => char_All_dr h) h
theorem utf_span_lv (n : Nat) : (lv (n + 1)).utf_span = utf_span_b (lv n) n := by kernel_rfl
theorem utf_span_up (x0 x1 : Int) {Q : (Int × Int) → Prop} (h : Tot (fun n _ _ => utf_span_b (lv n) n x0 x1) Q) : Tot (fun n _ _ => (lv n).utf_span x0 x1) Q := Tot.up (fun n => by rw [utf_span_lv]) h
theorem utf_span_ok (n : Nat) : OKo n utf_span_o := fun ih {_ _ _ _ _ _} h => by
  refine rowO_ok (cl := CL n) (ea := utf_span_e) (dr := utf_span_d) (fun _ _ h => utf_span_ae h) (fun _ _ h => utf_span_dr h) (fun a v h => ?_) h
  cases n with
  | zero => cases h
  | succ n =>
    rw [utf_span_lv] at h
    exact bodyK_ok noEq_ok (ih n rfl) (by kernel_rfl) (fun _ _ h => utf_span_dr h) h
theorem char_Char_lv (n : Nat) : (lv (n + 1)).char_Char = char_Char_b (lv n) n := by kernel_rfl
theorem char_Char_up (x0 : Int) {Q : Bool → Prop} (h : Tot (fun n _ _ => char_Char_b (lv n) n x0) Q) : Tot (fun n _ _ => (lv n).char_Char x0) Q := Tot.up (fun n => by rw [char_Char_lv]) h
theorem char_Char_ok (n : Nat) : OKo n char_Char_o := fun ih {_ _ _ _ _ _} h => by
  refine rowO_ok (cl := CL n) (ea := char_Char_e) (dr := char_Char_d) (fun _ _ h => char_Char_ae h) (fun _ _ h => char_Char_dr h) (fun a v h => ?_) h
  cases n with
  | zero => cases h
  | succ n =>
    rw [char_Char_lv] at h
    exact bodyK_ok noEq_ok (ih n rfl) (by kernel_rfl) (fun _ _ h => char_Char_dr h) h
theorem char_Blank_lv (n : Nat) : (lv (n + 1)).char_Blank = char_Blank_b (lv n) n := by kernel_rfl
theorem char_Blank_up (x0 : Int) {Q : Bool → Prop} (h : Tot (fun n _ _ => char_Blank_b (lv n) n x0) Q) : Tot (fun n _ _ => (lv n).char_Blank x0) Q := Tot.up (fun n => by rw [char_Blank_lv]) h
theorem char_Blank_ok (n : Nat) : OKo n char_Blank_o := fun ih {_ _ _ _ _ _} h => by
  refine rowO_ok (cl := CL n) (ea := char_Blank_e) (dr := char_Blank_d) (fun _ _ h => char_Blank_ae h) (fun _ _ h => char_Blank_dr h) (fun a v h => ?_) h
  cases n with
  | zero => cases h
  | succ n =>
    rw [char_Blank_lv] at h
    exact bodyK_ok noEq_ok (ih n rfl) (by kernel_rfl) (fun _ _ h => char_Blank_dr h) h
theorem char_Part_lv (n : Nat) : (lv (n + 1)).char_Part = char_Part_b (lv n) n := by kernel_rfl
theorem char_Part_up (x0 : Int) {Q : Bool → Prop} (h : Tot (fun n _ _ => char_Part_b (lv n) n x0) Q) : Tot (fun n _ _ => (lv n).char_Part x0) Q := Tot.up (fun n => by rw [char_Part_lv]) h
theorem char_Part_ok (n : Nat) : OKo n char_Part_o := fun ih {_ _ _ _ _ _} h => by
  refine rowO_ok (cl := CL n) (ea := char_Part_e) (dr := char_Part_d) (fun _ _ h => char_Part_ae h) (fun _ _ h => char_Part_dr h) (fun a v h => ?_) h
  cases n with
  | zero => cases h
  | succ n =>
    rw [char_Part_lv] at h
    exact bodyK_ok noEq_ok (ih n rfl) (by kernel_rfl) (fun _ _ h => char_Part_dr h) h
theorem path_Size_lv (n : Nat) : (lv (n + 1)).path_Size = path_Size_b (lv n) n := by kernel_rfl
theorem path_Size_up (x0_0 : Int) (x0_1 x0_2 : LL) {Q : Int → Prop} (h : Tot (fun n _ _ => path_Size_b (lv n) n x0_0 x0_1 x0_2) Q) : Tot (fun n _ _ => (lv n).path_Size x0_0 x0_1 x0_2) Q := Tot.up (fun n => by rw [path_Size_lv]) h
theorem path_Size_ok (n : Nat) : OKo n path_Size_o := fun ih {_ _ _ _ _ _} h => by
  refine rowO_ok (cl := CL n) (ea := path_Size_e) (dr := path_Size_d) (fun _ _ h => path_Size_ae h) (fun _ _ h => path_Size_dr h) (fun a v h => ?_) h
  cases n with
  | zero => cases h
  | succ n =>
    rw [path_Size_lv] at h
    exact bodyK_ok noEq_ok (ih n rfl) (by kernel_rfl) (fun _ _ h => path_Size_dr h) h
theorem orielref12_Size_lv (n : Nat) : (lv (n + 1)).orielref12_Size = orielref12_Size_b (lv n) n := by kernel_rfl
theorem orielref12_Size_up (x0_0 : Int) (x0_1 x0_2 : LL) {Q : Int → Prop} (h : Tot (fun n _ _ => orielref12_Size_b (lv n) n x0_0 x0_1 x0_2) Q) : Tot (fun n _ _ => (lv n).orielref12_Size x0_0 x0_1 x0_2) Q := Tot.up (fun n => by rw [orielref12_Size_lv]) h
theorem orielref12_Size_ok (n : Nat) : OKo n orielref12_Size_o := fun ih {_ _ _ _ _ _} h => by
  refine rowO_ok (cl := CL n) (ea := orielref12_Size_e) (dr := orielref12_Size_d) (fun _ _ h => orielref12_Size_ae h) (fun _ _ h => orielref12_Size_dr h) (fun a v h => ?_) h
  cases n with
  | zero => cases h
  | succ n =>
    rw [orielref12_Size_lv] at h
    exact bodyK_ok noEq_ok (ih n rfl) (by kernel_rfl) (fun _ _ h => orielref12_Size_dr h) h
theorem path_Same_lv (n : Nat) : (lv (n + 1)).path_Same = path_Same_b (lv n) n := by kernel_rfl
theorem path_Same_up (x0_0 : Int) (x0_1 x0_2 : LL) (x1_0 : Int) (x1_1 x1_2 : LL) {Q : Bool → Prop} (h : Tot (fun n _ _ => path_Same_b (lv n) n x0_0 x0_1 x0_2 x1_0 x1_1 x1_2) Q) : Tot (fun n _ _ => (lv n).path_Same x0_0 x0_1 x0_2 x1_0 x1_1 x1_2) Q := Tot.up (fun n => by rw [path_Same_lv]) h
theorem path_Same_ok (n : Nat) : OKo n path_Same_o := fun ih {_ _ _ _ _ _} h => by
  refine rowO_ok (cl := CL n) (ea := path_Same_e) (dr := path_Same_d) (fun _ _ h => path_Same_ae h) (fun _ _ h => path_Same_dr h) (fun a v h => ?_) h
  cases n with
  | zero => cases h
  | succ n =>
    rw [path_Same_lv] at h
    exact bodyK_ok noEq_ok (ih n rfl) (by kernel_rfl) (fun _ _ h => path_Same_dr h) h
theorem orielref12_size_lv (n : Nat) : (lv (n + 1)).orielref12_size = orielref12_size_b (lv n) n := by kernel_rfl
theorem orielref12_size_up (x0_0 : Int) (x0_1 x0_2 : LL) (x1 : Int) {Q : Int → Prop} (h : Tot (fun n _ _ => orielref12_size_b (lv n) n x0_0 x0_1 x0_2 x1) Q) : Tot (fun n _ _ => (lv n).orielref12_size x0_0 x0_1 x0_2 x1) Q := Tot.up (fun n => by rw [orielref12_size_lv]) h
theorem orielref12_size_ok (n : Nat) : OKo n orielref12_size_o := fun ih {_ _ _ _ _ _} h => by
  refine rowO_ok (cl := CL n) (ea := orielref12_size_e) (dr := orielref12_size_d) (fun _ _ h => orielref12_size_ae h) (fun _ _ h => orielref12_size_dr h) (fun a v h => ?_) h
  cases n with
  | zero => cases h
  | succ n =>
    rw [orielref12_size_lv] at h
    exact bodyK_ok noEq_ok (ih n rfl) (by kernel_rfl) (fun _ _ h => orielref12_size_dr h) h
theorem api_Path_lv (n : Nat) : (lv (n + 1)).api_Path = api_Path_b (lv n) n := by kernel_rfl
theorem api_Path_up (x0 x1 : LL) {Q : Bool → Prop} (h : Tot (fun n _ _ => api_Path_b (lv n) n x0 x1) Q) : Tot (fun n _ _ => (lv n).api_Path x0 x1) Q := Tot.up (fun n => by rw [api_Path_lv]) h
theorem api_Path_ok (n : Nat) : OKo n api_Path_o := fun ih {_ _ _ _ _ _} h => by
  refine rowO_ok (cl := CL n) (ea := api_Path_e) (dr := api_Path_d) (fun _ _ h => api_Path_ae h) (fun _ _ h => api_Path_dr h) (fun a v h => ?_) h
  cases n with
  | zero => cases h
  | succ n =>
    rw [api_Path_lv] at h
    exact bodyK_ok noEq_ok (ih n rfl) (by kernel_rfl) (fun _ _ h => api_Path_dr h) h
theorem orielref12_sizeFilter_lv (n : Nat) : (lv (n + 1)).orielref12_sizeFilter = orielref12_sizeFilter_b (lv n) n := by kernel_rfl
theorem orielref12_sizeFilter_up (x0_0 : Int) (x0_1 x0_2 x0_3 : ByteArray) (x0_4 x0_5 : LL) (x1 : Int) {Q : Int → Prop} (h : Tot (fun n _ _ => orielref12_sizeFilter_b (lv n) n x0_0 x0_1 x0_2 x0_3 x0_4 x0_5 x1) Q) : Tot (fun n _ _ => (lv n).orielref12_sizeFilter x0_0 x0_1 x0_2 x0_3 x0_4 x0_5 x1) Q := Tot.up (fun n => by rw [orielref12_sizeFilter_lv]) h
theorem orielref12_sizeFilter_ok (n : Nat) : OKo n orielref12_sizeFilter_o := fun ih {_ _ _ _ _ _} h => by
  refine rowO_ok (cl := CL n) (ea := orielref12_sizeFilter_e) (dr := orielref12_sizeFilter_d) (fun _ _ h => orielref12_sizeFilter_ae h) (fun _ _ h => orielref12_sizeFilter_dr h) (fun a v h => ?_) h
  cases n with
  | zero => cases h
  | succ n =>
    rw [orielref12_sizeFilter_lv] at h
    exact bodyK_ok noEq_ok (ih n rfl) (by kernel_rfl) (fun _ _ h => orielref12_sizeFilter_dr h) h
theorem api_Filter_lv (n : Nat) : (lv (n + 1)).api_Filter = api_Filter_b (lv n) n := by kernel_rfl
theorem api_Filter_up (x0 x1 : LL) {Q : Bool → Prop} (h : Tot (fun n _ _ => api_Filter_b (lv n) n x0 x1) Q) : Tot (fun n _ _ => (lv n).api_Filter x0 x1) Q := Tot.up (fun n => by rw [api_Filter_lv]) h
theorem api_Filter_ok (n : Nat) : OKo n api_Filter_o := fun ih {_ _ _ _ _ _} h => by
  refine rowO_ok (cl := CL n) (ea := api_Filter_e) (dr := api_Filter_d) (fun _ _ h => api_Filter_ae h) (fun _ _ h => api_Filter_dr h) (fun a v h => ?_) h
  cases n with
  | zero => cases h
  | succ n =>
    rw [api_Filter_lv] at h
    exact bodyK_ok noEq_ok (ih n rfl) (by kernel_rfl) (fun _ _ h => api_Filter_dr h) h
theorem path_sameFilter_lv (n : Nat) : (lv (n + 1)).path_sameFilter = path_sameFilter_b (lv n) n := by kernel_rfl
theorem path_sameFilter_up (x0_0 : Int) (x0_1 x0_2 x0_3 : ByteArray) (x0_4 x0_5 : LL) (x1_0 : Int) (x1_1 x1_2 x1_3 : ByteArray) (x1_4 x1_5 : LL) {Q : Bool → Prop} (h : Tot (fun n _ _ => path_sameFilter_b (lv n) n x0_0 x0_1 x0_2 x0_3 x0_4 x0_5 x1_0 x1_1 x1_2 x1_3 x1_4 x1_5) Q) : Tot (fun n _ _ => (lv n).path_sameFilter x0_0 x0_1 x0_2 x0_3 x0_4 x0_5 x1_0 x1_1 x1_2 x1_3 x1_4 x1_5) Q := Tot.up (fun n => by rw [path_sameFilter_lv]) h
theorem path_sameFilter_ok (n : Nat) : OKo n path_sameFilter_o := fun ih {_ _ _ _ _ _} h => by
  refine rowO_ok (cl := CL n) (ea := path_sameFilter_e) (dr := path_sameFilter_d) (fun _ _ h => path_sameFilter_ae h) (fun _ _ h => path_sameFilter_dr h) (fun a v h => ?_) h
  cases n with
  | zero => cases h
  | succ n =>
    rw [path_sameFilter_lv] at h
    exact bodyK_ok noEq_ok (ih n rfl) (by kernel_rfl) (fun _ _ h => path_sameFilter_dr h) h
theorem orielref12_Right_lv (n : Nat) : (lv (n + 1)).orielref12_Right = orielref12_Right_b (lv n) n := by kernel_rfl
theorem orielref12_Right_up (x0_0 : Int) (x0_1 x0_2 : LL) {Q : Bool → Prop} (h : Tot (fun n _ _ => orielref12_Right_b (lv n) n x0_0 x0_1 x0_2) Q) : Tot (fun n _ _ => (lv n).orielref12_Right x0_0 x0_1 x0_2) Q := Tot.up (fun n => by rw [orielref12_Right_lv]) h
theorem orielref12_Right_ok (n : Nat) : OKo n orielref12_Right_o := fun ih {_ _ _ _ _ _} h => by
  refine rowO_ok (cl := CL n) (ea := orielref12_Right_e) (dr := orielref12_Right_d) (fun _ _ h => orielref12_Right_ae h) (fun _ _ h => orielref12_Right_dr h) (fun a v h => ?_) h
  cases n with
  | zero => cases h
  | succ n =>
    rw [orielref12_Right_lv] at h
    exact bodyK_ok noEq_ok (ih n rfl) (by kernel_rfl) (fun _ _ h => orielref12_Right_dr h) h
theorem orielref12_path_lv (n : Nat) : (lv (n + 1)).orielref12_path = orielref12_path_b (lv n) n := by kernel_rfl
theorem orielref12_path_up (x0_0 : Int) (x0_1 x0_2 : LL) (x1 : Int) {Q : Bool → Prop} (h : Tot (fun n _ _ => orielref12_path_b (lv n) n x0_0 x0_1 x0_2 x1) Q) : Tot (fun n _ _ => (lv n).orielref12_path x0_0 x0_1 x0_2 x1) Q := Tot.up (fun n => by rw [orielref12_path_lv]) h
theorem orielref12_path_ok (n : Nat) : OKo n orielref12_path_o := fun ih {_ _ _ _ _ _} h => by
  refine rowO_ok (cl := CL n) (ea := orielref12_path_e) (dr := orielref12_path_d) (fun _ _ h => orielref12_path_ae h) (fun _ _ h => orielref12_path_dr h) (fun a v h => ?_) h
  cases n with
  | zero => cases h
  | succ n =>
    rw [orielref12_path_lv] at h
    exact bodyK_ok noEq_ok (ih n rfl) (by kernel_rfl) (fun _ _ h => orielref12_path_dr h) h
theorem orielref12_filter_lv (n : Nat) : (lv (n + 1)).orielref12_filter = orielref12_filter_b (lv n) n := by kernel_rfl
theorem orielref12_filter_up (x0_0 : Int) (x0_1 x0_2 x0_3 : ByteArray) (x0_4 x0_5 : LL) (x1 : Int) {Q : Bool → Prop} (h : Tot (fun n _ _ => orielref12_filter_b (lv n) n x0_0 x0_1 x0_2 x0_3 x0_4 x0_5 x1) Q) : Tot (fun n _ _ => (lv n).orielref12_filter x0_0 x0_1 x0_2 x0_3 x0_4 x0_5 x1) Q := Tot.up (fun n => by rw [orielref12_filter_lv]) h
theorem orielref12_filter_ok (n : Nat) : OKo n orielref12_filter_o := fun ih {_ _ _ _ _ _} h => by
  refine rowO_ok (cl := CL n) (ea := orielref12_filter_e) (dr := orielref12_filter_d) (fun _ _ h => orielref12_filter_ae h) (fun _ _ h => orielref12_filter_dr h) (fun a v h => ?_) h
  cases n with
  | zero => cases h
  | succ n =>
    rw [orielref12_filter_lv] at h
    exact bodyK_ok noEq_ok (ih n rfl) (by kernel_rfl) (fun _ _ h => orielref12_filter_dr h) h
theorem orielref12_named_lv (n : Nat) : (lv (n + 1)).orielref12_named = orielref12_named_b (lv n) n := by kernel_rfl
theorem orielref12_named_up (x0_0 x0_1 : ByteArray) {Q : Bool → Prop} (h : Tot (fun n _ _ => orielref12_named_b (lv n) n x0_0 x0_1) Q) : Tot (fun n _ _ => (lv n).orielref12_named x0_0 x0_1) Q := Tot.up (fun n => by rw [orielref12_named_lv]) h
theorem orielref12_named_ok (n : Nat) : OKo n orielref12_named_o := fun ih {_ _ _ _ _ _} h => by
  refine rowO_ok (cl := CL n) (ea := orielref12_named_e) (dr := orielref12_named_d) (fun _ _ h => orielref12_named_ae h) (fun _ _ h => orielref12_named_dr h) (fun a v h => ?_) h
  cases n with
  | zero => cases h
  | succ n =>
    rw [orielref12_named_lv] at h
    exact bodyK_ok noEq_ok (ih n rfl) (by kernel_rfl) (fun _ _ h => orielref12_named_dr h) h
theorem orielref04_Right_lv (n : Nat) : (lv (n + 1)).orielref04_Right = orielref04_Right_b (lv n) n := by kernel_rfl
theorem orielref04_Right_up (x0 : ByteArray) {Q : Bool → Prop} (h : Tot (fun n _ _ => orielref04_Right_b (lv n) n x0) Q) : Tot (fun n _ _ => (lv n).orielref04_Right x0) Q := Tot.up (fun n => by rw [orielref04_Right_lv]) h
theorem orielref04_Right_ok (n : Nat) : OKo n orielref04_Right_o := fun ih {_ _ _ _ _ _} h => by
  refine rowO_ok (cl := CL n) (ea := orielref04_Right_e) (dr := orielref04_Right_d) (fun _ _ h => orielref04_Right_ae h) (fun _ _ h => orielref04_Right_dr h) (fun a v h => ?_) h
  cases n with
  | zero => cases h
  | succ n =>
    rw [orielref04_Right_lv] at h
    exact bodyK_ok noEq_ok (ih n rfl) (by kernel_rfl) (fun _ _ h => orielref04_Right_dr h) h
theorem orielref03_Plain_lv (n : Nat) : (lv (n + 1)).orielref03_Plain = orielref03_Plain_b (lv n) n := by kernel_rfl
theorem orielref03_Plain_up (x0 : ByteArray) {Q : Bool → Prop} (h : Tot (fun n _ _ => orielref03_Plain_b (lv n) n x0) Q) : Tot (fun n _ _ => (lv n).orielref03_Plain x0) Q := Tot.up (fun n => by rw [orielref03_Plain_lv]) h
theorem orielref03_Plain_ok (n : Nat) : OKo n orielref03_Plain_o := fun ih {_ _ _ _ _ _} h => by
  refine rowO_ok (cl := CL n) (ea := orielref03_Plain_e) (dr := orielref03_Plain_d) (fun _ _ h => orielref03_Plain_ae h) (fun _ _ h => orielref03_Plain_dr h) (fun a v h => ?_) h
  cases n with
  | zero => cases h
  | succ n =>
    rw [orielref03_Plain_lv] at h
    exact bodyK_ok noEq_ok (ih n rfl) (by kernel_rfl) (fun _ _ h => orielref03_Plain_dr h) h
theorem orielref01_All_lv (n : Nat) : (lv (n + 1)).orielref01_All = orielref01_All_b (lv n) n := by kernel_rfl
theorem orielref01_All_up (x0 : ByteArray) {Q : (LL × Int × Int) → Prop} (h : Tot (fun n _ _ => orielref01_All_b (lv n) n x0) Q) : Tot (fun n _ _ => (lv n).orielref01_All x0) Q := Tot.up (fun n => by rw [orielref01_All_lv]) h
theorem orielref01_All_ok (n : Nat) : OKo n orielref01_All_o := fun ih {_ _ _ _ _ _} h => by
  refine rowO_ok (cl := CL n) (ea := orielref01_All_e) (dr := orielref01_All_d) (fun _ _ h => orielref01_All_ae h) (fun _ _ h => orielref01_All_dr h) (fun a v h => ?_) h
  cases n with
  | zero => cases h
  | succ n =>
    rw [orielref01_All_lv] at h
    exact bodyK_ok noEq_ok (ih n rfl) (by kernel_rfl) (fun _ _ h => orielref01_All_dr h) h
theorem orielref02_Start_lv (n : Nat) : (lv (n + 1)).orielref02_Start = orielref02_Start_b (lv n) n := by kernel_rfl
theorem orielref02_Start_up (x0 : Int) {Q : Bool → Prop} (h : Tot (fun n _ _ => orielref02_Start_b (lv n) n x0) Q) : Tot (fun n _ _ => (lv n).orielref02_Start x0) Q := Tot.up (fun n => by rw [orielref02_Start_lv]) h
theorem orielref02_Start_ok (n : Nat) : OKo n orielref02_Start_o := fun ih {_ _ _ _ _ _} h => by
  refine rowO_ok (cl := CL n) (ea := orielref02_Start_e) (dr := orielref02_Start_d) (fun _ _ h => orielref02_Start_ae h) (fun _ _ h => orielref02_Start_dr h) (fun a v h => ?_) h
  cases n with
  | zero => cases h
  | succ n =>
    rw [orielref02_Start_lv] at h
    exact bodyK_ok noEq_ok (ih n rfl) (by kernel_rfl) (fun _ _ h => orielref02_Start_dr h) h
theorem orielref01_Rune_lv (n : Nat) : (lv (n + 1)).orielref01_Rune = orielref01_Rune_b (lv n) n := by kernel_rfl
theorem orielref01_Rune_up (x0 : ByteArray) (x1 : Int) {Q : (Int × Int × Int) → Prop} (h : Tot (fun n _ _ => orielref01_Rune_b (lv n) n x0 x1) Q) : Tot (fun n _ _ => (lv n).orielref01_Rune x0 x1) Q := Tot.up (fun n => by rw [orielref01_Rune_lv]) h
theorem orielref01_Rune_ok (n : Nat) : OKo n orielref01_Rune_o := fun ih {_ _ _ _ _ _} h => by
  refine rowO_ok (cl := CL n) (ea := orielref01_Rune_e) (dr := orielref01_Rune_d) (fun _ _ h => orielref01_Rune_ae h) (fun _ _ h => orielref01_Rune_dr h) (fun a v h => ?_) h
  cases n with
  | zero => cases h
  | succ n =>
    rw [orielref01_Rune_lv] at h
    exact bodyK_ok noEq_ok (ih n rfl) (by kernel_rfl) (fun _ _ h => orielref01_Rune_dr h) h
theorem orielref01_Put_lv (n : Nat) : (lv (n + 1)).orielref01_Put = orielref01_Put_b (lv n) n := by kernel_rfl
theorem orielref01_Put_up (x0 : Int) {Q : LL → Prop} (h : Tot (fun n _ _ => orielref01_Put_b (lv n) n x0) Q) : Tot (fun n _ _ => (lv n).orielref01_Put x0) Q := Tot.up (fun n => by rw [orielref01_Put_lv]) h
theorem orielref01_Put_ok (n : Nat) : OKo n orielref01_Put_o := fun ih {_ _ _ _ _ _} h => by
  refine rowO_ok (cl := CL n) (ea := orielref01_Put_e) (dr := orielref01_Put_d) (fun _ _ h => orielref01_Put_ae h) (fun _ _ h => orielref01_Put_dr h) (fun a v h => ?_) h
  cases n with
  | zero => cases h
  | succ n =>
    rw [orielref01_Put_lv] at h
    exact bodyK_ok noEq_ok (ih n rfl) (by kernel_rfl) (fun _ _ h => orielref01_Put_dr h) h
theorem orielref01_cut_lv (n : Nat) : (lv (n + 1)).orielref01_cut = orielref01_cut_b (lv n) n := by kernel_rfl
theorem orielref01_cut_up (x0 : ByteArray) (x1 : Int) {Q : Bool → Prop} (h : Tot (fun n _ _ => orielref01_cut_b (lv n) n x0 x1) Q) : Tot (fun n _ _ => (lv n).orielref01_cut x0 x1) Q := Tot.up (fun n => by rw [orielref01_cut_lv]) h
theorem orielref01_cut_ok (n : Nat) : OKo n orielref01_cut_o := fun ih {_ _ _ _ _ _} h => by
  refine rowO_ok (cl := CL n) (ea := orielref01_cut_e) (dr := orielref01_cut_d) (fun _ _ h => orielref01_cut_ae h) (fun _ _ h => orielref01_cut_dr h) (fun a v h => ?_) h
  cases n with
  | zero => cases h
  | succ n =>
    rw [orielref01_cut_lv] at h
    exact bodyK_ok noEq_ok (ih n rfl) (by kernel_rfl) (fun _ _ h => orielref01_cut_dr h) h
theorem orielref01_value_lv (n : Nat) : (lv (n + 1)).orielref01_value = orielref01_value_b (lv n) n := by kernel_rfl
theorem orielref01_value_up (x0 : ByteArray) (x1 x2 : Int) {Q : Int → Prop} (h : Tot (fun n _ _ => orielref01_value_b (lv n) n x0 x1 x2) Q) : Tot (fun n _ _ => (lv n).orielref01_value x0 x1 x2) Q := Tot.up (fun n => by rw [orielref01_value_lv]) h
theorem orielref01_value_ok (n : Nat) : OKo n orielref01_value_o := fun ih {_ _ _ _ _ _} h => by
  refine rowO_ok (cl := CL n) (ea := orielref01_value_e) (dr := orielref01_value_d) (fun _ _ h => orielref01_value_ae h) (fun _ _ h => orielref01_value_dr h) (fun a v h => ?_) h
  cases n with
  | zero => cases h
  | succ n =>
    rw [orielref01_value_lv] at h
    exact bodyK_ok noEq_ok (ih n rfl) (by kernel_rfl) (fun _ _ h => orielref01_value_dr h) h
theorem orielref12_Same_lv (n : Nat) : (lv (n + 1)).orielref12_Same = orielref12_Same_b (lv n) n := by kernel_rfl
theorem orielref12_Same_up (x0_0 : Int) (x0_1 x0_2 : LL) (x1_0 : Int) (x1_1 x1_2 : LL) {Q : Bool → Prop} (h : Tot (fun n _ _ => orielref12_Same_b (lv n) n x0_0 x0_1 x0_2 x1_0 x1_1 x1_2) Q) : Tot (fun n _ _ => (lv n).orielref12_Same x0_0 x0_1 x0_2 x1_0 x1_1 x1_2) Q := Tot.up (fun n => by rw [orielref12_Same_lv]) h
theorem orielref12_Same_ok (n : Nat) : OKo n orielref12_Same_o := fun ih {_ _ _ _ _ _} h => by
  refine rowO_ok (cl := CL n) (ea := orielref12_Same_e) (dr := orielref12_Same_d) (fun _ _ h => orielref12_Same_ae h) (fun _ _ h => orielref12_Same_dr h) (fun a v h => ?_) h
  cases n with
  | zero => cases h
  | succ n =>
    rw [orielref12_Same_lv] at h
    exact bodyK_ok noEq_ok (ih n rfl) (by kernel_rfl) (fun _ _ h => orielref12_Same_dr h) h
theorem orielref02_Char_lv (n : Nat) : (lv (n + 1)).orielref02_Char = orielref02_Char_b (lv n) n := by kernel_rfl
theorem orielref02_Char_up (x0 : Int) {Q : Bool → Prop} (h : Tot (fun n _ _ => orielref02_Char_b (lv n) n x0) Q) : Tot (fun n _ _ => (lv n).orielref02_Char x0) Q := Tot.up (fun n => by rw [orielref02_Char_lv]) h
theorem orielref02_Char_ok (n : Nat) : OKo n orielref02_Char_o := fun ih {_ _ _ _ _ _} h => by
  refine rowO_ok (cl := CL n) (ea := orielref02_Char_e) (dr := orielref02_Char_d) (fun _ _ h => orielref02_Char_ae h) (fun _ _ h => orielref02_Char_dr h) (fun a v h => ?_) h
  cases n with
  | zero => cases h
  | succ n =>
    rw [orielref02_Char_lv] at h
    exact bodyK_ok noEq_ok (ih n rfl) (by kernel_rfl) (fun _ _ h => orielref02_Char_dr h) h
theorem orielref02_Part_lv (n : Nat) : (lv (n + 1)).orielref02_Part = orielref02_Part_b (lv n) n := by kernel_rfl
theorem orielref02_Part_up (x0 : Int) {Q : Bool → Prop} (h : Tot (fun n _ _ => orielref02_Part_b (lv n) n x0) Q) : Tot (fun n _ _ => (lv n).orielref02_Part x0) Q := Tot.up (fun n => by rw [orielref02_Part_lv]) h
theorem orielref02_Part_ok (n : Nat) : OKo n orielref02_Part_o := fun ih {_ _ _ _ _ _} h => by
  refine rowO_ok (cl := CL n) (ea := orielref02_Part_e) (dr := orielref02_Part_d) (fun _ _ h => orielref02_Part_ae h) (fun _ _ h => orielref02_Part_dr h) (fun a v h => ?_) h
  cases n with
  | zero => cases h
  | succ n =>
    rw [orielref02_Part_lv] at h
    exact bodyK_ok noEq_ok (ih n rfl) (by kernel_rfl) (fun _ _ h => orielref02_Part_dr h) h
theorem orielref01_begins_lv (n : Nat) : (lv (n + 1)).orielref01_begins = orielref01_begins_b (lv n) n := by kernel_rfl
theorem orielref01_begins_up (x0 : ByteArray) (x1 : Int) (x2 : LL) {Q : Bool → Prop} (h : Tot (fun n _ _ => orielref01_begins_b (lv n) n x0 x1 x2) Q) : Tot (fun n _ _ => (lv n).orielref01_begins x0 x1 x2) Q := Tot.up (fun n => by rw [orielref01_begins_lv]) h
theorem orielref01_begins_ok (n : Nat) : OKo n orielref01_begins_o := fun ih {_ _ _ _ _ _} h => by
  refine rowO_ok (cl := CL n) (ea := orielref01_begins_e) (dr := orielref01_begins_d) (fun _ _ h => orielref01_begins_ae h) (fun _ _ h => orielref01_begins_dr h) (fun a v h => ?_) h
  cases n with
  | zero => cases h
  | succ n =>
    rw [orielref01_begins_lv] at h
    exact bodyK_ok noEq_ok (ih n rfl) (by kernel_rfl) (fun _ _ h => orielref01_begins_dr h) h
theorem orielref12_SameFilter_lv (n : Nat) : (lv (n + 1)).orielref12_SameFilter = orielref12_SameFilter_b (lv n) n := by kernel_rfl
theorem orielref12_SameFilter_up (x0_0 : Int) (x0_1 x0_2 x0_3 : ByteArray) (x0_4 x0_5 : LL) (x1_0 : Int) (x1_1 x1_2 x1_3 : ByteArray) (x1_4 x1_5 : LL) {Q : Bool → Prop} (h : Tot (fun n _ _ => orielref12_SameFilter_b (lv n) n x0_0 x0_1 x0_2 x0_3 x0_4 x0_5 x1_0 x1_1 x1_2 x1_3 x1_4 x1_5) Q) : Tot (fun n _ _ => (lv n).orielref12_SameFilter x0_0 x0_1 x0_2 x0_3 x0_4 x0_5 x1_0 x1_1 x1_2 x1_3 x1_4 x1_5) Q := Tot.up (fun n => by rw [orielref12_SameFilter_lv]) h
theorem orielref12_SameFilter_ok (n : Nat) : OKo n orielref12_SameFilter_o := fun ih {_ _ _ _ _ _} h => by
  refine rowO_ok (cl := CL n) (ea := orielref12_SameFilter_e) (dr := orielref12_SameFilter_d) (fun _ _ h => orielref12_SameFilter_ae h) (fun _ _ h => orielref12_SameFilter_dr h) (fun a v h => ?_) h
  cases n with
  | zero => cases h
  | succ n =>
    rw [orielref12_SameFilter_lv] at h
    exact bodyK_ok noEq_ok (ih n rfl) (by kernel_rfl) (fun _ _ h => orielref12_SameFilter_dr h) h
theorem orielref02_Blank_lv (n : Nat) : (lv (n + 1)).orielref02_Blank = orielref02_Blank_b (lv n) n := by kernel_rfl
theorem orielref02_Blank_up (x0 : Int) {Q : Bool → Prop} (h : Tot (fun n _ _ => orielref02_Blank_b (lv n) n x0) Q) : Tot (fun n _ _ => (lv n).orielref02_Blank x0) Q := Tot.up (fun n => by rw [orielref02_Blank_lv]) h
theorem orielref02_Blank_ok (n : Nat) : OKo n orielref02_Blank_o := fun ih {_ _ _ _ _ _} h => by
  refine rowO_ok (cl := CL n) (ea := orielref02_Blank_e) (dr := orielref02_Blank_d) (fun _ _ h => orielref02_Blank_ae h) (fun _ _ h => orielref02_Blank_dr h) (fun a v h => ?_) h
  cases n with
  | zero => cases h
  | succ n =>
    rw [orielref02_Blank_lv] at h
    exact bodyK_ok noEq_ok (ih n rfl) (by kernel_rfl) (fun _ _ h => orielref02_Blank_dr h) h
theorem orielref05_Find_lv (n : Nat) : (lv (n + 1)).orielref05_Find = orielref05_Find_b (lv n) n := by kernel_rfl
theorem orielref05_Find_up (x0 : ByteArray) (x1 : Int) (x2 : ByteArray) {Q : Int → Prop} (h : Tot (fun n _ _ => orielref05_Find_b (lv n) n x0 x1 x2) Q) : Tot (fun n _ _ => (lv n).orielref05_Find x0 x1 x2) Q := Tot.up (fun n => by rw [orielref05_Find_lv]) h
theorem orielref05_Find_ok (n : Nat) : OKo n orielref05_Find_o := fun ih {_ _ _ _ _ _} h => by
  refine rowO_ok (cl := CL n) (ea := orielref05_Find_e) (dr := orielref05_Find_d) (fun _ _ h => orielref05_Find_ae h) (fun _ _ h => orielref05_Find_dr h) (fun a v h => ?_) h
  cases n with
  | zero => cases h
  | succ n =>
    rw [orielref05_Find_lv] at h
    exact bodyK_ok noEq_ok (ih n rfl) (by kernel_rfl) (fun _ _ h => orielref05_Find_dr h) h
theorem lv_ok : ∀ n, ∀ {Ω : Type}, TabOK (Ω := Ω) (call Try.prog extG kp n) (orK (lv n)) := by
  intro n
  induction n with
  | zero =>
    intro Ω f l K r h
    have ih : ∀ m, 0 = m + 1 → ∀ {Ω : Type}, TabOK (Ω := Ω) (call Try.prog extG kp m) (orK (lv m)) := fun m e => by cases e
    rcases oriellaw12_PathRights_ok _ ih h with h | h
    · exact h
    rcases oriellaw12_awake_ok _ ih h with h | h
    · exact h
    rcases oriellaw12_named_ok _ ih h with h | h
    · exact h
    rcases path_Speaks_ok _ ih h with h | h
    · exact h
    rcases path_gather_path_ok _ ih h with h | h
    · exact h
    rcases path_gather_filter_ok _ ih h with h | h
    · exact h
    rcases api_Name_ok _ ih h with h | h
    · exact h
    rcases path_gather_attr_ok _ ih h with h | h
    · exact h
    rcases path_add_string_ok _ ih h with h | h
    · exact h
    rcases api_Name_2_ok _ ih h with h | h
    · exact h
    rcases api_Name_3_ok _ ih h with h | h
    · exact h
    rcases slices_Contains_string_string_ok _ ih h with h | h
    · exact h
    rcases slices_Index_string_string_ok _ ih h with h | h
    · exact h
    rcases path_Right_ok _ ih h with h | h
    · exact h
    rcases path_measured_ok _ ih h with h | h
    · exact h
    rcases path_measure_path_ok _ ih h with h | h
    · exact h
    rcases path_measure_part_ok _ ih h with h | h
    · exact h
    rcases path_add_string_2_ok _ ih h with h | h
    · exact h
    rcases path_measure_filter_ok _ ih h with h | h
    · exact h
    rcases path_shape_ok _ ih h with h | h
    · exact h
    rcases path_named_ok _ ih h with h | h
    · exact h
    rcases path_value_ok _ ih h with h | h
    · exact h
    rcases name_Plain_ok _ ih h with h | h
    · exact h
    rcases utf_All_ok _ ih h with h | h
    · exact h
    rcases char_Start_ok _ ih h with h | h
    · exact h
    rcases utf_Rune_ok _ ih h with h | h
    · exact h
    rcases char_in_ok _ ih h with h | h
    · exact h
    rcases utf_forms_ok _ ih h with h | h
    · exact h
    rcases char_All_ok _ ih h with h | h
    · exact h
    rcases utf_span_ok _ ih h with h | h
    · exact h
    rcases char_Char_ok _ ih h with h | h
    · exact h
    rcases char_Blank_ok _ ih h with h | h
    · exact h
    rcases strings_ContainsAny_ok _ ih h with h | h
    · exact h
    rcases char_Part_ok _ ih h with h | h
    · exact h
    rcases path_Size_ok _ ih h with h | h
    · exact h
    rcases orielref12_Size_ok _ ih h with h | h
    · exact h
    rcases path_Same_ok _ ih h with h | h
    · exact h
    rcases orielref12_size_ok _ ih h with h | h
    · exact h
    rcases api_Path_ok _ ih h with h | h
    · exact h
    rcases orielref12_sizeFilter_ok _ ih h with h | h
    · exact h
    rcases api_Filter_ok _ ih h with h | h
    · exact h
    rcases path_sameFilter_ok _ ih h with h | h
    · exact h
    rcases orielref12_Right_ok _ ih h with h | h
    · exact h
    rcases orielref12_path_ok _ ih h with h | h
    · exact h
    rcases orielref12_filter_ok _ ih h with h | h
    · exact h
    rcases orielref12_named_ok _ ih h with h | h
    · exact h
    rcases orielref04_Right_ok _ ih h with h | h
    · exact h
    rcases orielref03_Plain_ok _ ih h with h | h
    · exact h
    rcases orielref01_All_ok _ ih h with h | h
    · exact h
    rcases orielref02_Start_ok _ ih h with h | h
    · exact h
    rcases orielref01_Rune_ok _ ih h with h | h
    · exact h
    rcases orielref01_Put_ok _ ih h with h | h
    · exact h
    rcases orielref01_cut_ok _ ih h with h | h
    · exact h
    rcases orielref01_value_ok _ ih h with h | h
    · exact h
    rcases orielref12_Same_ok _ ih h with h | h
    · exact h
    rcases orielref02_Char_ok _ ih h with h | h
    · exact h
    rcases orielref02_Part_ok _ ih h with h | h
    · exact h
    rcases orielref01_begins_ok _ ih h with h | h
    · exact h
    rcases orielref12_SameFilter_ok _ ih h with h | h
    · exact h
    rcases orielref02_Blank_ok _ ih h with h | h
    · exact h
    rcases orielref05_Find_ok _ ih h with h | h
    · exact h
    cases h
  | succ n ih0 =>
    intro Ω f l K r h
    have ih : ∀ m, n + 1 = m + 1 → ∀ {Ω : Type}, TabOK (Ω := Ω) (call Try.prog extG kp m) (orK (lv m)) := fun m e => by cases e; exact ih0
    rcases oriellaw12_PathRights_ok _ ih h with h | h
    · exact h
    rcases oriellaw12_awake_ok _ ih h with h | h
    · exact h
    rcases oriellaw12_named_ok _ ih h with h | h
    · exact h
    rcases path_Speaks_ok _ ih h with h | h
    · exact h
    rcases path_gather_path_ok _ ih h with h | h
    · exact h
    rcases path_gather_filter_ok _ ih h with h | h
    · exact h
    rcases api_Name_ok _ ih h with h | h
    · exact h
    rcases path_gather_attr_ok _ ih h with h | h
    · exact h
    rcases path_add_string_ok _ ih h with h | h
    · exact h
    rcases api_Name_2_ok _ ih h with h | h
    · exact h
    rcases api_Name_3_ok _ ih h with h | h
    · exact h
    rcases slices_Contains_string_string_ok _ ih h with h | h
    · exact h
    rcases slices_Index_string_string_ok _ ih h with h | h
    · exact h
    rcases path_Right_ok _ ih h with h | h
    · exact h
    rcases path_measured_ok _ ih h with h | h
    · exact h
    rcases path_measure_path_ok _ ih h with h | h
    · exact h
    rcases path_measure_part_ok _ ih h with h | h
    · exact h
    rcases path_add_string_2_ok _ ih h with h | h
    · exact h
    rcases path_measure_filter_ok _ ih h with h | h
    · exact h
    rcases path_shape_ok _ ih h with h | h
    · exact h
    rcases path_named_ok _ ih h with h | h
    · exact h
    rcases path_value_ok _ ih h with h | h
    · exact h
    rcases name_Plain_ok _ ih h with h | h
    · exact h
    rcases utf_All_ok _ ih h with h | h
    · exact h
    rcases char_Start_ok _ ih h with h | h
    · exact h
    rcases utf_Rune_ok _ ih h with h | h
    · exact h
    rcases char_in_ok _ ih h with h | h
    · exact h
    rcases utf_forms_ok _ ih h with h | h
    · exact h
    rcases char_All_ok _ ih h with h | h
    · exact h
    rcases utf_span_ok _ ih h with h | h
    · exact h
    rcases char_Char_ok _ ih h with h | h
    · exact h
    rcases char_Blank_ok _ ih h with h | h
    · exact h
    rcases strings_ContainsAny_ok _ ih h with h | h
    · exact h
    rcases char_Part_ok _ ih h with h | h
    · exact h
    rcases path_Size_ok _ ih h with h | h
    · exact h
    rcases orielref12_Size_ok _ ih h with h | h
    · exact h
    rcases path_Same_ok _ ih h with h | h
    · exact h
    rcases orielref12_size_ok _ ih h with h | h
    · exact h
    rcases api_Path_ok _ ih h with h | h
    · exact h
    rcases orielref12_sizeFilter_ok _ ih h with h | h
    · exact h
    rcases api_Filter_ok _ ih h with h | h
    · exact h
    rcases path_sameFilter_ok _ ih h with h | h
    · exact h
    rcases orielref12_Right_ok _ ih h with h | h
    · exact h
    rcases orielref12_path_ok _ ih h with h | h
    · exact h
    rcases orielref12_filter_ok _ ih h with h | h
    · exact h
    rcases orielref12_named_ok _ ih h with h | h
    · exact h
    rcases orielref04_Right_ok _ ih h with h | h
    · exact h
    rcases orielref03_Plain_ok _ ih h with h | h
    · exact h
    rcases orielref01_All_ok _ ih h with h | h
    · exact h
    rcases orielref02_Start_ok _ ih h with h | h
    · exact h
    rcases orielref01_Rune_ok _ ih h with h | h
    · exact h
    rcases orielref01_Put_ok _ ih h with h | h
    · exact h
    rcases orielref01_cut_ok _ ih h with h | h
    · exact h
    rcases orielref01_value_ok _ ih h with h | h
    · exact h
    rcases orielref12_Same_ok _ ih h with h | h
    · exact h
    rcases orielref02_Char_ok _ ih h with h | h
    · exact h
    rcases orielref02_Part_ok _ ih h with h | h
    · exact h
    rcases orielref01_begins_ok _ ih h with h | h
    · exact h
    rcases orielref12_SameFilter_ok _ ih h with h | h
    · exact h
    rcases orielref02_Blank_ok _ ih h with h | h
    · exact h
    rcases orielref05_Find_ok _ ih h with h | h
    · exact h
    cases h
end Go.Vm.T
