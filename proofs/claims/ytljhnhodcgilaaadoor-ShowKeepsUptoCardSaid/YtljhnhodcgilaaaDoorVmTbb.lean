/- The functions, as the machine tells them: levels. -/
import Derived.Test.YtljhnhodcgilaaaDoorVmTab
set_option linter.unusedVariables false
set_option maxHeartbeats 4000000
set_option maxRecDepth 100000
namespace Go.Vm.T
open Go Go.Vm Go.Proofs
noncomputable def lv : Nat → Lv
  | 0 => { oriellaw15_ShowKeeps := fun _ _ _ _ _ _ => none, oriellaw15_ShowPrints := fun _ _ _ => none, oriellaw15_awake := none, show_Path := fun _ _ _ => none, show_joined := fun _ _ _ => none, show_Filter := fun _ _ _ _ _ _ => none, show_bracketed := fun _ _ _ => none, show_name := fun _ _ => none, show_quoted := fun _ => none, show_all := fun _ _ _ => none, slices_Contains_int_int := fun _ _ => none, lex_Write := fun _ _ _ _ => none, slices_Index_int_int := fun _ _ => none, orielref12_Right := fun _ _ _ => none, orielref12_Size := fun _ _ _ => none, orielref12_size := fun _ _ _ _ => none, orielref12_sizeFilter := fun _ _ _ _ _ _ _ => none, orielref12_path := fun _ _ _ _ => none, orielref12_filter := fun _ _ _ _ _ _ _ => none, orielref12_named := fun _ _ => none, orielref04_Right := fun _ => none, orielref03_Plain := fun _ => none, orielref01_All := fun _ => none, orielref02_Start := fun _ => none, orielref01_Rune := fun _ _ => none, orielref01_Put := fun _ => none, orielref01_cut := fun _ _ => none, orielref01_value := fun _ _ _ => none, orielref12_Same := fun _ _ _ _ _ _ => none, orielref12_Filters := fun _ _ _ => none, orielref02_Char := fun _ => none, orielref02_Part := fun _ => none, orielref01_begins := fun _ _ _ => none, orielref12_SameFilter := fun _ _ _ _ _ _ _ _ _ _ _ _ => none, orielref12_within := fun _ _ _ _ _ _ => none, orielref02_Blank := fun _ => none, orielref15_Filter := fun _ _ _ _ _ _ => none, orielref15_Path := fun _ _ _ => none, orielref05_Find := fun _ _ _ => none, orielref15_name := fun _ _ => none, orielref15_quoted := fun _ => none, orielref15_brackets := fun _ _ => none, orielref13_Write := fun _ _ _ _ => none }
  | n + 1 => { oriellaw15_ShowKeeps := oriellaw15_ShowKeeps_b (lv n) n, oriellaw15_ShowPrints := oriellaw15_ShowPrints_b (lv n) n, oriellaw15_awake := oriellaw15_awake_b (lv n) n, show_Path := show_Path_b (lv n) n, show_joined := show_joined_b (lv n) n, show_Filter := show_Filter_b (lv n) n, show_bracketed := show_bracketed_b (lv n) n, show_name := show_name_b (lv n) n, show_quoted := show_quoted_b (lv n) n, show_all := show_all_b (lv n) n, slices_Contains_int_int := slices_Contains_int_int_b (lv n) n, lex_Write := lex_Write_b (lv n) n, slices_Index_int_int := slices_Index_int_int_b (lv n) n, orielref12_Right := orielref12_Right_b (lv n) n, orielref12_Size := orielref12_Size_b (lv n) n, orielref12_size := orielref12_size_b (lv n) n, orielref12_sizeFilter := orielref12_sizeFilter_b (lv n) n, orielref12_path := orielref12_path_b (lv n) n, orielref12_filter := orielref12_filter_b (lv n) n, orielref12_named := orielref12_named_b (lv n) n, orielref04_Right := orielref04_Right_b (lv n) n, orielref03_Plain := orielref03_Plain_b (lv n) n, orielref01_All := orielref01_All_b (lv n) n, orielref02_Start := orielref02_Start_b (lv n) n, orielref01_Rune := orielref01_Rune_b (lv n) n, orielref01_Put := orielref01_Put_b (lv n) n, orielref01_cut := orielref01_cut_b (lv n) n, orielref01_value := orielref01_value_b (lv n) n, orielref12_Same := orielref12_Same_b (lv n) n, orielref12_Filters := orielref12_Filters_b (lv n) n, orielref02_Char := orielref02_Char_b (lv n) n, orielref02_Part := orielref02_Part_b (lv n) n, orielref01_begins := orielref01_begins_b (lv n) n, orielref12_SameFilter := orielref12_SameFilter_b (lv n) n, orielref12_within := orielref12_within_b (lv n) n, orielref02_Blank := orielref02_Blank_b (lv n) n, orielref15_Filter := orielref15_Filter_b (lv n) n, orielref15_Path := orielref15_Path_b (lv n) n, orielref05_Find := orielref05_Find_b (lv n) n, orielref15_name := orielref15_name_b (lv n) n, orielref15_quoted := orielref15_quoted_b (lv n) n, orielref15_brackets := orielref15_brackets_b (lv n) n, orielref13_Write := orielref13_Write_b (lv n) n }
noncomputable abbrev CL (n : Nat) : FuncId → List Arg → Option Res := call Tryd.prog extG kp n
def OKo (n : Nat) (o : Lv → {Ω : Type} → FuncId → List Arg → (Res → Option Ω) → Option Ω → Option Ω) : Prop := (∀ m, n = m + 1 → ∀ {Ω : Type}, TabOK (Ω := Ω) (CL m) (orK (lv m))) → ∀ {Ω : Type} {f : FuncId} {l : List Arg} {K : Res → Option Ω} {next : Option Ω} {r : Ω}, o (lv n) f l K next = some r → (∃ R, CL n f l = some R ∧ K R = some r) ∨ next = some r
theorem strings_Join_ok (n : Nat) : OKo n strings_Join_o := fun ih {_ _ _ _ _ _} h => by
  refine rowO_ok (cl := CL n) (ea := strings_Join_e) (dr := strings_Join_d) (fun _ _ h => strings_Join_ae h) (fun _ _ h => strings_Join_dr h) (fun a v h => ⟨strings_Join_r v, ext_call (by
    have h : joinV a.1 a.2 = some v := h
    unfold extG
    simp only [rowO, strings_Join_e, strings_Join_a, h, Option.bind_some]
    rfl), rfl⟩) h
theorem strings_ReplaceAll_ok (n : Nat) : OKo n strings_ReplaceAll_o := fun ih {_ _ _ _ _ _} h => by
  refine rowO_ok (cl := CL n) (ea := strings_ReplaceAll_e) (dr := strings_ReplaceAll_d) (fun _ _ h => strings_ReplaceAll_ae h) (fun _ _ h => strings_ReplaceAll_dr h) (fun a v h => ⟨strings_ReplaceAll_r v, ext_call (by
    have h : replV a.1 a.2.1 a.2.2 = some v := h
    unfold extG
    simp only [rowO, strings_ReplaceAll_e, strings_ReplaceAll_a, h, Option.bind_some]
    rfl), rfl⟩) h
theorem oriellaw15_ShowKeeps_lv (n : Nat) : (lv (n + 1)).oriellaw15_ShowKeeps = oriellaw15_ShowKeeps_b (lv n) n := by kernel_rfl
theorem oriellaw15_ShowKeeps_up (x0_0 : Int) (x0_1 x0_2 : LL) (x1_0 : Int) (x1_1 x1_2 : LL) {Q : Bool → Prop} (h : Tot (fun n _ _ => oriellaw15_ShowKeeps_b (lv n) n x0_0 x0_1 x0_2 x1_0 x1_1 x1_2) Q) : Tot (fun n _ _ => (lv n).oriellaw15_ShowKeeps x0_0 x0_1 x0_2 x1_0 x1_1 x1_2) Q := Tot.up (fun n => by rw [oriellaw15_ShowKeeps_lv]) h
theorem oriellaw15_ShowKeeps_ok (n : Nat) : OKo n oriellaw15_ShowKeeps_o := fun ih {_ _ _ _ _ _} h => by
  refine rowO_ok (cl := CL n) (ea := oriellaw15_ShowKeeps_e) (dr := oriellaw15_ShowKeeps_d) (fun _ _ h => oriellaw15_ShowKeeps_ae h) (fun _ _ h => oriellaw15_ShowKeeps_dr h) (fun a v h => ?_) h
  cases n with
  | zero => cases h
  | succ n =>
    rw [oriellaw15_ShowKeeps_lv] at h
    exact bodyK_ok noEq_ok (ih n rfl) (by kernel_rfl) (fun _ _ h => oriellaw15_ShowKeeps_dr h) h
theorem oriellaw15_ShowPrints_lv (n : Nat) : (lv (n + 1)).oriellaw15_ShowPrints = oriellaw15_ShowPrints_b (lv n) n := by kernel_rfl
theorem oriellaw15_ShowPrints_ok (n : Nat) : OKo n oriellaw15_ShowPrints_o := fun ih {_ _ _ _ _ _} h => by
  refine rowO_ok (cl := CL n) (ea := oriellaw15_ShowPrints_e) (dr := oriellaw15_ShowPrints_d) (fun _ _ h => oriellaw15_ShowPrints_ae h) (fun _ _ h => oriellaw15_ShowPrints_dr h) (fun a v h => ?_) h
  cases n with
  | zero => cases h
  | succ n =>
    rw [oriellaw15_ShowPrints_lv] at h
    exact bodyK_ok noEq_ok (ih n rfl) (by kernel_rfl) (fun _ _ h => oriellaw15_ShowPrints_dr h) h
theorem oriellaw15_awake_lv (n : Nat) : (lv (n + 1)).oriellaw15_awake = oriellaw15_awake_b (lv n) n := by kernel_rfl
theorem oriellaw15_awake_ok (n : Nat) : OKo n oriellaw15_awake_o := fun ih {_ _ _ _ _ _} h => by
  refine rowO_ok (cl := CL n) (ea := oriellaw15_awake_e) (dr := oriellaw15_awake_d) (fun _ _ h => oriellaw15_awake_ae h) (fun _ _ h => oriellaw15_awake_dr h) (fun a v h => ?_) h
  cases n with
  | zero => cases h
  | succ n =>
    rw [oriellaw15_awake_lv] at h
    exact bodyK_ok noEq_ok (ih n rfl) (by kernel_rfl) (fun _ _ h => oriellaw15_awake_dr h) h
theorem show_Path_lv (n : Nat) : (lv (n + 1)).show_Path = show_Path_b (lv n) n := by kernel_rfl
theorem show_Path_up (x0_0 : Int) (x0_1 x0_2 : LL) {Q : ByteArray → Prop} (h : Tot (fun n _ _ => show_Path_b (lv n) n x0_0 x0_1 x0_2) Q) : Tot (fun n _ _ => (lv n).show_Path x0_0 x0_1 x0_2) Q := Tot.up (fun n => by rw [show_Path_lv]) h
theorem show_Path_ok (n : Nat) : OKo n show_Path_o := fun ih {_ _ _ _ _ _} h => by
  refine rowO_ok (cl := CL n) (ea := show_Path_e) (dr := show_Path_d) (fun _ _ h => show_Path_ae h) (fun _ _ h => show_Path_dr h) (fun a v h => ?_) h
  cases n with
  | zero => cases h
  | succ n =>
    rw [show_Path_lv] at h
    exact bodyK_ok noEq_ok (ih n rfl) (by kernel_rfl) (fun _ _ h => show_Path_dr h) h
theorem show_joined_lv (n : Nat) : (lv (n + 1)).show_joined = show_joined_b (lv n) n := by kernel_rfl
theorem show_joined_up (x0 : LL) (x1 : ByteArray) (x2 : LL) {Q : ByteArray → Prop} (h : Tot (fun n _ _ => show_joined_b (lv n) n x0 x1 x2) Q) : Tot (fun n _ _ => (lv n).show_joined x0 x1 x2) Q := Tot.up (fun n => by rw [show_joined_lv]) h
theorem show_joined_ok (n : Nat) : OKo n show_joined_o := fun ih {_ _ _ _ _ _} h => by
  refine rowO_ok (cl := CL n) (ea := show_joined_e) (dr := show_joined_d) (fun _ _ h => show_joined_ae h) (fun _ _ h => show_joined_dr h) (fun a v h => ?_) h
  cases n with
  | zero => cases h
  | succ n =>
    rw [show_joined_lv] at h
    exact bodyK_ok noEq_ok (ih n rfl) (by kernel_rfl) (fun _ _ h => show_joined_dr h) h
theorem show_Filter_lv (n : Nat) : (lv (n + 1)).show_Filter = show_Filter_b (lv n) n := by kernel_rfl
theorem show_Filter_up (x0_0 : Int) (x0_1 x0_2 x0_3 : ByteArray) (x0_4 x0_5 : LL) {Q : ByteArray → Prop} (h : Tot (fun n _ _ => show_Filter_b (lv n) n x0_0 x0_1 x0_2 x0_3 x0_4 x0_5) Q) : Tot (fun n _ _ => (lv n).show_Filter x0_0 x0_1 x0_2 x0_3 x0_4 x0_5) Q := Tot.up (fun n => by rw [show_Filter_lv]) h
theorem show_Filter_ok (n : Nat) : OKo n show_Filter_o := fun ih {_ _ _ _ _ _} h => by
  refine rowO_ok (cl := CL n) (ea := show_Filter_e) (dr := show_Filter_d) (fun _ _ h => show_Filter_ae h) (fun _ _ h => show_Filter_dr h) (fun a v h => ?_) h
  cases n with
  | zero => cases h
  | succ n =>
    rw [show_Filter_lv] at h
    exact bodyK_ok noEq_ok (ih n rfl) (by kernel_rfl) (fun _ _ h => show_Filter_dr h) h
theorem show_bracketed_lv (n : Nat) : (lv (n + 1)).show_bracketed = show_bracketed_b (lv n) n := by kernel_rfl
theorem show_bracketed_up (x0 : ByteArray) (x1 : Int) (x2 : LL) {Q : ByteArray → Prop} (h : Tot (fun n _ _ => show_bracketed_b (lv n) n x0 x1 x2) Q) : Tot (fun n _ _ => (lv n).show_bracketed x0 x1 x2) Q := Tot.up (fun n => by rw [show_bracketed_lv]) h
theorem show_bracketed_ok (n : Nat) : OKo n show_bracketed_o := fun ih {_ _ _ _ _ _} h => by
  refine rowO_ok (cl := CL n) (ea := show_bracketed_e) (dr := show_bracketed_d) (fun _ _ h => show_bracketed_ae h) (fun _ _ h => show_bracketed_dr h) (fun a v h => ?_) h
  cases n with
  | zero => cases h
  | succ n =>
    rw [show_bracketed_lv] at h
    exact bodyK_ok noEq_ok (ih n rfl) (by kernel_rfl) (fun _ _ h => show_bracketed_dr h) h
theorem show_name_lv (n : Nat) : (lv (n + 1)).show_name = show_name_b (lv n) n := by kernel_rfl
theorem show_name_up (x0_0 x0_1 : ByteArray) {Q : ByteArray → Prop} (h : Tot (fun n _ _ => show_name_b (lv n) n x0_0 x0_1) Q) : Tot (fun n _ _ => (lv n).show_name x0_0 x0_1) Q := Tot.up (fun n => by rw [show_name_lv]) h
theorem show_name_ok (n : Nat) : OKo n show_name_o := fun ih {_ _ _ _ _ _} h => by
  refine rowO_ok (cl := CL n) (ea := show_name_e) (dr := show_name_d) (fun _ _ h => show_name_ae h) (fun _ _ h => show_name_dr h) (fun a v h => ?_) h
  cases n with
  | zero => cases h
  | succ n =>
    rw [show_name_lv] at h
    exact bodyK_ok noEq_ok (ih n rfl) (by kernel_rfl) (fun _ _ h => show_name_dr h) h
theorem show_quoted_lv (n : Nat) : (lv (n + 1)).show_quoted = show_quoted_b (lv n) n := by kernel_rfl
theorem show_quoted_up (x0 : ByteArray) {Q : ByteArray → Prop} (h : Tot (fun n _ _ => show_quoted_b (lv n) n x0) Q) : Tot (fun n _ _ => (lv n).show_quoted x0) Q := Tot.up (fun n => by rw [show_quoted_lv]) h
theorem show_quoted_ok (n : Nat) : OKo n show_quoted_o := fun ih {_ _ _ _ _ _} h => by
  refine rowO_ok (cl := CL n) (ea := show_quoted_e) (dr := show_quoted_d) (fun _ _ h => show_quoted_ae h) (fun _ _ h => show_quoted_dr h) (fun a v h => ?_) h
  cases n with
  | zero => cases h
  | succ n =>
    rw [show_quoted_lv] at h
    exact bodyK_ok noEq_ok (ih n rfl) (by kernel_rfl) (fun _ _ h => show_quoted_dr h) h
theorem show_all_lv (n : Nat) : (lv (n + 1)).show_all = show_all_b (lv n) n := by kernel_rfl
theorem show_all_up (x0 : LL) (x1 : ByteArray) (x2 : LL) {Q : ByteArray → Prop} (h : Tot (fun n _ _ => show_all_b (lv n) n x0 x1 x2) Q) : Tot (fun n _ _ => (lv n).show_all x0 x1 x2) Q := Tot.up (fun n => by rw [show_all_lv]) h
theorem show_all_ok (n : Nat) : OKo n show_all_o := fun ih {_ _ _ _ _ _} h => by
  refine rowO_ok (cl := CL n) (ea := show_all_e) (dr := show_all_d) (fun _ _ h => show_all_ae h) (fun _ _ h => show_all_dr h) (fun a v h => ?_) h
  cases n with
  | zero => cases h
  | succ n =>
    rw [show_all_lv] at h
    exact bodyK_ok noEq_ok (ih n rfl) (by kernel_rfl) (fun _ _ h => show_all_dr h) h
theorem slices_Contains_int_int_lv (n : Nat) : (lv (n + 1)).slices_Contains_int_int = slices_Contains_int_int_b (lv n) n := by kernel_rfl
theorem slices_Contains_int_int_up (x0 : LL) (x1 : Int) {Q : Bool → Prop} (h : Tot (fun n _ _ => slices_Contains_int_int_b (lv n) n x0 x1) Q) : Tot (fun n _ _ => (lv n).slices_Contains_int_int x0 x1) Q := Tot.up (fun n => by rw [slices_Contains_int_int_lv]) h
theorem slices_Contains_int_int_ok (n : Nat) : OKo n slices_Contains_int_int_o := fun ih {_ _ _ _ _ _} h => by
  refine rowO_ok (cl := CL n) (ea := slices_Contains_int_int_e) (dr := slices_Contains_int_int_d) (fun _ _ h => slices_Contains_int_int_ae h) (fun _ _ h => slices_Contains_int_int_dr h) (fun a v h => ?_) h
  cases n with
  | zero => cases h
  | succ n =>
    rw [slices_Contains_int_int_lv] at h
    exact bodyK_ok noEq_ok (ih n rfl) (by kernel_rfl) (fun _ _ h => slices_Contains_int_int_dr h) h
theorem lex_Write_lv (n : Nat) : (lv (n + 1)).lex_Write = lex_Write_b (lv n) n := by kernel_rfl
theorem lex_Write_up (x0_0 : Int) (x0_1 x0_2 : ByteArray) (x0_3 : Int) {Q : ByteArray → Prop} (h : Tot (fun n _ _ => lex_Write_b (lv n) n x0_0 x0_1 x0_2 x0_3) Q) : Tot (fun n _ _ => (lv n).lex_Write x0_0 x0_1 x0_2 x0_3) Q := Tot.up (fun n => by rw [lex_Write_lv]) h
theorem lex_Write_ok (n : Nat) : OKo n lex_Write_o := fun ih {_ _ _ _ _ _} h => by
  refine rowO_ok (cl := CL n) (ea := lex_Write_e) (dr := lex_Write_d) (fun _ _ h => lex_Write_ae h) (fun _ _ h => lex_Write_dr h) (fun a v h => ?_) h
  cases n with
  | zero => cases h
  | succ n =>
    rw [lex_Write_lv] at h
    exact bodyK_ok noEq_ok (ih n rfl) (by kernel_rfl) (fun _ _ h => lex_Write_dr h) h
theorem slices_Index_int_int_lv (n : Nat) : (lv (n + 1)).slices_Index_int_int = slices_Index_int_int_b (lv n) n := by kernel_rfl
theorem slices_Index_int_int_up (x0 : LL) (x1 : Int) {Q : Int → Prop} (h : Tot (fun n _ _ => slices_Index_int_int_b (lv n) n x0 x1) Q) : Tot (fun n _ _ => (lv n).slices_Index_int_int x0 x1) Q := Tot.up (fun n => by rw [slices_Index_int_int_lv]) h
theorem slices_Index_int_int_ok (n : Nat) : OKo n slices_Index_int_int_o := fun ih {_ _ _ _ _ _} h => by
  refine rowO_ok (cl := CL n) (ea := slices_Index_int_int_e) (dr := slices_Index_int_int_d) (fun _ _ h => slices_Index_int_int_ae h) (fun _ _ h => slices_Index_int_int_dr h) (fun a v h => ?_) h
  cases n with
  | zero => cases h
  | succ n =>
    rw [slices_Index_int_int_lv] at h
    exact bodyK_ok noEq_ok (ih n rfl) (by kernel_rfl) (fun _ _ h => slices_Index_int_int_dr h) h
theorem orielref12_Right_lv (n : Nat) : (lv (n + 1)).orielref12_Right = orielref12_Right_b (lv n) n := by kernel_rfl
theorem orielref12_Right_up (x0_0 : Int) (x0_1 x0_2 : LL) {Q : Bool → Prop} (h : Tot (fun n _ _ => orielref12_Right_b (lv n) n x0_0 x0_1 x0_2) Q) : Tot (fun n _ _ => (lv n).orielref12_Right x0_0 x0_1 x0_2) Q := Tot.up (fun n => by rw [orielref12_Right_lv]) h
theorem orielref12_Right_ok (n : Nat) : OKo n orielref12_Right_o := fun ih {_ _ _ _ _ _} h => by
  refine rowO_ok (cl := CL n) (ea := orielref12_Right_e) (dr := orielref12_Right_d) (fun _ _ h => orielref12_Right_ae h) (fun _ _ h => orielref12_Right_dr h) (fun a v h => ?_) h
  cases n with
  | zero => cases h
  | succ n =>
    rw [orielref12_Right_lv] at h
    exact bodyK_ok noEq_ok (ih n rfl) (by kernel_rfl) (fun _ _ h => orielref12_Right_dr h) h
theorem orielref12_Size_lv (n : Nat) : (lv (n + 1)).orielref12_Size = orielref12_Size_b (lv n) n := by kernel_rfl
theorem orielref12_Size_up (x0_0 : Int) (x0_1 x0_2 : LL) {Q : Int → Prop} (h : Tot (fun n _ _ => orielref12_Size_b (lv n) n x0_0 x0_1 x0_2) Q) : Tot (fun n _ _ => (lv n).orielref12_Size x0_0 x0_1 x0_2) Q := Tot.up (fun n => by rw [orielref12_Size_lv]) h
theorem orielref12_Size_ok (n : Nat) : OKo n orielref12_Size_o := fun ih {_ _ _ _ _ _} h => by
  refine rowO_ok (cl := CL n) (ea := orielref12_Size_e) (dr := orielref12_Size_d) (fun _ _ h => orielref12_Size_ae h) (fun _ _ h => orielref12_Size_dr h) (fun a v h => ?_) h
  cases n with
  | zero => cases h
  | succ n =>
    rw [orielref12_Size_lv] at h
    exact bodyK_ok noEq_ok (ih n rfl) (by kernel_rfl) (fun _ _ h => orielref12_Size_dr h) h
theorem orielref12_size_lv (n : Nat) : (lv (n + 1)).orielref12_size = orielref12_size_b (lv n) n := by kernel_rfl
theorem orielref12_size_up (x0_0 : Int) (x0_1 x0_2 : LL) (x1 : Int) {Q : Int → Prop} (h : Tot (fun n _ _ => orielref12_size_b (lv n) n x0_0 x0_1 x0_2 x1) Q) : Tot (fun n _ _ => (lv n).orielref12_size x0_0 x0_1 x0_2 x1) Q := Tot.up (fun n => by rw [orielref12_size_lv]) h
theorem orielref12_size_ok (n : Nat) : OKo n orielref12_size_o := fun ih {_ _ _ _ _ _} h => by
  refine rowO_ok (cl := CL n) (ea := orielref12_size_e) (dr := orielref12_size_d) (fun _ _ h => orielref12_size_ae h) (fun _ _ h => orielref12_size_dr h) (fun a v h => ?_) h
  cases n with
  | zero => cases h
  | succ n =>
    rw [orielref12_size_lv] at h
    exact bodyK_ok noEq_ok (ih n rfl) (by kernel_rfl) (fun _ _ h => orielref12_size_dr h) h
theorem orielref12_sizeFilter_lv (n : Nat) : (lv (n + 1)).orielref12_sizeFilter = orielref12_sizeFilter_b (lv n) n := by kernel_rfl
theorem orielref12_sizeFilter_up (x0_0 : Int) (x0_1 x0_2 x0_3 : ByteArray) (x0_4 x0_5 : LL) (x1 : Int) {Q : Int → Prop} (h : Tot (fun n _ _ => orielref12_sizeFilter_b (lv n) n x0_0 x0_1 x0_2 x0_3 x0_4 x0_5 x1) Q) : Tot (fun n _ _ => (lv n).orielref12_sizeFilter x0_0 x0_1 x0_2 x0_3 x0_4 x0_5 x1) Q := Tot.up (fun n => by rw [orielref12_sizeFilter_lv]) h
theorem orielref12_sizeFilter_ok (n : Nat) : OKo n orielref12_sizeFilter_o := fun ih {_ _ _ _ _ _} h => by
  refine rowO_ok (cl := CL n) (ea := orielref12_sizeFilter_e) (dr := orielref12_sizeFilter_d) (fun _ _ h => orielref12_sizeFilter_ae h) (fun _ _ h => orielref12_sizeFilter_dr h) (fun a v h => ?_) h
  cases n with
  | zero => cases h
  | succ n =>
    rw [orielref12_sizeFilter_lv] at h
    exact bodyK_ok noEq_ok (ih n rfl) (by kernel_rfl) (fun _ _ h => orielref12_sizeFilter_dr h) h
theorem orielref12_path_lv (n : Nat) : (lv (n + 1)).orielref12_path = orielref12_path_b (lv n) n := by kernel_rfl
theorem orielref12_path_up (x0_0 : Int) (x0_1 x0_2 : LL) (x1 : Int) {Q : Bool → Prop} (h : Tot (fun n _ _ => orielref12_path_b (lv n) n x0_0 x0_1 x0_2 x1) Q) : Tot (fun n _ _ => (lv n).orielref12_path x0_0 x0_1 x0_2 x1) Q := Tot.up (fun n => by rw [orielref12_path_lv]) h
theorem orielref12_path_ok (n : Nat) : OKo n orielref12_path_o := fun ih {_ _ _ _ _ _} h => by
  refine rowO_ok (cl := CL n) (ea := orielref12_path_e) (dr := orielref12_path_d) (fun _ _ h => orielref12_path_ae h) (fun _ _ h => orielref12_path_dr h) (fun a v h => ?_) h
  cases n with
  | zero => cases h
  | succ n =>
    rw [orielref12_path_lv] at h
    exact bodyK_ok noEq_ok (ih n rfl) (by kernel_rfl) (fun _ _ h => orielref12_path_dr h) h
theorem orielref12_filter_lv (n : Nat) : (lv (n + 1)).orielref12_filter = orielref12_filter_b (lv n) n := by kernel_rfl
theorem orielref12_filter_up (x0_0 : Int) (x0_1 x0_2 x0_3 : ByteArray) (x0_4 x0_5 : LL) (x1 : Int) {Q : Bool → Prop} (h : Tot (fun n _ _ => orielref12_filter_b (lv n) n x0_0 x0_1 x0_2 x0_3 x0_4 x0_5 x1) Q) : Tot (fun n _ _ => (lv n).orielref12_filter x0_0 x0_1 x0_2 x0_3 x0_4 x0_5 x1) Q := Tot.up (fun n => by rw [orielref12_filter_lv]) h
theorem orielref12_filter_ok (n : Nat) : OKo n orielref12_filter_o := fun ih {_ _ _ _ _ _} h => by
  refine rowO_ok (cl := CL n) (ea := orielref12_filter_e) (dr := orielref12_filter_d) (fun _ _ h => orielref12_filter_ae h) (fun _ _ h => orielref12_filter_dr h) (fun a v h => ?_) h
  cases n with
  | zero => cases h
  | succ n =>
    rw [orielref12_filter_lv] at h
    exact bodyK_ok noEq_ok (ih n rfl) (by kernel_rfl) (fun _ _ h => orielref12_filter_dr h) h
theorem orielref12_named_lv (n : Nat) : (lv (n + 1)).orielref12_named = orielref12_named_b (lv n) n := by kernel_rfl
theorem orielref12_named_up (x0_0 x0_1 : ByteArray) {Q : Bool → Prop} (h : Tot (fun n _ _ => orielref12_named_b (lv n) n x0_0 x0_1) Q) : Tot (fun n _ _ => (lv n).orielref12_named x0_0 x0_1) Q := Tot.up (fun n => by rw [orielref12_named_lv]) h
theorem orielref12_named_ok (n : Nat) : OKo n orielref12_named_o := fun ih {_ _ _ _ _ _} h => by
  refine rowO_ok (cl := CL n) (ea := orielref12_named_e) (dr := orielref12_named_d) (fun _ _ h => orielref12_named_ae h) (fun _ _ h => orielref12_named_dr h) (fun a v h => ?_) h
  cases n with
  | zero => cases h
  | succ n =>
    rw [orielref12_named_lv] at h
    exact bodyK_ok noEq_ok (ih n rfl) (by kernel_rfl) (fun _ _ h => orielref12_named_dr h) h
theorem orielref04_Right_lv (n : Nat) : (lv (n + 1)).orielref04_Right = orielref04_Right_b (lv n) n := by kernel_rfl
theorem orielref04_Right_up (x0 : ByteArray) {Q : Bool → Prop} (h : Tot (fun n _ _ => orielref04_Right_b (lv n) n x0) Q) : Tot (fun n _ _ => (lv n).orielref04_Right x0) Q := Tot.up (fun n => by rw [orielref04_Right_lv]) h
theorem orielref04_Right_ok (n : Nat) : OKo n orielref04_Right_o := fun ih {_ _ _ _ _ _} h => by
  refine rowO_ok (cl := CL n) (ea := orielref04_Right_e) (dr := orielref04_Right_d) (fun _ _ h => orielref04_Right_ae h) (fun _ _ h => orielref04_Right_dr h) (fun a v h => ?_) h
  cases n with
  | zero => cases h
  | succ n =>
    rw [orielref04_Right_lv] at h
    exact bodyK_ok noEq_ok (ih n rfl) (by kernel_rfl) (fun _ _ h => orielref04_Right_dr h) h
theorem orielref03_Plain_lv (n : Nat) : (lv (n + 1)).orielref03_Plain = orielref03_Plain_b (lv n) n := by kernel_rfl
theorem orielref03_Plain_up (x0 : ByteArray) {Q : Bool → Prop} (h : Tot (fun n _ _ => orielref03_Plain_b (lv n) n x0) Q) : Tot (fun n _ _ => (lv n).orielref03_Plain x0) Q := Tot.up (fun n => by rw [orielref03_Plain_lv]) h
theorem orielref03_Plain_ok (n : Nat) : OKo n orielref03_Plain_o := fun ih {_ _ _ _ _ _} h => by
  refine rowO_ok (cl := CL n) (ea := orielref03_Plain_e) (dr := orielref03_Plain_d) (fun _ _ h => orielref03_Plain_ae h) (fun _ _ h => orielref03_Plain_dr h) (fun a v h => ?_) h
  cases n with
  | zero => cases h
  | succ n =>
    rw [orielref03_Plain_lv] at h
    exact bodyK_ok noEq_ok (ih n rfl) (by kernel_rfl) (fun _ _ h => orielref03_Plain_dr h) h
theorem orielref01_All_lv (n : Nat) : (lv (n + 1)).orielref01_All = orielref01_All_b (lv n) n := by kernel_rfl
theorem orielref01_All_up (x0 : ByteArray) {Q : (LL × Int × Int) → Prop} (h : Tot (fun n _ _ => orielref01_All_b (lv n) n x0) Q) : Tot (fun n _ _ => (lv n).orielref01_All x0) Q := Tot.up (fun n => by rw [orielref01_All_lv]) h
theorem orielref01_All_ok (n : Nat) : OKo n orielref01_All_o := fun ih {_ _ _ _ _ _} h => by
  refine rowO_ok (cl := CL n) (ea := orielref01_All_e) (dr := orielref01_All_d) (fun _ _ h => orielref01_All_ae h) (fun _ _ h => orielref01_All_dr h) (fun a v h => ?_) h
  cases n with
  | zero => cases h
  | succ n =>
    rw [orielref01_All_lv] at h
    exact bodyK_ok noEq_ok (ih n rfl) (by kernel_rfl) (fun _ _ h => orielref01_All_dr h) h
theorem orielref02_Start_lv (n : Nat) : (lv (n + 1)).orielref02_Start = orielref02_Start_b (lv n) n := by kernel_rfl
theorem orielref02_Start_up (x0 : Int) {Q : Bool → Prop} (h : Tot (fun n _ _ => orielref02_Start_b (lv n) n x0) Q) : Tot (fun n _ _ => (lv n).orielref02_Start x0) Q := Tot.up (fun n => by rw [orielref02_Start_lv]) h
theorem orielref02_Start_ok (n : Nat) : OKo n orielref02_Start_o := fun ih {_ _ _ _ _ _} h => by
  refine rowO_ok (cl := CL n) (ea := orielref02_Start_e) (dr := orielref02_Start_d) (fun _ _ h => orielref02_Start_ae h) (fun _ _ h => orielref02_Start_dr h) (fun a v h => ?_) h
  cases n with
  | zero => cases h
  | succ n =>
    rw [orielref02_Start_lv] at h
    exact bodyK_ok noEq_ok (ih n rfl) (by kernel_rfl) (fun _ _ h => orielref02_Start_dr h) h
theorem orielref01_Rune_lv (n : Nat) : (lv (n + 1)).orielref01_Rune = orielref01_Rune_b (lv n) n := by kernel_rfl
theorem orielref01_Rune_up (x0 : ByteArray) (x1 : Int) {Q : (Int × Int × Int) → Prop} (h : Tot (fun n _ _ => orielref01_Rune_b (lv n) n x0 x1) Q) : Tot (fun n _ _ => (lv n).orielref01_Rune x0 x1) Q := Tot.up (fun n => by rw [orielref01_Rune_lv]) h
theorem orielref01_Rune_ok (n : Nat) : OKo n orielref01_Rune_o := fun ih {_ _ _ _ _ _} h => by
  refine rowO_ok (cl := CL n) (ea := orielref01_Rune_e) (dr := orielref01_Rune_d) (fun _ _ h => orielref01_Rune_ae h) (fun _ _ h => orielref01_Rune_dr h) (fun a v h => ?_) h
  cases n with
  | zero => cases h
  | succ n =>
    rw [orielref01_Rune_lv] at h
    exact bodyK_ok noEq_ok (ih n rfl) (by kernel_rfl) (fun _ _ h => orielref01_Rune_dr h) h
theorem orielref01_Put_lv (n : Nat) : (lv (n + 1)).orielref01_Put = orielref01_Put_b (lv n) n := by kernel_rfl
theorem orielref01_Put_up (x0 : Int) {Q : LL → Prop} (h : Tot (fun n _ _ => orielref01_Put_b (lv n) n x0) Q) : Tot (fun n _ _ => (lv n).orielref01_Put x0) Q := Tot.up (fun n => by rw [orielref01_Put_lv]) h
theorem orielref01_Put_ok (n : Nat) : OKo n orielref01_Put_o := fun ih {_ _ _ _ _ _} h => by
  refine rowO_ok (cl := CL n) (ea := orielref01_Put_e) (dr := orielref01_Put_d) (fun _ _ h => orielref01_Put_ae h) (fun _ _ h => orielref01_Put_dr h) (fun a v h => ?_) h
  cases n with
  | zero => cases h
  | succ n =>
    rw [orielref01_Put_lv] at h
    exact bodyK_ok noEq_ok (ih n rfl) (by kernel_rfl) (fun _ _ h => orielref01_Put_dr h) h
theorem orielref01_cut_lv (n : Nat) : (lv (n + 1)).orielref01_cut = orielref01_cut_b (lv n) n := by kernel_rfl
theorem orielref01_cut_up (x0 : ByteArray) (x1 : Int) {Q : Bool → Prop} (h : Tot (fun n _ _ => orielref01_cut_b (lv n) n x0 x1) Q) : Tot (fun n _ _ => (lv n).orielref01_cut x0 x1) Q := Tot.up (fun n => by rw [orielref01_cut_lv]) h
theorem orielref01_cut_ok (n : Nat) : OKo n orielref01_cut_o := fun ih {_ _ _ _ _ _} h => by
  refine rowO_ok (cl := CL n) (ea := orielref01_cut_e) (dr := orielref01_cut_d) (fun _ _ h => orielref01_cut_ae h) (fun _ _ h => orielref01_cut_dr h) (fun a v h => ?_) h
  cases n with
  | zero => cases h
  | succ n =>
    rw [orielref01_cut_lv] at h
    exact bodyK_ok noEq_ok (ih n rfl) (by kernel_rfl) (fun _ _ h => orielref01_cut_dr h) h
theorem orielref01_value_lv (n : Nat) : (lv (n + 1)).orielref01_value = orielref01_value_b (lv n) n := by kernel_rfl
theorem orielref01_value_up (x0 : ByteArray) (x1 x2 : Int) {Q : Int → Prop} (h : Tot (fun n _ _ => orielref01_value_b (lv n) n x0 x1 x2) Q) : Tot (fun n _ _ => (lv n).orielref01_value x0 x1 x2) Q := Tot.up (fun n => by rw [orielref01_value_lv]) h
theorem orielref01_value_ok (n : Nat) : OKo n orielref01_value_o := fun ih {_ _ _ _ _ _} h => by
  refine rowO_ok (cl := CL n) (ea := orielref01_value_e) (dr := orielref01_value_d) (fun _ _ h => orielref01_value_ae h) (fun _ _ h => orielref01_value_dr h) (fun a v h => ?_) h
  cases n with
  | zero => cases h
  | succ n =>
    rw [orielref01_value_lv] at h
    exact bodyK_ok noEq_ok (ih n rfl) (by kernel_rfl) (fun _ _ h => orielref01_value_dr h) h
theorem orielref12_Same_lv (n : Nat) : (lv (n + 1)).orielref12_Same = orielref12_Same_b (lv n) n := by kernel_rfl
theorem orielref12_Same_up (x0_0 : Int) (x0_1 x0_2 : LL) (x1_0 : Int) (x1_1 x1_2 : LL) {Q : Bool → Prop} (h : Tot (fun n _ _ => orielref12_Same_b (lv n) n x0_0 x0_1 x0_2 x1_0 x1_1 x1_2) Q) : Tot (fun n _ _ => (lv n).orielref12_Same x0_0 x0_1 x0_2 x1_0 x1_1 x1_2) Q := Tot.up (fun n => by rw [orielref12_Same_lv]) h
theorem orielref12_Same_ok (n : Nat) : OKo n orielref12_Same_o := fun ih {_ _ _ _ _ _} h => by
  refine rowO_ok (cl := CL n) (ea := orielref12_Same_e) (dr := orielref12_Same_d) (fun _ _ h => orielref12_Same_ae h) (fun _ _ h => orielref12_Same_dr h) (fun a v h => ?_) h
  cases n with
  | zero => cases h
  | succ n =>
    rw [orielref12_Same_lv] at h
    exact bodyK_ok noEq_ok (ih n rfl) (by kernel_rfl) (fun _ _ h => orielref12_Same_dr h) h
theorem orielref12_Filters_lv (n : Nat) : (lv (n + 1)).orielref12_Filters = orielref12_Filters_b (lv n) n := by kernel_rfl
theorem orielref12_Filters_ok (n : Nat) : OKo n orielref12_Filters_o := fun ih {_ _ _ _ _ _} h => by
  refine rowO_ok (cl := CL n) (ea := orielref12_Filters_e) (dr := orielref12_Filters_d) (fun _ _ h => orielref12_Filters_ae h) (fun _ _ h => orielref12_Filters_dr h) (fun a v h => ?_) h
  cases n with
  | zero => cases h
  | succ n =>
    rw [orielref12_Filters_lv] at h
    exact bodyK_ok noEq_ok (ih n rfl) (by kernel_rfl) (fun _ _ h => orielref12_Filters_dr h) h
theorem orielref02_Char_lv (n : Nat) : (lv (n + 1)).orielref02_Char = orielref02_Char_b (lv n) n := by kernel_rfl
theorem orielref02_Char_up (x0 : Int) {Q : Bool → Prop} (h : Tot (fun n _ _ => orielref02_Char_b (lv n) n x0) Q) : Tot (fun n _ _ => (lv n).orielref02_Char x0) Q := Tot.up (fun n => by rw [orielref02_Char_lv]) h
theorem orielref02_Char_ok (n : Nat) : OKo n orielref02_Char_o := fun ih {_ _ _ _ _ _} h => by
  refine rowO_ok (cl := CL n) (ea := orielref02_Char_e) (dr := orielref02_Char_d) (fun _ _ h => orielref02_Char_ae h) (fun _ _ h => orielref02_Char_dr h) (fun a v h => ?_) h
  cases n with
  | zero => cases h
  | succ n =>
    rw [orielref02_Char_lv] at h
    exact bodyK_ok noEq_ok (ih n rfl) (by kernel_rfl) (fun _ _ h => orielref02_Char_dr h) h
theorem orielref02_Part_lv (n : Nat) : (lv (n + 1)).orielref02_Part = orielref02_Part_b (lv n) n := by kernel_rfl
theorem orielref02_Part_up (x0 : Int) {Q : Bool → Prop} (h : Tot (fun n _ _ => orielref02_Part_b (lv n) n x0) Q) : Tot (fun n _ _ => (lv n).orielref02_Part x0) Q := Tot.up (fun n => by rw [orielref02_Part_lv]) h
theorem orielref02_Part_ok (n : Nat) : OKo n orielref02_Part_o := fun ih {_ _ _ _ _ _} h => by
  refine rowO_ok (cl := CL n) (ea := orielref02_Part_e) (dr := orielref02_Part_d) (fun _ _ h => orielref02_Part_ae h) (fun _ _ h => orielref02_Part_dr h) (fun a v h => ?_) h
  cases n with
  | zero => cases h
  | succ n =>
    rw [orielref02_Part_lv] at h
    exact bodyK_ok noEq_ok (ih n rfl) (by kernel_rfl) (fun _ _ h => orielref02_Part_dr h) h
theorem orielref01_begins_lv (n : Nat) : (lv (n + 1)).orielref01_begins = orielref01_begins_b (lv n) n := by kernel_rfl
theorem orielref01_begins_up (x0 : ByteArray) (x1 : Int) (x2 : LL) {Q : Bool → Prop} (h : Tot (fun n _ _ => orielref01_begins_b (lv n) n x0 x1 x2) Q) : Tot (fun n _ _ => (lv n).orielref01_begins x0 x1 x2) Q := Tot.up (fun n => by rw [orielref01_begins_lv]) h
theorem orielref01_begins_ok (n : Nat) : OKo n orielref01_begins_o := fun ih {_ _ _ _ _ _} h => by
  refine rowO_ok (cl := CL n) (ea := orielref01_begins_e) (dr := orielref01_begins_d) (fun _ _ h => orielref01_begins_ae h) (fun _ _ h => orielref01_begins_dr h) (fun a v h => ?_) h
  cases n with
  | zero => cases h
  | succ n =>
    rw [orielref01_begins_lv] at h
    exact bodyK_ok noEq_ok (ih n rfl) (by kernel_rfl) (fun _ _ h => orielref01_begins_dr h) h
theorem orielref12_SameFilter_lv (n : Nat) : (lv (n + 1)).orielref12_SameFilter = orielref12_SameFilter_b (lv n) n := by kernel_rfl
theorem orielref12_SameFilter_up (x0_0 : Int) (x0_1 x0_2 x0_3 : ByteArray) (x0_4 x0_5 : LL) (x1_0 : Int) (x1_1 x1_2 x1_3 : ByteArray) (x1_4 x1_5 : LL) {Q : Bool → Prop} (h : Tot (fun n _ _ => orielref12_SameFilter_b (lv n) n x0_0 x0_1 x0_2 x0_3 x0_4 x0_5 x1_0 x1_1 x1_2 x1_3 x1_4 x1_5) Q) : Tot (fun n _ _ => (lv n).orielref12_SameFilter x0_0 x0_1 x0_2 x0_3 x0_4 x0_5 x1_0 x1_1 x1_2 x1_3 x1_4 x1_5) Q := Tot.up (fun n => by rw [orielref12_SameFilter_lv]) h
theorem orielref12_SameFilter_ok (n : Nat) : OKo n orielref12_SameFilter_o := fun ih {_ _ _ _ _ _} h => by
  refine rowO_ok (cl := CL n) (ea := orielref12_SameFilter_e) (dr := orielref12_SameFilter_d) (fun _ _ h => orielref12_SameFilter_ae h) (fun _ _ h => orielref12_SameFilter_dr h) (fun a v h => ?_) h
  cases n with
  | zero => cases h
  | succ n =>
    rw [orielref12_SameFilter_lv] at h
    exact bodyK_ok noEq_ok (ih n rfl) (by kernel_rfl) (fun _ _ h => orielref12_SameFilter_dr h) h
theorem orielref12_within_lv (n : Nat) : (lv (n + 1)).orielref12_within = orielref12_within_b (lv n) n := by kernel_rfl
theorem orielref12_within_ok (n : Nat) : OKo n orielref12_within_o := fun ih {_ _ _ _ _ _} h => by
  refine rowO_ok (cl := CL n) (ea := orielref12_within_e) (dr := orielref12_within_d) (fun _ _ h => orielref12_within_ae h) (fun _ _ h => orielref12_within_dr h) (fun a v h => ?_) h
  cases n with
  | zero => cases h
  | succ n =>
    rw [orielref12_within_lv] at h
    exact bodyK_ok noEq_ok (ih n rfl) (by kernel_rfl) (fun _ _ h => orielref12_within_dr h) h
theorem orielref02_Blank_lv (n : Nat) : (lv (n + 1)).orielref02_Blank = orielref02_Blank_b (lv n) n := by kernel_rfl
theorem orielref02_Blank_up (x0 : Int) {Q : Bool → Prop} (h : Tot (fun n _ _ => orielref02_Blank_b (lv n) n x0) Q) : Tot (fun n _ _ => (lv n).orielref02_Blank x0) Q := Tot.up (fun n => by rw [orielref02_Blank_lv]) h
theorem orielref02_Blank_ok (n : Nat) : OKo n orielref02_Blank_o := fun ih {_ _ _ _ _ _} h => by
  refine rowO_ok (cl := CL n) (ea := orielref02_Blank_e) (dr := orielref02_Blank_d) (fun _ _ h => orielref02_Blank_ae h) (fun _ _ h => orielref02_Blank_dr h) (fun a v h => ?_) h
  cases n with
  | zero => cases h
  | succ n =>
    rw [orielref02_Blank_lv] at h
    exact bodyK_ok noEq_ok (ih n rfl) (by kernel_rfl) (fun _ _ h => orielref02_Blank_dr h) h
theorem orielref15_Filter_lv (n : Nat) : (lv (n + 1)).orielref15_Filter = orielref15_Filter_b (lv n) n := by kernel_rfl
theorem orielref15_Filter_up (x0_0 : Int) (x0_1 x0_2 x0_3 : ByteArray) (x0_4 x0_5 : LL) {Q : ByteArray → Prop} (h : Tot (fun n _ _ => orielref15_Filter_b (lv n) n x0_0 x0_1 x0_2 x0_3 x0_4 x0_5) Q) : Tot (fun n _ _ => (lv n).orielref15_Filter x0_0 x0_1 x0_2 x0_3 x0_4 x0_5) Q := Tot.up (fun n => by rw [orielref15_Filter_lv]) h
theorem orielref15_Filter_ok (n : Nat) : OKo n orielref15_Filter_o := fun ih {_ _ _ _ _ _} h => by
  refine rowO_ok (cl := CL n) (ea := orielref15_Filter_e) (dr := orielref15_Filter_d) (fun _ _ h => orielref15_Filter_ae h) (fun _ _ h => orielref15_Filter_dr h) (fun a v h => ?_) h
  cases n with
  | zero => cases h
  | succ n =>
    rw [orielref15_Filter_lv] at h
    exact bodyK_ok noEq_ok (ih n rfl) (by kernel_rfl) (fun _ _ h => orielref15_Filter_dr h) h
theorem orielref15_Path_lv (n : Nat) : (lv (n + 1)).orielref15_Path = orielref15_Path_b (lv n) n := by kernel_rfl
theorem orielref15_Path_up (x0_0 : Int) (x0_1 x0_2 : LL) {Q : ByteArray → Prop} (h : Tot (fun n _ _ => orielref15_Path_b (lv n) n x0_0 x0_1 x0_2) Q) : Tot (fun n _ _ => (lv n).orielref15_Path x0_0 x0_1 x0_2) Q := Tot.up (fun n => by rw [orielref15_Path_lv]) h
theorem orielref15_Path_ok (n : Nat) : OKo n orielref15_Path_o := fun ih {_ _ _ _ _ _} h => by
  refine rowO_ok (cl := CL n) (ea := orielref15_Path_e) (dr := orielref15_Path_d) (fun _ _ h => orielref15_Path_ae h) (fun _ _ h => orielref15_Path_dr h) (fun a v h => ?_) h
  cases n with
  | zero => cases h
  | succ n =>
    rw [orielref15_Path_lv] at h
    exact bodyK_ok noEq_ok (ih n rfl) (by kernel_rfl) (fun _ _ h => orielref15_Path_dr h) h
theorem orielref05_Find_lv (n : Nat) : (lv (n + 1)).orielref05_Find = orielref05_Find_b (lv n) n := by kernel_rfl
theorem orielref05_Find_up (x0 : ByteArray) (x1 : Int) (x2 : ByteArray) {Q : Int → Prop} (h : Tot (fun n _ _ => orielref05_Find_b (lv n) n x0 x1 x2) Q) : Tot (fun n _ _ => (lv n).orielref05_Find x0 x1 x2) Q := Tot.up (fun n => by rw [orielref05_Find_lv]) h
theorem orielref05_Find_ok (n : Nat) : OKo n orielref05_Find_o := fun ih {_ _ _ _ _ _} h => by
  refine rowO_ok (cl := CL n) (ea := orielref05_Find_e) (dr := orielref05_Find_d) (fun _ _ h => orielref05_Find_ae h) (fun _ _ h => orielref05_Find_dr h) (fun a v h => ?_) h
  cases n with
  | zero => cases h
  | succ n =>
    rw [orielref05_Find_lv] at h
    exact bodyK_ok noEq_ok (ih n rfl) (by kernel_rfl) (fun _ _ h => orielref05_Find_dr h) h
theorem orielref15_name_lv (n : Nat) : (lv (n + 1)).orielref15_name = orielref15_name_b (lv n) n := by kernel_rfl
theorem orielref15_name_up (x0_0 x0_1 : ByteArray) {Q : ByteArray → Prop} (h : Tot (fun n _ _ => orielref15_name_b (lv n) n x0_0 x0_1) Q) : Tot (fun n _ _ => (lv n).orielref15_name x0_0 x0_1) Q := Tot.up (fun n => by rw [orielref15_name_lv]) h
theorem orielref15_name_ok (n : Nat) : OKo n orielref15_name_o := fun ih {_ _ _ _ _ _} h => by
  refine rowO_ok (cl := CL n) (ea := orielref15_name_e) (dr := orielref15_name_d) (fun _ _ h => orielref15_name_ae h) (fun _ _ h => orielref15_name_dr h) (fun a v h => ?_) h
  cases n with
  | zero => cases h
  | succ n =>
    rw [orielref15_name_lv] at h
    exact bodyK_ok noEq_ok (ih n rfl) (by kernel_rfl) (fun _ _ h => orielref15_name_dr h) h
theorem orielref15_quoted_lv (n : Nat) : (lv (n + 1)).orielref15_quoted = orielref15_quoted_b (lv n) n := by kernel_rfl
theorem orielref15_quoted_up (x0 : ByteArray) {Q : ByteArray → Prop} (h : Tot (fun n _ _ => orielref15_quoted_b (lv n) n x0) Q) : Tot (fun n _ _ => (lv n).orielref15_quoted x0) Q := Tot.up (fun n => by rw [orielref15_quoted_lv]) h
theorem orielref15_quoted_ok (n : Nat) : OKo n orielref15_quoted_o := fun ih {_ _ _ _ _ _} h => by
  refine rowO_ok (cl := CL n) (ea := orielref15_quoted_e) (dr := orielref15_quoted_d) (fun _ _ h => orielref15_quoted_ae h) (fun _ _ h => orielref15_quoted_dr h) (fun a v h => ?_) h
  cases n with
  | zero => cases h
  | succ n =>
    rw [orielref15_quoted_lv] at h
    exact bodyK_ok noEq_ok (ih n rfl) (by kernel_rfl) (fun _ _ h => orielref15_quoted_dr h) h
theorem orielref15_brackets_lv (n : Nat) : (lv (n + 1)).orielref15_brackets = orielref15_brackets_b (lv n) n := by kernel_rfl
theorem orielref15_brackets_up (x0 : ByteArray) (x1 : Bool) {Q : ByteArray → Prop} (h : Tot (fun n _ _ => orielref15_brackets_b (lv n) n x0 x1) Q) : Tot (fun n _ _ => (lv n).orielref15_brackets x0 x1) Q := Tot.up (fun n => by rw [orielref15_brackets_lv]) h
theorem orielref15_brackets_ok (n : Nat) : OKo n orielref15_brackets_o := fun ih {_ _ _ _ _ _} h => by
  refine rowO_ok (cl := CL n) (ea := orielref15_brackets_e) (dr := orielref15_brackets_d) (fun _ _ h => orielref15_brackets_ae h) (fun _ _ h => orielref15_brackets_dr h) (fun a v h => ?_) h
  cases n with
  | zero => cases h
  | succ n =>
    rw [orielref15_brackets_lv] at h
    exact bodyK_ok noEq_ok (ih n rfl) (by kernel_rfl) (fun _ _ h => orielref15_brackets_dr h) h
theorem orielref13_Write_lv (n : Nat) : (lv (n + 1)).orielref13_Write = orielref13_Write_b (lv n) n := by kernel_rfl
theorem orielref13_Write_up (x0_0 : Int) (x0_1 x0_2 : ByteArray) (x0_3 : Int) {Q : ByteArray → Prop} (h : Tot (fun n _ _ => orielref13_Write_b (lv n) n x0_0 x0_1 x0_2 x0_3) Q) : Tot (fun n _ _ => (lv n).orielref13_Write x0_0 x0_1 x0_2 x0_3) Q := Tot.up (fun n => by rw [orielref13_Write_lv]) h
theorem orielref13_Write_ok (n : Nat) : OKo n orielref13_Write_o := fun ih {_ _ _ _ _ _} h => by
  refine rowO_ok (cl := CL n) (ea := orielref13_Write_e) (dr := orielref13_Write_d) (fun _ _ h => orielref13_Write_ae h) (fun _ _ h => orielref13_Write_dr h) (fun a v h => ?_) h
  cases n with
  | zero => cases h
  | succ n =>
    rw [orielref13_Write_lv] at h
    exact bodyK_ok noEq_ok (ih n rfl) (by kernel_rfl) (fun _ _ h => orielref13_Write_dr h) h
theorem lv_ok : ∀ n, ∀ {Ω : Type}, TabOK (Ω := Ω) (call Tryd.prog extG kp n) (orK (lv n)) := by
  intro n
  induction n with
  | zero =>
    intro Ω f l K r h
    have ih : ∀ m, 0 = m + 1 → ∀ {Ω : Type}, TabOK (Ω := Ω) (call Tryd.prog extG kp m) (orK (lv m)) := fun m e => by cases e
    rcases oriellaw15_ShowKeeps_ok _ ih h with h | h
    · exact h
    rcases oriellaw15_ShowPrints_ok _ ih h with h | h
    · exact h
    rcases oriellaw15_awake_ok _ ih h with h | h
    · exact h
    rcases show_Path_ok _ ih h with h | h
    · exact h
    rcases show_joined_ok _ ih h with h | h
    · exact h
    rcases show_Filter_ok _ ih h with h | h
    · exact h
    rcases show_bracketed_ok _ ih h with h | h
    · exact h
    rcases strings_Join_ok _ ih h with h | h
    · exact h
    rcases show_name_ok _ ih h with h | h
    · exact h
    rcases show_quoted_ok _ ih h with h | h
    · exact h
    rcases show_all_ok _ ih h with h | h
    · exact h
    rcases slices_Contains_int_int_ok _ ih h with h | h
    · exact h
    rcases lex_Write_ok _ ih h with h | h
    · exact h
    rcases slices_Index_int_int_ok _ ih h with h | h
    · exact h
    rcases strings_ReplaceAll_ok _ ih h with h | h
    · exact h
    rcases orielref12_Right_ok _ ih h with h | h
    · exact h
    rcases orielref12_Size_ok _ ih h with h | h
    · exact h
    rcases orielref12_size_ok _ ih h with h | h
    · exact h
    rcases orielref12_sizeFilter_ok _ ih h with h | h
    · exact h
    rcases orielref12_path_ok _ ih h with h | h
    · exact h
    rcases orielref12_filter_ok _ ih h with h | h
    · exact h
    rcases orielref12_named_ok _ ih h with h | h
    · exact h
    rcases orielref04_Right_ok _ ih h with h | h
    · exact h
    rcases orielref03_Plain_ok _ ih h with h | h
    · exact h
    rcases orielref01_All_ok _ ih h with h | h
    · exact h
    rcases orielref02_Start_ok _ ih h with h | h
    · exact h
    rcases orielref01_Rune_ok _ ih h with h | h
    · exact h
    rcases orielref01_Put_ok _ ih h with h | h
    · exact h
    rcases orielref01_cut_ok _ ih h with h | h
    · exact h
    rcases orielref01_value_ok _ ih h with h | h
    · exact h
    rcases orielref12_Same_ok _ ih h with h | h
    · exact h
    rcases orielref12_Filters_ok _ ih h with h | h
    · exact h
    rcases orielref02_Char_ok _ ih h with h | h
    · exact h
    rcases orielref02_Part_ok _ ih h with h | h
    · exact h
    rcases orielref01_begins_ok _ ih h with h | h
    · exact h
    rcases orielref12_SameFilter_ok _ ih h with h | h
    · exact h
    rcases orielref12_within_ok _ ih h with h | h
    · exact h
    rcases orielref02_Blank_ok _ ih h with h | h
    · exact h
    rcases orielref15_Filter_ok _ ih h with h | h
    · exact h
    rcases orielref15_Path_ok _ ih h with h | h
    · exact h
    rcases orielref05_Find_ok _ ih h with h | h
    · exact h
    rcases orielref15_name_ok _ ih h with h | h
    · exact h
    rcases orielref15_quoted_ok _ ih h with h | h
    · exact h
    rcases orielref15_brackets_ok _ ih h with h | h
    · exact h
    rcases orielref13_Write_ok _ ih h with h | h
    · exact h
    cases h
  | succ n ih0 =>
    intro Ω f l K r h
    have ih : ∀ m, n + 1 = m + 1 → ∀ {Ω : Type}, TabOK (Ω := Ω) (call Tryd.prog extG kp m) (orK (lv m)) := fun m e => by cases e; exact ih0
    rcases oriellaw15_ShowKeeps_ok _ ih h with h | h
    · exact h
    rcases oriellaw15_ShowPrints_ok _ ih h with h | h
    · exact h
    rcases oriellaw15_awake_ok _ ih h with h | h
    · exact h
    rcases show_Path_ok _ ih h with h | h
    · exact h
    rcases show_joined_ok _ ih h with h | h
    · exact h
    rcases show_Filter_ok _ ih h with h | h
    · exact h
    rcases show_bracketed_ok _ ih h with h | h
    · exact h
    rcases strings_Join_ok _ ih h with h | h
    · exact h
    rcases show_name_ok _ ih h with h | h
    · exact h
    rcases show_quoted_ok _ ih h with h | h
    · exact h
    rcases show_all_ok _ ih h with h | h
    · exact h
    rcases slices_Contains_int_int_ok _ ih h with h | h
    · exact h
    rcases lex_Write_ok _ ih h with h | h
    · exact h
    rcases slices_Index_int_int_ok _ ih h with h | h
    · exact h
    rcases strings_ReplaceAll_ok _ ih h with h | h
    · exact h
    rcases orielref12_Right_ok _ ih h with h | h
    · exact h
    rcases orielref12_Size_ok _ ih h with h | h
    · exact h
    rcases orielref12_size_ok _ ih h with h | h
    · exact h
    rcases orielref12_sizeFilter_ok _ ih h with h | h
    · exact h
    rcases orielref12_path_ok _ ih h with h | h
    · exact h
    rcases orielref12_filter_ok _ ih h with h | h
    · exact h
    rcases orielref12_named_ok _ ih h with h | h
    · exact h
    rcases orielref04_Right_ok _ ih h with h | h
    · exact h
    rcases orielref03_Plain_ok _ ih h with h | h
    · exact h
    rcases orielref01_All_ok _ ih h with h | h
    · exact h
    rcases orielref02_Start_ok _ ih h with h | h
    · exact h
    rcases orielref01_Rune_ok _ ih h with h | h
    · exact h
    rcases orielref01_Put_ok _ ih h with h | h
    · exact h
    rcases orielref01_cut_ok _ ih h with h | h
    · exact h
    rcases orielref01_value_ok _ ih h with h | h
    · exact h
    rcases orielref12_Same_ok _ ih h with h | h
    · exact h
    rcases orielref12_Filters_ok _ ih h with h | h
    · exact h
    rcases orielref02_Char_ok _ ih h with h | h
    · exact h
    rcases orielref02_Part_ok _ ih h with h | h
    · exact h
    rcases orielref01_begins_ok _ ih h with h | h
    · exact h
    rcases orielref12_SameFilter_ok _ ih h with h | h
    · exact h
    rcases orielref12_within_ok _ ih h with h | h
    · exact h
    rcases orielref02_Blank_ok _ ih h with h | h
    · exact h
    rcases orielref15_Filter_ok _ ih h with h | h
    · exact h
    rcases orielref15_Path_ok _ ih h with h | h
    · exact h
    rcases orielref05_Find_ok _ ih h with h | h
    · exact h
    rcases orielref15_name_ok _ ih h with h | h
    · exact h
    rcases orielref15_quoted_ok _ ih h with h | h
    · exact h
    rcases orielref15_brackets_ok _ ih h with h | h
    · exact h
    rcases orielref13_Write_ok _ ih h with h | h
    · exact h
    cases h
end Go.Vm.T
