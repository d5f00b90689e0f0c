/- The functions, as the machine tells them: levels. -/
import Derived.Test.YtmolhfmiihignaaDoorVmTab
set_option linter.unusedVariables false
set_option maxHeartbeats 4000000
set_option maxRecDepth 100000
namespace Go.Vm.T
open Go Go.Vm Go.Proofs
noncomputable def lv : Nat → Lv
  | 0 => { oriellaw13_LexBack := fun _ _ => none, oriellaw13_awake := none, lex_All := fun _ => none, utf_All := fun _ => none, utf_Rune := fun _ _ => none, utf_forms := none, lex_Right := fun _ _ _ _ => none, char_All := fun _ => none, utf_span := fun _ _ => none, lex_may := fun _ => none, char_Char := fun _ => none, char_Blank := fun _ => none, lex_Write := fun _ _ _ _ => none, lex_one := fun _ => none, name_Split := fun _ => none, name_Plain := fun _ => none, char_in := fun _ _ => none, lex_clark := fun _ => none, lex_quoted := fun _ => none, strings_HasPrefix := fun _ _ => none, char_Start := fun _ => none, lex_plain := fun _ => none, stringslite_HasPrefix := fun _ _ => none, char_Part := fun _ => none, lex_word := fun _ => none, strings_CutPrefix := fun _ _ => none, stringslite_CutPrefix := fun _ _ => none }
  | n + 1 => { oriellaw13_LexBack := oriellaw13_LexBack_b (lv n) n, oriellaw13_awake := oriellaw13_awake_b (lv n) n, lex_All := lex_All_b (lv n) n, utf_All := utf_All_b (lv n) n, utf_Rune := utf_Rune_b (lv n) n, utf_forms := utf_forms_b (lv n) n, lex_Right := lex_Right_b (lv n) n, char_All := char_All_b (lv n) n, utf_span := utf_span_b (lv n) n, lex_may := lex_may_b (lv n) n, char_Char := char_Char_b (lv n) n, char_Blank := char_Blank_b (lv n) n, lex_Write := lex_Write_b (lv n) n, lex_one := lex_one_b (lv n) n, name_Split := name_Split_b (lv n) n, name_Plain := name_Plain_b (lv n) n, char_in := char_in_b (lv n) n, lex_clark := lex_clark_b (lv n) n, lex_quoted := lex_quoted_b (lv n) n, strings_HasPrefix := strings_HasPrefix_b (lv n) n, char_Start := char_Start_b (lv n) n, lex_plain := lex_plain_b (lv n) n, stringslite_HasPrefix := stringslite_HasPrefix_b (lv n) n, char_Part := char_Part_b (lv n) n, lex_word := lex_word_b (lv n) n, strings_CutPrefix := strings_CutPrefix_b (lv n) n, stringslite_CutPrefix := stringslite_CutPrefix_b (lv n) n }
noncomputable abbrev CL (n : Nat) : FuncId → List Arg → Option Res := call Tryd.prog extG kp n
def OKo (n : Nat) (o : Lv → {Ω : Type} → FuncId → List Arg → (Res → Option Ω) → Option Ω → Option Ω) : Prop := (∀ m, n = m + 1 → ∀ {Ω : Type}, TabOK (Ω := Ω) (CL m) (orK (lv m))) → ∀ {Ω : Type} {f : FuncId} {l : List Arg} {K : Res → Option Ω} {next : Option Ω} {r : Ω}, o (lv n) f l K next = some r → (∃ R, CL n f l = some R ∧ K R = some r) ∨ next = some r
theorem strings_TrimLeft_ok (n : Nat) : OKo n strings_TrimLeft_o := fun ih {_ _ _ _ _ _} h => by
  refine rowO_ok (cl := CL n) (ea := strings_TrimLeft_e) (dr := strings_TrimLeft_d) (fun _ _ h => strings_TrimLeft_ae h) (fun _ _ h => strings_TrimLeft_dr h) (fun a v h => ⟨strings_TrimLeft_r v, ext_call (by
    have h : trimV a.1 a.2 = some v := h
    unfold extG
    simp only [rowO, strings_TrimLeft_e, strings_TrimLeft_a, h, Option.bind_some]
    rfl), rfl⟩) h
theorem strings_Contains_ok (n : Nat) : OKo n strings_Contains_o := fun ih {_ _ _ _ _ _} h => by
  refine rowO_ok (cl := CL n) (ea := strings_Contains_e) (dr := strings_Contains_d) (fun _ _ h => strings_Contains_ae h) (fun _ _ h => strings_Contains_dr h) (fun a v h => ⟨strings_Contains_r v, ext_call (by
    have h : contV a.1 a.2 = some v := h
    unfold extG
    simp only [rowO, strings_Contains_e, strings_Contains_a, h, Option.bind_some]
    rfl), rfl⟩) h
theorem strings_ReplaceAll_ok (n : Nat) : OKo n strings_ReplaceAll_o := fun ih {_ _ _ _ _ _} h => by
  refine rowO_ok (cl := CL n) (ea := strings_ReplaceAll_e) (dr := strings_ReplaceAll_d) (fun _ _ h => strings_ReplaceAll_ae h) (fun _ _ h => strings_ReplaceAll_dr h) (fun a v h => ⟨strings_ReplaceAll_r v, ext_call (by
    have h : replV a.1 a.2.1 a.2.2 = some v := h
    unfold extG
    simp only [rowO, strings_ReplaceAll_e, strings_ReplaceAll_a, h, Option.bind_some]
    rfl), rfl⟩) h
theorem strings_Cut_ok (n : Nat) : OKo n strings_Cut_o := fun ih {_ _ _ _ _ _} h => by
  refine rowO_ok (cl := CL n) (ea := strings_Cut_e) (dr := strings_Cut_d) (fun _ _ h => strings_Cut_ae h) (fun _ _ h => strings_Cut_dr h) (fun a v h => ⟨strings_Cut_r v, ext_call (by
    have h : cutV a.1 a.2 = some v := h
    unfold extG
    simp only [rowO, strings_Cut_e, strings_Cut_a, h, Option.bind_some]
    rfl), rfl⟩) h
theorem strings_ContainsAny_ok (n : Nat) : OKo n strings_ContainsAny_o := fun ih {_ _ _ _ _ _} h => by
  refine rowO_ok (cl := CL n) (ea := strings_ContainsAny_e) (dr := strings_ContainsAny_d) (fun _ _ h => strings_ContainsAny_ae h) (fun _ _ h => strings_ContainsAny_dr h) (fun a v h => ⟨strings_ContainsAny_r v, ext_call (by
    have h : anyV a.1 a.2 = some v := h
    unfold extG
    simp only [rowO, strings_ContainsAny_e, strings_ContainsAny_a, h, Option.bind_some]
    rfl), rfl⟩) h
theorem oriellaw13_LexBack_lv (n : Nat) : (lv (n + 1)).oriellaw13_LexBack = oriellaw13_LexBack_b (lv n) n := by kernel_rfl
theorem oriellaw13_LexBack_up (x0 : LL) (x1 : Int) {Q : Bool → Prop} (h : Tot (fun n _ _ => oriellaw13_LexBack_b (lv n) n x0 x1) Q) : Tot (fun n _ _ => (lv n).oriellaw13_LexBack x0 x1) Q := Tot.up (fun n => by rw [oriellaw13_LexBack_lv]) h
theorem oriellaw13_LexBack_ok (n : Nat) : OKo n oriellaw13_LexBack_o := fun ih {_ _ _ _ _ _} h => by
  refine rowO_ok (cl := CL n) (ea := oriellaw13_LexBack_e) (dr := oriellaw13_LexBack_d) (fun _ _ h => oriellaw13_LexBack_ae h) (fun _ _ h => oriellaw13_LexBack_dr h) (fun a v h => ?_) h
  cases n with
  | zero => cases h
  | succ n =>
    rw [oriellaw13_LexBack_lv] at h
    exact bodyK_ok noEq_ok (ih n rfl) (by kernel_rfl) (fun _ _ h => oriellaw13_LexBack_dr h) h
theorem oriellaw13_awake_lv (n : Nat) : (lv (n + 1)).oriellaw13_awake = oriellaw13_awake_b (lv n) n := by kernel_rfl
theorem oriellaw13_awake_ok (n : Nat) : OKo n oriellaw13_awake_o := fun ih {_ _ _ _ _ _} h => by
  refine rowO_ok (cl := CL n) (ea := oriellaw13_awake_e) (dr := oriellaw13_awake_d) (fun _ _ h => oriellaw13_awake_ae h) (fun _ _ h => oriellaw13_awake_dr h) (fun a v h => ?_) h
  cases n with
  | zero => cases h
  | succ n =>
    rw [oriellaw13_awake_lv] at h
    exact bodyK_ok noEq_ok (ih n rfl) (by kernel_rfl) (fun _ _ h => oriellaw13_awake_dr h) h
theorem lex_All_lv (n : Nat) : (lv (n + 1)).lex_All = lex_All_b (lv n) n := by kernel_rfl
theorem lex_All_up (x0 : ByteArray) {Q : (LL × Int × Int) → Prop} (h : Tot (fun n _ _ => lex_All_b (lv n) n x0) Q) : Tot (fun n _ _ => (lv n).lex_All x0) Q := Tot.up (fun n => by rw [lex_All_lv]) h
theorem lex_All_ok (n : Nat) : OKo n lex_All_o := fun ih {_ _ _ _ _ _} h => by
  refine rowO_ok (cl := CL n) (ea := lex_All_e) (dr := lex_All_d) (fun _ _ h => lex_All_ae h) (fun _ _ h => lex_All_dr h) (fun a v h => ?_) h
  cases n with
  | zero => cases h
  | succ n =>
    rw [lex_All_lv] at h
    exact bodyK_ok noEq_ok (ih n rfl) (by kernel_rfl) (fun _ _ h => lex_All_dr h) h
theorem utf_All_lv (n : Nat) : (lv (n + 1)).utf_All = utf_All_b (lv n) n := by kernel_rfl
theorem utf_All_up (x0 : ByteArray) {Q : (LL × Int × Int) → Prop} (h : Tot (fun n _ _ => utf_All_b (lv n) n x0) Q) : Tot (fun n _ _ => (lv n).utf_All x0) Q := Tot.up (fun n => by rw [utf_All_lv]) h
theorem utf_All_ok (n : Nat) : OKo n utf_All_o := fun ih {_ _ _ _ _ _} h => by
  refine rowO_ok (cl := CL n) (ea := utf_All_e) (dr := utf_All_d) (fun _ _ h => utf_All_ae h) (fun _ _ h => utf_All_dr h) (fun a v h => ?_) h
  cases n with
  | zero => cases h
  | succ n =>
    rw [utf_All_lv] at h
    exact bodyK_ok noEq_ok (ih n rfl) (by kernel_rfl) (fun _ _ h => utf_All_dr h) h
theorem utf_Rune_lv (n : Nat) : (lv (n + 1)).utf_Rune = utf_Rune_b (lv n) n := by kernel_rfl
theorem utf_Rune_up (x0 : ByteArray) (x1 : Int) {Q : (Int × Int × Int) → Prop} (h : Tot (fun n _ _ => utf_Rune_b (lv n) n x0 x1) Q) : Tot (fun n _ _ => (lv n).utf_Rune x0 x1) Q := Tot.up (fun n => by rw [utf_Rune_lv]) h
theorem utf_Rune_ok (n : Nat) : OKo n utf_Rune_o := fun ih {_ _ _ _ _ _} h => by
  refine rowO_ok (cl := CL n) (ea := utf_Rune_e) (dr := utf_Rune_d) (fun _ _ h => utf_Rune_ae h) (fun _ _ h => utf_Rune_dr h) (fun a v h => ?_) h
  cases n with
  | zero => cases h
  | succ n =>
    rw [utf_Rune_lv] at h
    exact bodyK_ok noEq_ok (ih n rfl) (by kernel_rfl) (fun _ _ h => utf_Rune_dr h) h
theorem utf_forms_lv (n : Nat) : (lv (n + 1)).utf_forms = utf_forms_b (lv n) n := by kernel_rfl
theorem utf_forms_up {Q : (Int × Int × Int × Int × Int × Int × Int × Int × Int × Int × Int × Int) → Prop} (h : Tot (fun n _ _ => utf_forms_b (lv n) n) Q) : Tot (fun n _ _ => (lv n).utf_forms) Q := Tot.up (fun n => by rw [utf_forms_lv]) h
theorem utf_forms_ok (n : Nat) : OKo n utf_forms_o := fun ih {_ _ _ _ _ _} h => by
  refine rowO_ok (cl := CL n) (ea := utf_forms_e) (dr := utf_forms_d) (fun _ _ h => utf_forms_ae h) (fun _ _ h => utf_forms_dr h) (fun a v h => ?_) h
  cases n with
  | zero => cases h
  | succ n =>
    rw [utf_forms_lv] at h
    exact bodyK_ok noEq_ok (ih n rfl) (by kernel_rfl) (fun _ _ h => utf_forms_dr h) h
theorem lex_Right_lv (n : Nat) : (lv (n + 1)).lex_Right = lex_Right_b (lv n) n := by kernel_rfl
theorem lex_Right_up (x0_0 : Int) (x0_1 x0_2 : ByteArray) (x0_3 : Int) {Q : Bool → Prop} (h : Tot (fun n _ _ => lex_Right_b (lv n) n x0_0 x0_1 x0_2 x0_3) Q) : Tot (fun n _ _ => (lv n).lex_Right x0_0 x0_1 x0_2 x0_3) Q := Tot.up (fun n => by rw [lex_Right_lv]) h
theorem lex_Right_ok (n : Nat) : OKo n lex_Right_o := fun ih {_ _ _ _ _ _} h => by
  refine rowO_ok (cl := CL n) (ea := lex_Right_e) (dr := lex_Right_d) (fun _ _ h => lex_Right_ae h) (fun _ _ h => lex_Right_dr h) (fun a v h => ?_) h
  cases n with
  | zero => cases h
  | succ n =>
    rw [lex_Right_lv] at h
    exact bodyK_ok noEq_ok (ih n rfl) (by kernel_rfl) (fun _ _ h => lex_Right_dr h) h
theorem char_All_lv (n : Nat) : (lv (n + 1)).char_All = char_All_b (lv n) n := by kernel_rfl
theorem char_All_up (x0 : ByteArray) {Q : Bool → Prop} (h : Tot (fun n _ _ => char_All_b (lv n) n x0) Q) : Tot (fun n _ _ => (lv n).char_All x0) Q := Tot.up (fun n => by rw [char_All_lv]) h
theorem char_All_ok (n : Nat) : OKo n char_All_o := fun ih {_ _ _ _ _ _} h => by
  refine rowO_ok (cl := CL n) (ea := char_All_e) (dr := char_All_d) (fun _ _ h => char_All_ae h) (fun _ _ h => char_All_dr h) (fun a v h => ?_) h
  cases n with
  | zero => cases h
  | succ n =>
    rw [char_All_lv] at h
    exact bodyK_ok noEq_ok (ih n rfl) (by kernel_rfl) (fun _ _ h => char_All_dr h) h
theorem utf_span_lv (n : Nat) : (lv (n + 1)).utf_span = utf_span_b (lv n) n := by kernel_rfl
theorem utf_span_up (x0 x1 : Int) {Q : (Int × Int) → Prop} (h : Tot (fun n _ _ => utf_span_b (lv n) n x0 x1) Q) : Tot (fun n _ _ => (lv n).utf_span x0 x1) Q := Tot.up (fun n => by rw [utf_span_lv]) h
theorem utf_span_ok (n : Nat) : OKo n utf_span_o := fun ih {_ _ _ _ _ _} h => by
  refine rowO_ok (cl := CL n) (ea := utf_span_e) (dr := utf_span_d) (fun _ _ h => utf_span_ae h) (fun _ _ h => utf_span_dr h) (fun a v h => ?_) h
  cases n with
  | zero => cases h
  | succ n =>
    rw [utf_span_lv] at h
    exact bodyK_ok noEq_ok (ih n rfl) (by kernel_rfl) (fun _ _ h => utf_span_dr h) h
theorem lex_may_lv (n : Nat) : (lv (n + 1)).lex_may = lex_may_b (lv n) n := by kernel_rfl
theorem lex_may_up (x0 : ByteArray) {Q : Bool → Prop} (h : Tot (fun n _ _ => lex_may_b (lv n) n x0) Q) : Tot (fun n _ _ => (lv n).lex_may x0) Q := Tot.up (fun n => by rw [lex_may_lv]) h
theorem lex_may_ok (n : Nat) : OKo n lex_may_o := fun ih {_ _ _ _ _ _} h => by
  refine rowO_ok (cl := CL n) (ea := lex_may_e) (dr := lex_may_d) (fun _ _ h => lex_may_ae h) (fun _ _ h => lex_may_dr h) (fun a v h => ?_) h
  cases n with
  | zero => cases h
  | succ n =>
    rw [lex_may_lv] at h
    exact bodyK_ok noEq_ok (ih n rfl) (by kernel_rfl) (fun _ _ h => lex_may_dr h) h
theorem char_Char_lv (n : Nat) : (lv (n + 1)).char_Char = char_Char_b (lv n) n := by kernel_rfl
theorem char_Char_up (x0 : Int) {Q : Bool → Prop} (h : Tot (fun n _ _ => char_Char_b (lv n) n x0) Q) : Tot (fun n _ _ => (lv n).char_Char x0) Q := Tot.up (fun n => by rw [char_Char_lv]) h
theorem char_Char_ok (n : Nat) : OKo n char_Char_o := fun ih {_ _ _ _ _ _} h => by
  refine rowO_ok (cl := CL n) (ea := char_Char_e) (dr := char_Char_d) (fun _ _ h => char_Char_ae h) (fun _ _ h => char_Char_dr h) (fun a v h => ?_) h
  cases n with
  | zero => cases h
  | succ n =>
    rw [char_Char_lv] at h
    exact bodyK_ok noEq_ok (ih n rfl) (by kernel_rfl) (fun _ _ h => char_Char_dr h) h
theorem char_Blank_lv (n : Nat) : (lv (n + 1)).char_Blank = char_Blank_b (lv n) n := by kernel_rfl
theorem char_Blank_up (x0 : Int) {Q : Bool → Prop} (h : Tot (fun n _ _ => char_Blank_b (lv n) n x0) Q) : Tot (fun n _ _ => (lv n).char_Blank x0) Q := Tot.up (fun n => by rw [char_Blank_lv]) h
theorem char_Blank_ok (n : Nat) : OKo n char_Blank_o := fun ih {_ _ _ _ _ _} h => by
  refine rowO_ok (cl := CL n) (ea := char_Blank_e) (dr := char_Blank_d) (fun _ _ h => char_Blank_ae h) (fun _ _ h => char_Blank_dr h) (fun a v h => ?_) h
  cases n with
  | zero => cases h
  | succ n =>
    rw [char_Blank_lv] at h
    exact bodyK_ok noEq_ok (ih n rfl) (by kernel_rfl) (fun _ _ h => char_Blank_dr h) h
theorem lex_Write_lv (n : Nat) : (lv (n + 1)).lex_Write = lex_Write_b (lv n) n := by kernel_rfl
theorem lex_Write_up (x0_0 : Int) (x0_1 x0_2 : ByteArray) (x0_3 : Int) {Q : ByteArray → Prop} (h : Tot (fun n _ _ => lex_Write_b (lv n) n x0_0 x0_1 x0_2 x0_3) Q) : Tot (fun n _ _ => (lv n).lex_Write x0_0 x0_1 x0_2 x0_3) Q := Tot.up (fun n => by rw [lex_Write_lv]) h
theorem lex_Write_ok (n : Nat) : OKo n lex_Write_o := fun ih {_ _ _ _ _ _} h => by
  refine rowO_ok (cl := CL n) (ea := lex_Write_e) (dr := lex_Write_d) (fun _ _ h => lex_Write_ae h) (fun _ _ h => lex_Write_dr h) (fun a v h => ?_) h
  cases n with
  | zero => cases h
  | succ n =>
    rw [lex_Write_lv] at h
    exact bodyK_ok noEq_ok (ih n rfl) (by kernel_rfl) (fun _ _ h => lex_Write_dr h) h
theorem lex_one_lv (n : Nat) : (lv (n + 1)).lex_one = lex_one_b (lv n) n := by kernel_rfl
theorem lex_one_up (x0 : ByteArray) {Q : (Int × ByteArray × ByteArray × Int × Int) → Prop} (h : Tot (fun n _ _ => lex_one_b (lv n) n x0) Q) : Tot (fun n _ _ => (lv n).lex_one x0) Q := Tot.up (fun n => by rw [lex_one_lv]) h
theorem lex_one_ok (n : Nat) : OKo n lex_one_o := fun ih {_ _ _ _ _ _} h => by
  refine rowO_ok (cl := CL n) (ea := lex_one_e) (dr := lex_one_d) (fun _ _ h => lex_one_ae h) (fun _ _ h => lex_one_dr h) (fun a v h => ?_) h
  cases n with
  | zero => cases h
  | succ n =>
    rw [lex_one_lv] at h
    exact bodyK_ok noEq_ok (ih n rfl) (by kernel_rfl) (fun _ _ h => lex_one_dr h) h
theorem name_Split_lv (n : Nat) : (lv (n + 1)).name_Split = name_Split_b (lv n) n := by kernel_rfl
theorem name_Split_up (x0 : ByteArray) {Q : (ByteArray × ByteArray × Bool) → Prop} (h : Tot (fun n _ _ => name_Split_b (lv n) n x0) Q) : Tot (fun n _ _ => (lv n).name_Split x0) Q := Tot.up (fun n => by rw [name_Split_lv]) h
theorem name_Split_ok (n : Nat) : OKo n name_Split_o := fun ih {_ _ _ _ _ _} h => by
  refine rowO_ok (cl := CL n) (ea := name_Split_e) (dr := name_Split_d) (fun _ _ h => name_Split_ae h) (fun _ _ h => name_Split_dr h) (fun a v h => ?_) h
  cases n with
  | zero => cases h
  | succ n =>
    rw [name_Split_lv] at h
    exact bodyK_ok noEq_ok (ih n rfl) (by kernel_rfl) (fun _ _ h => name_Split_dr h) h
theorem name_Plain_lv (n : Nat) : (lv (n + 1)).name_Plain = name_Plain_b (lv n) n := by kernel_rfl
theorem name_Plain_up (x0 : ByteArray) {Q : Bool → Prop} (h : Tot (fun n _ _ => name_Plain_b (lv n) n x0) Q) : Tot (fun n _ _ => (lv n).name_Plain x0) Q := Tot.up (fun n => by rw [name_Plain_lv]) h
theorem name_Plain_ok (n : Nat) : OKo n name_Plain_o := fun ih {_ _ _ _ _ _} h => by
  refine rowO_ok (cl := CL n) (ea := name_Plain_e) (dr := name_Plain_d) (fun _ _ h => name_Plain_ae h) (fun _ _ h => name_Plain_dr h) (fun a v h => ?_) h
  cases n with
  | zero => cases h
  | succ n =>
    rw [name_Plain_lv] at h
    exact bodyK_ok noEq_ok (ih n rfl) (by kernel_rfl) (fun _ _ h => name_Plain_dr h) h
theorem char_in_lv (n : Nat) : (lv (n + 1)).char_in = char_in_b (lv n) n := by kernel_rfl
theorem char_in_up (x0 : Int) (x1 : LL) {Q : Bool → Prop} (h : Tot (fun n _ _ => char_in_b (lv n) n x0 x1) Q) : Tot (fun n _ _ => (lv n).char_in x0 x1) Q := Tot.up (fun n => by rw [char_in_lv]) h
theorem char_in_ok (n : Nat) : OKo n char_in_o := fun ih {_ _ _ _ _ _} h => by
  refine rowO_ok (cl := CL n) (ea := char_in_e) (dr := char_in_d) (fun _ _ h => char_in_ae h) (fun _ _ h => char_in_dr h) (fun a v h => ?_) h
  cases n with
  | zero => cases h
  | succ n =>
    rw [char_in_lv] at h
    exact bodyK_ok noEq_ok (ih n rfl) (by kernel_rfl) (fun _ _ h => char_in_dr h) h
theorem lex_clark_lv (n : Nat) : (lv (n + 1)).lex_clark = lex_clark_b (lv n) n := by kernel_rfl
theorem lex_clark_up (x0 : ByteArray) {Q : (Int × ByteArray × ByteArray × Int × Int) → Prop} (h : Tot (fun n _ _ => lex_clark_b (lv n) n x0) Q) : Tot (fun n _ _ => (lv n).lex_clark x0) Q := Tot.up (fun n => by rw [lex_clark_lv]) h
theorem lex_clark_ok (n : Nat) : OKo n lex_clark_o := fun ih {_ _ _ _ _ _} h => by
  refine rowO_ok (cl := CL n) (ea := lex_clark_e) (dr := lex_clark_d) (fun _ _ h => lex_clark_ae h) (fun _ _ h => lex_clark_dr h) (fun a v h => ?_) h
  cases n with
  | zero => cases h
  | succ n =>
    rw [lex_clark_lv] at h
    exact bodyK_ok noEq_ok (ih n rfl) (by kernel_rfl) (fun _ _ h => lex_clark_dr h) h
theorem lex_quoted_lv (n : Nat) : (lv (n + 1)).lex_quoted = lex_quoted_b (lv n) n := by kernel_rfl
theorem lex_quoted_up (x0 : ByteArray) {Q : (Int × ByteArray × ByteArray × Int × Int) → Prop} (h : Tot (fun n _ _ => lex_quoted_b (lv n) n x0) Q) : Tot (fun n _ _ => (lv n).lex_quoted x0) Q := Tot.up (fun n => by rw [lex_quoted_lv]) h
theorem lex_quoted_ok (n : Nat) : OKo n lex_quoted_o := fun ih {_ _ _ _ _ _} h => by
  refine rowO_ok (cl := CL n) (ea := lex_quoted_e) (dr := lex_quoted_d) (fun _ _ h => lex_quoted_ae h) (fun _ _ h => lex_quoted_dr h) (fun a v h => ?_) h
  cases n with
  | zero => cases h
  | succ n =>
    rw [lex_quoted_lv] at h
    exact bodyK_ok noEq_ok (ih n rfl) (by kernel_rfl) (fun _ _ h => lex_quoted_dr h) h
theorem strings_HasPrefix_lv (n : Nat) : (lv (n + 1)).strings_HasPrefix = strings_HasPrefix_b (lv n) n := by kernel_rfl
theorem strings_HasPrefix_up (x0 x1 : ByteArray) {Q : Bool → Prop} (h : Tot (fun n _ _ => strings_HasPrefix_b (lv n) n x0 x1) Q) : Tot (fun n _ _ => (lv n).strings_HasPrefix x0 x1) Q := Tot.up (fun n => by rw [strings_HasPrefix_lv]) h
theorem strings_HasPrefix_ok (n : Nat) : OKo n strings_HasPrefix_o := fun ih {_ _ _ _ _ _} h => by
  refine rowO_ok (cl := CL n) (ea := strings_HasPrefix_e) (dr := strings_HasPrefix_d) (fun _ _ h => strings_HasPrefix_ae h) (fun _ _ h => strings_HasPrefix_dr h) (fun a v h => ?_) h
  cases n with
  | zero => cases h
  | succ n =>
    rw [strings_HasPrefix_lv] at h
    exact bodyK_ok noEq_ok (ih n rfl) (by kernel_rfl) (fun _ _ h => strings_HasPrefix_dr h) h
theorem char_Start_lv (n : Nat) : (lv (n + 1)).char_Start = char_Start_b (lv n) n := by kernel_rfl
theorem char_Start_up (x0 : Int) {Q : Bool → Prop} (h : Tot (fun n _ _ => char_Start_b (lv n) n x0) Q) : Tot (fun n _ _ => (lv n).char_Start x0) Q := Tot.up (fun n => by rw [char_Start_lv]) h
theorem char_Start_ok (n : Nat) : OKo n char_Start_o := fun ih {_ _ _ _ _ _} h => by
  refine rowO_ok (cl := CL n) (ea := char_Start_e) (dr := char_Start_d) (fun _ _ h => char_Start_ae h) (fun _ _ h => char_Start_dr h) (fun a v h => ?_) h
  cases n with
  | zero => cases h
  | succ n =>
    rw [char_Start_lv] at h
    exact bodyK_ok noEq_ok (ih n rfl) (by kernel_rfl) (fun _ _ h => char_Start_dr h) h
theorem lex_plain_lv (n : Nat) : (lv (n + 1)).lex_plain = lex_plain_b (lv n) n := by kernel_rfl
theorem lex_plain_up (x0 : ByteArray) {Q : ByteArray → Prop} (h : Tot (fun n _ _ => lex_plain_b (lv n) n x0) Q) : Tot (fun n _ _ => (lv n).lex_plain x0) Q := Tot.up (fun n => by rw [lex_plain_lv]) h
theorem lex_plain_ok (n : Nat) : OKo n lex_plain_o := fun ih {_ _ _ _ _ _} h => by
  refine rowO_ok (cl := CL n) (ea := lex_plain_e) (dr := lex_plain_d) (fun _ _ h => lex_plain_ae h) (fun _ _ h => lex_plain_dr h) (fun a v h => ?_) h
  cases n with
  | zero => cases h
  | succ n =>
    rw [lex_plain_lv] at h
    exact bodyK_ok noEq_ok (ih n rfl) (by kernel_rfl) (fun _ _ h => lex_plain_dr h) h
theorem stringslite_HasPrefix_lv (n : Nat) : (lv (n + 1)).stringslite_HasPrefix = stringslite_HasPrefix_b (lv n) n := by kernel_rfl
theorem stringslite_HasPrefix_up (x0 x1 : ByteArray) {Q : Bool → Prop} (h : Tot (fun n _ _ => stringslite_HasPrefix_b (lv n) n x0 x1) Q) : Tot (fun n _ _ => (lv n).stringslite_HasPrefix x0 x1) Q := Tot.up (fun n => by rw [stringslite_HasPrefix_lv]) h
theorem stringslite_HasPrefix_ok (n : Nat) : OKo n stringslite_HasPrefix_o := fun ih {_ _ _ _ _ _} h => by
  refine rowO_ok (cl := CL n) (ea := stringslite_HasPrefix_e) (dr := stringslite_HasPrefix_d) (fun _ _ h => stringslite_HasPrefix_ae h) (fun _ _ h => stringslite_HasPrefix_dr h) (fun a v h => ?_) h
  cases n with
  | zero => cases h
  | succ n =>
    rw [stringslite_HasPrefix_lv] at h
    exact bodyK_ok noEq_ok (ih n rfl) (by kernel_rfl) (fun _ _ h => stringslite_HasPrefix_dr h) h
theorem char_Part_lv (n : Nat) : (lv (n + 1)).char_Part = char_Part_b (lv n) n := by kernel_rfl
theorem char_Part_up (x0 : Int) {Q : Bool → Prop} (h : Tot (fun n _ _ => char_Part_b (lv n) n x0) Q) : Tot (fun n _ _ => (lv n).char_Part x0) Q := Tot.up (fun n => by rw [char_Part_lv]) h
theorem char_Part_ok (n : Nat) : OKo n char_Part_o := fun ih {_ _ _ _ _ _} h => by
  refine rowO_ok (cl := CL n) (ea := char_Part_e) (dr := char_Part_d) (fun _ _ h => char_Part_ae h) (fun _ _ h => char_Part_dr h) (fun a v h => ?_) h
  cases n with
  | zero => cases h
  | succ n =>
    rw [char_Part_lv] at h
    exact bodyK_ok noEq_ok (ih n rfl) (by kernel_rfl) (fun _ _ h => char_Part_dr h) h
theorem lex_word_lv (n : Nat) : (lv (n + 1)).lex_word = lex_word_b (lv n) n := by kernel_rfl
theorem lex_word_up (x0 : ByteArray) {Q : (Int × ByteArray × ByteArray × Int × Int) → Prop} (h : Tot (fun n _ _ => lex_word_b (lv n) n x0) Q) : Tot (fun n _ _ => (lv n).lex_word x0) Q := Tot.up (fun n => by rw [lex_word_lv]) h
theorem lex_word_ok (n : Nat) : OKo n lex_word_o := fun ih {_ _ _ _ _ _} h => by
  refine rowO_ok (cl := CL n) (ea := lex_word_e) (dr := lex_word_d) (fun _ _ h => lex_word_ae h) (fun _ _ h => lex_word_dr h) (fun a v h => ?_) h
  cases n with
  | zero => cases h
  | succ n =>
    rw [lex_word_lv] at h
    exact bodyK_ok noEq_ok (ih n rfl) (by kernel_rfl) (fun _ _ h => lex_word_dr h) h
theorem strings_CutPrefix_lv (n : Nat) : (lv (n + 1)).strings_CutPrefix = strings_CutPrefix_b (lv n) n := by kernel_rfl
theorem strings_CutPrefix_up (x0 x1 : ByteArray) {Q : (ByteArray × Bool) → Prop} (h : Tot (fun n _ _ => strings_CutPrefix_b (lv n) n x0 x1) Q) : Tot (fun n _ _ => (lv n).strings_CutPrefix x0 x1) Q := Tot.up (fun n => by rw [strings_CutPrefix_lv]) h
theorem strings_CutPrefix_ok (n : Nat) : OKo n strings_CutPrefix_o := fun ih {_ _ _ _ _ _} h => by
  refine rowO_ok (cl := CL n) (ea := strings_CutPrefix_e) (dr := strings_CutPrefix_d) (fun _ _ h => strings_CutPrefix_ae h) (fun _ _ h => strings_CutPrefix_dr h) (fun a v h => ?_) h
  cases n with
  | zero => cases h
  | succ n =>
    rw [strings_CutPrefix_lv] at h
    exact bodyK_ok noEq_ok (ih n rfl) (by kernel_rfl) (fun _ _ h => strings_CutPrefix_dr h) h
theorem stringslite_CutPrefix_lv (n : Nat) : (lv (n + 1)).stringslite_CutPrefix = stringslite_CutPrefix_b (lv n) n := by kernel_rfl
theorem stringslite_CutPrefix_up (x0 x1 : ByteArray) {Q : (ByteArray × Bool) → Prop} (h : Tot (fun n _ _ => stringslite_CutPrefix_b (lv n) n x0 x1) Q) : Tot (fun n _ _ => (lv n).stringslite_CutPrefix x0 x1) Q := Tot.up (fun n => by rw [stringslite_CutPrefix_lv]) h
theorem stringslite_CutPrefix_ok (n : Nat) : OKo n stringslite_CutPrefix_o := fun ih {_ _ _ _ _ _} h => by
  refine rowO_ok (cl := CL n) (ea := stringslite_CutPrefix_e) (dr := stringslite_CutPrefix_d) (fun _ _ h => stringslite_CutPrefix_ae h) (fun _ _ h => stringslite_CutPrefix_dr h) (fun a v h => ?_) h
  cases n with
  | zero => cases h
  | succ n =>
    rw [stringslite_CutPrefix_lv] at h
    exact bodyK_ok noEq_ok (ih n rfl) (by kernel_rfl) (fun _ _ h => stringslite_CutPrefix_dr h) h
theorem lv_ok : ∀ n, ∀ {Ω : Type}, TabOK (Ω := Ω) (call Tryd.prog extG kp n) (orK (lv n)) := by
  intro n
  induction n with
  | zero =>
    intro Ω f l K r h
    have ih : ∀ m, 0 = m + 1 → ∀ {Ω : Type}, TabOK (Ω := Ω) (call Tryd.prog extG kp m) (orK (lv m)) := fun m e => by cases e
    rcases oriellaw13_LexBack_ok _ ih h with h | h
    · exact h
    rcases oriellaw13_awake_ok _ ih h with h | h
    · exact h
    rcases lex_All_ok _ ih h with h | h
    · exact h
    rcases utf_All_ok _ ih h with h | h
    · exact h
    rcases utf_Rune_ok _ ih h with h | h
    · exact h
    rcases utf_forms_ok _ ih h with h | h
    · exact h
    rcases lex_Right_ok _ ih h with h | h
    · exact h
    rcases char_All_ok _ ih h with h | h
    · exact h
    rcases utf_span_ok _ ih h with h | h
    · exact h
    rcases lex_may_ok _ ih h with h | h
    · exact h
    rcases char_Char_ok _ ih h with h | h
    · exact h
    rcases char_Blank_ok _ ih h with h | h
    · exact h
    rcases lex_Write_ok _ ih h with h | h
    · exact h
    rcases strings_TrimLeft_ok _ ih h with h | h
    · exact h
    rcases lex_one_ok _ ih h with h | h
    · exact h
    rcases name_Split_ok _ ih h with h | h
    · exact h
    rcases name_Plain_ok _ ih h with h | h
    · exact h
    rcases strings_Contains_ok _ ih h with h | h
    · exact h
    rcases char_in_ok _ ih h with h | h
    · exact h
    rcases strings_ReplaceAll_ok _ ih h with h | h
    · exact h
    rcases lex_clark_ok _ ih h with h | h
    · exact h
    rcases lex_quoted_ok _ ih h with h | h
    · exact h
    rcases strings_HasPrefix_ok _ ih h with h | h
    · exact h
    rcases strings_Cut_ok _ ih h with h | h
    · exact h
    rcases char_Start_ok _ ih h with h | h
    · exact h
    rcases lex_plain_ok _ ih h with h | h
    · exact h
    rcases stringslite_HasPrefix_ok _ ih h with h | h
    · exact h
    rcases char_Part_ok _ ih h with h | h
    · exact h
    rcases strings_ContainsAny_ok _ ih h with h | h
    · exact h
    rcases lex_word_ok _ ih h with h | h
    · exact h
    rcases strings_CutPrefix_ok _ ih h with h | h
    · exact h
    rcases stringslite_CutPrefix_ok _ ih h with h | h
    · exact h
    cases h
  | succ n ih0 =>
    intro Ω f l K r h
    have ih : ∀ m, n + 1 = m + 1 → ∀ {Ω : Type}, TabOK (Ω := Ω) (call Tryd.prog extG kp m) (orK (lv m)) := fun m e => by cases e; exact ih0
    rcases oriellaw13_LexBack_ok _ ih h with h | h
    · exact h
    rcases oriellaw13_awake_ok _ ih h with h | h
    · exact h
    rcases lex_All_ok _ ih h with h | h
    · exact h
    rcases utf_All_ok _ ih h with h | h
    · exact h
    rcases utf_Rune_ok _ ih h with h | h
    · exact h
    rcases utf_forms_ok _ ih h with h | h
    · exact h
    rcases lex_Right_ok _ ih h with h | h
    · exact h
    rcases char_All_ok _ ih h with h | h
    · exact h
    rcases utf_span_ok _ ih h with h | h
    · exact h
    rcases lex_may_ok _ ih h with h | h
    · exact h
    rcases char_Char_ok _ ih h with h | h
    · exact h
    rcases char_Blank_ok _ ih h with h | h
    · exact h
    rcases lex_Write_ok _ ih h with h | h
    · exact h
    rcases strings_TrimLeft_ok _ ih h with h | h
    · exact h
    rcases lex_one_ok _ ih h with h | h
    · exact h
    rcases name_Split_ok _ ih h with h | h
    · exact h
    rcases name_Plain_ok _ ih h with h | h
    · exact h
    rcases strings_Contains_ok _ ih h with h | h
    · exact h
    rcases char_in_ok _ ih h with h | h
    · exact h
    rcases strings_ReplaceAll_ok _ ih h with h | h
    · exact h
    rcases lex_clark_ok _ ih h with h | h
    · exact h
    rcases lex_quoted_ok _ ih h with h | h
    · exact h
    rcases strings_HasPrefix_ok _ ih h with h | h
    · exact h
    rcases strings_Cut_ok _ ih h with h | h
    · exact h
    rcases char_Start_ok _ ih h with h | h
    · exact h
    rcases lex_plain_ok _ ih h with h | h
    · exact h
    rcases stringslite_HasPrefix_ok _ ih h with h | h
    · exact h
    rcases char_Part_ok _ ih h with h | h
    · exact h
    rcases strings_ContainsAny_ok _ ih h with h | h
    · exact h
    rcases lex_word_ok _ ih h with h | h
    · exact h
    rcases strings_CutPrefix_ok _ ih h with h | h
    · exact h
    rcases stringslite_CutPrefix_ok _ ih h with h | h
    · exact h
    cases h
end Go.Vm.T
