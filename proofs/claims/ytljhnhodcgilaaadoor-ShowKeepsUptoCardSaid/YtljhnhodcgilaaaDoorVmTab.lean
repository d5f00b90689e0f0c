/- The functions, as the machine tells them: definitions. -/
import Derived.Test.YtljhnhodcgilaaaDoorVmThree
import Derived.Test.YtljhnhodcgilaaaDoorProg
import Derived.Test.YtljhnhodcgilaaaDoorVmGiven
set_option linter.unusedVariables false
set_option maxHeartbeats 4000000
set_option maxRecDepth 100000
namespace Go.Vm.T
open Go Go.Vm Go.Proofs
noncomputable def kl : List (Nat × List (Nat × List Nat)) := [(3, [(5, [1, 3, 4])]), (7, [(3, [1, 3, 4]), (7, [1, 3, 5])]), (9, [(18, [1, 4, 5]), (2000022, [1, 4, 5, 999999]), (2000024, [1, 4, 5, 999999])]), (10, [(16, [3, 34, 35, 36])]), (11, [(11, [1, 3, 4]), (2000015, [1, 3, 4, 999999]), (2000017, [1, 3, 4, 999999])]), (12, [(4, [2, 3, 5]), (9, [2, 3, 6])]), (14, [(14, [1, 2, 7]), (2000011, [1, 2, 5, 6, 999999])]), (15, [(3, [1, 3, 4]), (7, [1, 3, 5])]), (18, [(3, [1, 2, 7, 10, 11, 12])]), (19, [(3, [1, 2, 7, 10, 11, 12])]), (23, [(4, [2, 3, 5]), (9, [2, 3, 6])]), (24, [(3, [1, 2, 5, 6]), (7, [1, 2, 5, 7])]), (25, [(20, [1, 2, 9]), (2000005, [1, 2, 5, 6, 999999]), (2000007, [1, 2, 6, 999999]), (2000014, [1, 2, 7, 8, 999999]), (2000017, [1, 2, 7, 8, 999999])]), (29, [(9, [1, 3, 4])]), (30, [(3, [1, 2, 5, 6]), (7, [1, 2, 5, 7])]), (32, [(3, [3, 5, 6])]), (38, [(5, [3, 4])]), (39, [(2, [0, 2, 7])]), (40, [(3, [0, 5, 6])]), (43, [(2, [0, 1, 7, 8])]), (48, [(4, [0, 1, 7])]), (55, [(3, [0, 1, 2, 7, 8]), (2000010, [0, 1, 2, 7, 8, 9, 999999])]), (57, [(4, [0, 1, 2, 7])]), (58, [(5, [0, 1, 5, 6]), (10, [0, 1, 5, 6, 7, 8, 9]), (17, [0, 1, 5, 6, 7, 10, 11, 12, 13]), (23, [0, 1, 5, 6, 7, 10, 11, 15]), (2000021, [0, 1, 5, 6, 7, 10, 11, 12, 14, 999999])])]
noncomputable def kp := tabKeep2 kl
structure Lv where
  oriellaw15_ShowKeeps : Int → LL → LL → Int → LL → LL → Option Bool
  oriellaw15_ShowPrints : Int → LL → LL → Option Bool
  oriellaw15_awake : Option Bool
  show_Path : Int → LL → LL → Option ByteArray
  show_joined : LL → ByteArray → LL → Option ByteArray
  show_Filter : Int → ByteArray → ByteArray → ByteArray → LL → LL → Option ByteArray
  show_bracketed : ByteArray → Int → LL → Option ByteArray
  show_name : ByteArray → ByteArray → Option ByteArray
  show_quoted : ByteArray → Option ByteArray
  show_all : LL → ByteArray → LL → Option ByteArray
  slices_Contains_int_int : LL → Int → Option Bool
  lex_Write : Int → ByteArray → ByteArray → Int → Option ByteArray
  slices_Index_int_int : LL → Int → Option Int
  orielref12_Right : Int → LL → LL → Option Bool
  orielref12_Size : Int → LL → LL → Option Int
  orielref12_size : Int → LL → LL → Int → Option Int
  orielref12_sizeFilter : Int → ByteArray → ByteArray → ByteArray → LL → LL → Int → Option Int
  orielref12_path : Int → LL → LL → Int → Option Bool
  orielref12_filter : Int → ByteArray → ByteArray → ByteArray → LL → LL → Int → Option Bool
  orielref12_named : ByteArray → ByteArray → Option Bool
  orielref04_Right : ByteArray → Option Bool
  orielref03_Plain : ByteArray → Option Bool
  orielref01_All : ByteArray → Option (LL × Int × Int)
  orielref02_Start : Int → Option Bool
  orielref01_Rune : ByteArray → Int → Option (Int × Int × Int)
  orielref01_Put : Int → Option LL
  orielref01_cut : ByteArray → Int → Option Bool
  orielref01_value : ByteArray → Int → Int → Option Int
  orielref12_Same : Int → LL → LL → Int → LL → LL → Option Bool
  orielref12_Filters : Int → LL → LL → Option LL
  orielref02_Char : Int → Option Bool
  orielref02_Part : Int → Option Bool
  orielref01_begins : ByteArray → Int → LL → Option Bool
  orielref12_SameFilter : Int → ByteArray → ByteArray → ByteArray → LL → LL → Int → ByteArray → ByteArray → ByteArray → LL → LL → Option Bool
  orielref12_within : Int → ByteArray → ByteArray → ByteArray → LL → LL → Option LL
  orielref02_Blank : Int → Option Bool
  orielref15_Filter : Int → ByteArray → ByteArray → ByteArray → LL → LL → Option ByteArray
  orielref15_Path : Int → LL → LL → Option ByteArray
  orielref05_Find : ByteArray → Int → ByteArray → Option Int
  orielref15_name : ByteArray → ByteArray → Option ByteArray
  orielref15_quoted : ByteArray → Option ByteArray
  orielref15_brackets : ByteArray → Bool → Option ByteArray
  orielref13_Write : Int → ByteArray → ByteArray → Int → Option ByteArray
noncomputable def oriellaw15_ShowKeeps_a : List Arg → Option (Int × LL × LL × Int × LL × LL)
  | [.v (.agg [.c (.int .i64 x0_0), .c (.row 25 x0_1), .c (.row 33 x0_2)]), .v (.agg [.c (.int .i64 x1_0), .c (.row 25 x1_1), .c (.row 33 x1_2)])] => some (x0_0, x0_1, x0_2, x1_0, x1_1, x1_2)
  | _ => none
noncomputable def oriellaw15_ShowKeeps_e (a : Int × LL × LL × Int × LL × LL) : List Arg := [.v (.agg [.c (C.int .i64 a.1), .c (C.row 25 a.2.1), .c (C.row 33 a.2.2.1)]), .v (.agg [.c (C.int .i64 a.2.2.2.1), .c (C.row 25 a.2.2.2.2.1), .c (C.row 33 a.2.2.2.2.2)])]
theorem oriellaw15_ShowKeeps_ae {l : List Arg} {a : Int × LL × LL × Int × LL × LL} (h : oriellaw15_ShowKeeps_a l = some a) : l = oriellaw15_ShowKeeps_e a := by
  unfold oriellaw15_ShowKeeps_a at h
  split at h
  · cases h; rfl
  · cases h
noncomputable def oriellaw15_ShowKeeps_d : Res → Option Bool
  | ⟨.one (.d (.bool y0)), []⟩ => some y0
  | _ => none
noncomputable def oriellaw15_ShowKeeps_r (r : Bool) : Res := ⟨.one (.d (.bool r)), []⟩
theorem oriellaw15_ShowKeeps_dr {R : Res} {r : Bool} (h : oriellaw15_ShowKeeps_d R = some r) : R = oriellaw15_ShowKeeps_r r := by
  unfold oriellaw15_ShowKeeps_d at h
  split at h
  · cases h; rfl
  · cases h
noncomputable def oriellaw15_ShowKeeps_o (L : Lv) {Ω : Type} (f : FuncId) (l : List Arg) (K : Res → Option Ω) (next : Option Ω) : Option Ω := rowO 4 oriellaw15_ShowKeeps_a (fun a => L.oriellaw15_ShowKeeps a.1 a.2.1 a.2.2.1 a.2.2.2.1 a.2.2.2.2.1 a.2.2.2.2.2) oriellaw15_ShowKeeps_r f l K next
noncomputable def oriellaw15_ShowPrints_a : List Arg → Option (Int × LL × LL)
  | [.v (.agg [.c (.int .i64 x0_0), .c (.row 25 x0_1), .c (.row 33 x0_2)])] => some (x0_0, x0_1, x0_2)
  | _ => none
noncomputable def oriellaw15_ShowPrints_e (a : Int × LL × LL) : List Arg := [.v (.agg [.c (C.int .i64 a.1), .c (C.row 25 a.2.1), .c (C.row 33 a.2.2)])]
theorem oriellaw15_ShowPrints_ae {l : List Arg} {a : Int × LL × LL} (h : oriellaw15_ShowPrints_a l = some a) : l = oriellaw15_ShowPrints_e a := by
  unfold oriellaw15_ShowPrints_a at h
  split at h
  · cases h; rfl
  · cases h
noncomputable def oriellaw15_ShowPrints_d : Res → Option Bool
  | ⟨.one (.d (.bool y0)), []⟩ => some y0
  | _ => none
noncomputable def oriellaw15_ShowPrints_r (r : Bool) : Res := ⟨.one (.d (.bool r)), []⟩
theorem oriellaw15_ShowPrints_dr {R : Res} {r : Bool} (h : oriellaw15_ShowPrints_d R = some r) : R = oriellaw15_ShowPrints_r r := by
  unfold oriellaw15_ShowPrints_d at h
  split at h
  · cases h; rfl
  · cases h
noncomputable def oriellaw15_ShowPrints_o (L : Lv) {Ω : Type} (f : FuncId) (l : List Arg) (K : Res → Option Ω) (next : Option Ω) : Option Ω := rowO 3 oriellaw15_ShowPrints_a (fun a => L.oriellaw15_ShowPrints a.1 a.2.1 a.2.2) oriellaw15_ShowPrints_r f l K next
noncomputable def oriellaw15_awake_a : List Arg → Option Unit
  | [] => some ()
  | _ => none
noncomputable def oriellaw15_awake_e (a : Unit) : List Arg := []
theorem oriellaw15_awake_ae {l : List Arg} {a : Unit} (h : oriellaw15_awake_a l = some a) : l = oriellaw15_awake_e a := by
  unfold oriellaw15_awake_a at h
  split at h
  · cases h; rfl
  · cases h
noncomputable def oriellaw15_awake_d : Res → Option Bool
  | ⟨.one (.d (.bool y0)), []⟩ => some y0
  | _ => none
noncomputable def oriellaw15_awake_r (r : Bool) : Res := ⟨.one (.d (.bool r)), []⟩
theorem oriellaw15_awake_dr {R : Res} {r : Bool} (h : oriellaw15_awake_d R = some r) : R = oriellaw15_awake_r r := by
  unfold oriellaw15_awake_d at h
  split at h
  · cases h; rfl
  · cases h
noncomputable def oriellaw15_awake_o (L : Lv) {Ω : Type} (f : FuncId) (l : List Arg) (K : Res → Option Ω) (next : Option Ω) : Option Ω := rowO 5 oriellaw15_awake_a (fun a => L.oriellaw15_awake) oriellaw15_awake_r f l K next
noncomputable def show_Path_a : List Arg → Option (Int × LL × LL)
  | [.v (.agg [.c (.int .i64 x0_0), .c (.row 25 x0_1), .c (.row 33 x0_2)])] => some (x0_0, x0_1, x0_2)
  | _ => none
noncomputable def show_Path_e (a : Int × LL × LL) : List Arg := [.v (.agg [.c (C.int .i64 a.1), .c (C.row 25 a.2.1), .c (C.row 33 a.2.2)])]
theorem show_Path_ae {l : List Arg} {a : Int × LL × LL} (h : show_Path_a l = some a) : l = show_Path_e a := by
  unfold show_Path_a at h
  split at h
  · cases h; rfl
  · cases h
noncomputable def show_Path_d : Res → Option ByteArray
  | ⟨.one (.d (.str y0)), []⟩ => some y0
  | _ => none
noncomputable def show_Path_r (r : ByteArray) : Res := ⟨.one (.d (.str r)), []⟩
theorem show_Path_dr {R : Res} {r : ByteArray} (h : show_Path_d R = some r) : R = show_Path_r r := by
  unfold show_Path_d at h
  split at h
  · cases h; rfl
  · cases h
noncomputable def show_Path_o (L : Lv) {Ω : Type} (f : FuncId) (l : List Arg) (K : Res → Option Ω) (next : Option Ω) : Option Ω := rowO 10 show_Path_a (fun a => L.show_Path a.1 a.2.1 a.2.2) show_Path_r f l K next
noncomputable def show_joined_a : List Arg → Option (LL × ByteArray × LL)
  | [.v (.one (.c (.row 25 x0))), .v (.one (.c (.str x1))), .v (.one (.c (.row 3 x2)))] => some (x0, x1, x2)
  | _ => none
noncomputable def show_joined_e (a : LL × ByteArray × LL) : List Arg := [.v (.one (.c (C.row 25 a.1))), .v (.one (.c (C.str a.2.1))), .v (.one (.c (C.row 3 a.2.2)))]
theorem show_joined_ae {l : List Arg} {a : LL × ByteArray × LL} (h : show_joined_a l = some a) : l = show_joined_e a := by
  unfold show_joined_a at h
  split at h
  · cases h; rfl
  · cases h
noncomputable def show_joined_d : Res → Option ByteArray
  | ⟨.one (.d (.str y0)), []⟩ => some y0
  | _ => none
noncomputable def show_joined_r (r : ByteArray) : Res := ⟨.one (.d (.str r)), []⟩
theorem show_joined_dr {R : Res} {r : ByteArray} (h : show_joined_d R = some r) : R = show_joined_r r := by
  unfold show_joined_d at h
  split at h
  · cases h; rfl
  · cases h
noncomputable def show_joined_o (L : Lv) {Ω : Type} (f : FuncId) (l : List Arg) (K : Res → Option Ω) (next : Option Ω) : Option Ω := rowO 19 show_joined_a (fun a => L.show_joined a.1 a.2.1 a.2.2) show_joined_r f l K next
noncomputable def show_Filter_a : List Arg → Option (Int × ByteArray × ByteArray × ByteArray × LL × LL)
  | [.v (.agg [.c (.int .i64 x0_0), .c (.str x0_1), .c (.str x0_2), .c (.str x0_3), .c (.row 33 x0_4), .c (.row 25 x0_5)])] => some (x0_0, x0_1, x0_2, x0_3, x0_4, x0_5)
  | _ => none
noncomputable def show_Filter_e (a : Int × ByteArray × ByteArray × ByteArray × LL × LL) : List Arg := [.v (.agg [.c (C.int .i64 a.1), .c (C.str a.2.1), .c (C.str a.2.2.1), .c (C.str a.2.2.2.1), .c (C.row 33 a.2.2.2.2.1), .c (C.row 25 a.2.2.2.2.2)])]
theorem show_Filter_ae {l : List Arg} {a : Int × ByteArray × ByteArray × ByteArray × LL × LL} (h : show_Filter_a l = some a) : l = show_Filter_e a := by
  unfold show_Filter_a at h
  split at h
  · cases h; rfl
  · cases h
noncomputable def show_Filter_d : Res → Option ByteArray
  | ⟨.one (.d (.str y0)), []⟩ => some y0
  | _ => none
noncomputable def show_Filter_r (r : ByteArray) : Res := ⟨.one (.d (.str r)), []⟩
theorem show_Filter_dr {R : Res} {r : ByteArray} (h : show_Filter_d R = some r) : R = show_Filter_r r := by
  unfold show_Filter_d at h
  split at h
  · cases h; rfl
  · cases h
noncomputable def show_Filter_o (L : Lv) {Ω : Type} (f : FuncId) (l : List Arg) (K : Res → Option Ω) (next : Option Ω) : Option Ω := rowO 8 show_Filter_a (fun a => L.show_Filter a.1 a.2.1 a.2.2.1 a.2.2.2.1 a.2.2.2.2.1 a.2.2.2.2.2) show_Filter_r f l K next
noncomputable def show_bracketed_a : List Arg → Option (ByteArray × Int × LL)
  | [.v (.one (.c (.str x0))), .v (.one (.c (.int .i64 x1))), .v (.one (.c (.row 3 x2)))] => some (x0, x1, x2)
  | _ => none
noncomputable def show_bracketed_e (a : ByteArray × Int × LL) : List Arg := [.v (.one (.c (C.str a.1))), .v (.one (.c (C.int .i64 a.2.1))), .v (.one (.c (C.row 3 a.2.2)))]
theorem show_bracketed_ae {l : List Arg} {a : ByteArray × Int × LL} (h : show_bracketed_a l = some a) : l = show_bracketed_e a := by
  unfold show_bracketed_a at h
  split at h
  · cases h; rfl
  · cases h
noncomputable def show_bracketed_d : Res → Option ByteArray
  | ⟨.one (.d (.str y0)), []⟩ => some y0
  | _ => none
noncomputable def show_bracketed_r (r : ByteArray) : Res := ⟨.one (.d (.str r)), []⟩
theorem show_bracketed_dr {R : Res} {r : ByteArray} (h : show_bracketed_d R = some r) : R = show_bracketed_r r := by
  unfold show_bracketed_d at h
  split at h
  · cases h; rfl
  · cases h
noncomputable def show_bracketed_o (L : Lv) {Ω : Type} (f : FuncId) (l : List Arg) (K : Res → Option Ω) (next : Option Ω) : Option Ω := rowO 27 show_bracketed_a (fun a => L.show_bracketed a.1 a.2.1 a.2.2) show_bracketed_r f l K next
noncomputable def strings_Join_a : List Arg → Option (LL × ByteArray)
  | [.v (.one (.c (.row 9 x0))), .v (.one (.c (.str x1)))] => some (x0, x1)
  | _ => none
noncomputable def strings_Join_e (a : LL × ByteArray) : List Arg := [.v (.one (.c (C.row 9 a.1))), .v (.one (.c (C.str a.2)))]
theorem strings_Join_ae {l : List Arg} {a : LL × ByteArray} (h : strings_Join_a l = some a) : l = strings_Join_e a := by
  unfold strings_Join_a at h
  split at h
  · cases h; rfl
  · cases h
noncomputable def strings_Join_d : Res → Option ByteArray
  | ⟨.one (.d (.str y0)), []⟩ => some y0
  | _ => none
noncomputable def strings_Join_r (r : ByteArray) : Res := ⟨.one (.d (.str r)), []⟩
theorem strings_Join_dr {R : Res} {r : ByteArray} (h : strings_Join_d R = some r) : R = strings_Join_r r := by
  unfold strings_Join_d at h
  split at h
  · cases h; rfl
  · cases h
noncomputable def strings_Join_o (L : Lv) {Ω : Type} (f : FuncId) (l : List Arg) (K : Res → Option Ω) (next : Option Ω) : Option Ω := rowO 28 strings_Join_a (fun a => joinV a.1 a.2) strings_Join_r f l K next
noncomputable def show_name_a : List Arg → Option (ByteArray × ByteArray)
  | [.v (.agg [.c (.str x0_0), .c (.str x0_1)])] => some (x0_0, x0_1)
  | _ => none
noncomputable def show_name_e (a : ByteArray × ByteArray) : List Arg := [.v (.agg [.c (C.str a.1), .c (C.str a.2)])]
theorem show_name_ae {l : List Arg} {a : ByteArray × ByteArray} (h : show_name_a l = some a) : l = show_name_e a := by
  unfold show_name_a at h
  split at h
  · cases h; rfl
  · cases h
noncomputable def show_name_d : Res → Option ByteArray
  | ⟨.one (.d (.str y0)), []⟩ => some y0
  | _ => none
noncomputable def show_name_r (r : ByteArray) : Res := ⟨.one (.d (.str r)), []⟩
theorem show_name_dr {R : Res} {r : ByteArray} (h : show_name_d R = some r) : R = show_name_r r := by
  unfold show_name_d at h
  split at h
  · cases h; rfl
  · cases h
noncomputable def show_name_o (L : Lv) {Ω : Type} (f : FuncId) (l : List Arg) (K : Res → Option Ω) (next : Option Ω) : Option Ω := rowO 16 show_name_a (fun a => L.show_name a.1 a.2) show_name_r f l K next
noncomputable def show_quoted_a : List Arg → Option ByteArray
  | [.v (.one (.c (.str x0)))] => some x0
  | _ => none
noncomputable def show_quoted_e (a : ByteArray) : List Arg := [.v (.one (.c (C.str a)))]
theorem show_quoted_ae {l : List Arg} {a : ByteArray} (h : show_quoted_a l = some a) : l = show_quoted_e a := by
  unfold show_quoted_a at h
  split at h
  · cases h; rfl
  · cases h
noncomputable def show_quoted_d : Res → Option ByteArray
  | ⟨.one (.d (.str y0)), []⟩ => some y0
  | _ => none
noncomputable def show_quoted_r (r : ByteArray) : Res := ⟨.one (.d (.str r)), []⟩
theorem show_quoted_dr {R : Res} {r : ByteArray} (h : show_quoted_d R = some r) : R = show_quoted_r r := by
  unfold show_quoted_d at h
  split at h
  · cases h; rfl
  · cases h
noncomputable def show_quoted_o (L : Lv) {Ω : Type} (f : FuncId) (l : List Arg) (K : Res → Option Ω) (next : Option Ω) : Option Ω := rowO 17 show_quoted_a (fun a => L.show_quoted a) show_quoted_r f l K next
noncomputable def show_all_a : List Arg → Option (LL × ByteArray × LL)
  | [.v (.one (.c (.row 33 x0))), .v (.one (.c (.str x1))), .v (.one (.c (.row 3 x2)))] => some (x0, x1, x2)
  | _ => none
noncomputable def show_all_e (a : LL × ByteArray × LL) : List Arg := [.v (.one (.c (C.row 33 a.1))), .v (.one (.c (C.str a.2.1))), .v (.one (.c (C.row 3 a.2.2)))]
theorem show_all_ae {l : List Arg} {a : LL × ByteArray × LL} (h : show_all_a l = some a) : l = show_all_e a := by
  unfold show_all_a at h
  split at h
  · cases h; rfl
  · cases h
noncomputable def show_all_d : Res → Option ByteArray
  | ⟨.one (.d (.str y0)), []⟩ => some y0
  | _ => none
noncomputable def show_all_r (r : ByteArray) : Res := ⟨.one (.d (.str r)), []⟩
theorem show_all_dr {R : Res} {r : ByteArray} (h : show_all_d R = some r) : R = show_all_r r := by
  unfold show_all_d at h
  split at h
  · cases h; rfl
  · cases h
noncomputable def show_all_o (L : Lv) {Ω : Type} (f : FuncId) (l : List Arg) (K : Res → Option Ω) (next : Option Ω) : Option Ω := rowO 18 show_all_a (fun a => L.show_all a.1 a.2.1 a.2.2) show_all_r f l K next
noncomputable def slices_Contains_int_int_a : List Arg → Option (LL × Int)
  | [.v (.one (.c (.row 3 x0))), .v (.one (.c (.int .i64 x1)))] => some (x0, x1)
  | _ => none
noncomputable def slices_Contains_int_int_e (a : LL × Int) : List Arg := [.v (.one (.c (C.row 3 a.1))), .v (.one (.c (C.int .i64 a.2)))]
theorem slices_Contains_int_int_ae {l : List Arg} {a : LL × Int} (h : slices_Contains_int_int_a l = some a) : l = slices_Contains_int_int_e a := by
  unfold slices_Contains_int_int_a at h
  split at h
  · cases h; rfl
  · cases h
noncomputable def slices_Contains_int_int_d : Res → Option Bool
  | ⟨.one (.d (.bool y0)), []⟩ => some y0
  | _ => none
noncomputable def slices_Contains_int_int_r (r : Bool) : Res := ⟨.one (.d (.bool r)), []⟩
theorem slices_Contains_int_int_dr {R : Res} {r : Bool} (h : slices_Contains_int_int_d R = some r) : R = slices_Contains_int_int_r r := by
  unfold slices_Contains_int_int_d at h
  split at h
  · cases h; rfl
  · cases h
noncomputable def slices_Contains_int_int_o (L : Lv) {Ω : Type} (f : FuncId) (l : List Arg) (K : Res → Option Ω) (next : Option Ω) : Option Ω := rowO 34 slices_Contains_int_int_a (fun a => L.slices_Contains_int_int a.1 a.2) slices_Contains_int_int_r f l K next
noncomputable def lex_Write_a : List Arg → Option (Int × ByteArray × ByteArray × Int)
  | [.v (.agg [.c (.int .i64 x0_0), .c (.str x0_1), .c (.str x0_2), .c (.int .i64 x0_3)])] => some (x0_0, x0_1, x0_2, x0_3)
  | _ => none
noncomputable def lex_Write_e (a : Int × ByteArray × ByteArray × Int) : List Arg := [.v (.agg [.c (C.int .i64 a.1), .c (C.str a.2.1), .c (C.str a.2.2.1), .c (C.int .i64 a.2.2.2)])]
theorem lex_Write_ae {l : List Arg} {a : Int × ByteArray × ByteArray × Int} (h : lex_Write_a l = some a) : l = lex_Write_e a := by
  unfold lex_Write_a at h
  split at h
  · cases h; rfl
  · cases h
noncomputable def lex_Write_d : Res → Option ByteArray
  | ⟨.one (.d (.str y0)), []⟩ => some y0
  | _ => none
noncomputable def lex_Write_r (r : ByteArray) : Res := ⟨.one (.d (.str r)), []⟩
theorem lex_Write_dr {R : Res} {r : ByteArray} (h : lex_Write_d R = some r) : R = lex_Write_r r := by
  unfold lex_Write_d at h
  split at h
  · cases h; rfl
  · cases h
noncomputable def lex_Write_o (L : Lv) {Ω : Type} (f : FuncId) (l : List Arg) (K : Res → Option Ω) (next : Option Ω) : Option Ω := rowO 26 lex_Write_a (fun a => L.lex_Write a.1 a.2.1 a.2.2.1 a.2.2.2) lex_Write_r f l K next
noncomputable def slices_Index_int_int_a : List Arg → Option (LL × Int)
  | [.v (.one (.c (.row 3 x0))), .v (.one (.c (.int .i64 x1)))] => some (x0, x1)
  | _ => none
noncomputable def slices_Index_int_int_e (a : LL × Int) : List Arg := [.v (.one (.c (C.row 3 a.1))), .v (.one (.c (C.int .i64 a.2)))]
theorem slices_Index_int_int_ae {l : List Arg} {a : LL × Int} (h : slices_Index_int_int_a l = some a) : l = slices_Index_int_int_e a := by
  unfold slices_Index_int_int_a at h
  split at h
  · cases h; rfl
  · cases h
noncomputable def slices_Index_int_int_d : Res → Option Int
  | ⟨.one (.d (.int .i64 y0)), []⟩ => some y0
  | _ => none
noncomputable def slices_Index_int_int_r (r : Int) : Res := ⟨.one (.d (.int .i64 r)), []⟩
theorem slices_Index_int_int_dr {R : Res} {r : Int} (h : slices_Index_int_int_d R = some r) : R = slices_Index_int_int_r r := by
  unfold slices_Index_int_int_d at h
  split at h
  · cases h; rfl
  · cases h
noncomputable def slices_Index_int_int_o (L : Lv) {Ω : Type} (f : FuncId) (l : List Arg) (K : Res → Option Ω) (next : Option Ω) : Option Ω := rowO 43 slices_Index_int_int_a (fun a => L.slices_Index_int_int a.1 a.2) slices_Index_int_int_r f l K next
noncomputable def strings_ReplaceAll_a : List Arg → Option (ByteArray × ByteArray × ByteArray)
  | [.v (.one (.c (.str x0))), .v (.one (.c (.str x1))), .v (.one (.c (.str x2)))] => some (x0, x1, x2)
  | _ => none
noncomputable def strings_ReplaceAll_e (a : ByteArray × ByteArray × ByteArray) : List Arg := [.v (.one (.c (C.str a.1))), .v (.one (.c (C.str a.2.1))), .v (.one (.c (C.str a.2.2)))]
theorem strings_ReplaceAll_ae {l : List Arg} {a : ByteArray × ByteArray × ByteArray} (h : strings_ReplaceAll_a l = some a) : l = strings_ReplaceAll_e a := by
  unfold strings_ReplaceAll_a at h
  split at h
  · cases h; rfl
  · cases h
noncomputable def strings_ReplaceAll_d : Res → Option ByteArray
  | ⟨.one (.d (.str y0)), []⟩ => some y0
  | _ => none
noncomputable def strings_ReplaceAll_r (r : ByteArray) : Res := ⟨.one (.d (.str r)), []⟩
theorem strings_ReplaceAll_dr {R : Res} {r : ByteArray} (h : strings_ReplaceAll_d R = some r) : R = strings_ReplaceAll_r r := by
  unfold strings_ReplaceAll_d at h
  split at h
  · cases h; rfl
  · cases h
noncomputable def strings_ReplaceAll_o (L : Lv) {Ω : Type} (f : FuncId) (l : List Arg) (K : Res → Option Ω) (next : Option Ω) : Option Ω := rowO 33 strings_ReplaceAll_a (fun a => replV a.1 a.2.1 a.2.2) strings_ReplaceAll_r f l K next
noncomputable def orielref12_Right_a : List Arg → Option (Int × LL × LL)
  | [.v (.agg [.c (.int .i64 x0_0), .c (.row 25 x0_1), .c (.row 33 x0_2)])] => some (x0_0, x0_1, x0_2)
  | _ => none
noncomputable def orielref12_Right_e (a : Int × LL × LL) : List Arg := [.v (.agg [.c (C.int .i64 a.1), .c (C.row 25 a.2.1), .c (C.row 33 a.2.2)])]
theorem orielref12_Right_ae {l : List Arg} {a : Int × LL × LL} (h : orielref12_Right_a l = some a) : l = orielref12_Right_e a := by
  unfold orielref12_Right_a at h
  split at h
  · cases h; rfl
  · cases h
noncomputable def orielref12_Right_d : Res → Option Bool
  | ⟨.one (.d (.bool y0)), []⟩ => some y0
  | _ => none
noncomputable def orielref12_Right_r (r : Bool) : Res := ⟨.one (.d (.bool r)), []⟩
theorem orielref12_Right_dr {R : Res} {r : Bool} (h : orielref12_Right_d R = some r) : R = orielref12_Right_r r := by
  unfold orielref12_Right_d at h
  split at h
  · cases h; rfl
  · cases h
noncomputable def orielref12_Right_o (L : Lv) {Ω : Type} (f : FuncId) (l : List Arg) (K : Res → Option Ω) (next : Option Ω) : Option Ω := rowO 6 orielref12_Right_a (fun a => L.orielref12_Right a.1 a.2.1 a.2.2) orielref12_Right_r f l K next
noncomputable def orielref12_Size_a : List Arg → Option (Int × LL × LL)
  | [.v (.agg [.c (.int .i64 x0_0), .c (.row 25 x0_1), .c (.row 33 x0_2)])] => some (x0_0, x0_1, x0_2)
  | _ => none
noncomputable def orielref12_Size_e (a : Int × LL × LL) : List Arg := [.v (.agg [.c (C.int .i64 a.1), .c (C.row 25 a.2.1), .c (C.row 33 a.2.2)])]
theorem orielref12_Size_ae {l : List Arg} {a : Int × LL × LL} (h : orielref12_Size_a l = some a) : l = orielref12_Size_e a := by
  unfold orielref12_Size_a at h
  split at h
  · cases h; rfl
  · cases h
noncomputable def orielref12_Size_d : Res → Option Int
  | ⟨.one (.d (.int .i64 y0)), []⟩ => some y0
  | _ => none
noncomputable def orielref12_Size_r (r : Int) : Res := ⟨.one (.d (.int .i64 r)), []⟩
theorem orielref12_Size_dr {R : Res} {r : Int} (h : orielref12_Size_d R = some r) : R = orielref12_Size_r r := by
  unfold orielref12_Size_d at h
  split at h
  · cases h; rfl
  · cases h
noncomputable def orielref12_Size_o (L : Lv) {Ω : Type} (f : FuncId) (l : List Arg) (K : Res → Option Ω) (next : Option Ω) : Option Ω := rowO 13 orielref12_Size_a (fun a => L.orielref12_Size a.1 a.2.1 a.2.2) orielref12_Size_r f l K next
noncomputable def orielref12_size_a : List Arg → Option (Int × LL × LL × Int)
  | [.v (.agg [.c (.int .i64 x0_0), .c (.row 25 x0_1), .c (.row 33 x0_2)]), .v (.one (.c (.int .i64 x1)))] => some (x0_0, x0_1, x0_2, x1)
  | _ => none
noncomputable def orielref12_size_e (a : Int × LL × LL × Int) : List Arg := [.v (.agg [.c (C.int .i64 a.1), .c (C.row 25 a.2.1), .c (C.row 33 a.2.2.1)]), .v (.one (.c (C.int .i64 a.2.2.2)))]
theorem orielref12_size_ae {l : List Arg} {a : Int × LL × LL × Int} (h : orielref12_size_a l = some a) : l = orielref12_size_e a := by
  unfold orielref12_size_a at h
  split at h
  · cases h; rfl
  · cases h
noncomputable def orielref12_size_d : Res → Option Int
  | ⟨.one (.d (.int .i64 y0)), []⟩ => some y0
  | _ => none
noncomputable def orielref12_size_r (r : Int) : Res := ⟨.one (.d (.int .i64 r)), []⟩
theorem orielref12_size_dr {R : Res} {r : Int} (h : orielref12_size_d R = some r) : R = orielref12_size_r r := by
  unfold orielref12_size_d at h
  split at h
  · cases h; rfl
  · cases h
noncomputable def orielref12_size_o (L : Lv) {Ω : Type} (f : FuncId) (l : List Arg) (K : Res → Option Ω) (next : Option Ω) : Option Ω := rowO 24 orielref12_size_a (fun a => L.orielref12_size a.1 a.2.1 a.2.2.1 a.2.2.2) orielref12_size_r f l K next
noncomputable def orielref12_sizeFilter_a : List Arg → Option (Int × ByteArray × ByteArray × ByteArray × LL × LL × Int)
  | [.v (.agg [.c (.int .i64 x0_0), .c (.str x0_1), .c (.str x0_2), .c (.str x0_3), .c (.row 33 x0_4), .c (.row 25 x0_5)]), .v (.one (.c (.int .i64 x1)))] => some (x0_0, x0_1, x0_2, x0_3, x0_4, x0_5, x1)
  | _ => none
noncomputable def orielref12_sizeFilter_e (a : Int × ByteArray × ByteArray × ByteArray × LL × LL × Int) : List Arg := [.v (.agg [.c (C.int .i64 a.1), .c (C.str a.2.1), .c (C.str a.2.2.1), .c (C.str a.2.2.2.1), .c (C.row 33 a.2.2.2.2.1), .c (C.row 25 a.2.2.2.2.2.1)]), .v (.one (.c (C.int .i64 a.2.2.2.2.2.2)))]
theorem orielref12_sizeFilter_ae {l : List Arg} {a : Int × ByteArray × ByteArray × ByteArray × LL × LL × Int} (h : orielref12_sizeFilter_a l = some a) : l = orielref12_sizeFilter_e a := by
  unfold orielref12_sizeFilter_a at h
  split at h
  · cases h; rfl
  · cases h
noncomputable def orielref12_sizeFilter_d : Res → Option Int
  | ⟨.one (.d (.int .i64 y0)), []⟩ => some y0
  | _ => none
noncomputable def orielref12_sizeFilter_r (r : Int) : Res := ⟨.one (.d (.int .i64 r)), []⟩
theorem orielref12_sizeFilter_dr {R : Res} {r : Int} (h : orielref12_sizeFilter_d R = some r) : R = orielref12_sizeFilter_r r := by
  unfold orielref12_sizeFilter_d at h
  split at h
  · cases h; rfl
  · cases h
noncomputable def orielref12_sizeFilter_o (L : Lv) {Ω : Type} (f : FuncId) (l : List Arg) (K : Res → Option Ω) (next : Option Ω) : Option Ω := rowO 30 orielref12_sizeFilter_a (fun a => L.orielref12_sizeFilter a.1 a.2.1 a.2.2.1 a.2.2.2.1 a.2.2.2.2.1 a.2.2.2.2.2.1 a.2.2.2.2.2.2) orielref12_sizeFilter_r f l K next
noncomputable def orielref12_path_a : List Arg → Option (Int × LL × LL × Int)
  | [.v (.agg [.c (.int .i64 x0_0), .c (.row 25 x0_1), .c (.row 33 x0_2)]), .v (.one (.c (.int .i64 x1)))] => some (x0_0, x0_1, x0_2, x1)
  | _ => none
noncomputable def orielref12_path_e (a : Int × LL × LL × Int) : List Arg := [.v (.agg [.c (C.int .i64 a.1), .c (C.row 25 a.2.1), .c (C.row 33 a.2.2.1)]), .v (.one (.c (C.int .i64 a.2.2.2)))]
theorem orielref12_path_ae {l : List Arg} {a : Int × LL × LL × Int} (h : orielref12_path_a l = some a) : l = orielref12_path_e a := by
  unfold orielref12_path_a at h
  split at h
  · cases h; rfl
  · cases h
noncomputable def orielref12_path_d : Res → Option Bool
  | ⟨.one (.d (.bool y0)), []⟩ => some y0
  | _ => none
noncomputable def orielref12_path_r (r : Bool) : Res := ⟨.one (.d (.bool r)), []⟩
theorem orielref12_path_dr {R : Res} {r : Bool} (h : orielref12_path_d R = some r) : R = orielref12_path_r r := by
  unfold orielref12_path_d at h
  split at h
  · cases h; rfl
  · cases h
noncomputable def orielref12_path_o (L : Lv) {Ω : Type} (f : FuncId) (l : List Arg) (K : Res → Option Ω) (next : Option Ω) : Option Ω := rowO 14 orielref12_path_a (fun a => L.orielref12_path a.1 a.2.1 a.2.2.1 a.2.2.2) orielref12_path_r f l K next
noncomputable def orielref12_filter_a : List Arg → Option (Int × ByteArray × ByteArray × ByteArray × LL × LL × Int)
  | [.v (.agg [.c (.int .i64 x0_0), .c (.str x0_1), .c (.str x0_2), .c (.str x0_3), .c (.row 33 x0_4), .c (.row 25 x0_5)]), .v (.one (.c (.int .i64 x1)))] => some (x0_0, x0_1, x0_2, x0_3, x0_4, x0_5, x1)
  | _ => none
noncomputable def orielref12_filter_e (a : Int × ByteArray × ByteArray × ByteArray × LL × LL × Int) : List Arg := [.v (.agg [.c (C.int .i64 a.1), .c (C.str a.2.1), .c (C.str a.2.2.1), .c (C.str a.2.2.2.1), .c (C.row 33 a.2.2.2.2.1), .c (C.row 25 a.2.2.2.2.2.1)]), .v (.one (.c (C.int .i64 a.2.2.2.2.2.2)))]
theorem orielref12_filter_ae {l : List Arg} {a : Int × ByteArray × ByteArray × ByteArray × LL × LL × Int} (h : orielref12_filter_a l = some a) : l = orielref12_filter_e a := by
  unfold orielref12_filter_a at h
  split at h
  · cases h; rfl
  · cases h
noncomputable def orielref12_filter_d : Res → Option Bool
  | ⟨.one (.d (.bool y0)), []⟩ => some y0
  | _ => none
noncomputable def orielref12_filter_r (r : Bool) : Res := ⟨.one (.d (.bool r)), []⟩
theorem orielref12_filter_dr {R : Res} {r : Bool} (h : orielref12_filter_d R = some r) : R = orielref12_filter_r r := by
  unfold orielref12_filter_d at h
  split at h
  · cases h; rfl
  · cases h
noncomputable def orielref12_filter_o (L : Lv) {Ω : Type} (f : FuncId) (l : List Arg) (K : Res → Option Ω) (next : Option Ω) : Option Ω := rowO 25 orielref12_filter_a (fun a => L.orielref12_filter a.1 a.2.1 a.2.2.1 a.2.2.2.1 a.2.2.2.2.1 a.2.2.2.2.2.1 a.2.2.2.2.2.2) orielref12_filter_r f l K next
noncomputable def orielref12_named_a : List Arg → Option (ByteArray × ByteArray)
  | [.v (.agg [.c (.str x0_0), .c (.str x0_1)])] => some (x0_0, x0_1)
  | _ => none
noncomputable def orielref12_named_e (a : ByteArray × ByteArray) : List Arg := [.v (.agg [.c (C.str a.1), .c (C.str a.2)])]
theorem orielref12_named_ae {l : List Arg} {a : ByteArray × ByteArray} (h : orielref12_named_a l = some a) : l = orielref12_named_e a := by
  unfold orielref12_named_a at h
  split at h
  · cases h; rfl
  · cases h
noncomputable def orielref12_named_d : Res → Option Bool
  | ⟨.one (.d (.bool y0)), []⟩ => some y0
  | _ => none
noncomputable def orielref12_named_r (r : Bool) : Res := ⟨.one (.d (.bool r)), []⟩
theorem orielref12_named_dr {R : Res} {r : Bool} (h : orielref12_named_d R = some r) : R = orielref12_named_r r := by
  unfold orielref12_named_d at h
  split at h
  · cases h; rfl
  · cases h
noncomputable def orielref12_named_o (L : Lv) {Ω : Type} (f : FuncId) (l : List Arg) (K : Res → Option Ω) (next : Option Ω) : Option Ω := rowO 31 orielref12_named_a (fun a => L.orielref12_named a.1 a.2) orielref12_named_r f l K next
noncomputable def orielref04_Right_a : List Arg → Option ByteArray
  | [.v (.one (.c (.str x0)))] => some x0
  | _ => none
noncomputable def orielref04_Right_e (a : ByteArray) : List Arg := [.v (.one (.c (C.str a)))]
theorem orielref04_Right_ae {l : List Arg} {a : ByteArray} (h : orielref04_Right_a l = some a) : l = orielref04_Right_e a := by
  unfold orielref04_Right_a at h
  split at h
  · cases h; rfl
  · cases h
noncomputable def orielref04_Right_d : Res → Option Bool
  | ⟨.one (.d (.bool y0)), []⟩ => some y0
  | _ => none
noncomputable def orielref04_Right_r (r : Bool) : Res := ⟨.one (.d (.bool r)), []⟩
theorem orielref04_Right_dr {R : Res} {r : Bool} (h : orielref04_Right_d R = some r) : R = orielref04_Right_r r := by
  unfold orielref04_Right_d at h
  split at h
  · cases h; rfl
  · cases h
noncomputable def orielref04_Right_o (L : Lv) {Ω : Type} (f : FuncId) (l : List Arg) (K : Res → Option Ω) (next : Option Ω) : Option Ω := rowO 32 orielref04_Right_a (fun a => L.orielref04_Right a) orielref04_Right_r f l K next
noncomputable def orielref03_Plain_a : List Arg → Option ByteArray
  | [.v (.one (.c (.str x0)))] => some x0
  | _ => none
noncomputable def orielref03_Plain_e (a : ByteArray) : List Arg := [.v (.one (.c (C.str a)))]
theorem orielref03_Plain_ae {l : List Arg} {a : ByteArray} (h : orielref03_Plain_a l = some a) : l = orielref03_Plain_e a := by
  unfold orielref03_Plain_a at h
  split at h
  · cases h; rfl
  · cases h
noncomputable def orielref03_Plain_d : Res → Option Bool
  | ⟨.one (.d (.bool y0)), []⟩ => some y0
  | _ => none
noncomputable def orielref03_Plain_r (r : Bool) : Res := ⟨.one (.d (.bool r)), []⟩
theorem orielref03_Plain_dr {R : Res} {r : Bool} (h : orielref03_Plain_d R = some r) : R = orielref03_Plain_r r := by
  unfold orielref03_Plain_d at h
  split at h
  · cases h; rfl
  · cases h
noncomputable def orielref03_Plain_o (L : Lv) {Ω : Type} (f : FuncId) (l : List Arg) (K : Res → Option Ω) (next : Option Ω) : Option Ω := rowO 38 orielref03_Plain_a (fun a => L.orielref03_Plain a) orielref03_Plain_r f l K next
noncomputable def orielref01_All_a : List Arg → Option ByteArray
  | [.v (.one (.c (.str x0)))] => some x0
  | _ => none
noncomputable def orielref01_All_e (a : ByteArray) : List Arg := [.v (.one (.c (C.str a)))]
theorem orielref01_All_ae {l : List Arg} {a : ByteArray} (h : orielref01_All_a l = some a) : l = orielref01_All_e a := by
  unfold orielref01_All_a at h
  split at h
  · cases h; rfl
  · cases h
noncomputable def orielref01_All_d : Res → Option (LL × Int × Int)
  | ⟨.tup [.one (.own 21 y0), .one (.d (.int .i64 y1)), .one (.d (.int .i64 y2))], []⟩ => some (y0, y1, y2)
  | _ => none
noncomputable def orielref01_All_r (r : LL × Int × Int) : Res := ⟨.tup [.one (.own 21 r.1), .one (.d (.int .i64 r.2.1)), .one (.d (.int .i64 r.2.2))], []⟩
theorem orielref01_All_dr {R : Res} {r : LL × Int × Int} (h : orielref01_All_d R = some r) : R = orielref01_All_r r := by
  unfold orielref01_All_d at h
  split at h
  · cases h; rfl
  · cases h
noncomputable def orielref01_All_o (L : Lv) {Ω : Type} (f : FuncId) (l : List Arg) (K : Res → Option Ω) (next : Option Ω) : Option Ω := rowO 40 orielref01_All_a (fun a => L.orielref01_All a) orielref01_All_r f l K next
noncomputable def orielref02_Start_a : List Arg → Option Int
  | [.v (.one (.c (.int .i64 x0)))] => some x0
  | _ => none
noncomputable def orielref02_Start_e (a : Int) : List Arg := [.v (.one (.c (C.int .i64 a)))]
theorem orielref02_Start_ae {l : List Arg} {a : Int} (h : orielref02_Start_a l = some a) : l = orielref02_Start_e a := by
  unfold orielref02_Start_a at h
  split at h
  · cases h; rfl
  · cases h
noncomputable def orielref02_Start_d : Res → Option Bool
  | ⟨.one (.d (.bool y0)), []⟩ => some y0
  | _ => none
noncomputable def orielref02_Start_r (r : Bool) : Res := ⟨.one (.d (.bool r)), []⟩
theorem orielref02_Start_dr {R : Res} {r : Bool} (h : orielref02_Start_d R = some r) : R = orielref02_Start_r r := by
  unfold orielref02_Start_d at h
  split at h
  · cases h; rfl
  · cases h
noncomputable def orielref02_Start_o (L : Lv) {Ω : Type} (f : FuncId) (l : List Arg) (K : Res → Option Ω) (next : Option Ω) : Option Ω := rowO 46 orielref02_Start_a (fun a => L.orielref02_Start a) orielref02_Start_r f l K next
noncomputable def orielref01_Rune_a : List Arg → Option (ByteArray × Int)
  | [.v (.one (.c (.str x0))), .v (.one (.c (.int .i64 x1)))] => some (x0, x1)
  | _ => none
noncomputable def orielref01_Rune_e (a : ByteArray × Int) : List Arg := [.v (.one (.c (C.str a.1))), .v (.one (.c (C.int .i64 a.2)))]
theorem orielref01_Rune_ae {l : List Arg} {a : ByteArray × Int} (h : orielref01_Rune_a l = some a) : l = orielref01_Rune_e a := by
  unfold orielref01_Rune_a at h
  split at h
  · cases h; rfl
  · cases h
noncomputable def orielref01_Rune_d : Res → Option (Int × Int × Int)
  | ⟨.tup [.one (.d (.int .i64 y0)), .one (.d (.int .i64 y1)), .one (.d (.int .i64 y2))], []⟩ => some (y0, y1, y2)
  | _ => none
noncomputable def orielref01_Rune_r (r : Int × Int × Int) : Res := ⟨.tup [.one (.d (.int .i64 r.1)), .one (.d (.int .i64 r.2.1)), .one (.d (.int .i64 r.2.2))], []⟩
theorem orielref01_Rune_dr {R : Res} {r : Int × Int × Int} (h : orielref01_Rune_d R = some r) : R = orielref01_Rune_r r := by
  unfold orielref01_Rune_d at h
  split at h
  · cases h; rfl
  · cases h
noncomputable def orielref01_Rune_o (L : Lv) {Ω : Type} (f : FuncId) (l : List Arg) (K : Res → Option Ω) (next : Option Ω) : Option Ω := rowO 48 orielref01_Rune_a (fun a => L.orielref01_Rune a.1 a.2) orielref01_Rune_r f l K next
noncomputable def orielref01_Put_a : List Arg → Option Int
  | [.v (.one (.c (.int .i64 x0)))] => some x0
  | _ => none
noncomputable def orielref01_Put_e (a : Int) : List Arg := [.v (.one (.c (C.int .i64 a)))]
theorem orielref01_Put_ae {l : List Arg} {a : Int} (h : orielref01_Put_a l = some a) : l = orielref01_Put_e a := by
  unfold orielref01_Put_a at h
  split at h
  · cases h; rfl
  · cases h
noncomputable def orielref01_Put_d : Res → Option LL
  | ⟨.one (.own 5 y0), []⟩ => some y0
  | _ => none
noncomputable def orielref01_Put_r (r : LL) : Res := ⟨.one (.own 5 r), []⟩
theorem orielref01_Put_dr {R : Res} {r : LL} (h : orielref01_Put_d R = some r) : R = orielref01_Put_r r := by
  unfold orielref01_Put_d at h
  split at h
  · cases h; rfl
  · cases h
noncomputable def orielref01_Put_o (L : Lv) {Ω : Type} (f : FuncId) (l : List Arg) (K : Res → Option Ω) (next : Option Ω) : Option Ω := rowO 56 orielref01_Put_a (fun a => L.orielref01_Put a) orielref01_Put_r f l K next
noncomputable def orielref01_cut_a : List Arg → Option (ByteArray × Int)
  | [.v (.one (.c (.str x0))), .v (.one (.c (.int .i64 x1)))] => some (x0, x1)
  | _ => none
noncomputable def orielref01_cut_e (a : ByteArray × Int) : List Arg := [.v (.one (.c (C.str a.1))), .v (.one (.c (C.int .i64 a.2)))]
theorem orielref01_cut_ae {l : List Arg} {a : ByteArray × Int} (h : orielref01_cut_a l = some a) : l = orielref01_cut_e a := by
  unfold orielref01_cut_a at h
  split at h
  · cases h; rfl
  · cases h
noncomputable def orielref01_cut_d : Res → Option Bool
  | ⟨.one (.d (.bool y0)), []⟩ => some y0
  | _ => none
noncomputable def orielref01_cut_r (r : Bool) : Res := ⟨.one (.d (.bool r)), []⟩
theorem orielref01_cut_dr {R : Res} {r : Bool} (h : orielref01_cut_d R = some r) : R = orielref01_cut_r r := by
  unfold orielref01_cut_d at h
  split at h
  · cases h; rfl
  · cases h
noncomputable def orielref01_cut_o (L : Lv) {Ω : Type} (f : FuncId) (l : List Arg) (K : Res → Option Ω) (next : Option Ω) : Option Ω := rowO 58 orielref01_cut_a (fun a => L.orielref01_cut a.1 a.2) orielref01_cut_r f l K next
noncomputable def orielref01_value_a : List Arg → Option (ByteArray × Int × Int)
  | [.v (.one (.c (.str x0))), .v (.one (.c (.int .i64 x1))), .v (.one (.c (.int .i64 x2)))] => some (x0, x1, x2)
  | _ => none
noncomputable def orielref01_value_e (a : ByteArray × Int × Int) : List Arg := [.v (.one (.c (C.str a.1))), .v (.one (.c (C.int .i64 a.2.1))), .v (.one (.c (C.int .i64 a.2.2)))]
theorem orielref01_value_ae {l : List Arg} {a : ByteArray × Int × Int} (h : orielref01_value_a l = some a) : l = orielref01_value_e a := by
  unfold orielref01_value_a at h
  split at h
  · cases h; rfl
  · cases h
noncomputable def orielref01_value_d : Res → Option Int
  | ⟨.one (.d (.int .i64 y0)), []⟩ => some y0
  | _ => none
noncomputable def orielref01_value_r (r : Int) : Res := ⟨.one (.d (.int .i64 r)), []⟩
theorem orielref01_value_dr {R : Res} {r : Int} (h : orielref01_value_d R = some r) : R = orielref01_value_r r := by
  unfold orielref01_value_d at h
  split at h
  · cases h; rfl
  · cases h
noncomputable def orielref01_value_o (L : Lv) {Ω : Type} (f : FuncId) (l : List Arg) (K : Res → Option Ω) (next : Option Ω) : Option Ω := rowO 55 orielref01_value_a (fun a => L.orielref01_value a.1 a.2.1 a.2.2) orielref01_value_r f l K next
noncomputable def orielref12_Same_a : List Arg → Option (Int × LL × LL × Int × LL × LL)
  | [.v (.agg [.c (.int .i64 x0_0), .c (.row 25 x0_1), .c (.row 33 x0_2)]), .v (.agg [.c (.int .i64 x1_0), .c (.row 25 x1_1), .c (.row 33 x1_2)])] => some (x0_0, x0_1, x0_2, x1_0, x1_1, x1_2)
  | _ => none
noncomputable def orielref12_Same_e (a : Int × LL × LL × Int × LL × LL) : List Arg := [.v (.agg [.c (C.int .i64 a.1), .c (C.row 25 a.2.1), .c (C.row 33 a.2.2.1)]), .v (.agg [.c (C.int .i64 a.2.2.2.1), .c (C.row 25 a.2.2.2.2.1), .c (C.row 33 a.2.2.2.2.2)])]
theorem orielref12_Same_ae {l : List Arg} {a : Int × LL × LL × Int × LL × LL} (h : orielref12_Same_a l = some a) : l = orielref12_Same_e a := by
  unfold orielref12_Same_a at h
  split at h
  · cases h; rfl
  · cases h
noncomputable def orielref12_Same_d : Res → Option Bool
  | ⟨.one (.d (.bool y0)), []⟩ => some y0
  | _ => none
noncomputable def orielref12_Same_r (r : Bool) : Res := ⟨.one (.d (.bool r)), []⟩
theorem orielref12_Same_dr {R : Res} {r : Bool} (h : orielref12_Same_d R = some r) : R = orielref12_Same_r r := by
  unfold orielref12_Same_d at h
  split at h
  · cases h; rfl
  · cases h
noncomputable def orielref12_Same_o (L : Lv) {Ω : Type} (f : FuncId) (l : List Arg) (K : Res → Option Ω) (next : Option Ω) : Option Ω := rowO 12 orielref12_Same_a (fun a => L.orielref12_Same a.1 a.2.1 a.2.2.1 a.2.2.2.1 a.2.2.2.2.1 a.2.2.2.2.2) orielref12_Same_r f l K next
noncomputable def orielref12_Filters_a : List Arg → Option (Int × LL × LL)
  | [.v (.agg [.c (.int .i64 x0_0), .c (.row 25 x0_1), .c (.row 33 x0_2)])] => some (x0_0, x0_1, x0_2)
  | _ => none
noncomputable def orielref12_Filters_e (a : Int × LL × LL) : List Arg := [.v (.agg [.c (C.int .i64 a.1), .c (C.row 25 a.2.1), .c (C.row 33 a.2.2)])]
theorem orielref12_Filters_ae {l : List Arg} {a : Int × LL × LL} (h : orielref12_Filters_a l = some a) : l = orielref12_Filters_e a := by
  unfold orielref12_Filters_a at h
  split at h
  · cases h; rfl
  · cases h
noncomputable def orielref12_Filters_d : Res → Option LL
  | ⟨.one (.own 33 y0), []⟩ => some y0
  | _ => none
noncomputable def orielref12_Filters_r (r : LL) : Res := ⟨.one (.own 33 r), []⟩
theorem orielref12_Filters_dr {R : Res} {r : LL} (h : orielref12_Filters_d R = some r) : R = orielref12_Filters_r r := by
  unfold orielref12_Filters_d at h
  split at h
  · cases h; rfl
  · cases h
noncomputable def orielref12_Filters_o (L : Lv) {Ω : Type} (f : FuncId) (l : List Arg) (K : Res → Option Ω) (next : Option Ω) : Option Ω := rowO 7 orielref12_Filters_a (fun a => L.orielref12_Filters a.1 a.2.1 a.2.2) orielref12_Filters_r f l K next
noncomputable def orielref02_Char_a : List Arg → Option Int
  | [.v (.one (.c (.int .i64 x0)))] => some x0
  | _ => none
noncomputable def orielref02_Char_e (a : Int) : List Arg := [.v (.one (.c (C.int .i64 a)))]
theorem orielref02_Char_ae {l : List Arg} {a : Int} (h : orielref02_Char_a l = some a) : l = orielref02_Char_e a := by
  unfold orielref02_Char_a at h
  split at h
  · cases h; rfl
  · cases h
noncomputable def orielref02_Char_d : Res → Option Bool
  | ⟨.one (.d (.bool y0)), []⟩ => some y0
  | _ => none
noncomputable def orielref02_Char_r (r : Bool) : Res := ⟨.one (.d (.bool r)), []⟩
theorem orielref02_Char_dr {R : Res} {r : Bool} (h : orielref02_Char_d R = some r) : R = orielref02_Char_r r := by
  unfold orielref02_Char_d at h
  split at h
  · cases h; rfl
  · cases h
noncomputable def orielref02_Char_o (L : Lv) {Ω : Type} (f : FuncId) (l : List Arg) (K : Res → Option Ω) (next : Option Ω) : Option Ω := rowO 41 orielref02_Char_a (fun a => L.orielref02_Char a) orielref02_Char_r f l K next
noncomputable def orielref02_Part_a : List Arg → Option Int
  | [.v (.one (.c (.int .i64 x0)))] => some x0
  | _ => none
noncomputable def orielref02_Part_e (a : Int) : List Arg := [.v (.one (.c (C.int .i64 a)))]
theorem orielref02_Part_ae {l : List Arg} {a : Int} (h : orielref02_Part_a l = some a) : l = orielref02_Part_e a := by
  unfold orielref02_Part_a at h
  split at h
  · cases h; rfl
  · cases h
noncomputable def orielref02_Part_d : Res → Option Bool
  | ⟨.one (.d (.bool y0)), []⟩ => some y0
  | _ => none
noncomputable def orielref02_Part_r (r : Bool) : Res := ⟨.one (.d (.bool r)), []⟩
theorem orielref02_Part_dr {R : Res} {r : Bool} (h : orielref02_Part_d R = some r) : R = orielref02_Part_r r := by
  unfold orielref02_Part_d at h
  split at h
  · cases h; rfl
  · cases h
noncomputable def orielref02_Part_o (L : Lv) {Ω : Type} (f : FuncId) (l : List Arg) (K : Res → Option Ω) (next : Option Ω) : Option Ω := rowO 47 orielref02_Part_a (fun a => L.orielref02_Part a) orielref02_Part_r f l K next
noncomputable def orielref01_begins_a : List Arg → Option (ByteArray × Int × LL)
  | [.v (.one (.c (.str x0))), .v (.one (.c (.int .i64 x1))), .v (.one (.c (.row 5 x2)))] => some (x0, x1, x2)
  | _ => none
noncomputable def orielref01_begins_e (a : ByteArray × Int × LL) : List Arg := [.v (.one (.c (C.str a.1))), .v (.one (.c (C.int .i64 a.2.1))), .v (.one (.c (C.row 5 a.2.2)))]
theorem orielref01_begins_ae {l : List Arg} {a : ByteArray × Int × LL} (h : orielref01_begins_a l = some a) : l = orielref01_begins_e a := by
  unfold orielref01_begins_a at h
  split at h
  · cases h; rfl
  · cases h
noncomputable def orielref01_begins_d : Res → Option Bool
  | ⟨.one (.d (.bool y0)), []⟩ => some y0
  | _ => none
noncomputable def orielref01_begins_r (r : Bool) : Res := ⟨.one (.d (.bool r)), []⟩
theorem orielref01_begins_dr {R : Res} {r : Bool} (h : orielref01_begins_d R = some r) : R = orielref01_begins_r r := by
  unfold orielref01_begins_d at h
  split at h
  · cases h; rfl
  · cases h
noncomputable def orielref01_begins_o (L : Lv) {Ω : Type} (f : FuncId) (l : List Arg) (K : Res → Option Ω) (next : Option Ω) : Option Ω := rowO 57 orielref01_begins_a (fun a => L.orielref01_begins a.1 a.2.1 a.2.2) orielref01_begins_r f l K next
noncomputable def orielref12_SameFilter_a : List Arg → Option (Int × ByteArray × ByteArray × ByteArray × LL × LL × Int × ByteArray × ByteArray × ByteArray × LL × LL)
  | [.v (.agg [.c (.int .i64 x0_0), .c (.str x0_1), .c (.str x0_2), .c (.str x0_3), .c (.row 33 x0_4), .c (.row 25 x0_5)]), .v (.agg [.c (.int .i64 x1_0), .c (.str x1_1), .c (.str x1_2), .c (.str x1_3), .c (.row 33 x1_4), .c (.row 25 x1_5)])] => some (x0_0, x0_1, x0_2, x0_3, x0_4, x0_5, x1_0, x1_1, x1_2, x1_3, x1_4, x1_5)
  | _ => none
noncomputable def orielref12_SameFilter_e (a : Int × ByteArray × ByteArray × ByteArray × LL × LL × Int × ByteArray × ByteArray × ByteArray × LL × LL) : List Arg := [.v (.agg [.c (C.int .i64 a.1), .c (C.str a.2.1), .c (C.str a.2.2.1), .c (C.str a.2.2.2.1), .c (C.row 33 a.2.2.2.2.1), .c (C.row 25 a.2.2.2.2.2.1)]), .v (.agg [.c (C.int .i64 a.2.2.2.2.2.2.1), .c (C.str a.2.2.2.2.2.2.2.1), .c (C.str a.2.2.2.2.2.2.2.2.1), .c (C.str a.2.2.2.2.2.2.2.2.2.1), .c (C.row 33 a.2.2.2.2.2.2.2.2.2.2.1), .c (C.row 25 a.2.2.2.2.2.2.2.2.2.2.2)])]
theorem orielref12_SameFilter_ae {l : List Arg} {a : Int × ByteArray × ByteArray × ByteArray × LL × LL × Int × ByteArray × ByteArray × ByteArray × LL × LL} (h : orielref12_SameFilter_a l = some a) : l = orielref12_SameFilter_e a := by
  unfold orielref12_SameFilter_a at h
  split at h
  · cases h; rfl
  · cases h
noncomputable def orielref12_SameFilter_d : Res → Option Bool
  | ⟨.one (.d (.bool y0)), []⟩ => some y0
  | _ => none
noncomputable def orielref12_SameFilter_r (r : Bool) : Res := ⟨.one (.d (.bool r)), []⟩
theorem orielref12_SameFilter_dr {R : Res} {r : Bool} (h : orielref12_SameFilter_d R = some r) : R = orielref12_SameFilter_r r := by
  unfold orielref12_SameFilter_d at h
  split at h
  · cases h; rfl
  · cases h
noncomputable def orielref12_SameFilter_o (L : Lv) {Ω : Type} (f : FuncId) (l : List Arg) (K : Res → Option Ω) (next : Option Ω) : Option Ω := rowO 23 orielref12_SameFilter_a (fun a => L.orielref12_SameFilter a.1 a.2.1 a.2.2.1 a.2.2.2.1 a.2.2.2.2.1 a.2.2.2.2.2.1 a.2.2.2.2.2.2.1 a.2.2.2.2.2.2.2.1 a.2.2.2.2.2.2.2.2.1 a.2.2.2.2.2.2.2.2.2.1 a.2.2.2.2.2.2.2.2.2.2.1 a.2.2.2.2.2.2.2.2.2.2.2) orielref12_SameFilter_r f l K next
noncomputable def orielref12_within_a : List Arg → Option (Int × ByteArray × ByteArray × ByteArray × LL × LL)
  | [.v (.agg [.c (.int .i64 x0_0), .c (.str x0_1), .c (.str x0_2), .c (.str x0_3), .c (.row 33 x0_4), .c (.row 25 x0_5)])] => some (x0_0, x0_1, x0_2, x0_3, x0_4, x0_5)
  | _ => none
noncomputable def orielref12_within_e (a : Int × ByteArray × ByteArray × ByteArray × LL × LL) : List Arg := [.v (.agg [.c (C.int .i64 a.1), .c (C.str a.2.1), .c (C.str a.2.2.1), .c (C.str a.2.2.2.1), .c (C.row 33 a.2.2.2.2.1), .c (C.row 25 a.2.2.2.2.2)])]
theorem orielref12_within_ae {l : List Arg} {a : Int × ByteArray × ByteArray × ByteArray × LL × LL} (h : orielref12_within_a l = some a) : l = orielref12_within_e a := by
  unfold orielref12_within_a at h
  split at h
  · cases h; rfl
  · cases h
noncomputable def orielref12_within_d : Res → Option LL
  | ⟨.one (.own 33 y0), []⟩ => some y0
  | _ => none
noncomputable def orielref12_within_r (r : LL) : Res := ⟨.one (.own 33 r), []⟩
theorem orielref12_within_dr {R : Res} {r : LL} (h : orielref12_within_d R = some r) : R = orielref12_within_r r := by
  unfold orielref12_within_d at h
  split at h
  · cases h; rfl
  · cases h
noncomputable def orielref12_within_o (L : Lv) {Ω : Type} (f : FuncId) (l : List Arg) (K : Res → Option Ω) (next : Option Ω) : Option Ω := rowO 15 orielref12_within_a (fun a => L.orielref12_within a.1 a.2.1 a.2.2.1 a.2.2.2.1 a.2.2.2.2.1 a.2.2.2.2.2) orielref12_within_r f l K next
noncomputable def orielref02_Blank_a : List Arg → Option Int
  | [.v (.one (.c (.int .i64 x0)))] => some x0
  | _ => none
noncomputable def orielref02_Blank_e (a : Int) : List Arg := [.v (.one (.c (C.int .i64 a)))]
theorem orielref02_Blank_ae {l : List Arg} {a : Int} (h : orielref02_Blank_a l = some a) : l = orielref02_Blank_e a := by
  unfold orielref02_Blank_a at h
  split at h
  · cases h; rfl
  · cases h
noncomputable def orielref02_Blank_d : Res → Option Bool
  | ⟨.one (.d (.bool y0)), []⟩ => some y0
  | _ => none
noncomputable def orielref02_Blank_r (r : Bool) : Res := ⟨.one (.d (.bool r)), []⟩
theorem orielref02_Blank_dr {R : Res} {r : Bool} (h : orielref02_Blank_d R = some r) : R = orielref02_Blank_r r := by
  unfold orielref02_Blank_d at h
  split at h
  · cases h; rfl
  · cases h
noncomputable def orielref02_Blank_o (L : Lv) {Ω : Type} (f : FuncId) (l : List Arg) (K : Res → Option Ω) (next : Option Ω) : Option Ω := rowO 49 orielref02_Blank_a (fun a => L.orielref02_Blank a) orielref02_Blank_r f l K next
noncomputable def orielref15_Filter_a : List Arg → Option (Int × ByteArray × ByteArray × ByteArray × LL × LL)
  | [.v (.agg [.c (.int .i64 x0_0), .c (.str x0_1), .c (.str x0_2), .c (.str x0_3), .c (.row 33 x0_4), .c (.row 25 x0_5)])] => some (x0_0, x0_1, x0_2, x0_3, x0_4, x0_5)
  | _ => none
noncomputable def orielref15_Filter_e (a : Int × ByteArray × ByteArray × ByteArray × LL × LL) : List Arg := [.v (.agg [.c (C.int .i64 a.1), .c (C.str a.2.1), .c (C.str a.2.2.1), .c (C.str a.2.2.2.1), .c (C.row 33 a.2.2.2.2.1), .c (C.row 25 a.2.2.2.2.2)])]
theorem orielref15_Filter_ae {l : List Arg} {a : Int × ByteArray × ByteArray × ByteArray × LL × LL} (h : orielref15_Filter_a l = some a) : l = orielref15_Filter_e a := by
  unfold orielref15_Filter_a at h
  split at h
  · cases h; rfl
  · cases h
noncomputable def orielref15_Filter_d : Res → Option ByteArray
  | ⟨.one (.d (.str y0)), []⟩ => some y0
  | _ => none
noncomputable def orielref15_Filter_r (r : ByteArray) : Res := ⟨.one (.d (.str r)), []⟩
theorem orielref15_Filter_dr {R : Res} {r : ByteArray} (h : orielref15_Filter_d R = some r) : R = orielref15_Filter_r r := by
  unfold orielref15_Filter_d at h
  split at h
  · cases h; rfl
  · cases h
noncomputable def orielref15_Filter_o (L : Lv) {Ω : Type} (f : FuncId) (l : List Arg) (K : Res → Option Ω) (next : Option Ω) : Option Ω := rowO 9 orielref15_Filter_a (fun a => L.orielref15_Filter a.1 a.2.1 a.2.2.1 a.2.2.2.1 a.2.2.2.2.1 a.2.2.2.2.2) orielref15_Filter_r f l K next
noncomputable def orielref15_Path_a : List Arg → Option (Int × LL × LL)
  | [.v (.agg [.c (.int .i64 x0_0), .c (.row 25 x0_1), .c (.row 33 x0_2)])] => some (x0_0, x0_1, x0_2)
  | _ => none
noncomputable def orielref15_Path_e (a : Int × LL × LL) : List Arg := [.v (.agg [.c (C.int .i64 a.1), .c (C.row 25 a.2.1), .c (C.row 33 a.2.2)])]
theorem orielref15_Path_ae {l : List Arg} {a : Int × LL × LL} (h : orielref15_Path_a l = some a) : l = orielref15_Path_e a := by
  unfold orielref15_Path_a at h
  split at h
  · cases h; rfl
  · cases h
noncomputable def orielref15_Path_d : Res → Option ByteArray
  | ⟨.one (.d (.str y0)), []⟩ => some y0
  | _ => none
noncomputable def orielref15_Path_r (r : ByteArray) : Res := ⟨.one (.d (.str r)), []⟩
theorem orielref15_Path_dr {R : Res} {r : ByteArray} (h : orielref15_Path_d R = some r) : R = orielref15_Path_r r := by
  unfold orielref15_Path_d at h
  split at h
  · cases h; rfl
  · cases h
noncomputable def orielref15_Path_o (L : Lv) {Ω : Type} (f : FuncId) (l : List Arg) (K : Res → Option Ω) (next : Option Ω) : Option Ω := rowO 11 orielref15_Path_a (fun a => L.orielref15_Path a.1 a.2.1 a.2.2) orielref15_Path_r f l K next
noncomputable def orielref05_Find_a : List Arg → Option (ByteArray × Int × ByteArray)
  | [.v (.one (.c (.str x0))), .v (.one (.c (.int .i64 x1))), .v (.one (.c (.str x2)))] => some (x0, x1, x2)
  | _ => none
noncomputable def orielref05_Find_e (a : ByteArray × Int × ByteArray) : List Arg := [.v (.one (.c (C.str a.1))), .v (.one (.c (C.int .i64 a.2.1))), .v (.one (.c (C.str a.2.2)))]
theorem orielref05_Find_ae {l : List Arg} {a : ByteArray × Int × ByteArray} (h : orielref05_Find_a l = some a) : l = orielref05_Find_e a := by
  unfold orielref05_Find_a at h
  split at h
  · cases h; rfl
  · cases h
noncomputable def orielref05_Find_d : Res → Option Int
  | ⟨.one (.d (.int .i64 y0)), []⟩ => some y0
  | _ => none
noncomputable def orielref05_Find_r (r : Int) : Res := ⟨.one (.d (.int .i64 r)), []⟩
theorem orielref05_Find_dr {R : Res} {r : Int} (h : orielref05_Find_d R = some r) : R = orielref05_Find_r r := by
  unfold orielref05_Find_d at h
  split at h
  · cases h; rfl
  · cases h
noncomputable def orielref05_Find_o (L : Lv) {Ω : Type} (f : FuncId) (l : List Arg) (K : Res → Option Ω) (next : Option Ω) : Option Ω := rowO 39 orielref05_Find_a (fun a => L.orielref05_Find a.1 a.2.1 a.2.2) orielref05_Find_r f l K next
noncomputable def orielref15_name_a : List Arg → Option (ByteArray × ByteArray)
  | [.v (.agg [.c (.str x0_0), .c (.str x0_1)])] => some (x0_0, x0_1)
  | _ => none
noncomputable def orielref15_name_e (a : ByteArray × ByteArray) : List Arg := [.v (.agg [.c (C.str a.1), .c (C.str a.2)])]
theorem orielref15_name_ae {l : List Arg} {a : ByteArray × ByteArray} (h : orielref15_name_a l = some a) : l = orielref15_name_e a := by
  unfold orielref15_name_a at h
  split at h
  · cases h; rfl
  · cases h
noncomputable def orielref15_name_d : Res → Option ByteArray
  | ⟨.one (.d (.str y0)), []⟩ => some y0
  | _ => none
noncomputable def orielref15_name_r (r : ByteArray) : Res := ⟨.one (.d (.str r)), []⟩
theorem orielref15_name_dr {R : Res} {r : ByteArray} (h : orielref15_name_d R = some r) : R = orielref15_name_r r := by
  unfold orielref15_name_d at h
  split at h
  · cases h; rfl
  · cases h
noncomputable def orielref15_name_o (L : Lv) {Ω : Type} (f : FuncId) (l : List Arg) (K : Res → Option Ω) (next : Option Ω) : Option Ω := rowO 20 orielref15_name_a (fun a => L.orielref15_name a.1 a.2) orielref15_name_r f l K next
noncomputable def orielref15_quoted_a : List Arg → Option ByteArray
  | [.v (.one (.c (.str x0)))] => some x0
  | _ => none
noncomputable def orielref15_quoted_e (a : ByteArray) : List Arg := [.v (.one (.c (C.str a)))]
theorem orielref15_quoted_ae {l : List Arg} {a : ByteArray} (h : orielref15_quoted_a l = some a) : l = orielref15_quoted_e a := by
  unfold orielref15_quoted_a at h
  split at h
  · cases h; rfl
  · cases h
noncomputable def orielref15_quoted_d : Res → Option ByteArray
  | ⟨.one (.d (.str y0)), []⟩ => some y0
  | _ => none
noncomputable def orielref15_quoted_r (r : ByteArray) : Res := ⟨.one (.d (.str r)), []⟩
theorem orielref15_quoted_dr {R : Res} {r : ByteArray} (h : orielref15_quoted_d R = some r) : R = orielref15_quoted_r r := by
  unfold orielref15_quoted_d at h
  split at h
  · cases h; rfl
  · cases h
noncomputable def orielref15_quoted_o (L : Lv) {Ω : Type} (f : FuncId) (l : List Arg) (K : Res → Option Ω) (next : Option Ω) : Option Ω := rowO 21 orielref15_quoted_a (fun a => L.orielref15_quoted a) orielref15_quoted_r f l K next
noncomputable def orielref15_brackets_a : List Arg → Option (ByteArray × Bool)
  | [.v (.one (.c (.str x0))), .v (.one (.c (.bool x1)))] => some (x0, x1)
  | _ => none
noncomputable def orielref15_brackets_e (a : ByteArray × Bool) : List Arg := [.v (.one (.c (C.str a.1))), .v (.one (.c (C.bool a.2)))]
theorem orielref15_brackets_ae {l : List Arg} {a : ByteArray × Bool} (h : orielref15_brackets_a l = some a) : l = orielref15_brackets_e a := by
  unfold orielref15_brackets_a at h
  split at h
  · cases h; rfl
  · cases h
noncomputable def orielref15_brackets_d : Res → Option ByteArray
  | ⟨.one (.d (.str y0)), []⟩ => some y0
  | _ => none
noncomputable def orielref15_brackets_r (r : ByteArray) : Res := ⟨.one (.d (.str r)), []⟩
theorem orielref15_brackets_dr {R : Res} {r : ByteArray} (h : orielref15_brackets_d R = some r) : R = orielref15_brackets_r r := by
  unfold orielref15_brackets_d at h
  split at h
  · cases h; rfl
  · cases h
noncomputable def orielref15_brackets_o (L : Lv) {Ω : Type} (f : FuncId) (l : List Arg) (K : Res → Option Ω) (next : Option Ω) : Option Ω := rowO 22 orielref15_brackets_a (fun a => L.orielref15_brackets a.1 a.2) orielref15_brackets_r f l K next
noncomputable def orielref13_Write_a : List Arg → Option (Int × ByteArray × ByteArray × Int)
  | [.v (.agg [.c (.int .i64 x0_0), .c (.str x0_1), .c (.str x0_2), .c (.int .i64 x0_3)])] => some (x0_0, x0_1, x0_2, x0_3)
  | _ => none
noncomputable def orielref13_Write_e (a : Int × ByteArray × ByteArray × Int) : List Arg := [.v (.agg [.c (C.int .i64 a.1), .c (C.str a.2.1), .c (C.str a.2.2.1), .c (C.int .i64 a.2.2.2)])]
theorem orielref13_Write_ae {l : List Arg} {a : Int × ByteArray × ByteArray × Int} (h : orielref13_Write_a l = some a) : l = orielref13_Write_e a := by
  unfold orielref13_Write_a at h
  split at h
  · cases h; rfl
  · cases h
noncomputable def orielref13_Write_d : Res → Option ByteArray
  | ⟨.one (.d (.str y0)), []⟩ => some y0
  | _ => none
noncomputable def orielref13_Write_r (r : ByteArray) : Res := ⟨.one (.d (.str r)), []⟩
theorem orielref13_Write_dr {R : Res} {r : ByteArray} (h : orielref13_Write_d R = some r) : R = orielref13_Write_r r := by
  unfold orielref13_Write_d at h
  split at h
  · cases h; rfl
  · cases h
noncomputable def orielref13_Write_o (L : Lv) {Ω : Type} (f : FuncId) (l : List Arg) (K : Res → Option Ω) (next : Option Ω) : Option Ω := rowO 29 orielref13_Write_a (fun a => L.orielref13_Write a.1 a.2.1 a.2.2.1 a.2.2.2) orielref13_Write_r f l K next
/-- functions of the library that are given -/
noncomputable def extG (f : FuncId) (l : List Arg) : Option Res := (rowO 28 strings_Join_a (fun a => joinV a.1 a.2) strings_Join_r f l some (rowO 33 strings_ReplaceAll_a (fun a => replV a.1 a.2.1 a.2.2) strings_ReplaceAll_r f l some none))
theorem extG_ok (h0 : ∀ a v, (fun a => joinV a.1 a.2) a = some v → CallOK Tryd.prog 28 (strings_Join_e a) (strings_Join_r v)) (h1 : ∀ a v, (fun a => replV a.1 a.2.1 a.2.2) a = some v → CallOK Tryd.prog 33 (strings_ReplaceAll_e a) (strings_ReplaceAll_r v)) : CallsOK Tryd.prog extG := fun f l R h => by
  unfold extG at h
  rcases rowG_ok (ea := strings_Join_e) (fun _ _ h => strings_Join_ae h) h0 h with h | h
  · exact h
  rcases rowG_ok (ea := strings_ReplaceAll_e) (fun _ _ h => strings_ReplaceAll_ae h) h1 h with h | h
  · exact h
  cases h
noncomputable def orK (L : Lv) {Ω : Type} (f : FuncId) (l : List Arg) (K : Res → Option Ω) : Option Ω := oriellaw15_ShowKeeps_o L f l K (oriellaw15_ShowPrints_o L f l K (oriellaw15_awake_o L f l K (show_Path_o L f l K (show_joined_o L f l K (show_Filter_o L f l K (show_bracketed_o L f l K (strings_Join_o L f l K (show_name_o L f l K (show_quoted_o L f l K (show_all_o L f l K (slices_Contains_int_int_o L f l K (lex_Write_o L f l K (slices_Index_int_int_o L f l K (strings_ReplaceAll_o L f l K (orielref12_Right_o L f l K (orielref12_Size_o L f l K (orielref12_size_o L f l K (orielref12_sizeFilter_o L f l K (orielref12_path_o L f l K (orielref12_filter_o L f l K (orielref12_named_o L f l K (orielref04_Right_o L f l K (orielref03_Plain_o L f l K (orielref01_All_o L f l K (orielref02_Start_o L f l K (orielref01_Rune_o L f l K (orielref01_Put_o L f l K (orielref01_cut_o L f l K (orielref01_value_o L f l K (orielref12_Same_o L f l K (orielref12_Filters_o L f l K (orielref02_Char_o L f l K (orielref02_Part_o L f l K (orielref01_begins_o L f l K (orielref12_SameFilter_o L f l K (orielref12_within_o L f l K (orielref02_Blank_o L f l K (orielref15_Filter_o L f l K (orielref15_Path_o L f l K (orielref05_Find_o L f l K (orielref15_name_o L f l K (orielref15_quoted_o L f l K (orielref15_brackets_o L f l K (orielref13_Write_o L f l K (none)))))))))))))))))))))))))))))))))))))))))))))
noncomputable def oriellaw15_ShowKeeps_b (L : Lv) (k : Nat) (x0_0 : Int) (x0_1 x0_2 : LL) (x1_0 : Int) (x1_1 x1_2 : LL) : Option Bool := bodyK noEq Tryd.prog (orK L) kp k 4 [.v (.agg [.c (C.int .i64 x0_0), .c (C.row 25 x0_1), .c (C.row 33 x0_2)]), .v (.agg [.c (C.int .i64 x1_0), .c (C.row 25 x1_1), .c (C.row 33 x1_2)])] oriellaw15_ShowKeeps_d
noncomputable def oriellaw15_ShowPrints_b (L : Lv) (k : Nat) (x0_0 : Int) (x0_1 x0_2 : LL) : Option Bool := bodyK noEq Tryd.prog (orK L) kp k 3 [.v (.agg [.c (C.int .i64 x0_0), .c (C.row 25 x0_1), .c (C.row 33 x0_2)])] oriellaw15_ShowPrints_d
noncomputable def oriellaw15_ShowPrints_l0 (L : Lv) (k : Nat) (x0_0 : Int) (x0_1 x0_2 : LL) (m0 : Nat) (v0 : Int) (v4 : LL) : Option Bool := headK noEq Tryd.prog (orK L) kp k 3 [.v (.agg [.c (C.int .i64 x0_0), .c (C.row 25 x0_1), .c (C.row 33 x0_2)])] [1, 1, 1, 0, 1, 0] [m0] ⟨[(1, .one (.ptr 64 0)), (3, .one (.arr 65)), (4, .one (.c (C.int .i64 v0)))], [(64, .box 25 [.c (C.int .i64 x0_0), .c (C.row 25 x0_1), .c (C.row 33 x0_2)]), (65, .arr 33 false v4)], 67, 37⟩ oriellaw15_ShowPrints_d
noncomputable def oriellaw15_awake_b (L : Lv) (k : Nat) : Option Bool := bodyK noEq Tryd.prog (orK L) kp k 5 [] oriellaw15_awake_d
noncomputable def show_Path_b (L : Lv) (k : Nat) (x0_0 : Int) (x0_1 x0_2 : LL) : Option ByteArray := bodyK noEq Tryd.prog (orK L) kp k 10 [.v (.agg [.c (C.int .i64 x0_0), .c (C.row 25 x0_1), .c (C.row 33 x0_2)])] show_Path_d
noncomputable def show_Path_l0 (L : Lv) (k : Nat) (x0_0 : Int) (x0_1 x0_2 : LL) (m0 : Nat) (v0 : ByteArray) (v3 : Int) : Option ByteArray := headK noEq Tryd.prog (orK L) kp k 10 [.v (.agg [.c (C.int .i64 x0_0), .c (C.row 25 x0_1), .c (C.row 33 x0_2)])] [1, 1, 1, 0, 1, 0] [m0] ⟨[(3, .one (.c (C.str v0))), (34, .one (.c (C.row 33 x0_2))), (35, .one (.c (C.int .i64 (x0_2.length : Int)))), (36, .one (.c (C.int .i64 v3)))], [], 65, 48⟩ show_Path_d
noncomputable def show_joined_b (L : Lv) (k : Nat) (x0 : LL) (x1 : ByteArray) (x2 : LL) : Option ByteArray := bodyK noEq Tryd.prog (orK L) kp k 19 [.v (.one (.c (C.row 25 x0))), .v (.one (.c (C.str x1))), .v (.one (.c (C.row 3 x2)))] show_joined_d
noncomputable def show_joined_l0 (L : Lv) (k : Nat) (x0 : LL) (x1 : ByteArray) (x2 : LL) (m0 : Nat) : Option ByteArray := headK noEq Tryd.prog (orK L) kp k 19 [.v (.one (.c (C.row 25 x0))), .v (.one (.c (C.str x1))), .v (.one (.c (C.row 3 x2)))] [1, 1, 0, 1, 0] [m0] ⟨[(1, .one (.c (C.str x1))), (2, .one (.c (C.row 3 x2))), (7, .one (.c (C.nil 9))), (10, .one (.c (C.row 25 x0))), (11, .one (.c (C.int .i64 (x0.length : Int)))), (12, .one (.c (C.int .i64 0)))], [], 193, 29⟩ show_joined_d
noncomputable def show_joined_l1 (L : Lv) (k : Nat) (x0 : LL) (x1 : ByteArray) (x2 : LL) (m0 : Nat) (v4 : Int) (v5 : LL) : Option ByteArray := headK noEq Tryd.prog (orK L) kp k 19 [.v (.one (.c (C.row 25 x0))), .v (.one (.c (C.str x1))), .v (.one (.c (C.row 3 x2)))] [1, 1, 0, 1, 0] [m0] ⟨[(1, .one (.c (C.str x1))), (2, .one (.c (C.row 3 x2))), (7, .one (.arr 192)), (10, .one (.c (C.row 25 x0))), (11, .one (.c (C.int .i64 (x0.length : Int)))), (12, .one (.c (C.int .i64 v4)))], [(192, .arr 9 false v5)], 194, 29⟩ show_joined_d
noncomputable def show_Filter_b (L : Lv) (k : Nat) (x0_0 : Int) (x0_1 x0_2 x0_3 : ByteArray) (x0_4 x0_5 : LL) : Option ByteArray := bodyK noEq Tryd.prog (orK L) kp k 8 [.v (.agg [.c (C.int .i64 x0_0), .c (C.str x0_1), .c (C.str x0_2), .c (C.str x0_3), .c (C.row 33 x0_4), .c (C.row 25 x0_5)])] show_Filter_d
noncomputable def show_bracketed_b (L : Lv) (k : Nat) (x0 : ByteArray) (x1 : Int) (x2 : LL) : Option ByteArray := bodyK noEq Tryd.prog (orK L) kp k 27 [.v (.one (.c (C.str x0))), .v (.one (.c (C.int .i64 x1))), .v (.one (.c (C.row 3 x2)))] show_bracketed_d
noncomputable def show_name_b (L : Lv) (k : Nat) (x0_0 x0_1 : ByteArray) : Option ByteArray := bodyK noEq Tryd.prog (orK L) kp k 16 [.v (.agg [.c (C.str x0_0), .c (C.str x0_1)])] show_name_d
noncomputable def show_quoted_b (L : Lv) (k : Nat) (x0 : ByteArray) : Option ByteArray := bodyK noEq Tryd.prog (orK L) kp k 17 [.v (.one (.c (C.str x0)))] show_quoted_d
noncomputable def show_all_b (L : Lv) (k : Nat) (x0 : LL) (x1 : ByteArray) (x2 : LL) : Option ByteArray := bodyK noEq Tryd.prog (orK L) kp k 18 [.v (.one (.c (C.row 33 x0))), .v (.one (.c (C.str x1))), .v (.one (.c (C.row 3 x2)))] show_all_d
noncomputable def show_all_l0 (L : Lv) (k : Nat) (x0 : LL) (x1 : ByteArray) (x2 : LL) (m0 : Nat) : Option ByteArray := headK noEq Tryd.prog (orK L) kp k 18 [.v (.one (.c (C.row 33 x0))), .v (.one (.c (C.str x1))), .v (.one (.c (C.row 3 x2)))] [1, 1, 0, 1, 0] [m0] ⟨[(1, .one (.c (C.str x1))), (2, .one (.c (C.row 3 x2))), (7, .one (.c (C.nil 9))), (10, .one (.c (C.row 33 x0))), (11, .one (.c (C.int .i64 (x0.length : Int)))), (12, .one (.c (C.int .i64 0)))], [], 193, 29⟩ show_all_d
noncomputable def show_all_l1 (L : Lv) (k : Nat) (x0 : LL) (x1 : ByteArray) (x2 : LL) (m0 : Nat) (v4 : Int) (v5 : LL) : Option ByteArray := headK noEq Tryd.prog (orK L) kp k 18 [.v (.one (.c (C.row 33 x0))), .v (.one (.c (C.str x1))), .v (.one (.c (C.row 3 x2)))] [1, 1, 0, 1, 0] [m0] ⟨[(1, .one (.c (C.str x1))), (2, .one (.c (C.row 3 x2))), (7, .one (.arr 192)), (10, .one (.c (C.row 33 x0))), (11, .one (.c (C.int .i64 (x0.length : Int)))), (12, .one (.c (C.int .i64 v4)))], [(192, .arr 9 false v5)], 194, 29⟩ show_all_d
noncomputable def slices_Contains_int_int_b (L : Lv) (k : Nat) (x0 : LL) (x1 : Int) : Option Bool := bodyK noEq Tryd.prog (orK L) kp k 34 [.v (.one (.c (C.row 3 x0))), .v (.one (.c (C.int .i64 x1)))] slices_Contains_int_int_d
noncomputable def lex_Write_b (L : Lv) (k : Nat) (x0_0 : Int) (x0_1 x0_2 : ByteArray) (x0_3 : Int) : Option ByteArray := bodyK noEq Tryd.prog (orK L) kp k 26 [.v (.agg [.c (C.int .i64 x0_0), .c (C.str x0_1), .c (C.str x0_2), .c (C.int .i64 x0_3)])] lex_Write_d
noncomputable def slices_Index_int_int_b (L : Lv) (k : Nat) (x0 : LL) (x1 : Int) : Option Int := bodyK noEq Tryd.prog (orK L) kp k 43 [.v (.one (.c (C.row 3 x0))), .v (.one (.c (C.int .i64 x1)))] slices_Index_int_int_d
noncomputable def slices_Index_int_int_l0 (L : Lv) (k : Nat) (x0 : LL) (x1 : Int) (m0 : Nat) (v3 : Int) : Option Int := headK noEq Tryd.prog (orK L) kp k 43 [.v (.one (.c (C.row 3 x0))), .v (.one (.c (C.int .i64 x1)))] [1, 0, 1, 0] [m0] ⟨[(0, .one (.c (C.row 3 x0))), (1, .one (.c (C.int .i64 x1))), (7, .one (.c (C.int .i64 (x0.length : Int)))), (8, .one (.c (C.int .i64 v3)))], [], 129, 19⟩ slices_Index_int_int_d
noncomputable def orielref12_Right_b (L : Lv) (k : Nat) (x0_0 : Int) (x0_1 x0_2 : LL) : Option Bool := bodyK noEq Tryd.prog (orK L) kp k 6 [.v (.agg [.c (C.int .i64 x0_0), .c (C.row 25 x0_1), .c (C.row 33 x0_2)])] orielref12_Right_d
noncomputable def orielref12_Size_b (L : Lv) (k : Nat) (x0_0 : Int) (x0_1 x0_2 : LL) : Option Int := bodyK noEq Tryd.prog (orK L) kp k 13 [.v (.agg [.c (C.int .i64 x0_0), .c (C.row 25 x0_1), .c (C.row 33 x0_2)])] orielref12_Size_d
noncomputable def orielref12_size_b (L : Lv) (k : Nat) (x0_0 : Int) (x0_1 x0_2 : LL) (x1 : Int) : Option Int := bodyK noEq Tryd.prog (orK L) kp k 24 [.v (.agg [.c (C.int .i64 x0_0), .c (C.row 25 x0_1), .c (C.row 33 x0_2)]), .v (.one (.c (C.int .i64 x1)))] orielref12_size_d
noncomputable def orielref12_size_l0 (L : Lv) (k : Nat) (x0_0 : Int) (x0_1 x0_2 : LL) (x1 : Int) (m0 : Nat) (v1 v2 : Int) : Option Int := headK noEq Tryd.prog (orK L) kp k 24 [.v (.agg [.c (C.int .i64 x0_0), .c (C.row 25 x0_1), .c (C.row 33 x0_2)]), .v (.one (.c (C.int .i64 x1)))] [1, 1, 0, 1, 0] [m0] ⟨[(1, .one (.c (C.int .i64 x1))), (2, .one (.ptr 128 0)), (5, .one (.c (C.int .i64 v1))), (6, .one (.c (C.int .i64 v2)))], [(128, .box 25 [.c (C.int .i64 x0_0), .c (C.row 25 x0_1), .c (C.row 33 x0_2)])], 130, 55⟩ orielref12_size_d
noncomputable def orielref12_size_l1 (L : Lv) (k : Nat) (x0_0 : Int) (x0_1 x0_2 : LL) (x1 : Int) (m0 : Nat) (v1 v2 : Int) : Option Int := headK noEq Tryd.prog (orK L) kp k 24 [.v (.agg [.c (C.int .i64 x0_0), .c (C.row 25 x0_1), .c (C.row 33 x0_2)]), .v (.one (.c (C.int .i64 x1)))] [1, 1, 1, 0, 1, 0] [m0] ⟨[(1, .one (.c (C.int .i64 x1))), (2, .one (.ptr 128 0)), (5, .one (.c (C.int .i64 v1))), (7, .one (.c (C.int .i64 v2)))], [(128, .box 25 [.c (C.int .i64 x0_0), .c (C.row 25 x0_1), .c (C.row 33 x0_2)])], 130, 55⟩ orielref12_size_d
noncomputable def orielref12_sizeFilter_b (L : Lv) (k : Nat) (x0_0 : Int) (x0_1 x0_2 x0_3 : ByteArray) (x0_4 x0_5 : LL) (x1 : Int) : Option Int := bodyK noEq Tryd.prog (orK L) kp k 30 [.v (.agg [.c (C.int .i64 x0_0), .c (C.str x0_1), .c (C.str x0_2), .c (C.str x0_3), .c (C.row 33 x0_4), .c (C.row 25 x0_5)]), .v (.one (.c (C.int .i64 x1)))] orielref12_sizeFilter_d
noncomputable def orielref12_sizeFilter_l0 (L : Lv) (k : Nat) (x0_0 : Int) (x0_1 x0_2 x0_3 : ByteArray) (x0_4 x0_5 : LL) (x1 : Int) (m0 : Nat) (v1 v2 : Int) : Option Int := headK noEq Tryd.prog (orK L) kp k 30 [.v (.agg [.c (C.int .i64 x0_0), .c (C.str x0_1), .c (C.str x0_2), .c (C.str x0_3), .c (C.row 33 x0_4), .c (C.row 25 x0_5)]), .v (.one (.c (C.int .i64 x1)))] [1, 1, 0, 1, 0] [m0] ⟨[(1, .one (.c (C.int .i64 x1))), (2, .one (.ptr 128 0)), (5, .one (.c (C.int .i64 v1))), (6, .one (.c (C.int .i64 v2)))], [(128, .box 33 [.c (C.int .i64 x0_0), .c (C.str x0_1), .c (C.str x0_2), .c (C.str x0_3), .c (C.row 33 x0_4), .c (C.row 25 x0_5)])], 130, 55⟩ orielref12_sizeFilter_d
noncomputable def orielref12_sizeFilter_l1 (L : Lv) (k : Nat) (x0_0 : Int) (x0_1 x0_2 x0_3 : ByteArray) (x0_4 x0_5 : LL) (x1 : Int) (m0 : Nat) (v1 v2 : Int) : Option Int := headK noEq Tryd.prog (orK L) kp k 30 [.v (.agg [.c (C.int .i64 x0_0), .c (C.str x0_1), .c (C.str x0_2), .c (C.str x0_3), .c (C.row 33 x0_4), .c (C.row 25 x0_5)]), .v (.one (.c (C.int .i64 x1)))] [1, 1, 1, 0, 1, 0] [m0] ⟨[(1, .one (.c (C.int .i64 x1))), (2, .one (.ptr 128 0)), (5, .one (.c (C.int .i64 v1))), (7, .one (.c (C.int .i64 v2)))], [(128, .box 33 [.c (C.int .i64 x0_0), .c (C.str x0_1), .c (C.str x0_2), .c (C.str x0_3), .c (C.row 33 x0_4), .c (C.row 25 x0_5)])], 130, 55⟩ orielref12_sizeFilter_d
noncomputable def orielref12_path_b (L : Lv) (k : Nat) (x0_0 : Int) (x0_1 x0_2 : LL) (x1 : Int) : Option Bool := bodyK noEq Tryd.prog (orK L) kp k 14 [.v (.agg [.c (C.int .i64 x0_0), .c (C.row 25 x0_1), .c (C.row 33 x0_2)]), .v (.one (.c (C.int .i64 x1)))] orielref12_path_d
noncomputable def orielref12_path_l0 (L : Lv) (k : Nat) (x0_0 : Int) (x0_1 x0_2 : LL) (x1 v1 v2 : Int) : Option Bool := headK noEq Tryd.prog (orK L) kp k 14 [.v (.agg [.c (C.int .i64 x0_0), .c (C.row 25 x0_1), .c (C.row 33 x0_2)]), .v (.one (.c (C.int .i64 x1)))] [1, 1, 1, 1, 1, 1, 0, 0] [] ⟨[(1, .one (.c (C.int .i64 x1))), (2, .one (.ptr 128 0)), (5, .one (.c (C.int .i64 v1))), (6, .one (.c (C.int .i64 v2)))], [(128, .box 25 [.c (C.int .i64 x0_0), .c (C.row 25 x0_1), .c (C.row 33 x0_2)])], 130, 88⟩ orielref12_path_d
noncomputable def orielref12_path_l1 (L : Lv) (k : Nat) (x0_0 : Int) (x0_1 x0_2 : LL) (x1 : Int) (m0 : Nat) (v1 : Int) : Option Bool := headK noEq Tryd.prog (orK L) kp k 14 [.v (.agg [.c (C.int .i64 x0_0), .c (C.row 25 x0_1), .c (C.row 33 x0_2)]), .v (.one (.c (C.int .i64 x1)))] [1, 1, 1, 1, 1, 1, 1, 0, 1, 0] [m0] ⟨[(1, .one (.c (C.int .i64 x1))), (2, .one (.ptr 128 0)), (7, .one (.c (C.int .i64 v1)))], [(128, .box 25 [.c (C.int .i64 x0_0), .c (C.row 25 x0_1), .c (C.row 33 x0_2)])], 130, 88⟩ orielref12_path_d
noncomputable def orielref12_filter_b (L : Lv) (k : Nat) (x0_0 : Int) (x0_1 x0_2 x0_3 : ByteArray) (x0_4 x0_5 : LL) (x1 : Int) : Option Bool := bodyK noEq Tryd.prog (orK L) kp k 25 [.v (.agg [.c (C.int .i64 x0_0), .c (C.str x0_1), .c (C.str x0_2), .c (C.str x0_3), .c (C.row 33 x0_4), .c (C.row 25 x0_5)]), .v (.one (.c (C.int .i64 x1)))] orielref12_filter_d
noncomputable def orielref12_filter_l0 (L : Lv) (k : Nat) (x0_0 : Int) (x0_1 x0_2 x0_3 : ByteArray) (x0_4 x0_5 : LL) (x1 : Int) (v1 v2 : Bool) : Option Bool := headK noEq Tryd.prog (orK L) kp k 25 [.v (.agg [.c (C.int .i64 x0_0), .c (C.str x0_1), .c (C.str x0_2), .c (C.str x0_3), .c (C.row 33 x0_4), .c (C.row 25 x0_5)]), .v (.one (.c (C.int .i64 x1)))] [1, 1, 1, 1, 0, 0] [] ⟨[(1, .one (.c (C.int .i64 x1))), (2, .one (.ptr 128 0)), (5, .one (.c (C.bool v1))), (6, .one (.c (C.bool v2)))], [(128, .box 33 [.c (C.int .i64 x0_0), .c (C.str x0_1), .c (C.str x0_2), .c (C.str x0_3), .c (C.row 33 x0_4), .c (C.row 25 x0_5)])], 130, 144⟩ orielref12_filter_d
noncomputable def orielref12_filter_l1 (L : Lv) (k : Nat) (x0_0 : Int) (x0_1 x0_2 x0_3 : ByteArray) (x0_4 x0_5 : LL) (x1 : Int) (v1 : Bool) : Option Bool := headK noEq Tryd.prog (orK L) kp k 25 [.v (.agg [.c (C.int .i64 x0_0), .c (C.str x0_1), .c (C.str x0_2), .c (C.str x0_3), .c (C.row 33 x0_4), .c (C.row 25 x0_5)]), .v (.one (.c (C.int .i64 x1)))] [1, 1, 1, 1, 1, 0, 0] [] ⟨[(1, .one (.c (C.int .i64 x1))), (2, .one (.ptr 128 0)), (6, .one (.c (C.bool v1)))], [(128, .box 33 [.c (C.int .i64 x0_0), .c (C.str x0_1), .c (C.str x0_2), .c (C.str x0_3), .c (C.row 33 x0_4), .c (C.row 25 x0_5)])], 130, 144⟩ orielref12_filter_d
noncomputable def orielref12_filter_l2 (L : Lv) (k : Nat) (x0_0 : Int) (x0_1 x0_2 x0_3 : ByteArray) (x0_4 x0_5 : LL) (x1 v1 v2 : Int) : Option Bool := headK noEq Tryd.prog (orK L) kp k 25 [.v (.agg [.c (C.int .i64 x0_0), .c (C.str x0_1), .c (C.str x0_2), .c (C.str x0_3), .c (C.row 33 x0_4), .c (C.row 25 x0_5)]), .v (.one (.c (C.int .i64 x1)))] [1, 1, 1, 1, 1, 1, 1, 1, 1, 0, 0] [] ⟨[(1, .one (.c (C.int .i64 x1))), (2, .one (.ptr 128 0)), (7, .one (.c (C.int .i64 v1))), (8, .one (.c (C.int .i64 v2)))], [(128, .box 33 [.c (C.int .i64 x0_0), .c (C.str x0_1), .c (C.str x0_2), .c (C.str x0_3), .c (C.row 33 x0_4), .c (C.row 25 x0_5)])], 130, 144⟩ orielref12_filter_d
noncomputable def orielref12_filter_l3 (L : Lv) (k : Nat) (x0_0 : Int) (x0_1 x0_2 x0_3 : ByteArray) (x0_4 x0_5 : LL) (x1 v1 v2 : Int) : Option Bool := headK noEq Tryd.prog (orK L) kp k 25 [.v (.agg [.c (C.int .i64 x0_0), .c (C.str x0_1), .c (C.str x0_2), .c (C.str x0_3), .c (C.row 33 x0_4), .c (C.row 25 x0_5)]), .v (.one (.c (C.int .i64 x1)))] [1, 1, 1, 1, 1, 1, 1, 1, 1, 1, 0, 0] [] ⟨[(1, .one (.c (C.int .i64 x1))), (2, .one (.ptr 128 0)), (7, .one (.c (C.int .i64 v1))), (8, .one (.c (C.int .i64 v2)))], [(128, .box 33 [.c (C.int .i64 x0_0), .c (C.str x0_1), .c (C.str x0_2), .c (C.str x0_3), .c (C.row 33 x0_4), .c (C.row 25 x0_5)])], 130, 144⟩ orielref12_filter_d
noncomputable def orielref12_filter_l4 (L : Lv) (k : Nat) (x0_0 : Int) (x0_1 x0_2 x0_3 : ByteArray) (x0_4 x0_5 : LL) (x1 : Int) (m0 : Nat) (v1 : Int) : Option Bool := headK noEq Tryd.prog (orK L) kp k 25 [.v (.agg [.c (C.int .i64 x0_0), .c (C.str x0_1), .c (C.str x0_2), .c (C.str x0_3), .c (C.row 33 x0_4), .c (C.row 25 x0_5)]), .v (.one (.c (C.int .i64 x1)))] [1, 1, 1, 1, 1, 1, 1, 1, 1, 1, 1, 0, 1, 0] [m0] ⟨[(1, .one (.c (C.int .i64 x1))), (2, .one (.ptr 128 0)), (9, .one (.c (C.int .i64 v1)))], [(128, .box 33 [.c (C.int .i64 x0_0), .c (C.str x0_1), .c (C.str x0_2), .c (C.str x0_3), .c (C.row 33 x0_4), .c (C.row 25 x0_5)])], 130, 144⟩ orielref12_filter_d
noncomputable def orielref12_named_b (L : Lv) (k : Nat) (x0_0 x0_1 : ByteArray) : Option Bool := bodyK noEq Tryd.prog (orK L) kp k 31 [.v (.agg [.c (C.str x0_0), .c (C.str x0_1)])] orielref12_named_d
noncomputable def orielref04_Right_b (L : Lv) (k : Nat) (x0 : ByteArray) : Option Bool := bodyK noEq Tryd.prog (orK L) kp k 32 [.v (.one (.c (C.str x0)))] orielref04_Right_d
noncomputable def orielref04_Right_l0 (L : Lv) (k : Nat) (x0 : ByteArray) (m0 : Nat) (v0 v1 : Int) (v2 : LL) : Option Bool := headK noEq Tryd.prog (orK L) kp k 32 [.v (.one (.c (C.str x0)))] [1, 1, 0, 1, 0] [m0] ⟨[(3, .one (.arr 64)), (5, .one (.c (C.int .i64 v0))), (6, .one (.c (C.int .i64 v1)))], [(64, .arr 21 false v2)], 66, 28⟩ orielref04_Right_d
noncomputable def orielref03_Plain_b (L : Lv) (k : Nat) (x0 : ByteArray) : Option Bool := bodyK noEq Tryd.prog (orK L) kp k 38 [.v (.one (.c (C.str x0)))] orielref03_Plain_d
noncomputable def orielref03_Plain_l0 (L : Lv) (k : Nat) (x0 : ByteArray) (m0 : Nat) (v1 : Int) : Option Bool := headK noEq Tryd.prog (orK L) kp k 38 [.v (.one (.c (C.str x0)))] [1, 1, 1, 0, 1, 0] [m0] ⟨[(3, .one (.c (C.row 21 (runesRow x0)))), (4, .one (.c (C.int .i64 v1)))], [], 65, 31⟩ orielref03_Plain_d
noncomputable def orielref01_All_b (L : Lv) (k : Nat) (x0 : ByteArray) : Option (LL × Int × Int) := bodyK noEq Tryd.prog (orK L) kp k 40 [.v (.one (.c (C.str x0)))] orielref01_All_d
noncomputable def orielref01_All_l0 (L : Lv) (k : Nat) (x0 : ByteArray) (m0 : Nat) : Option (LL × Int × Int) := headK noEq Tryd.prog (orK L) kp k 40 [.v (.one (.c (C.str x0)))] [1, 1, 1, 0, 0] [m0] ⟨[(0, .one (.c (C.str x0))), (5, .one (.c (C.nil 21))), (6, .one (.c (C.int .i64 0)))], [], 65, 36⟩ orielref01_All_d
noncomputable def orielref01_All_l1 (L : Lv) (k : Nat) (x0 : ByteArray) (m0 : Nat) (v1 : Int) (v2 : LL) : Option (LL × Int × Int) := headK noEq Tryd.prog (orK L) kp k 40 [.v (.one (.c (C.str x0)))] [1, 1, 1, 0, 0] [m0] ⟨[(0, .one (.c (C.str x0))), (5, .one (.arr 64)), (6, .one (.c (C.int .i64 v1)))], [(64, .arr 21 false v2)], 66, 36⟩ orielref01_All_d
noncomputable def orielref02_Start_b (L : Lv) (k : Nat) (x0 : Int) : Option Bool := bodyK noEq Tryd.prog (orK L) kp k 46 [.v (.one (.c (C.int .i64 x0)))] orielref02_Start_d
noncomputable def orielref01_Rune_b (L : Lv) (k : Nat) (x0 : ByteArray) (x1 : Int) : Option (Int × Int × Int) := bodyK noEq Tryd.prog (orK L) kp k 48 [.v (.one (.c (C.str x0))), .v (.one (.c (C.int .i64 x1)))] orielref01_Rune_d
noncomputable def orielref01_Rune_l0 (L : Lv) (k : Nat) (x0 : ByteArray) (x1 : Int) (m0 : Nat) (v2 : Int) : Option (Int × Int × Int) := headK noEq Tryd.prog (orK L) kp k 48 [.v (.one (.c (C.str x0))), .v (.one (.c (C.int .i64 x1)))] [1, 1, 0, 1, 0] [m0] ⟨[(0, .one (.c (C.str x0))), (1, .one (.c (C.int .i64 x1))), (7, .one (.c (C.int .i64 v2)))], [], 129, 57⟩ orielref01_Rune_d
noncomputable def orielref01_Put_b (L : Lv) (k : Nat) (x0 : Int) : Option LL := bodyK noEq Tryd.prog (orK L) kp k 56 [.v (.one (.c (C.int .i64 x0)))] orielref01_Put_d
noncomputable def orielref01_cut_b (L : Lv) (k : Nat) (x0 : ByteArray) (x1 : Int) : Option Bool := bodyK noEq Tryd.prog (orK L) kp k 58 [.v (.one (.c (C.str x0))), .v (.one (.c (C.int .i64 x1)))] orielref01_cut_d
noncomputable def orielref01_cut_l0 (L : Lv) (k : Nat) (x0 : ByteArray) (x1 : Int) (m0 : Nat) (v3 : Int) : Option Bool := headK noEq Tryd.prog (orK L) kp k 58 [.v (.one (.c (C.str x0))), .v (.one (.c (C.int .i64 x1)))] [1, 1, 1, 0, 1, 0] [m0] ⟨[(0, .one (.c (C.str x0))), (1, .one (.c (C.int .i64 x1))), (5, .one (.c (C.int .i64 (IntKind.i64.wrap ((x0.size : Int) - x1))))), (6, .one (.c (C.int .i64 v3)))], [], 129, 156⟩ orielref01_cut_d
noncomputable def orielref01_cut_l1 (L : Lv) (k : Nat) (x0 : ByteArray) (x1 : Int) (m0 m1 : Nat) (v3 : Int) (v5 v6 : ByteArray) : Option Bool := headK noEq Tryd.prog (orK L) kp k 58 [.v (.one (.c (C.str x0))), .v (.one (.c (C.int .i64 x1)))] [1, 1, 1, 0, 1, 0, 0, 1, 0, 0, 1, 1, 1, 0, 0] [m0, m1] ⟨[(0, .one (.c (C.str x0))), (1, .one (.c (C.int .i64 x1))), (5, .one (.c (C.int .i64 (IntKind.i64.wrap ((x0.size : Int) - x1))))), (6, .one (.c (C.int .i64 v3))), (7, .one (.c (C.str (x0.extract x1.toNat ((x0.size : Int).toNat))))), (8, .one (.c (C.str v5))), (9, .one (.c (C.str v6)))], [], 129, 156⟩ orielref01_cut_d
noncomputable def orielref01_cut_l2 (L : Lv) (k : Nat) (x0 : ByteArray) (x1 : Int) (m0 m1 : Nat) (v3 v5 v6 : Int) (v7 : Bool) (v8 : Int) : Option Bool := headK noEq Tryd.prog (orK L) kp k 58 [.v (.one (.c (C.str x0))), .v (.one (.c (C.int .i64 x1)))] [1, 1, 1, 0, 1, 0, 0, 1, 0, 0, 1, 1, 1, 1, 1, 1, 1, 0, 1, 0] [m0, m1] ⟨[(0, .one (.c (C.str x0))), (1, .one (.c (C.int .i64 x1))), (5, .one (.c (C.int .i64 (IntKind.i64.wrap ((x0.size : Int) - x1))))), (6, .one (.c (C.int .i64 v3))), (7, .one (.c (C.str (x0.extract x1.toNat ((x0.size : Int).toNat))))), (10, .one (.c (C.int .i64 v5))), (11, .one (.c (C.int .i64 v6))), (12, .one (.c (C.bool v7))), (13, .one (.c (C.int .i64 v8)))], [], 129, 156⟩ orielref01_cut_d
noncomputable def orielref01_cut_l3 (L : Lv) (k : Nat) (x0 : ByteArray) (x1 : Int) (m0 : Nat) (v3 v5 v6 : Int) (v7 v8 : Bool) : Option Bool := headK noEq Tryd.prog (orK L) kp k 58 [.v (.one (.c (C.str x0))), .v (.one (.c (C.int .i64 x1)))] [1, 1, 1, 0, 1, 0, 0, 1, 0, 0, 1, 1, 1, 1, 1, 1, 1, 1, 1, 0, 0] [m0] ⟨[(0, .one (.c (C.str x0))), (1, .one (.c (C.int .i64 x1))), (5, .one (.c (C.int .i64 (IntKind.i64.wrap ((x0.size : Int) - x1))))), (6, .one (.c (C.int .i64 v3))), (7, .one (.c (C.str (x0.extract x1.toNat ((x0.size : Int).toNat))))), (10, .one (.c (C.int .i64 v5))), (11, .one (.c (C.int .i64 v6))), (12, .one (.c (C.bool v7))), (14, .one (.c (C.bool v8)))], [], 129, 156⟩ orielref01_cut_d
noncomputable def orielref01_cut_l4 (L : Lv) (k : Nat) (x0 : ByteArray) (x1 : Int) (m0 m1 : Nat) (v3 v5 v6 v7 : Int) : Option Bool := headK noEq Tryd.prog (orK L) kp k 58 [.v (.one (.c (C.str x0))), .v (.one (.c (C.int .i64 x1)))] [1, 1, 1, 0, 1, 0, 0, 1, 0, 0, 1, 1, 1, 1, 1, 1, 1, 1, 1, 1, 1, 0] [m0, m1] ⟨[(0, .one (.c (C.str x0))), (1, .one (.c (C.int .i64 x1))), (5, .one (.c (C.int .i64 (IntKind.i64.wrap ((x0.size : Int) - x1))))), (6, .one (.c (C.int .i64 v3))), (7, .one (.c (C.str (x0.extract x1.toNat ((x0.size : Int).toNat))))), (10, .one (.c (C.int .i64 v5))), (11, .one (.c (C.int .i64 v6))), (15, .one (.c (C.int .i64 v7)))], [], 129, 156⟩ orielref01_cut_d
noncomputable def orielref01_value_b (L : Lv) (k : Nat) (x0 : ByteArray) (x1 x2 : Int) : Option Int := bodyK noEq Tryd.prog (orK L) kp k 55 [.v (.one (.c (C.str x0))), .v (.one (.c (C.int .i64 x1))), .v (.one (.c (C.int .i64 x2)))] orielref01_value_d
noncomputable def orielref01_value_l0 (L : Lv) (k : Nat) (x0 : ByteArray) (x1 x2 : Int) (m0 : Nat) (v3 v4 : Int) : Option Int := headK noEq Tryd.prog (orK L) kp k 55 [.v (.one (.c (C.str x0))), .v (.one (.c (C.int .i64 x1))), .v (.one (.c (C.int .i64 x2)))] [1, 1, 0, 1, 0] [m0] ⟨[(0, .one (.c (C.str x0))), (1, .one (.c (C.int .i64 x1))), (2, .one (.c (C.int .i64 x2))), (7, .one (.c (C.int .i64 v3))), (8, .one (.c (C.int .i64 v4)))], [], 193, 54⟩ orielref01_value_d
noncomputable def orielref01_value_l1 (L : Lv) (k : Nat) (x0 : ByteArray) (x1 x2 : Int) (m0 : Nat) (v3 v4 v5 : Int) : Option Int := headK noEq Tryd.prog (orK L) kp k 55 [.v (.one (.c (C.str x0))), .v (.one (.c (C.int .i64 x1))), .v (.one (.c (C.int .i64 x2)))] [1, 1, 0, 1, 0, 0, 1, 0, 0, 1, 1, 1, 0, 0] [m0] ⟨[(0, .one (.c (C.str x0))), (1, .one (.c (C.int .i64 x1))), (2, .one (.c (C.int .i64 x2))), (7, .one (.c (C.int .i64 v3))), (8, .one (.c (C.int .i64 v4))), (9, .one (.c (C.int .i64 v5)))], [], 193, 54⟩ orielref01_value_d
noncomputable def orielref12_Same_b (L : Lv) (k : Nat) (x0_0 : Int) (x0_1 x0_2 : LL) (x1_0 : Int) (x1_1 x1_2 : LL) : Option Bool := bodyK noEq Tryd.prog (orK L) kp k 12 [.v (.agg [.c (C.int .i64 x0_0), .c (C.row 25 x0_1), .c (C.row 33 x0_2)]), .v (.agg [.c (C.int .i64 x1_0), .c (C.row 25 x1_1), .c (C.row 33 x1_2)])] orielref12_Same_d
noncomputable def orielref12_Same_l0 (L : Lv) (k : Nat) (x0_0 : Int) (x0_1 x0_2 : LL) (x1_0 : Int) (x1_1 x1_2 : LL) (m0 : Nat) (v0 : Int) : Option Bool := headK noEq Tryd.prog (orK L) kp k 12 [.v (.agg [.c (C.int .i64 x0_0), .c (C.row 25 x0_1), .c (C.row 33 x0_2)]), .v (.agg [.c (C.int .i64 x1_0), .c (C.row 25 x1_1), .c (C.row 33 x1_2)])] [1, 1, 0, 1, 0] [m0] ⟨[(2, .one (.ptr 128 0)), (3, .one (.ptr 129 0)), (5, .one (.c (C.int .i64 v0)))], [(128, .box 25 [.c (C.int .i64 x0_0), .c (C.row 25 x0_1), .c (C.row 33 x0_2)]), (129, .box 25 [.c (C.int .i64 x1_0), .c (C.row 25 x1_1), .c (C.row 33 x1_2)])], 131, 68⟩ orielref12_Same_d
noncomputable def orielref12_Same_l1 (L : Lv) (k : Nat) (x0_0 : Int) (x0_1 x0_2 : LL) (x1_0 : Int) (x1_1 x1_2 : LL) (m0 : Nat) (v0 : Int) : Option Bool := headK noEq Tryd.prog (orK L) kp k 12 [.v (.agg [.c (C.int .i64 x0_0), .c (C.row 25 x0_1), .c (C.row 33 x0_2)]), .v (.agg [.c (C.int .i64 x1_0), .c (C.row 25 x1_1), .c (C.row 33 x1_2)])] [1, 1, 1, 0, 1, 0] [m0] ⟨[(2, .one (.ptr 128 0)), (3, .one (.ptr 129 0)), (6, .one (.c (C.int .i64 v0)))], [(128, .box 25 [.c (C.int .i64 x0_0), .c (C.row 25 x0_1), .c (C.row 33 x0_2)]), (129, .box 25 [.c (C.int .i64 x1_0), .c (C.row 25 x1_1), .c (C.row 33 x1_2)])], 131, 68⟩ orielref12_Same_d
noncomputable def orielref12_Filters_b (L : Lv) (k : Nat) (x0_0 : Int) (x0_1 x0_2 : LL) : Option LL := bodyK noEq Tryd.prog (orK L) kp k 7 [.v (.agg [.c (C.int .i64 x0_0), .c (C.row 25 x0_1), .c (C.row 33 x0_2)])] orielref12_Filters_d
noncomputable def orielref12_Filters_l0 (L : Lv) (k : Nat) (x0_0 : Int) (x0_1 x0_2 : LL) (m0 : Nat) : Option LL := headK noEq Tryd.prog (orK L) kp k 7 [.v (.agg [.c (C.int .i64 x0_0), .c (C.row 25 x0_1), .c (C.row 33 x0_2)])] [1, 1, 0, 1, 0] [m0] ⟨[(1, .one (.ptr 64 0)), (3, .one (.c (C.nil 33))), (4, .one (.c (C.int .i64 0)))], [(64, .box 25 [.c (C.int .i64 x0_0), .c (C.row 25 x0_1), .c (C.row 33 x0_2)])], 66, 37⟩ orielref12_Filters_d
noncomputable def orielref12_Filters_l1 (L : Lv) (k : Nat) (x0_0 : Int) (x0_1 x0_2 : LL) (m0 : Nat) : Option LL := headK noEq Tryd.prog (orK L) kp k 7 [.v (.agg [.c (C.int .i64 x0_0), .c (C.row 25 x0_1), .c (C.row 33 x0_2)])] [1, 1, 1, 0, 1, 0] [m0] ⟨[(1, .one (.ptr 64 0)), (3, .one (.c (C.nil 33))), (5, .one (.c (C.int .i64 0)))], [(64, .box 25 [.c (C.int .i64 x0_0), .c (C.row 25 x0_1), .c (C.row 33 x0_2)])], 66, 37⟩ orielref12_Filters_d
noncomputable def orielref12_Filters_l2 (L : Lv) (k : Nat) (x0_0 : Int) (x0_1 x0_2 : LL) (m0 : Nat) (v0 : Int) (v4 : LL) : Option LL := headK noEq Tryd.prog (orK L) kp k 7 [.v (.agg [.c (C.int .i64 x0_0), .c (C.row 25 x0_1), .c (C.row 33 x0_2)])] [1, 1, 0, 1, 0] [m0] ⟨[(1, .one (.ptr 64 0)), (3, .one (.arr 65)), (4, .one (.c (C.int .i64 v0)))], [(64, .box 25 [.c (C.int .i64 x0_0), .c (C.row 25 x0_1), .c (C.row 33 x0_2)]), (65, .arr 33 false v4)], 67, 37⟩ orielref12_Filters_d
noncomputable def orielref12_Filters_l3 (L : Lv) (k : Nat) (x0_0 : Int) (x0_1 x0_2 : LL) (m0 : Nat) (v0 : Int) (v4 : LL) : Option LL := headK noEq Tryd.prog (orK L) kp k 7 [.v (.agg [.c (C.int .i64 x0_0), .c (C.row 25 x0_1), .c (C.row 33 x0_2)])] [1, 1, 1, 0, 1, 0] [m0] ⟨[(1, .one (.ptr 64 0)), (3, .one (.arr 65)), (5, .one (.c (C.int .i64 v0)))], [(64, .box 25 [.c (C.int .i64 x0_0), .c (C.row 25 x0_1), .c (C.row 33 x0_2)]), (65, .arr 33 false v4)], 67, 37⟩ orielref12_Filters_d
noncomputable def orielref02_Char_b (L : Lv) (k : Nat) (x0 : Int) : Option Bool := bodyK noEq Tryd.prog (orK L) kp k 41 [.v (.one (.c (C.int .i64 x0)))] orielref02_Char_d
noncomputable def orielref02_Part_b (L : Lv) (k : Nat) (x0 : Int) : Option Bool := bodyK noEq Tryd.prog (orK L) kp k 47 [.v (.one (.c (C.int .i64 x0)))] orielref02_Part_d
noncomputable def orielref01_begins_b (L : Lv) (k : Nat) (x0 : ByteArray) (x1 : Int) (x2 : LL) : Option Bool := bodyK noEq Tryd.prog (orK L) kp k 57 [.v (.one (.c (C.str x0))), .v (.one (.c (C.int .i64 x1))), .v (.one (.c (C.row 5 x2)))] orielref01_begins_d
noncomputable def orielref01_begins_l0 (L : Lv) (k : Nat) (x0 : ByteArray) (x1 : Int) (x2 : LL) (m0 : Nat) (v3 : Int) : Option Bool := headK noEq Tryd.prog (orK L) kp k 57 [.v (.one (.c (C.str x0))), .v (.one (.c (C.int .i64 x1))), .v (.one (.c (C.row 5 x2)))] [1, 1, 0, 1, 0] [m0] ⟨[(0, .one (.c (C.str x0))), (1, .one (.c (C.int .i64 x1))), (2, .one (.c (C.row 5 x2))), (7, .one (.c (C.int .i64 v3)))], [], 193, 36⟩ orielref01_begins_d
noncomputable def orielref12_SameFilter_b (L : Lv) (k : Nat) (x0_0 : Int) (x0_1 x0_2 x0_3 : ByteArray) (x0_4 x0_5 : LL) (x1_0 : Int) (x1_1 x1_2 x1_3 : ByteArray) (x1_4 x1_5 : LL) : Option Bool := bodyK noEq Tryd.prog (orK L) kp k 23 [.v (.agg [.c (C.int .i64 x0_0), .c (C.str x0_1), .c (C.str x0_2), .c (C.str x0_3), .c (C.row 33 x0_4), .c (C.row 25 x0_5)]), .v (.agg [.c (C.int .i64 x1_0), .c (C.str x1_1), .c (C.str x1_2), .c (C.str x1_3), .c (C.row 33 x1_4), .c (C.row 25 x1_5)])] orielref12_SameFilter_d
noncomputable def orielref12_SameFilter_l0 (L : Lv) (k : Nat) (x0_0 : Int) (x0_1 x0_2 x0_3 : ByteArray) (x0_4 x0_5 : LL) (x1_0 : Int) (x1_1 x1_2 x1_3 : ByteArray) (x1_4 x1_5 : LL) (m0 : Nat) (v0 : Int) : Option Bool := headK noEq Tryd.prog (orK L) kp k 23 [.v (.agg [.c (C.int .i64 x0_0), .c (C.str x0_1), .c (C.str x0_2), .c (C.str x0_3), .c (C.row 33 x0_4), .c (C.row 25 x0_5)]), .v (.agg [.c (C.int .i64 x1_0), .c (C.str x1_1), .c (C.str x1_2), .c (C.str x1_3), .c (C.row 33 x1_4), .c (C.row 25 x1_5)])] [1, 1, 0, 1, 0] [m0] ⟨[(2, .one (.ptr 128 0)), (3, .one (.ptr 129 0)), (5, .one (.c (C.int .i64 v0)))], [(128, .box 33 [.c (C.int .i64 x0_0), .c (C.str x0_1), .c (C.str x0_2), .c (C.str x0_3), .c (C.row 33 x0_4), .c (C.row 25 x0_5)]), (129, .box 33 [.c (C.int .i64 x1_0), .c (C.str x1_1), .c (C.str x1_2), .c (C.str x1_3), .c (C.row 33 x1_4), .c (C.row 25 x1_5)])], 131, 82⟩ orielref12_SameFilter_d
noncomputable def orielref12_SameFilter_l1 (L : Lv) (k : Nat) (x0_0 : Int) (x0_1 x0_2 x0_3 : ByteArray) (x0_4 x0_5 : LL) (x1_0 : Int) (x1_1 x1_2 x1_3 : ByteArray) (x1_4 x1_5 : LL) (m0 : Nat) (v0 : Int) : Option Bool := headK noEq Tryd.prog (orK L) kp k 23 [.v (.agg [.c (C.int .i64 x0_0), .c (C.str x0_1), .c (C.str x0_2), .c (C.str x0_3), .c (C.row 33 x0_4), .c (C.row 25 x0_5)]), .v (.agg [.c (C.int .i64 x1_0), .c (C.str x1_1), .c (C.str x1_2), .c (C.str x1_3), .c (C.row 33 x1_4), .c (C.row 25 x1_5)])] [1, 1, 1, 0, 1, 0] [m0] ⟨[(2, .one (.ptr 128 0)), (3, .one (.ptr 129 0)), (6, .one (.c (C.int .i64 v0)))], [(128, .box 33 [.c (C.int .i64 x0_0), .c (C.str x0_1), .c (C.str x0_2), .c (C.str x0_3), .c (C.row 33 x0_4), .c (C.row 25 x0_5)]), (129, .box 33 [.c (C.int .i64 x1_0), .c (C.str x1_1), .c (C.str x1_2), .c (C.str x1_3), .c (C.row 33 x1_4), .c (C.row 25 x1_5)])], 131, 82⟩ orielref12_SameFilter_d
noncomputable def orielref12_within_b (L : Lv) (k : Nat) (x0_0 : Int) (x0_1 x0_2 x0_3 : ByteArray) (x0_4 x0_5 : LL) : Option LL := bodyK noEq Tryd.prog (orK L) kp k 15 [.v (.agg [.c (C.int .i64 x0_0), .c (C.str x0_1), .c (C.str x0_2), .c (C.str x0_3), .c (C.row 33 x0_4), .c (C.row 25 x0_5)])] orielref12_within_d
noncomputable def orielref12_within_l0 (L : Lv) (k : Nat) (x0_0 : Int) (x0_1 x0_2 x0_3 : ByteArray) (x0_4 x0_5 : LL) (m0 : Nat) (v0 : Int) (v7 : LL) : Option LL := headK noEq Tryd.prog (orK L) kp k 15 [.v (.agg [.c (C.int .i64 x0_0), .c (C.str x0_1), .c (C.str x0_2), .c (C.str x0_3), .c (C.row 33 x0_4), .c (C.row 25 x0_5)])] [1, 1, 0, 1, 0] [m0] ⟨[(1, .one (.ptr 64 0)), (3, .one (.arr 65)), (4, .one (.c (C.int .i64 v0)))], [(64, .box 33 [.c (C.int .i64 x0_0), .c (C.str x0_1), .c (C.str x0_2), .c (C.str x0_3), .c (C.row 33 x0_4), .c (C.row 25 x0_5)]), (65, .arr 33 false v7)], 67, 39⟩ orielref12_within_d
noncomputable def orielref12_within_l1 (L : Lv) (k : Nat) (x0_0 : Int) (x0_1 x0_2 x0_3 : ByteArray) (x0_4 x0_5 : LL) (m0 : Nat) (v0 : Int) (v7 : LL) : Option LL := headK noEq Tryd.prog (orK L) kp k 15 [.v (.agg [.c (C.int .i64 x0_0), .c (C.str x0_1), .c (C.str x0_2), .c (C.str x0_3), .c (C.row 33 x0_4), .c (C.row 25 x0_5)])] [1, 1, 1, 0, 1, 0] [m0] ⟨[(1, .one (.ptr 64 0)), (3, .one (.arr 65)), (5, .one (.c (C.int .i64 v0)))], [(64, .box 33 [.c (C.int .i64 x0_0), .c (C.str x0_1), .c (C.str x0_2), .c (C.str x0_3), .c (C.row 33 x0_4), .c (C.row 25 x0_5)]), (65, .arr 33 false v7)], 67, 39⟩ orielref12_within_d
noncomputable def orielref02_Blank_b (L : Lv) (k : Nat) (x0 : Int) : Option Bool := bodyK noEq Tryd.prog (orK L) kp k 49 [.v (.one (.c (C.int .i64 x0)))] orielref02_Blank_d
noncomputable def orielref15_Filter_b (L : Lv) (k : Nat) (x0_0 : Int) (x0_1 x0_2 x0_3 : ByteArray) (x0_4 x0_5 : LL) : Option ByteArray := bodyK noEq Tryd.prog (orK L) kp k 9 [.v (.agg [.c (C.int .i64 x0_0), .c (C.str x0_1), .c (C.str x0_2), .c (C.str x0_3), .c (C.row 33 x0_4), .c (C.row 25 x0_5)])] orielref15_Filter_d
noncomputable def orielref15_Filter_l0 (L : Lv) (k : Nat) (x0_0 : Int) (x0_1 x0_2 x0_3 : ByteArray) (x0_4 x0_5 : LL) (m0 : Nat) (v0 : ByteArray) (v1 : Int) : Option ByteArray := headK noEq Tryd.prog (orK L) kp k 9 [.v (.agg [.c (C.int .i64 x0_0), .c (C.str x0_1), .c (C.str x0_2), .c (C.str x0_3), .c (C.row 33 x0_4), .c (C.row 25 x0_5)])] [1, 1, 1, 1, 1, 1, 1, 1, 1, 1, 0, 1, 0] [m0] ⟨[(1, .one (.ptr 64 0)), (4, .one (.c (C.str v0))), (5, .one (.c (C.int .i64 v1)))], [(64, .box 33 [.c (C.int .i64 x0_0), .c (C.str x0_1), .c (C.str x0_2), .c (C.str x0_3), .c (C.row 33 x0_4), .c (C.row 25 x0_5)])], 66, 121⟩ orielref15_Filter_d
noncomputable def orielref15_Filter_l1 (L : Lv) (k : Nat) (x0_0 : Int) (x0_1 x0_2 x0_3 : ByteArray) (x0_4 x0_5 : LL) (m0 : Nat) (v0 : ByteArray) (v1 : Int) : Option ByteArray := headK noEq Tryd.prog (orK L) kp k 9 [.v (.agg [.c (C.int .i64 x0_0), .c (C.str x0_1), .c (C.str x0_2), .c (C.str x0_3), .c (C.row 33 x0_4), .c (C.row 25 x0_5)])] [1, 1, 1, 1, 1, 1, 1, 1, 1, 1, 0, 1, 0, 0, 1, 0, 0, 1, 0, 0] [m0] ⟨[(1, .one (.ptr 64 0)), (4, .one (.c (C.str v0))), (5, .one (.c (C.int .i64 v1)))], [(64, .box 33 [.c (C.int .i64 x0_0), .c (C.str x0_1), .c (C.str x0_2), .c (C.str x0_3), .c (C.row 33 x0_4), .c (C.row 25 x0_5)])], 66, 121⟩ orielref15_Filter_d
noncomputable def orielref15_Filter_l2 (L : Lv) (k : Nat) (x0_0 : Int) (x0_1 x0_2 x0_3 : ByteArray) (x0_4 x0_5 : LL) (m0 : Nat) (v0 : ByteArray) (v1 : Int) : Option ByteArray := headK noEq Tryd.prog (orK L) kp k 9 [.v (.agg [.c (C.int .i64 x0_0), .c (C.str x0_1), .c (C.str x0_2), .c (C.str x0_3), .c (C.row 33 x0_4), .c (C.row 25 x0_5)])] [1, 1, 1, 1, 1, 1, 1, 1, 1, 1, 0, 1, 0, 0, 1, 0, 0, 1, 1, 0] [m0] ⟨[(1, .one (.ptr 64 0)), (4, .one (.c (C.str v0))), (5, .one (.c (C.int .i64 v1)))], [(64, .box 33 [.c (C.int .i64 x0_0), .c (C.str x0_1), .c (C.str x0_2), .c (C.str x0_3), .c (C.row 33 x0_4), .c (C.row 25 x0_5)])], 66, 121⟩ orielref15_Filter_d
noncomputable def orielref15_Path_b (L : Lv) (k : Nat) (x0_0 : Int) (x0_1 x0_2 : LL) : Option ByteArray := bodyK noEq Tryd.prog (orK L) kp k 11 [.v (.agg [.c (C.int .i64 x0_0), .c (C.row 25 x0_1), .c (C.row 33 x0_2)])] orielref15_Path_d
noncomputable def orielref15_Path_l0 (L : Lv) (k : Nat) (x0_0 : Int) (x0_1 x0_2 : LL) (m0 : Nat) (v0 : ByteArray) (v1 : Int) : Option ByteArray := headK noEq Tryd.prog (orK L) kp k 11 [.v (.agg [.c (C.int .i64 x0_0), .c (C.row 25 x0_1), .c (C.row 33 x0_2)])] [1, 1, 1, 1, 1, 1, 0, 1, 0] [m0] ⟨[(1, .one (.ptr 64 0)), (3, .one (.c (C.str v0))), (4, .one (.c (C.int .i64 v1)))], [(64, .box 25 [.c (C.int .i64 x0_0), .c (C.row 25 x0_1), .c (C.row 33 x0_2)])], 66, 82⟩ orielref15_Path_d
noncomputable def orielref15_Path_l1 (L : Lv) (k : Nat) (x0_0 : Int) (x0_1 x0_2 : LL) (m0 : Nat) (v0 : ByteArray) (v1 : Int) : Option ByteArray := headK noEq Tryd.prog (orK L) kp k 11 [.v (.agg [.c (C.int .i64 x0_0), .c (C.row 25 x0_1), .c (C.row 33 x0_2)])] [1, 1, 1, 1, 1, 1, 0, 1, 0, 0, 1, 0, 0, 1, 0, 0] [m0] ⟨[(1, .one (.ptr 64 0)), (3, .one (.c (C.str v0))), (4, .one (.c (C.int .i64 v1)))], [(64, .box 25 [.c (C.int .i64 x0_0), .c (C.row 25 x0_1), .c (C.row 33 x0_2)])], 66, 82⟩ orielref15_Path_d
noncomputable def orielref15_Path_l2 (L : Lv) (k : Nat) (x0_0 : Int) (x0_1 x0_2 : LL) (m0 : Nat) (v0 : ByteArray) (v1 : Int) : Option ByteArray := headK noEq Tryd.prog (orK L) kp k 11 [.v (.agg [.c (C.int .i64 x0_0), .c (C.row 25 x0_1), .c (C.row 33 x0_2)])] [1, 1, 1, 1, 1, 1, 0, 1, 0, 0, 1, 0, 0, 1, 1, 0] [m0] ⟨[(1, .one (.ptr 64 0)), (3, .one (.c (C.str v0))), (4, .one (.c (C.int .i64 v1)))], [(64, .box 25 [.c (C.int .i64 x0_0), .c (C.row 25 x0_1), .c (C.row 33 x0_2)])], 66, 82⟩ orielref15_Path_d
noncomputable def orielref05_Find_b (L : Lv) (k : Nat) (x0 : ByteArray) (x1 : Int) (x2 : ByteArray) : Option Int := bodyK noEq Tryd.prog (orK L) kp k 39 [.v (.one (.c (C.str x0))), .v (.one (.c (C.int .i64 x1))), .v (.one (.c (C.str x2)))] orielref05_Find_d
noncomputable def orielref05_Find_l0 (L : Lv) (k : Nat) (x0 : ByteArray) (x1 : Int) (x2 : ByteArray) (m0 : Nat) (v2 : Int) : Option Int := headK noEq Tryd.prog (orK L) kp k 39 [.v (.one (.c (C.str x0))), .v (.one (.c (C.int .i64 x1))), .v (.one (.c (C.str x2)))] [1, 0, 1, 0] [m0] ⟨[(0, .one (.c (C.str x0))), (2, .one (.c (C.str x2))), (7, .one (.c (C.int .i64 v2)))], [], 193, 28⟩ orielref05_Find_d
noncomputable def orielref15_name_b (L : Lv) (k : Nat) (x0_0 x0_1 : ByteArray) : Option ByteArray := bodyK noEq Tryd.prog (orK L) kp k 20 [.v (.agg [.c (C.str x0_0), .c (C.str x0_1)])] orielref15_name_d
noncomputable def orielref15_quoted_b (L : Lv) (k : Nat) (x0 : ByteArray) : Option ByteArray := bodyK noEq Tryd.prog (orK L) kp k 21 [.v (.one (.c (C.str x0)))] orielref15_quoted_d
noncomputable def orielref15_brackets_b (L : Lv) (k : Nat) (x0 : ByteArray) (x1 : Bool) : Option ByteArray := bodyK noEq Tryd.prog (orK L) kp k 22 [.v (.one (.c (C.str x0))), .v (.one (.c (C.bool x1)))] orielref15_brackets_d
noncomputable def orielref13_Write_b (L : Lv) (k : Nat) (x0_0 : Int) (x0_1 x0_2 : ByteArray) (x0_3 : Int) : Option ByteArray := bodyK noEq Tryd.prog (orK L) kp k 29 [.v (.agg [.c (C.int .i64 x0_0), .c (C.str x0_1), .c (C.str x0_2), .c (C.int .i64 x0_3)])] orielref13_Write_d
noncomputable def orielref13_Write_l0 (L : Lv) (k : Nat) (x0_0 : Int) (x0_1 x0_2 : ByteArray) (x0_3 : Int) (m0 : Nat) (v0 : ByteArray) (v1 : Int) : Option ByteArray := headK noEq Tryd.prog (orK L) kp k 29 [.v (.agg [.c (C.int .i64 x0_0), .c (C.str x0_1), .c (C.str x0_2), .c (C.int .i64 x0_3)])] [1, 1, 1, 1, 1, 0, 1, 0] [m0] ⟨[(1, .one (.ptr 64 0)), (3, .one (.c (C.str v0))), (4, .one (.c (C.int .i64 v1)))], [(64, .box 50 [.c (C.int .i64 x0_0), .c (C.str x0_1), .c (C.str x0_2), .c (C.int .i64 x0_3)])], 66, 52⟩ orielref13_Write_d
end Go.Vm.T
