/- The functions, as the machine tells them: definitions. -/
import Derived.Test.YtfogiadkbdogcaaVmThree
import Derived.Test.YtfogiadkbdogcaaProg
import Derived.Test.YtfogiadkbdogcaaVmGiven
set_option linter.unusedVariables false
set_option maxHeartbeats 4000000
set_option maxRecDepth 100000
namespace Go.Vm.T
open Go Go.Vm Go.Proofs
noncomputable def kl : List (Nat × List (Nat × List Nat)) := [(12, [(4, [2, 3, 5]), (9, [2, 3, 6])]), (14, [(3, [2, 3, 6, 7, 8])]), (21, [(3, [1, 2, 5, 6]), (7, [1, 2, 5, 7])]), (23, [(14, [1, 2, 7]), (2000011, [1, 2, 5, 6, 999999])]), (24, [(4, [1, 2, 15, 16, 17])]), (25, [(4, [1, 2, 15, 16, 17])]), (27, [(4, [2, 3, 5]), (9, [2, 3, 6])]), (28, [(2, [0, 3, 9, 10, 11]), (7, [0, 20, 21, 22])]), (32, [(3, [1, 2, 5, 6]), (7, [1, 2, 5, 7])]), (33, [(17, [0, 2, 4, 6, 7, 8]), (21, [0, 2, 4, 7, 9]), (2000009, [0, 2, 4, 6, 7, 21, 999999]), (2000016, [0, 2, 4, 6, 7, 999999])]), (34, [(20, [1, 2, 9]), (2000005, [1, 2, 5, 6, 999999]), (2000007, [1, 2, 6, 999999]), (2000014, [1, 2, 7, 8, 999999]), (2000017, [1, 2, 7, 8, 999999])]), (35, [(12, [0, 3, 70, 71, 72]), (17, [0, 81, 82, 83])]), (37, [(4, [0, 2, 4, 6]), (8, [0, 2, 4, 7])]), (39, [(3, [3, 5, 6])]), (43, [(2000005, [1, 3, 4, 5, 6, 24, 999999]), (2000009, [1, 3, 4, 5, 6, 24, 999999]), (2000012, [1, 3, 4, 5, 6, 24, 999999])]), (44, [(5, [3, 4])]), (45, [(2, [0, 2, 7])]), (46, [(3, [0, 5, 6])]), (49, [(2, [0, 3, 7, 8])]), (55, [(4, [0, 1, 7])]), (57, [(2, [0, 1, 7, 8])]), (58, [(2, [0, 6])]), (60, [(3, [0, 5, 6])]), (61, [(2, [1, 11]), (6, [1, 6, 7, 11, 15, 16, 17])]), (63, [(3, [0, 1, 2, 7, 8]), (2000010, [0, 1, 2, 7, 8, 9, 999999])]), (65, [(4, [0, 1, 2, 7])]), (66, [(5, [0, 1, 5, 6]), (10, [0, 1, 5, 6, 7, 8, 9]), (17, [0, 1, 5, 6, 7, 10, 11, 12, 13]), (23, [0, 1, 5, 6, 7, 10, 11, 15]), (2000021, [0, 1, 5, 6, 7, 10, 11, 12, 14, 999999])]), (70, [(4, [0, 1, 21, 22]), (9, [0, 1, 7, 8, 9, 10]), (2000006, [0, 1, 7, 8, 21, 22, 999999]), (2000012, [0, 1, 7, 8, 9, 10, 999999])]), (72, [(2, [0, 7, 8, 9])])]
noncomputable def kp := tabKeep2 kl
structure Lv where
  oriellaw12_PathRights : Int → LL → LL → Int → LL → LL → Option Bool
  oriellaw12_awake : Option Bool
  oriellaw12_named : ByteArray → Option (Int × LL × LL)
  path_Speaks : LL → Option (LL × LL × LL × LL)
  path_gather_path : LL → LL → LL → LL → Int → LL → LL → Option (LL × LL × LL × LL)
  path_gather_filter : LL → LL → LL → LL → Int → ByteArray → ByteArray → ByteArray → LL → LL → Option (LL × LL × LL × LL)
  api_Name : LL → ByteArray → ByteArray → Option LL
  path_gather_attr : LL → LL → LL → LL → ByteArray → ByteArray → Option (Int × LL × LL × LL × LL)
  path_add_string : LL → ByteArray → Option LL
  api_Name_2 : LL → ByteArray → ByteArray → Option Bool
  api_Name_3 : LL → ByteArray → ByteArray → Option Int
  slices_Contains_string_string : LL → ByteArray → Option Bool
  slices_Index_string_string : LL → ByteArray → Option Int
  path_Right : Int → LL → LL → Option Bool
  path_measured : Int → LL → LL → Option (Int × Bool)
  path_measure_path : Int → Bool → Int → LL → LL → Int → Option (Int × Bool)
  path_measure_part : Int → Bool → Int → Option (Bool × Int × Bool)
  path_add_string_2 : LL → ByteArray → Option LL
  path_measure_filter : Int → Bool → Int → ByteArray → ByteArray → ByteArray → LL → LL → Int → Option (Int × Bool)
  path_shape : Int → ByteArray → ByteArray → ByteArray → LL → LL → Option Bool
  path_named : ByteArray → ByteArray → Option Bool
  path_value : ByteArray → Option Bool
  name_Plain : ByteArray → Option Bool
  utf_All : ByteArray → Option (LL × Int × Int)
  char_Start : Int → Option Bool
  utf_Rune : ByteArray → Int → Option (Int × Int × Int)
  char_in : Int → LL → Option Bool
  utf_forms : Option (Int × Int × Int × Int × Int × Int × Int × Int × Int × Int × Int × Int)
  char_All : ByteArray → Option Bool
  utf_span : Int → Int → Option (Int × Int)
  char_Char : Int → Option Bool
  char_Blank : Int → Option Bool
  char_Part : Int → Option Bool
  path_Size : Int → LL → LL → Option Int
  orielref12_Size : Int → LL → LL → Option Int
  path_Same : Int → LL → LL → Int → LL → LL → Option Bool
  orielref12_size : Int → LL → LL → Int → Option Int
  api_Path : LL → LL → Option Bool
  orielref12_sizeFilter : Int → ByteArray → ByteArray → ByteArray → LL → LL → Int → Option Int
  api_Filter : LL → LL → Option Bool
  path_sameFilter : Int → ByteArray → ByteArray → ByteArray → LL → LL → Int → ByteArray → ByteArray → ByteArray → LL → LL → Option Bool
  orielref12_Right : Int → LL → LL → Option Bool
  orielref12_path : Int → LL → LL → Int → Option Bool
  orielref12_filter : Int → ByteArray → ByteArray → ByteArray → LL → LL → Int → Option Bool
  orielref12_named : ByteArray → ByteArray → Option Bool
  orielref04_Right : ByteArray → Option Bool
  orielref03_Plain : ByteArray → Option Bool
  orielref01_All : ByteArray → Option (LL × Int × Int)
  orielref02_Start : Int → Option Bool
  orielref01_Rune : ByteArray → Int → Option (Int × Int × Int)
  orielref01_Put : Int → Option LL
  orielref01_cut : ByteArray → Int → Option Bool
  orielref01_value : ByteArray → Int → Int → Option Int
  orielref12_Same : Int → LL → LL → Int → LL → LL → Option Bool
  orielref02_Char : Int → Option Bool
  orielref02_Part : Int → Option Bool
  orielref01_begins : ByteArray → Int → LL → Option Bool
  orielref12_SameFilter : Int → ByteArray → ByteArray → ByteArray → LL → LL → Int → ByteArray → ByteArray → ByteArray → LL → LL → Option Bool
  orielref02_Blank : Int → Option Bool
  orielref05_Find : ByteArray → Int → ByteArray → Option Int
noncomputable def oriellaw12_PathRights_a : List Arg → Option (Int × LL × LL × Int × LL × LL)
  | [.v (.agg [.c (.int .i64 x0_0), .c (.row 25 x0_1), .c (.row 52 x0_2)]), .v (.agg [.c (.int .i64 x1_0), .c (.row 25 x1_1), .c (.row 52 x1_2)])] => some (x0_0, x0_1, x0_2, x1_0, x1_1, x1_2)
  | _ => none
noncomputable def oriellaw12_PathRights_e (a : Int × LL × LL × Int × LL × LL) : List Arg := [.v (.agg [.c (C.int .i64 a.1), .c (C.row 25 a.2.1), .c (C.row 52 a.2.2.1)]), .v (.agg [.c (C.int .i64 a.2.2.2.1), .c (C.row 25 a.2.2.2.2.1), .c (C.row 52 a.2.2.2.2.2)])]
theorem oriellaw12_PathRights_ae {l : List Arg} {a : Int × LL × LL × Int × LL × LL} (h : oriellaw12_PathRights_a l = some a) : l = oriellaw12_PathRights_e a := by
  unfold oriellaw12_PathRights_a at h
  split at h
  · cases h; rfl
  · cases h
noncomputable def oriellaw12_PathRights_d : Res → Option Bool
  | ⟨.one (.d (.bool y0)), []⟩ => some y0
  | _ => none
noncomputable def oriellaw12_PathRights_r (r : Bool) : Res := ⟨.one (.d (.bool r)), []⟩
theorem oriellaw12_PathRights_dr {R : Res} {r : Bool} (h : oriellaw12_PathRights_d R = some r) : R = oriellaw12_PathRights_r r := by
  unfold oriellaw12_PathRights_d at h
  split at h
  · cases h; rfl
  · cases h
noncomputable def oriellaw12_PathRights_o (L : Lv) {Ω : Type} (f : FuncId) (l : List Arg) (K : Res → Option Ω) (next : Option Ω) : Option Ω := rowO 3 oriellaw12_PathRights_a (fun a => L.oriellaw12_PathRights a.1 a.2.1 a.2.2.1 a.2.2.2.1 a.2.2.2.2.1 a.2.2.2.2.2) oriellaw12_PathRights_r f l K next
noncomputable def oriellaw12_awake_a : List Arg → Option Unit
  | [] => some ()
  | _ => none
noncomputable def oriellaw12_awake_e (a : Unit) : List Arg := []
theorem oriellaw12_awake_ae {l : List Arg} {a : Unit} (h : oriellaw12_awake_a l = some a) : l = oriellaw12_awake_e a := by
  unfold oriellaw12_awake_a at h
  split at h
  · cases h; rfl
  · cases h
noncomputable def oriellaw12_awake_d : Res → Option Bool
  | ⟨.one (.d (.bool y0)), []⟩ => some y0
  | _ => none
noncomputable def oriellaw12_awake_r (r : Bool) : Res := ⟨.one (.d (.bool r)), []⟩
theorem oriellaw12_awake_dr {R : Res} {r : Bool} (h : oriellaw12_awake_d R = some r) : R = oriellaw12_awake_r r := by
  unfold oriellaw12_awake_d at h
  split at h
  · cases h; rfl
  · cases h
noncomputable def oriellaw12_awake_o (L : Lv) {Ω : Type} (f : FuncId) (l : List Arg) (K : Res → Option Ω) (next : Option Ω) : Option Ω := rowO 7 oriellaw12_awake_a (fun a => L.oriellaw12_awake) oriellaw12_awake_r f l K next
noncomputable def oriellaw12_named_a : List Arg → Option ByteArray
  | [.v (.one (.c (.str x0)))] => some x0
  | _ => none
noncomputable def oriellaw12_named_e (a : ByteArray) : List Arg := [.v (.one (.c (C.str a)))]
theorem oriellaw12_named_ae {l : List Arg} {a : ByteArray} (h : oriellaw12_named_a l = some a) : l = oriellaw12_named_e a := by
  unfold oriellaw12_named_a at h
  split at h
  · cases h; rfl
  · cases h
noncomputable def oriellaw12_named_d : Res → Option (Int × LL × LL)
  | ⟨.agg [.d (.int .i64 y0), .own 25 y1, .own 52 y2], []⟩ => some (y0, y1, y2)
  | _ => none
noncomputable def oriellaw12_named_r (r : Int × LL × LL) : Res := ⟨.agg [.d (.int .i64 r.1), .own 25 r.2.1, .own 52 r.2.2], []⟩
theorem oriellaw12_named_dr {R : Res} {r : Int × LL × LL} (h : oriellaw12_named_d R = some r) : R = oriellaw12_named_r r := by
  unfold oriellaw12_named_d at h
  split at h
  · cases h; rfl
  · cases h
noncomputable def oriellaw12_named_o (L : Lv) {Ω : Type} (f : FuncId) (l : List Arg) (K : Res → Option Ω) (next : Option Ω) : Option Ω := rowO 20 oriellaw12_named_a (fun a => L.oriellaw12_named a) oriellaw12_named_r f l K next
noncomputable def path_Speaks_a : List Arg → Option LL
  | [.v (.one (.c (.row 25 x0)))] => some x0
  | _ => none
noncomputable def path_Speaks_e (a : LL) : List Arg := [.v (.one (.c (C.row 25 a)))]
theorem path_Speaks_ae {l : List Arg} {a : LL} (h : path_Speaks_a l = some a) : l = path_Speaks_e a := by
  unfold path_Speaks_a at h
  split at h
  · cases h; rfl
  · cases h
noncomputable def path_Speaks_d : Res → Option (LL × LL × LL × LL)
  | ⟨.agg [.own 42 y0, .own 42 y1, .own 32 y2, .own 9 y3], []⟩ => some (y0, y1, y2, y3)
  | _ => none
noncomputable def path_Speaks_r (r : LL × LL × LL × LL) : Res := ⟨.agg [.own 42 r.1, .own 42 r.2.1, .own 32 r.2.2.1, .own 9 r.2.2.2], []⟩
theorem path_Speaks_dr {R : Res} {r : LL × LL × LL × LL} (h : path_Speaks_d R = some r) : R = path_Speaks_r r := by
  unfold path_Speaks_d at h
  split at h
  · cases h; rfl
  · cases h
noncomputable def path_Speaks_o (L : Lv) {Ω : Type} (f : FuncId) (l : List Arg) (K : Res → Option Ω) (next : Option Ω) : Option Ω := rowO 14 path_Speaks_a (fun a => L.path_Speaks a) path_Speaks_r f l K next
noncomputable def path_gather_path_a : List Arg → Option (LL × LL × LL × LL × Int × LL × LL)
  | [.ref 55 [.own 42 x0_0, .own 42 x0_1, .own 32 x0_2, .own 9 x0_3] 0, .v (.agg [.c (.int .i64 x1_0), .c (.row 25 x1_1), .c (.row 52 x1_2)])] => some (x0_0, x0_1, x0_2, x0_3, x1_0, x1_1, x1_2)
  | _ => none
noncomputable def path_gather_path_e (a : LL × LL × LL × LL × Int × LL × LL) : List Arg := [.ref 55 [.own 42 a.1, .own 42 a.2.1, .own 32 a.2.2.1, .own 9 a.2.2.2.1] 0, .v (.agg [.c (C.int .i64 a.2.2.2.2.1), .c (C.row 25 a.2.2.2.2.2.1), .c (C.row 52 a.2.2.2.2.2.2)])]
theorem path_gather_path_ae {l : List Arg} {a : LL × LL × LL × LL × Int × LL × LL} (h : path_gather_path_a l = some a) : l = path_gather_path_e a := by
  unfold path_gather_path_a at h
  split at h
  · cases h; rfl
  · cases h
noncomputable def path_gather_path_d : Res → Option (LL × LL × LL × LL)
  | ⟨.tup [], [[.own 42 y0, .own 42 y1, .own 32 y2, .own 9 y3]]⟩ => some (y0, y1, y2, y3)
  | _ => none
noncomputable def path_gather_path_r (r : LL × LL × LL × LL) : Res := ⟨.tup [], [[.own 42 r.1, .own 42 r.2.1, .own 32 r.2.2.1, .own 9 r.2.2.2]]⟩
theorem path_gather_path_dr {R : Res} {r : LL × LL × LL × LL} (h : path_gather_path_d R = some r) : R = path_gather_path_r r := by
  unfold path_gather_path_d at h
  split at h
  · cases h; rfl
  · cases h
noncomputable def path_gather_path_o (L : Lv) {Ω : Type} (f : FuncId) (l : List Arg) (K : Res → Option Ω) (next : Option Ω) : Option Ω := rowO 28 path_gather_path_a (fun a => L.path_gather_path a.1 a.2.1 a.2.2.1 a.2.2.2.1 a.2.2.2.2.1 a.2.2.2.2.2.1 a.2.2.2.2.2.2) path_gather_path_r f l K next
noncomputable def path_gather_filter_a : List Arg → Option (LL × LL × LL × LL × Int × ByteArray × ByteArray × ByteArray × LL × LL)
  | [.ref 55 [.own 42 x0_0, .own 42 x0_1, .own 32 x0_2, .own 9 x0_3] 0, .v (.agg [.c (.int .i64 x1_0), .c (.str x1_1), .c (.str x1_2), .c (.str x1_3), .c (.row 52 x1_4), .c (.row 25 x1_5)])] => some (x0_0, x0_1, x0_2, x0_3, x1_0, x1_1, x1_2, x1_3, x1_4, x1_5)
  | _ => none
noncomputable def path_gather_filter_e (a : LL × LL × LL × LL × Int × ByteArray × ByteArray × ByteArray × LL × LL) : List Arg := [.ref 55 [.own 42 a.1, .own 42 a.2.1, .own 32 a.2.2.1, .own 9 a.2.2.2.1] 0, .v (.agg [.c (C.int .i64 a.2.2.2.2.1), .c (C.str a.2.2.2.2.2.1), .c (C.str a.2.2.2.2.2.2.1), .c (C.str a.2.2.2.2.2.2.2.1), .c (C.row 52 a.2.2.2.2.2.2.2.2.1), .c (C.row 25 a.2.2.2.2.2.2.2.2.2)])]
theorem path_gather_filter_ae {l : List Arg} {a : LL × LL × LL × LL × Int × ByteArray × ByteArray × ByteArray × LL × LL} (h : path_gather_filter_a l = some a) : l = path_gather_filter_e a := by
  unfold path_gather_filter_a at h
  split at h
  · cases h; rfl
  · cases h
noncomputable def path_gather_filter_d : Res → Option (LL × LL × LL × LL)
  | ⟨.tup [], [[.own 42 y0, .own 42 y1, .own 32 y2, .own 9 y3]]⟩ => some (y0, y1, y2, y3)
  | _ => none
noncomputable def path_gather_filter_r (r : LL × LL × LL × LL) : Res := ⟨.tup [], [[.own 42 r.1, .own 42 r.2.1, .own 32 r.2.2.1, .own 9 r.2.2.2]]⟩
theorem path_gather_filter_dr {R : Res} {r : LL × LL × LL × LL} (h : path_gather_filter_d R = some r) : R = path_gather_filter_r r := by
  unfold path_gather_filter_d at h
  split at h
  · cases h; rfl
  · cases h
noncomputable def path_gather_filter_o (L : Lv) {Ω : Type} (f : FuncId) (l : List Arg) (K : Res → Option Ω) (next : Option Ω) : Option Ω := rowO 35 path_gather_filter_a (fun a => L.path_gather_filter a.1 a.2.1 a.2.2.1 a.2.2.2.1 a.2.2.2.2.1 a.2.2.2.2.2.1 a.2.2.2.2.2.2.1 a.2.2.2.2.2.2.2.1 a.2.2.2.2.2.2.2.2.1 a.2.2.2.2.2.2.2.2.2) path_gather_filter_r f l K next
noncomputable def api_Name_a : List Arg → Option (LL × ByteArray × ByteArray)
  | [.mv 42 x0, .v (.agg [.c (.str x1_0), .c (.str x1_1)])] => some (x0, x1_0, x1_1)
  | _ => none
noncomputable def api_Name_e (a : LL × ByteArray × ByteArray) : List Arg := [.mv 42 a.1, .v (.agg [.c (C.str a.2.1), .c (C.str a.2.2)])]
theorem api_Name_ae {l : List Arg} {a : LL × ByteArray × ByteArray} (h : api_Name_a l = some a) : l = api_Name_e a := by
  unfold api_Name_a at h
  split at h
  · cases h; rfl
  · cases h
noncomputable def api_Name_d : Res → Option LL
  | ⟨.one (.own 42 y0), []⟩ => some y0
  | _ => none
noncomputable def api_Name_r (r : LL) : Res := ⟨.one (.own 42 r), []⟩
theorem api_Name_dr {R : Res} {r : LL} (h : api_Name_d R = some r) : R = api_Name_r r := by
  unfold api_Name_d at h
  split at h
  · cases h; rfl
  · cases h
noncomputable def api_Name_o (L : Lv) {Ω : Type} (f : FuncId) (l : List Arg) (K : Res → Option Ω) (next : Option Ω) : Option Ω := rowO 40 api_Name_a (fun a => L.api_Name a.1 a.2.1 a.2.2) api_Name_r f l K next
noncomputable def path_gather_attr_a : List Arg → Option (LL × LL × LL × LL × ByteArray × ByteArray)
  | [.ref 55 [.own 42 x0_0, .own 42 x0_1, .own 32 x0_2, .own 9 x0_3] 0, .v (.agg [.c (.str x1_0), .c (.str x1_1)])] => some (x0_0, x0_1, x0_2, x0_3, x1_0, x1_1)
  | _ => none
noncomputable def path_gather_attr_e (a : LL × LL × LL × LL × ByteArray × ByteArray) : List Arg := [.ref 55 [.own 42 a.1, .own 42 a.2.1, .own 32 a.2.2.1, .own 9 a.2.2.2.1] 0, .v (.agg [.c (C.str a.2.2.2.2.1), .c (C.str a.2.2.2.2.2)])]
theorem path_gather_attr_ae {l : List Arg} {a : LL × LL × LL × LL × ByteArray × ByteArray} (h : path_gather_attr_a l = some a) : l = path_gather_attr_e a := by
  unfold path_gather_attr_a at h
  split at h
  · cases h; rfl
  · cases h
noncomputable def path_gather_attr_d : Res → Option (Int × LL × LL × LL × LL)
  | ⟨.one (.d (.int .i64 y0)), [[.own 42 y1, .own 42 y2, .own 32 y3, .own 9 y4]]⟩ => some (y0, y1, y2, y3, y4)
  | _ => none
noncomputable def path_gather_attr_r (r : Int × LL × LL × LL × LL) : Res := ⟨.one (.d (.int .i64 r.1)), [[.own 42 r.2.1, .own 42 r.2.2.1, .own 32 r.2.2.2.1, .own 9 r.2.2.2.2]]⟩
theorem path_gather_attr_dr {R : Res} {r : Int × LL × LL × LL × LL} (h : path_gather_attr_d R = some r) : R = path_gather_attr_r r := by
  unfold path_gather_attr_d at h
  split at h
  · cases h; rfl
  · cases h
noncomputable def path_gather_attr_o (L : Lv) {Ω : Type} (f : FuncId) (l : List Arg) (K : Res → Option Ω) (next : Option Ω) : Option Ω := rowO 41 path_gather_attr_a (fun a => L.path_gather_attr a.1 a.2.1 a.2.2.1 a.2.2.2.1 a.2.2.2.2.1 a.2.2.2.2.2) path_gather_attr_r f l K next
noncomputable def path_add_string_a : List Arg → Option (LL × ByteArray)
  | [.mv 9 x0, .v (.one (.c (.str x1)))] => some (x0, x1)
  | _ => none
noncomputable def path_add_string_e (a : LL × ByteArray) : List Arg := [.mv 9 a.1, .v (.one (.c (C.str a.2)))]
theorem path_add_string_ae {l : List Arg} {a : LL × ByteArray} (h : path_add_string_a l = some a) : l = path_add_string_e a := by
  unfold path_add_string_a at h
  split at h
  · cases h; rfl
  · cases h
noncomputable def path_add_string_d : Res → Option LL
  | ⟨.one (.own 9 y0), []⟩ => some y0
  | _ => none
noncomputable def path_add_string_r (r : LL) : Res := ⟨.one (.own 9 r), []⟩
theorem path_add_string_dr {R : Res} {r : LL} (h : path_add_string_d R = some r) : R = path_add_string_r r := by
  unfold path_add_string_d at h
  split at h
  · cases h; rfl
  · cases h
noncomputable def path_add_string_o (L : Lv) {Ω : Type} (f : FuncId) (l : List Arg) (K : Res → Option Ω) (next : Option Ω) : Option Ω := rowO 42 path_add_string_a (fun a => L.path_add_string a.1 a.2) path_add_string_r f l K next
noncomputable def api_Name_2_a : List Arg → Option (LL × ByteArray × ByteArray)
  | [.v (.one (.c (.row 42 x0))), .v (.agg [.c (.str x1_0), .c (.str x1_1)])] => some (x0, x1_0, x1_1)
  | _ => none
noncomputable def api_Name_2_e (a : LL × ByteArray × ByteArray) : List Arg := [.v (.one (.c (C.row 42 a.1))), .v (.agg [.c (C.str a.2.1), .c (C.str a.2.2)])]
theorem api_Name_2_ae {l : List Arg} {a : LL × ByteArray × ByteArray} (h : api_Name_2_a l = some a) : l = api_Name_2_e a := by
  unfold api_Name_2_a at h
  split at h
  · cases h; rfl
  · cases h
noncomputable def api_Name_2_d : Res → Option Bool
  | ⟨.one (.d (.bool y0)), []⟩ => some y0
  | _ => none
noncomputable def api_Name_2_r (r : Bool) : Res := ⟨.one (.d (.bool r)), []⟩
theorem api_Name_2_dr {R : Res} {r : Bool} (h : api_Name_2_d R = some r) : R = api_Name_2_r r := by
  unfold api_Name_2_d at h
  split at h
  · cases h; rfl
  · cases h
noncomputable def api_Name_2_o (L : Lv) {Ω : Type} (f : FuncId) (l : List Arg) (K : Res → Option Ω) (next : Option Ω) : Option Ω := rowO 48 api_Name_2_a (fun a => L.api_Name_2 a.1 a.2.1 a.2.2) api_Name_2_r f l K next
noncomputable def api_Name_3_a : List Arg → Option (LL × ByteArray × ByteArray)
  | [.v (.one (.c (.row 42 x0))), .v (.agg [.c (.str x1_0), .c (.str x1_1)])] => some (x0, x1_0, x1_1)
  | _ => none
noncomputable def api_Name_3_e (a : LL × ByteArray × ByteArray) : List Arg := [.v (.one (.c (C.row 42 a.1))), .v (.agg [.c (C.str a.2.1), .c (C.str a.2.2)])]
theorem api_Name_3_ae {l : List Arg} {a : LL × ByteArray × ByteArray} (h : api_Name_3_a l = some a) : l = api_Name_3_e a := by
  unfold api_Name_3_a at h
  split at h
  · cases h; rfl
  · cases h
noncomputable def api_Name_3_d : Res → Option Int
  | ⟨.one (.d (.int .i64 y0)), []⟩ => some y0
  | _ => none
noncomputable def api_Name_3_r (r : Int) : Res := ⟨.one (.d (.int .i64 r)), []⟩
theorem api_Name_3_dr {R : Res} {r : Int} (h : api_Name_3_d R = some r) : R = api_Name_3_r r := by
  unfold api_Name_3_d at h
  split at h
  · cases h; rfl
  · cases h
noncomputable def api_Name_3_o (L : Lv) {Ω : Type} (f : FuncId) (l : List Arg) (K : Res → Option Ω) (next : Option Ω) : Option Ω := rowO 49 api_Name_3_a (fun a => L.api_Name_3 a.1 a.2.1 a.2.2) api_Name_3_r f l K next
noncomputable def slices_Contains_string_string_a : List Arg → Option (LL × ByteArray)
  | [.v (.one (.c (.row 9 x0))), .v (.one (.c (.str x1)))] => some (x0, x1)
  | _ => none
noncomputable def slices_Contains_string_string_e (a : LL × ByteArray) : List Arg := [.v (.one (.c (C.row 9 a.1))), .v (.one (.c (C.str a.2)))]
theorem slices_Contains_string_string_ae {l : List Arg} {a : LL × ByteArray} (h : slices_Contains_string_string_a l = some a) : l = slices_Contains_string_string_e a := by
  unfold slices_Contains_string_string_a at h
  split at h
  · cases h; rfl
  · cases h
noncomputable def slices_Contains_string_string_d : Res → Option Bool
  | ⟨.one (.d (.bool y0)), []⟩ => some y0
  | _ => none
noncomputable def slices_Contains_string_string_r (r : Bool) : Res := ⟨.one (.d (.bool r)), []⟩
theorem slices_Contains_string_string_dr {R : Res} {r : Bool} (h : slices_Contains_string_string_d R = some r) : R = slices_Contains_string_string_r r := by
  unfold slices_Contains_string_string_d at h
  split at h
  · cases h; rfl
  · cases h
noncomputable def slices_Contains_string_string_o (L : Lv) {Ω : Type} (f : FuncId) (l : List Arg) (K : Res → Option Ω) (next : Option Ω) : Option Ω := rowO 50 slices_Contains_string_string_a (fun a => L.slices_Contains_string_string a.1 a.2) slices_Contains_string_string_r f l K next
noncomputable def slices_Index_string_string_a : List Arg → Option (LL × ByteArray)
  | [.v (.one (.c (.row 9 x0))), .v (.one (.c (.str x1)))] => some (x0, x1)
  | _ => none
noncomputable def slices_Index_string_string_e (a : LL × ByteArray) : List Arg := [.v (.one (.c (C.row 9 a.1))), .v (.one (.c (C.str a.2)))]
theorem slices_Index_string_string_ae {l : List Arg} {a : LL × ByteArray} (h : slices_Index_string_string_a l = some a) : l = slices_Index_string_string_e a := by
  unfold slices_Index_string_string_a at h
  split at h
  · cases h; rfl
  · cases h
noncomputable def slices_Index_string_string_d : Res → Option Int
  | ⟨.one (.d (.int .i64 y0)), []⟩ => some y0
  | _ => none
noncomputable def slices_Index_string_string_r (r : Int) : Res := ⟨.one (.d (.int .i64 r)), []⟩
theorem slices_Index_string_string_dr {R : Res} {r : Int} (h : slices_Index_string_string_d R = some r) : R = slices_Index_string_string_r r := by
  unfold slices_Index_string_string_d at h
  split at h
  · cases h; rfl
  · cases h
noncomputable def slices_Index_string_string_o (L : Lv) {Ω : Type} (f : FuncId) (l : List Arg) (K : Res → Option Ω) (next : Option Ω) : Option Ω := rowO 57 slices_Index_string_string_a (fun a => L.slices_Index_string_string a.1 a.2) slices_Index_string_string_r f l K next
noncomputable def path_Right_a : List Arg → Option (Int × LL × LL)
  | [.v (.agg [.c (.int .i64 x0_0), .c (.row 25 x0_1), .c (.row 52 x0_2)])] => some (x0_0, x0_1, x0_2)
  | _ => none
noncomputable def path_Right_e (a : Int × LL × LL) : List Arg := [.v (.agg [.c (C.int .i64 a.1), .c (C.row 25 a.2.1), .c (C.row 52 a.2.2)])]
theorem path_Right_ae {l : List Arg} {a : Int × LL × LL} (h : path_Right_a l = some a) : l = path_Right_e a := by
  unfold path_Right_a at h
  split at h
  · cases h; rfl
  · cases h
noncomputable def path_Right_d : Res → Option Bool
  | ⟨.one (.d (.bool y0)), []⟩ => some y0
  | _ => none
noncomputable def path_Right_r (r : Bool) : Res := ⟨.one (.d (.bool r)), []⟩
theorem path_Right_dr {R : Res} {r : Bool} (h : path_Right_d R = some r) : R = path_Right_r r := by
  unfold path_Right_d at h
  split at h
  · cases h; rfl
  · cases h
noncomputable def path_Right_o (L : Lv) {Ω : Type} (f : FuncId) (l : List Arg) (K : Res → Option Ω) (next : Option Ω) : Option Ω := rowO 9 path_Right_a (fun a => L.path_Right a.1 a.2.1 a.2.2) path_Right_r f l K next
noncomputable def path_measured_a : List Arg → Option (Int × LL × LL)
  | [.v (.agg [.c (.int .i64 x0_0), .c (.row 25 x0_1), .c (.row 52 x0_2)])] => some (x0_0, x0_1, x0_2)
  | _ => none
noncomputable def path_measured_e (a : Int × LL × LL) : List Arg := [.v (.agg [.c (C.int .i64 a.1), .c (C.row 25 a.2.1), .c (C.row 52 a.2.2)])]
theorem path_measured_ae {l : List Arg} {a : Int × LL × LL} (h : path_measured_a l = some a) : l = path_measured_e a := by
  unfold path_measured_a at h
  split at h
  · cases h; rfl
  · cases h
noncomputable def path_measured_d : Res → Option (Int × Bool)
  | ⟨.agg [.d (.int .i64 y0), .d (.bool y1)], []⟩ => some (y0, y1)
  | _ => none
noncomputable def path_measured_r (r : Int × Bool) : Res := ⟨.agg [.d (.int .i64 r.1), .d (.bool r.2)], []⟩
theorem path_measured_dr {R : Res} {r : Int × Bool} (h : path_measured_d R = some r) : R = path_measured_r r := by
  unfold path_measured_d at h
  split at h
  · cases h; rfl
  · cases h
noncomputable def path_measured_o (L : Lv) {Ω : Type} (f : FuncId) (l : List Arg) (K : Res → Option Ω) (next : Option Ω) : Option Ω := rowO 22 path_measured_a (fun a => L.path_measured a.1 a.2.1 a.2.2) path_measured_r f l K next
noncomputable def path_measure_path_a : List Arg → Option (Int × Bool × Int × LL × LL × Int)
  | [.ref 46 [.d (.int .i64 x0_0), .d (.bool x0_1)] 0, .v (.agg [.c (.int .i64 x1_0), .c (.row 25 x1_1), .c (.row 52 x1_2)]), .v (.one (.c (.int .i64 x2)))] => some (x0_0, x0_1, x1_0, x1_1, x1_2, x2)
  | _ => none
noncomputable def path_measure_path_e (a : Int × Bool × Int × LL × LL × Int) : List Arg := [.ref 46 [.d (C.int .i64 a.1), .d (C.bool a.2.1)] 0, .v (.agg [.c (C.int .i64 a.2.2.1), .c (C.row 25 a.2.2.2.1), .c (C.row 52 a.2.2.2.2.1)]), .v (.one (.c (C.int .i64 a.2.2.2.2.2)))]
theorem path_measure_path_ae {l : List Arg} {a : Int × Bool × Int × LL × LL × Int} (h : path_measure_path_a l = some a) : l = path_measure_path_e a := by
  unfold path_measure_path_a at h
  split at h
  · cases h; rfl
  · cases h
noncomputable def path_measure_path_d : Res → Option (Int × Bool)
  | ⟨.tup [], [[.d (.int .i64 y0), .d (.bool y1)]]⟩ => some (y0, y1)
  | _ => none
noncomputable def path_measure_path_r (r : Int × Bool) : Res := ⟨.tup [], [[.d (.int .i64 r.1), .d (.bool r.2)]]⟩
theorem path_measure_path_dr {R : Res} {r : Int × Bool} (h : path_measure_path_d R = some r) : R = path_measure_path_r r := by
  unfold path_measure_path_d at h
  split at h
  · cases h; rfl
  · cases h
noncomputable def path_measure_path_o (L : Lv) {Ω : Type} (f : FuncId) (l : List Arg) (K : Res → Option Ω) (next : Option Ω) : Option Ω := rowO 33 path_measure_path_a (fun a => L.path_measure_path a.1 a.2.1 a.2.2.1 a.2.2.2.1 a.2.2.2.2.1 a.2.2.2.2.2) path_measure_path_r f l K next
noncomputable def path_measure_part_a : List Arg → Option (Int × Bool × Int)
  | [.ref 46 [.d (.int .i64 x0_0), .d (.bool x0_1)] 0, .v (.one (.c (.int .i64 x1)))] => some (x0_0, x0_1, x1)
  | _ => none
noncomputable def path_measure_part_e (a : Int × Bool × Int) : List Arg := [.ref 46 [.d (C.int .i64 a.1), .d (C.bool a.2.1)] 0, .v (.one (.c (C.int .i64 a.2.2)))]
theorem path_measure_part_ae {l : List Arg} {a : Int × Bool × Int} (h : path_measure_part_a l = some a) : l = path_measure_part_e a := by
  unfold path_measure_part_a at h
  split at h
  · cases h; rfl
  · cases h
noncomputable def path_measure_part_d : Res → Option (Bool × Int × Bool)
  | ⟨.one (.d (.bool y0)), [[.d (.int .i64 y1), .d (.bool y2)]]⟩ => some (y0, y1, y2)
  | _ => none
noncomputable def path_measure_part_r (r : Bool × Int × Bool) : Res := ⟨.one (.d (.bool r.1)), [[.d (.int .i64 r.2.1), .d (.bool r.2.2)]]⟩
theorem path_measure_part_dr {R : Res} {r : Bool × Int × Bool} (h : path_measure_part_d R = some r) : R = path_measure_part_r r := by
  unfold path_measure_part_d at h
  split at h
  · cases h; rfl
  · cases h
noncomputable def path_measure_part_o (L : Lv) {Ω : Type} (f : FuncId) (l : List Arg) (K : Res → Option Ω) (next : Option Ω) : Option Ω := rowO 36 path_measure_part_a (fun a => L.path_measure_part a.1 a.2.1 a.2.2) path_measure_part_r f l K next
noncomputable def path_add_string_2_a : List Arg → Option (LL × ByteArray)
  | [.v (.one (.c (.row 9 x0))), .v (.one (.c (.str x1)))] => some (x0, x1)
  | _ => none
noncomputable def path_add_string_2_e (a : LL × ByteArray) : List Arg := [.v (.one (.c (C.row 9 a.1))), .v (.one (.c (C.str a.2)))]
theorem path_add_string_2_ae {l : List Arg} {a : LL × ByteArray} (h : path_add_string_2_a l = some a) : l = path_add_string_2_e a := by
  unfold path_add_string_2_a at h
  split at h
  · cases h; rfl
  · cases h
noncomputable def path_add_string_2_d : Res → Option LL
  | ⟨.one (.d (.row 9 y0)), []⟩ => some y0
  | _ => none
noncomputable def path_add_string_2_r (r : LL) : Res := ⟨.one (.d (.row 9 r)), []⟩
theorem path_add_string_2_dr {R : Res} {r : LL} (h : path_add_string_2_d R = some r) : R = path_add_string_2_r r := by
  unfold path_add_string_2_d at h
  split at h
  · cases h; rfl
  · cases h
noncomputable def path_add_string_2_o (L : Lv) {Ω : Type} (f : FuncId) (l : List Arg) (K : Res → Option Ω) (next : Option Ω) : Option Ω := rowO 42 path_add_string_2_a (fun a => L.path_add_string_2 a.1 a.2) path_add_string_2_r f l K next
noncomputable def path_measure_filter_a : List Arg → Option (Int × Bool × Int × ByteArray × ByteArray × ByteArray × LL × LL × Int)
  | [.ref 46 [.d (.int .i64 x0_0), .d (.bool x0_1)] 0, .v (.agg [.c (.int .i64 x1_0), .c (.str x1_1), .c (.str x1_2), .c (.str x1_3), .c (.row 52 x1_4), .c (.row 25 x1_5)]), .v (.one (.c (.int .i64 x2)))] => some (x0_0, x0_1, x1_0, x1_1, x1_2, x1_3, x1_4, x1_5, x2)
  | _ => none
noncomputable def path_measure_filter_e (a : Int × Bool × Int × ByteArray × ByteArray × ByteArray × LL × LL × Int) : List Arg := [.ref 46 [.d (C.int .i64 a.1), .d (C.bool a.2.1)] 0, .v (.agg [.c (C.int .i64 a.2.2.1), .c (C.str a.2.2.2.1), .c (C.str a.2.2.2.2.1), .c (C.str a.2.2.2.2.2.1), .c (C.row 52 a.2.2.2.2.2.2.1), .c (C.row 25 a.2.2.2.2.2.2.2.1)]), .v (.one (.c (C.int .i64 a.2.2.2.2.2.2.2.2)))]
theorem path_measure_filter_ae {l : List Arg} {a : Int × Bool × Int × ByteArray × ByteArray × ByteArray × LL × LL × Int} (h : path_measure_filter_a l = some a) : l = path_measure_filter_e a := by
  unfold path_measure_filter_a at h
  split at h
  · cases h; rfl
  · cases h
noncomputable def path_measure_filter_d : Res → Option (Int × Bool)
  | ⟨.tup [], [[.d (.int .i64 y0), .d (.bool y1)]]⟩ => some (y0, y1)
  | _ => none
noncomputable def path_measure_filter_r (r : Int × Bool) : Res := ⟨.tup [], [[.d (.int .i64 r.1), .d (.bool r.2)]]⟩
theorem path_measure_filter_dr {R : Res} {r : Int × Bool} (h : path_measure_filter_d R = some r) : R = path_measure_filter_r r := by
  unfold path_measure_filter_d at h
  split at h
  · cases h; rfl
  · cases h
noncomputable def path_measure_filter_o (L : Lv) {Ω : Type} (f : FuncId) (l : List Arg) (K : Res → Option Ω) (next : Option Ω) : Option Ω := rowO 37 path_measure_filter_a (fun a => L.path_measure_filter a.1 a.2.1 a.2.2.1 a.2.2.2.1 a.2.2.2.2.1 a.2.2.2.2.2.1 a.2.2.2.2.2.2.1 a.2.2.2.2.2.2.2.1 a.2.2.2.2.2.2.2.2) path_measure_filter_r f l K next
noncomputable def path_shape_a : List Arg → Option (Int × ByteArray × ByteArray × ByteArray × LL × LL)
  | [.v (.agg [.c (.int .i64 x0_0), .c (.str x0_1), .c (.str x0_2), .c (.str x0_3), .c (.row 52 x0_4), .c (.row 25 x0_5)])] => some (x0_0, x0_1, x0_2, x0_3, x0_4, x0_5)
  | _ => none
noncomputable def path_shape_e (a : Int × ByteArray × ByteArray × ByteArray × LL × LL) : List Arg := [.v (.agg [.c (C.int .i64 a.1), .c (C.str a.2.1), .c (C.str a.2.2.1), .c (C.str a.2.2.2.1), .c (C.row 52 a.2.2.2.2.1), .c (C.row 25 a.2.2.2.2.2)])]
theorem path_shape_ae {l : List Arg} {a : Int × ByteArray × ByteArray × ByteArray × LL × LL} (h : path_shape_a l = some a) : l = path_shape_e a := by
  unfold path_shape_a at h
  split at h
  · cases h; rfl
  · cases h
noncomputable def path_shape_d : Res → Option Bool
  | ⟨.one (.d (.bool y0)), []⟩ => some y0
  | _ => none
noncomputable def path_shape_r (r : Bool) : Res := ⟨.one (.d (.bool r)), []⟩
theorem path_shape_dr {R : Res} {r : Bool} (h : path_shape_d R = some r) : R = path_shape_r r := by
  unfold path_shape_d at h
  split at h
  · cases h; rfl
  · cases h
noncomputable def path_shape_o (L : Lv) {Ω : Type} (f : FuncId) (l : List Arg) (K : Res → Option Ω) (next : Option Ω) : Option Ω := rowO 43 path_shape_a (fun a => L.path_shape a.1 a.2.1 a.2.2.1 a.2.2.2.1 a.2.2.2.2.1 a.2.2.2.2.2) path_shape_r f l K next
noncomputable def path_named_a : List Arg → Option (ByteArray × ByteArray)
  | [.v (.agg [.c (.str x0_0), .c (.str x0_1)])] => some (x0_0, x0_1)
  | _ => none
noncomputable def path_named_e (a : ByteArray × ByteArray) : List Arg := [.v (.agg [.c (C.str a.1), .c (C.str a.2)])]
theorem path_named_ae {l : List Arg} {a : ByteArray × ByteArray} (h : path_named_a l = some a) : l = path_named_e a := by
  unfold path_named_a at h
  split at h
  · cases h; rfl
  · cases h
noncomputable def path_named_d : Res → Option Bool
  | ⟨.one (.d (.bool y0)), []⟩ => some y0
  | _ => none
noncomputable def path_named_r (r : Bool) : Res := ⟨.one (.d (.bool r)), []⟩
theorem path_named_dr {R : Res} {r : Bool} (h : path_named_d R = some r) : R = path_named_r r := by
  unfold path_named_d at h
  split at h
  · cases h; rfl
  · cases h
noncomputable def path_named_o (L : Lv) {Ω : Type} (f : FuncId) (l : List Arg) (K : Res → Option Ω) (next : Option Ω) : Option Ω := rowO 51 path_named_a (fun a => L.path_named a.1 a.2) path_named_r f l K next
noncomputable def path_value_a : List Arg → Option ByteArray
  | [.v (.one (.c (.str x0)))] => some x0
  | _ => none
noncomputable def path_value_e (a : ByteArray) : List Arg := [.v (.one (.c (C.str a)))]
theorem path_value_ae {l : List Arg} {a : ByteArray} (h : path_value_a l = some a) : l = path_value_e a := by
  unfold path_value_a at h
  split at h
  · cases h; rfl
  · cases h
noncomputable def path_value_d : Res → Option Bool
  | ⟨.one (.d (.bool y0)), []⟩ => some y0
  | _ => none
noncomputable def path_value_r (r : Bool) : Res := ⟨.one (.d (.bool r)), []⟩
theorem path_value_dr {R : Res} {r : Bool} (h : path_value_d R = some r) : R = path_value_r r := by
  unfold path_value_d at h
  split at h
  · cases h; rfl
  · cases h
noncomputable def path_value_o (L : Lv) {Ω : Type} (f : FuncId) (l : List Arg) (K : Res → Option Ω) (next : Option Ω) : Option Ω := rowO 52 path_value_a (fun a => L.path_value a) path_value_r f l K next
noncomputable def name_Plain_a : List Arg → Option ByteArray
  | [.v (.one (.c (.str x0)))] => some x0
  | _ => none
noncomputable def name_Plain_e (a : ByteArray) : List Arg := [.v (.one (.c (C.str a)))]
theorem name_Plain_ae {l : List Arg} {a : ByteArray} (h : name_Plain_a l = some a) : l = name_Plain_e a := by
  unfold name_Plain_a at h
  split at h
  · cases h; rfl
  · cases h
noncomputable def name_Plain_d : Res → Option Bool
  | ⟨.one (.d (.bool y0)), []⟩ => some y0
  | _ => none
noncomputable def name_Plain_r (r : Bool) : Res := ⟨.one (.d (.bool r)), []⟩
theorem name_Plain_dr {R : Res} {r : Bool} (h : name_Plain_d R = some r) : R = name_Plain_r r := by
  unfold name_Plain_d at h
  split at h
  · cases h; rfl
  · cases h
noncomputable def name_Plain_o (L : Lv) {Ω : Type} (f : FuncId) (l : List Arg) (K : Res → Option Ω) (next : Option Ω) : Option Ω := rowO 58 name_Plain_a (fun a => L.name_Plain a) name_Plain_r f l K next
noncomputable def utf_All_a : List Arg → Option ByteArray
  | [.v (.one (.c (.str x0)))] => some x0
  | _ => none
noncomputable def utf_All_e (a : ByteArray) : List Arg := [.v (.one (.c (C.str a)))]
theorem utf_All_ae {l : List Arg} {a : ByteArray} (h : utf_All_a l = some a) : l = utf_All_e a := by
  unfold utf_All_a at h
  split at h
  · cases h; rfl
  · cases h
noncomputable def utf_All_d : Res → Option (LL × Int × Int)
  | ⟨.tup [.one (.own 21 y0), .one (.d (.int .i64 y1)), .one (.d (.int .i64 y2))], []⟩ => some (y0, y1, y2)
  | _ => none
noncomputable def utf_All_r (r : LL × Int × Int) : Res := ⟨.tup [.one (.own 21 r.1), .one (.d (.int .i64 r.2.1)), .one (.d (.int .i64 r.2.2))], []⟩
theorem utf_All_dr {R : Res} {r : LL × Int × Int} (h : utf_All_d R = some r) : R = utf_All_r r := by
  unfold utf_All_d at h
  split at h
  · cases h; rfl
  · cases h
noncomputable def utf_All_o (L : Lv) {Ω : Type} (f : FuncId) (l : List Arg) (K : Res → Option Ω) (next : Option Ω) : Option Ω := rowO 60 utf_All_a (fun a => L.utf_All a) utf_All_r f l K next
noncomputable def char_Start_a : List Arg → Option Int
  | [.v (.one (.c (.int .i32 x0)))] => some x0
  | _ => none
noncomputable def char_Start_e (a : Int) : List Arg := [.v (.one (.c (C.int .i32 a)))]
theorem char_Start_ae {l : List Arg} {a : Int} (h : char_Start_a l = some a) : l = char_Start_e a := by
  unfold char_Start_a at h
  split at h
  · cases h; rfl
  · cases h
noncomputable def char_Start_d : Res → Option Bool
  | ⟨.one (.d (.bool y0)), []⟩ => some y0
  | _ => none
noncomputable def char_Start_r (r : Bool) : Res := ⟨.one (.d (.bool r)), []⟩
theorem char_Start_dr {R : Res} {r : Bool} (h : char_Start_d R = some r) : R = char_Start_r r := by
  unfold char_Start_d at h
  split at h
  · cases h; rfl
  · cases h
noncomputable def char_Start_o (L : Lv) {Ω : Type} (f : FuncId) (l : List Arg) (K : Res → Option Ω) (next : Option Ω) : Option Ω := rowO 67 char_Start_a (fun a => L.char_Start a) char_Start_r f l K next
noncomputable def utf_Rune_a : List Arg → Option (ByteArray × Int)
  | [.v (.one (.c (.str x0))), .v (.one (.c (.int .i64 x1)))] => some (x0, x1)
  | _ => none
noncomputable def utf_Rune_e (a : ByteArray × Int) : List Arg := [.v (.one (.c (C.str a.1))), .v (.one (.c (C.int .i64 a.2)))]
theorem utf_Rune_ae {l : List Arg} {a : ByteArray × Int} (h : utf_Rune_a l = some a) : l = utf_Rune_e a := by
  unfold utf_Rune_a at h
  split at h
  · cases h; rfl
  · cases h
noncomputable def utf_Rune_d : Res → Option (Int × Int × Int)
  | ⟨.tup [.one (.d (.int .i32 y0)), .one (.d (.int .i64 y1)), .one (.d (.int .i64 y2))], []⟩ => some (y0, y1, y2)
  | _ => none
noncomputable def utf_Rune_r (r : Int × Int × Int) : Res := ⟨.tup [.one (.d (.int .i32 r.1)), .one (.d (.int .i64 r.2.1)), .one (.d (.int .i64 r.2.2))], []⟩
theorem utf_Rune_dr {R : Res} {r : Int × Int × Int} (h : utf_Rune_d R = some r) : R = utf_Rune_r r := by
  unfold utf_Rune_d at h
  split at h
  · cases h; rfl
  · cases h
noncomputable def utf_Rune_o (L : Lv) {Ω : Type} (f : FuncId) (l : List Arg) (K : Res → Option Ω) (next : Option Ω) : Option Ω := rowO 70 utf_Rune_a (fun a => L.utf_Rune a.1 a.2) utf_Rune_r f l K next
noncomputable def char_in_a : List Arg → Option (Int × LL)
  | [.v (.one (.c (.int .i32 x0))), .v (.one (.c (.row 99 x1)))] => some (x0, x1)
  | _ => none
noncomputable def char_in_e (a : Int × LL) : List Arg := [.v (.one (.c (C.int .i32 a.1))), .v (.one (.c (C.row 99 a.2)))]
theorem char_in_ae {l : List Arg} {a : Int × LL} (h : char_in_a l = some a) : l = char_in_e a := by
  unfold char_in_a at h
  split at h
  · cases h; rfl
  · cases h
noncomputable def char_in_d : Res → Option Bool
  | ⟨.one (.d (.bool y0)), []⟩ => some y0
  | _ => none
noncomputable def char_in_r (r : Bool) : Res := ⟨.one (.d (.bool r)), []⟩
theorem char_in_dr {R : Res} {r : Bool} (h : char_in_d R = some r) : R = char_in_r r := by
  unfold char_in_d at h
  split at h
  · cases h; rfl
  · cases h
noncomputable def char_in_o (L : Lv) {Ω : Type} (f : FuncId) (l : List Arg) (K : Res → Option Ω) (next : Option Ω) : Option Ω := rowO 72 char_in_a (fun a => L.char_in a.1 a.2) char_in_r f l K next
noncomputable def utf_forms_a : List Arg → Option Unit
  | [] => some ()
  | _ => none
noncomputable def utf_forms_e (a : Unit) : List Arg := []
theorem utf_forms_ae {l : List Arg} {a : Unit} (h : utf_forms_a l = some a) : l = utf_forms_e a := by
  unfold utf_forms_a at h
  split at h
  · cases h; rfl
  · cases h
noncomputable def utf_forms_d : Res → Option (Int × Int × Int × Int × Int × Int × Int × Int × Int × Int × Int × Int)
  | ⟨.agg [.d (.int .u8 y0), .d (.int .u8 y1), .d (.int .i32 y2), .d (.int .u8 y3), .d (.int .u8 y4), .d (.int .i32 y5), .d (.int .u8 y6), .d (.int .u8 y7), .d (.int .i32 y8), .d (.int .u8 y9), .d (.int .u8 y10), .d (.int .i32 y11)], []⟩ => some (y0, y1, y2, y3, y4, y5, y6, y7, y8, y9, y10, y11)
  | _ => none
noncomputable def utf_forms_r (r : Int × Int × Int × Int × Int × Int × Int × Int × Int × Int × Int × Int) : Res := ⟨.agg [.d (.int .u8 r.1), .d (.int .u8 r.2.1), .d (.int .i32 r.2.2.1), .d (.int .u8 r.2.2.2.1), .d (.int .u8 r.2.2.2.2.1), .d (.int .i32 r.2.2.2.2.2.1), .d (.int .u8 r.2.2.2.2.2.2.1), .d (.int .u8 r.2.2.2.2.2.2.2.1), .d (.int .i32 r.2.2.2.2.2.2.2.2.1), .d (.int .u8 r.2.2.2.2.2.2.2.2.2.1), .d (.int .u8 r.2.2.2.2.2.2.2.2.2.2.1), .d (.int .i32 r.2.2.2.2.2.2.2.2.2.2.2)], []⟩
theorem utf_forms_dr {R : Res} {r : Int × Int × Int × Int × Int × Int × Int × Int × Int × Int × Int × Int} (h : utf_forms_d R = some r) : R = utf_forms_r r := by
  unfold utf_forms_d at h
  split at h
  · cases h; rfl
  · cases h
noncomputable def utf_forms_o (L : Lv) {Ω : Type} (f : FuncId) (l : List Arg) (K : Res → Option Ω) (next : Option Ω) : Option Ω := rowO 77 utf_forms_a (fun a => L.utf_forms) utf_forms_r f l K next
noncomputable def char_All_a : List Arg → Option ByteArray
  | [.v (.one (.c (.str x0))), .v (.one (.c (.row 87 [[C.fn (some 62)]])))] => some x0
  | _ => none
noncomputable def char_All_e (a : ByteArray) : List Arg := [.v (.one (.c (C.str a))), .v (.one (.c (C.row 87 [[C.fn (some 62)]])))]
theorem char_All_ae {l : List Arg} {a : ByteArray} (h : char_All_a l = some a) : l = char_All_e a := by
  unfold char_All_a at h
  split at h
  · cases h; rfl
  · cases h
noncomputable def char_All_d : Res → Option Bool
  | ⟨.one (.d (.bool y0)), []⟩ => some y0
  | _ => none
noncomputable def char_All_r (r : Bool) : Res := ⟨.one (.d (.bool r)), []⟩
theorem char_All_dr {R : Res} {r : Bool} (h : char_All_d R = some r) : R = char_All_r r := by
  unfold char_All_d at h
  split at h
  · cases h; rfl
  · cases h
noncomputable def char_All_o (L : Lv) {Ω : Type} (f : FuncId) (l : List Arg) (K : Res → Option Ω) (next : Option Ω) : Option Ω := rowO 61 char_All_a (fun a => L.char_All a) char_All_r f l K next
noncomputable def utf_span_a : List Arg → Option (Int × Int)
  | [.v (.one (.c (.int .i32 x0))), .v (.one (.c (.int .i64 x1)))] => some (x0, x1)
  | _ => none
noncomputable def utf_span_e (a : Int × Int) : List Arg := [.v (.one (.c (C.int .i32 a.1))), .v (.one (.c (C.int .i64 a.2)))]
theorem utf_span_ae {l : List Arg} {a : Int × Int} (h : utf_span_a l = some a) : l = utf_span_e a := by
  unfold utf_span_a at h
  split at h
  · cases h; rfl
  · cases h
noncomputable def utf_span_d : Res → Option (Int × Int)
  | ⟨.tup [.one (.d (.int .i32 y0)), .one (.d (.int .i32 y1))], []⟩ => some (y0, y1)
  | _ => none
noncomputable def utf_span_r (r : Int × Int) : Res := ⟨.tup [.one (.d (.int .i32 r.1)), .one (.d (.int .i32 r.2))], []⟩
theorem utf_span_dr {R : Res} {r : Int × Int} (h : utf_span_d R = some r) : R = utf_span_r r := by
  unfold utf_span_d at h
  split at h
  · cases h; rfl
  · cases h
noncomputable def utf_span_o (L : Lv) {Ω : Type} (f : FuncId) (l : List Arg) (K : Res → Option Ω) (next : Option Ω) : Option Ω := rowO 78 utf_span_a (fun a => L.utf_span a.1 a.2) utf_span_r f l K next
noncomputable def char_Char_a : List Arg → Option Int
  | [.v (.one (.c (.int .i32 x0)))] => some x0
  | _ => none
noncomputable def char_Char_e (a : Int) : List Arg := [.v (.one (.c (C.int .i32 a)))]
theorem char_Char_ae {l : List Arg} {a : Int} (h : char_Char_a l = some a) : l = char_Char_e a := by
  unfold char_Char_a at h
  split at h
  · cases h; rfl
  · cases h
noncomputable def char_Char_d : Res → Option Bool
  | ⟨.one (.d (.bool y0)), []⟩ => some y0
  | _ => none
noncomputable def char_Char_r (r : Bool) : Res := ⟨.one (.d (.bool r)), []⟩
theorem char_Char_dr {R : Res} {r : Bool} (h : char_Char_d R = some r) : R = char_Char_r r := by
  unfold char_Char_d at h
  split at h
  · cases h; rfl
  · cases h
noncomputable def char_Char_o (L : Lv) {Ω : Type} (f : FuncId) (l : List Arg) (K : Res → Option Ω) (next : Option Ω) : Option Ω := rowO 62 char_Char_a (fun a => L.char_Char a) char_Char_r f l K next
noncomputable def char_Blank_a : List Arg → Option Int
  | [.v (.one (.c (.int .i32 x0)))] => some x0
  | _ => none
noncomputable def char_Blank_e (a : Int) : List Arg := [.v (.one (.c (C.int .i32 a)))]
theorem char_Blank_ae {l : List Arg} {a : Int} (h : char_Blank_a l = some a) : l = char_Blank_e a := by
  unfold char_Blank_a at h
  split at h
  · cases h; rfl
  · cases h
noncomputable def char_Blank_d : Res → Option Bool
  | ⟨.one (.d (.bool y0)), []⟩ => some y0
  | _ => none
noncomputable def char_Blank_r (r : Bool) : Res := ⟨.one (.d (.bool r)), []⟩
theorem char_Blank_dr {R : Res} {r : Bool} (h : char_Blank_d R = some r) : R = char_Blank_r r := by
  unfold char_Blank_d at h
  split at h
  · cases h; rfl
  · cases h
noncomputable def char_Blank_o (L : Lv) {Ω : Type} (f : FuncId) (l : List Arg) (K : Res → Option Ω) (next : Option Ω) : Option Ω := rowO 71 char_Blank_a (fun a => L.char_Blank a) char_Blank_r f l K next
noncomputable def strings_ContainsAny_a : List Arg → Option (ByteArray × ByteArray)
  | [.v (.one (.c (.str x0))), .v (.one (.c (.str x1)))] => some (x0, x1)
  | _ => none
noncomputable def strings_ContainsAny_e (a : ByteArray × ByteArray) : List Arg := [.v (.one (.c (C.str a.1))), .v (.one (.c (C.str a.2)))]
theorem strings_ContainsAny_ae {l : List Arg} {a : ByteArray × ByteArray} (h : strings_ContainsAny_a l = some a) : l = strings_ContainsAny_e a := by
  unfold strings_ContainsAny_a at h
  split at h
  · cases h; rfl
  · cases h
noncomputable def strings_ContainsAny_d : Res → Option Bool
  | ⟨.one (.d (.bool y0)), []⟩ => some y0
  | _ => none
noncomputable def strings_ContainsAny_r (r : Bool) : Res := ⟨.one (.d (.bool r)), []⟩
theorem strings_ContainsAny_dr {R : Res} {r : Bool} (h : strings_ContainsAny_d R = some r) : R = strings_ContainsAny_r r := by
  unfold strings_ContainsAny_d at h
  split at h
  · cases h; rfl
  · cases h
noncomputable def strings_ContainsAny_o (L : Lv) {Ω : Type} (f : FuncId) (l : List Arg) (K : Res → Option Ω) (next : Option Ω) : Option Ω := rowO 59 strings_ContainsAny_a (fun a => anyV a.1 a.2) strings_ContainsAny_r f l K next
noncomputable def char_Part_a : List Arg → Option Int
  | [.v (.one (.c (.int .i32 x0)))] => some x0
  | _ => none
noncomputable def char_Part_e (a : Int) : List Arg := [.v (.one (.c (C.int .i32 a)))]
theorem char_Part_ae {l : List Arg} {a : Int} (h : char_Part_a l = some a) : l = char_Part_e a := by
  unfold char_Part_a at h
  split at h
  · cases h; rfl
  · cases h
noncomputable def char_Part_d : Res → Option Bool
  | ⟨.one (.d (.bool y0)), []⟩ => some y0
  | _ => none
noncomputable def char_Part_r (r : Bool) : Res := ⟨.one (.d (.bool r)), []⟩
theorem char_Part_dr {R : Res} {r : Bool} (h : char_Part_d R = some r) : R = char_Part_r r := by
  unfold char_Part_d at h
  split at h
  · cases h; rfl
  · cases h
noncomputable def char_Part_o (L : Lv) {Ω : Type} (f : FuncId) (l : List Arg) (K : Res → Option Ω) (next : Option Ω) : Option Ω := rowO 68 char_Part_a (fun a => L.char_Part a) char_Part_r f l K next
noncomputable def path_Size_a : List Arg → Option (Int × LL × LL)
  | [.v (.agg [.c (.int .i64 x0_0), .c (.row 25 x0_1), .c (.row 52 x0_2)])] => some (x0_0, x0_1, x0_2)
  | _ => none
noncomputable def path_Size_e (a : Int × LL × LL) : List Arg := [.v (.agg [.c (C.int .i64 a.1), .c (C.row 25 a.2.1), .c (C.row 52 a.2.2)])]
theorem path_Size_ae {l : List Arg} {a : Int × LL × LL} (h : path_Size_a l = some a) : l = path_Size_e a := by
  unfold path_Size_a at h
  split at h
  · cases h; rfl
  · cases h
noncomputable def path_Size_d : Res → Option Int
  | ⟨.one (.d (.int .i64 y0)), []⟩ => some y0
  | _ => none
noncomputable def path_Size_r (r : Int) : Res := ⟨.one (.d (.int .i64 r)), []⟩
theorem path_Size_dr {R : Res} {r : Int} (h : path_Size_d R = some r) : R = path_Size_r r := by
  unfold path_Size_d at h
  split at h
  · cases h; rfl
  · cases h
noncomputable def path_Size_o (L : Lv) {Ω : Type} (f : FuncId) (l : List Arg) (K : Res → Option Ω) (next : Option Ω) : Option Ω := rowO 13 path_Size_a (fun a => L.path_Size a.1 a.2.1 a.2.2) path_Size_r f l K next
noncomputable def orielref12_Size_a : List Arg → Option (Int × LL × LL)
  | [.v (.agg [.c (.int .i64 x0_0), .c (.row 25 x0_1), .c (.row 52 x0_2)])] => some (x0_0, x0_1, x0_2)
  | _ => none
noncomputable def orielref12_Size_e (a : Int × LL × LL) : List Arg := [.v (.agg [.c (C.int .i64 a.1), .c (C.row 25 a.2.1), .c (C.row 52 a.2.2)])]
theorem orielref12_Size_ae {l : List Arg} {a : Int × LL × LL} (h : orielref12_Size_a l = some a) : l = orielref12_Size_e a := by
  unfold orielref12_Size_a at h
  split at h
  · cases h; rfl
  · cases h
noncomputable def orielref12_Size_d : Res → Option Int
  | ⟨.one (.d (.int .i64 y0)), []⟩ => some y0
  | _ => none
noncomputable def orielref12_Size_r (r : Int) : Res := ⟨.one (.d (.int .i64 r)), []⟩
theorem orielref12_Size_dr {R : Res} {r : Int} (h : orielref12_Size_d R = some r) : R = orielref12_Size_r r := by
  unfold orielref12_Size_d at h
  split at h
  · cases h; rfl
  · cases h
noncomputable def orielref12_Size_o (L : Lv) {Ω : Type} (f : FuncId) (l : List Arg) (K : Res → Option Ω) (next : Option Ω) : Option Ω := rowO 8 orielref12_Size_a (fun a => L.orielref12_Size a.1 a.2.1 a.2.2) orielref12_Size_r f l K next
noncomputable def path_Same_a : List Arg → Option (Int × LL × LL × Int × LL × LL)
  | [.v (.agg [.c (.int .i64 x0_0), .c (.row 25 x0_1), .c (.row 52 x0_2)]), .v (.agg [.c (.int .i64 x1_0), .c (.row 25 x1_1), .c (.row 52 x1_2)])] => some (x0_0, x0_1, x0_2, x1_0, x1_1, x1_2)
  | _ => none
noncomputable def path_Same_e (a : Int × LL × LL × Int × LL × LL) : List Arg := [.v (.agg [.c (C.int .i64 a.1), .c (C.row 25 a.2.1), .c (C.row 52 a.2.2.1)]), .v (.agg [.c (C.int .i64 a.2.2.2.1), .c (C.row 25 a.2.2.2.2.1), .c (C.row 52 a.2.2.2.2.2)])]
theorem path_Same_ae {l : List Arg} {a : Int × LL × LL × Int × LL × LL} (h : path_Same_a l = some a) : l = path_Same_e a := by
  unfold path_Same_a at h
  split at h
  · cases h; rfl
  · cases h
noncomputable def path_Same_d : Res → Option Bool
  | ⟨.one (.d (.bool y0)), []⟩ => some y0
  | _ => none
noncomputable def path_Same_r (r : Bool) : Res := ⟨.one (.d (.bool r)), []⟩
theorem path_Same_dr {R : Res} {r : Bool} (h : path_Same_d R = some r) : R = path_Same_r r := by
  unfold path_Same_d at h
  split at h
  · cases h; rfl
  · cases h
noncomputable def path_Same_o (L : Lv) {Ω : Type} (f : FuncId) (l : List Arg) (K : Res → Option Ω) (next : Option Ω) : Option Ω := rowO 11 path_Same_a (fun a => L.path_Same a.1 a.2.1 a.2.2.1 a.2.2.2.1 a.2.2.2.2.1 a.2.2.2.2.2) path_Same_r f l K next
noncomputable def orielref12_size_a : List Arg → Option (Int × LL × LL × Int)
  | [.v (.agg [.c (.int .i64 x0_0), .c (.row 25 x0_1), .c (.row 52 x0_2)]), .v (.one (.c (.int .i64 x1)))] => some (x0_0, x0_1, x0_2, x1)
  | _ => none
noncomputable def orielref12_size_e (a : Int × LL × LL × Int) : List Arg := [.v (.agg [.c (C.int .i64 a.1), .c (C.row 25 a.2.1), .c (C.row 52 a.2.2.1)]), .v (.one (.c (C.int .i64 a.2.2.2)))]
theorem orielref12_size_ae {l : List Arg} {a : Int × LL × LL × Int} (h : orielref12_size_a l = some a) : l = orielref12_size_e a := by
  unfold orielref12_size_a at h
  split at h
  · cases h; rfl
  · cases h
noncomputable def orielref12_size_d : Res → Option Int
  | ⟨.one (.d (.int .i64 y0)), []⟩ => some y0
  | _ => none
noncomputable def orielref12_size_r (r : Int) : Res := ⟨.one (.d (.int .i64 r)), []⟩
theorem orielref12_size_dr {R : Res} {r : Int} (h : orielref12_size_d R = some r) : R = orielref12_size_r r := by
  unfold orielref12_size_d at h
  split at h
  · cases h; rfl
  · cases h
noncomputable def orielref12_size_o (L : Lv) {Ω : Type} (f : FuncId) (l : List Arg) (K : Res → Option Ω) (next : Option Ω) : Option Ω := rowO 21 orielref12_size_a (fun a => L.orielref12_size a.1 a.2.1 a.2.2.1 a.2.2.2) orielref12_size_r f l K next
noncomputable def api_Path_a : List Arg → Option (LL × LL)
  | [.v (.one (.c (.row 25 x0))), .v (.one (.c (.row 25 x1))), .fn 11] => some (x0, x1)
  | _ => none
noncomputable def api_Path_e (a : LL × LL) : List Arg := [.v (.one (.c (C.row 25 a.1))), .v (.one (.c (C.row 25 a.2))), .fn 11]
theorem api_Path_ae {l : List Arg} {a : LL × LL} (h : api_Path_a l = some a) : l = api_Path_e a := by
  unfold api_Path_a at h
  split at h
  · cases h; rfl
  · cases h
noncomputable def api_Path_d : Res → Option Bool
  | ⟨.one (.d (.bool y0)), []⟩ => some y0
  | _ => none
noncomputable def api_Path_r (r : Bool) : Res := ⟨.one (.d (.bool r)), []⟩
theorem api_Path_dr {R : Res} {r : Bool} (h : api_Path_d R = some r) : R = api_Path_r r := by
  unfold api_Path_d at h
  split at h
  · cases h; rfl
  · cases h
noncomputable def api_Path_o (L : Lv) {Ω : Type} (f : FuncId) (l : List Arg) (K : Res → Option Ω) (next : Option Ω) : Option Ω := rowO 24 api_Path_a (fun a => L.api_Path a.1 a.2) api_Path_r f l K next
noncomputable def orielref12_sizeFilter_a : List Arg → Option (Int × ByteArray × ByteArray × ByteArray × LL × LL × Int)
  | [.v (.agg [.c (.int .i64 x0_0), .c (.str x0_1), .c (.str x0_2), .c (.str x0_3), .c (.row 52 x0_4), .c (.row 25 x0_5)]), .v (.one (.c (.int .i64 x1)))] => some (x0_0, x0_1, x0_2, x0_3, x0_4, x0_5, x1)
  | _ => none
noncomputable def orielref12_sizeFilter_e (a : Int × ByteArray × ByteArray × ByteArray × LL × LL × Int) : List Arg := [.v (.agg [.c (C.int .i64 a.1), .c (C.str a.2.1), .c (C.str a.2.2.1), .c (C.str a.2.2.2.1), .c (C.row 52 a.2.2.2.2.1), .c (C.row 25 a.2.2.2.2.2.1)]), .v (.one (.c (C.int .i64 a.2.2.2.2.2.2)))]
theorem orielref12_sizeFilter_ae {l : List Arg} {a : Int × ByteArray × ByteArray × ByteArray × LL × LL × Int} (h : orielref12_sizeFilter_a l = some a) : l = orielref12_sizeFilter_e a := by
  unfold orielref12_sizeFilter_a at h
  split at h
  · cases h; rfl
  · cases h
noncomputable def orielref12_sizeFilter_d : Res → Option Int
  | ⟨.one (.d (.int .i64 y0)), []⟩ => some y0
  | _ => none
noncomputable def orielref12_sizeFilter_r (r : Int) : Res := ⟨.one (.d (.int .i64 r)), []⟩
theorem orielref12_sizeFilter_dr {R : Res} {r : Int} (h : orielref12_sizeFilter_d R = some r) : R = orielref12_sizeFilter_r r := by
  unfold orielref12_sizeFilter_d at h
  split at h
  · cases h; rfl
  · cases h
noncomputable def orielref12_sizeFilter_o (L : Lv) {Ω : Type} (f : FuncId) (l : List Arg) (K : Res → Option Ω) (next : Option Ω) : Option Ω := rowO 32 orielref12_sizeFilter_a (fun a => L.orielref12_sizeFilter a.1 a.2.1 a.2.2.1 a.2.2.2.1 a.2.2.2.2.1 a.2.2.2.2.2.1 a.2.2.2.2.2.2) orielref12_sizeFilter_r f l K next
noncomputable def api_Filter_a : List Arg → Option (LL × LL)
  | [.v (.one (.c (.row 52 x0))), .v (.one (.c (.row 52 x1))), .fn 26] => some (x0, x1)
  | _ => none
noncomputable def api_Filter_e (a : LL × LL) : List Arg := [.v (.one (.c (C.row 52 a.1))), .v (.one (.c (C.row 52 a.2))), .fn 26]
theorem api_Filter_ae {l : List Arg} {a : LL × LL} (h : api_Filter_a l = some a) : l = api_Filter_e a := by
  unfold api_Filter_a at h
  split at h
  · cases h; rfl
  · cases h
noncomputable def api_Filter_d : Res → Option Bool
  | ⟨.one (.d (.bool y0)), []⟩ => some y0
  | _ => none
noncomputable def api_Filter_r (r : Bool) : Res := ⟨.one (.d (.bool r)), []⟩
theorem api_Filter_dr {R : Res} {r : Bool} (h : api_Filter_d R = some r) : R = api_Filter_r r := by
  unfold api_Filter_d at h
  split at h
  · cases h; rfl
  · cases h
noncomputable def api_Filter_o (L : Lv) {Ω : Type} (f : FuncId) (l : List Arg) (K : Res → Option Ω) (next : Option Ω) : Option Ω := rowO 25 api_Filter_a (fun a => L.api_Filter a.1 a.2) api_Filter_r f l K next
noncomputable def path_sameFilter_a : List Arg → Option (Int × ByteArray × ByteArray × ByteArray × LL × LL × Int × ByteArray × ByteArray × ByteArray × LL × LL)
  | [.v (.agg [.c (.int .i64 x0_0), .c (.str x0_1), .c (.str x0_2), .c (.str x0_3), .c (.row 52 x0_4), .c (.row 25 x0_5)]), .v (.agg [.c (.int .i64 x1_0), .c (.str x1_1), .c (.str x1_2), .c (.str x1_3), .c (.row 52 x1_4), .c (.row 25 x1_5)])] => some (x0_0, x0_1, x0_2, x0_3, x0_4, x0_5, x1_0, x1_1, x1_2, x1_3, x1_4, x1_5)
  | _ => none
noncomputable def path_sameFilter_e (a : Int × ByteArray × ByteArray × ByteArray × LL × LL × Int × ByteArray × ByteArray × ByteArray × LL × LL) : List Arg := [.v (.agg [.c (C.int .i64 a.1), .c (C.str a.2.1), .c (C.str a.2.2.1), .c (C.str a.2.2.2.1), .c (C.row 52 a.2.2.2.2.1), .c (C.row 25 a.2.2.2.2.2.1)]), .v (.agg [.c (C.int .i64 a.2.2.2.2.2.2.1), .c (C.str a.2.2.2.2.2.2.2.1), .c (C.str a.2.2.2.2.2.2.2.2.1), .c (C.str a.2.2.2.2.2.2.2.2.2.1), .c (C.row 52 a.2.2.2.2.2.2.2.2.2.2.1), .c (C.row 25 a.2.2.2.2.2.2.2.2.2.2.2)])]
theorem path_sameFilter_ae {l : List Arg} {a : Int × ByteArray × ByteArray × ByteArray × LL × LL × Int × ByteArray × ByteArray × ByteArray × LL × LL} (h : path_sameFilter_a l = some a) : l = path_sameFilter_e a := by
  unfold path_sameFilter_a at h
  split at h
  · cases h; rfl
  · cases h
noncomputable def path_sameFilter_d : Res → Option Bool
  | ⟨.one (.d (.bool y0)), []⟩ => some y0
  | _ => none
noncomputable def path_sameFilter_r (r : Bool) : Res := ⟨.one (.d (.bool r)), []⟩
theorem path_sameFilter_dr {R : Res} {r : Bool} (h : path_sameFilter_d R = some r) : R = path_sameFilter_r r := by
  unfold path_sameFilter_d at h
  split at h
  · cases h; rfl
  · cases h
noncomputable def path_sameFilter_o (L : Lv) {Ω : Type} (f : FuncId) (l : List Arg) (K : Res → Option Ω) (next : Option Ω) : Option Ω := rowO 26 path_sameFilter_a (fun a => L.path_sameFilter a.1 a.2.1 a.2.2.1 a.2.2.2.1 a.2.2.2.2.1 a.2.2.2.2.2.1 a.2.2.2.2.2.2.1 a.2.2.2.2.2.2.2.1 a.2.2.2.2.2.2.2.2.1 a.2.2.2.2.2.2.2.2.2.1 a.2.2.2.2.2.2.2.2.2.2.1 a.2.2.2.2.2.2.2.2.2.2.2) path_sameFilter_r f l K next
noncomputable def orielref12_Right_a : List Arg → Option (Int × LL × LL)
  | [.v (.agg [.c (.int .i64 x0_0), .c (.row 25 x0_1), .c (.row 52 x0_2)])] => some (x0_0, x0_1, x0_2)
  | _ => none
noncomputable def orielref12_Right_e (a : Int × LL × LL) : List Arg := [.v (.agg [.c (C.int .i64 a.1), .c (C.row 25 a.2.1), .c (C.row 52 a.2.2)])]
theorem orielref12_Right_ae {l : List Arg} {a : Int × LL × LL} (h : orielref12_Right_a l = some a) : l = orielref12_Right_e a := by
  unfold orielref12_Right_a at h
  split at h
  · cases h; rfl
  · cases h
noncomputable def orielref12_Right_d : Res → Option Bool
  | ⟨.one (.d (.bool y0)), []⟩ => some y0
  | _ => none
noncomputable def orielref12_Right_r (r : Bool) : Res := ⟨.one (.d (.bool r)), []⟩
theorem orielref12_Right_dr {R : Res} {r : Bool} (h : orielref12_Right_d R = some r) : R = orielref12_Right_r r := by
  unfold orielref12_Right_d at h
  split at h
  · cases h; rfl
  · cases h
noncomputable def orielref12_Right_o (L : Lv) {Ω : Type} (f : FuncId) (l : List Arg) (K : Res → Option Ω) (next : Option Ω) : Option Ω := rowO 10 orielref12_Right_a (fun a => L.orielref12_Right a.1 a.2.1 a.2.2) orielref12_Right_r f l K next
noncomputable def orielref12_path_a : List Arg → Option (Int × LL × LL × Int)
  | [.v (.agg [.c (.int .i64 x0_0), .c (.row 25 x0_1), .c (.row 52 x0_2)]), .v (.one (.c (.int .i64 x1)))] => some (x0_0, x0_1, x0_2, x1)
  | _ => none
noncomputable def orielref12_path_e (a : Int × LL × LL × Int) : List Arg := [.v (.agg [.c (C.int .i64 a.1), .c (C.row 25 a.2.1), .c (C.row 52 a.2.2.1)]), .v (.one (.c (C.int .i64 a.2.2.2)))]
theorem orielref12_path_ae {l : List Arg} {a : Int × LL × LL × Int} (h : orielref12_path_a l = some a) : l = orielref12_path_e a := by
  unfold orielref12_path_a at h
  split at h
  · cases h; rfl
  · cases h
noncomputable def orielref12_path_d : Res → Option Bool
  | ⟨.one (.d (.bool y0)), []⟩ => some y0
  | _ => none
noncomputable def orielref12_path_r (r : Bool) : Res := ⟨.one (.d (.bool r)), []⟩
theorem orielref12_path_dr {R : Res} {r : Bool} (h : orielref12_path_d R = some r) : R = orielref12_path_r r := by
  unfold orielref12_path_d at h
  split at h
  · cases h; rfl
  · cases h
noncomputable def orielref12_path_o (L : Lv) {Ω : Type} (f : FuncId) (l : List Arg) (K : Res → Option Ω) (next : Option Ω) : Option Ω := rowO 23 orielref12_path_a (fun a => L.orielref12_path a.1 a.2.1 a.2.2.1 a.2.2.2) orielref12_path_r f l K next
noncomputable def orielref12_filter_a : List Arg → Option (Int × ByteArray × ByteArray × ByteArray × LL × LL × Int)
  | [.v (.agg [.c (.int .i64 x0_0), .c (.str x0_1), .c (.str x0_2), .c (.str x0_3), .c (.row 52 x0_4), .c (.row 25 x0_5)]), .v (.one (.c (.int .i64 x1)))] => some (x0_0, x0_1, x0_2, x0_3, x0_4, x0_5, x1)
  | _ => none
noncomputable def orielref12_filter_e (a : Int × ByteArray × ByteArray × ByteArray × LL × LL × Int) : List Arg := [.v (.agg [.c (C.int .i64 a.1), .c (C.str a.2.1), .c (C.str a.2.2.1), .c (C.str a.2.2.2.1), .c (C.row 52 a.2.2.2.2.1), .c (C.row 25 a.2.2.2.2.2.1)]), .v (.one (.c (C.int .i64 a.2.2.2.2.2.2)))]
theorem orielref12_filter_ae {l : List Arg} {a : Int × ByteArray × ByteArray × ByteArray × LL × LL × Int} (h : orielref12_filter_a l = some a) : l = orielref12_filter_e a := by
  unfold orielref12_filter_a at h
  split at h
  · cases h; rfl
  · cases h
noncomputable def orielref12_filter_d : Res → Option Bool
  | ⟨.one (.d (.bool y0)), []⟩ => some y0
  | _ => none
noncomputable def orielref12_filter_r (r : Bool) : Res := ⟨.one (.d (.bool r)), []⟩
theorem orielref12_filter_dr {R : Res} {r : Bool} (h : orielref12_filter_d R = some r) : R = orielref12_filter_r r := by
  unfold orielref12_filter_d at h
  split at h
  · cases h; rfl
  · cases h
noncomputable def orielref12_filter_o (L : Lv) {Ω : Type} (f : FuncId) (l : List Arg) (K : Res → Option Ω) (next : Option Ω) : Option Ω := rowO 34 orielref12_filter_a (fun a => L.orielref12_filter a.1 a.2.1 a.2.2.1 a.2.2.2.1 a.2.2.2.2.1 a.2.2.2.2.2.1 a.2.2.2.2.2.2) orielref12_filter_r f l K next
noncomputable def orielref12_named_a : List Arg → Option (ByteArray × ByteArray)
  | [.v (.agg [.c (.str x0_0), .c (.str x0_1)])] => some (x0_0, x0_1)
  | _ => none
noncomputable def orielref12_named_e (a : ByteArray × ByteArray) : List Arg := [.v (.agg [.c (C.str a.1), .c (C.str a.2)])]
theorem orielref12_named_ae {l : List Arg} {a : ByteArray × ByteArray} (h : orielref12_named_a l = some a) : l = orielref12_named_e a := by
  unfold orielref12_named_a at h
  split at h
  · cases h; rfl
  · cases h
noncomputable def orielref12_named_d : Res → Option Bool
  | ⟨.one (.d (.bool y0)), []⟩ => some y0
  | _ => none
noncomputable def orielref12_named_r (r : Bool) : Res := ⟨.one (.d (.bool r)), []⟩
theorem orielref12_named_dr {R : Res} {r : Bool} (h : orielref12_named_d R = some r) : R = orielref12_named_r r := by
  unfold orielref12_named_d at h
  split at h
  · cases h; rfl
  · cases h
noncomputable def orielref12_named_o (L : Lv) {Ω : Type} (f : FuncId) (l : List Arg) (K : Res → Option Ω) (next : Option Ω) : Option Ω := rowO 38 orielref12_named_a (fun a => L.orielref12_named a.1 a.2) orielref12_named_r f l K next
noncomputable def orielref04_Right_a : List Arg → Option ByteArray
  | [.v (.one (.c (.str x0)))] => some x0
  | _ => none
noncomputable def orielref04_Right_e (a : ByteArray) : List Arg := [.v (.one (.c (C.str a)))]
theorem orielref04_Right_ae {l : List Arg} {a : ByteArray} (h : orielref04_Right_a l = some a) : l = orielref04_Right_e a := by
  unfold orielref04_Right_a at h
  split at h
  · cases h; rfl
  · cases h
noncomputable def orielref04_Right_d : Res → Option Bool
  | ⟨.one (.d (.bool y0)), []⟩ => some y0
  | _ => none
noncomputable def orielref04_Right_r (r : Bool) : Res := ⟨.one (.d (.bool r)), []⟩
theorem orielref04_Right_dr {R : Res} {r : Bool} (h : orielref04_Right_d R = some r) : R = orielref04_Right_r r := by
  unfold orielref04_Right_d at h
  split at h
  · cases h; rfl
  · cases h
noncomputable def orielref04_Right_o (L : Lv) {Ω : Type} (f : FuncId) (l : List Arg) (K : Res → Option Ω) (next : Option Ω) : Option Ω := rowO 39 orielref04_Right_a (fun a => L.orielref04_Right a) orielref04_Right_r f l K next
noncomputable def orielref03_Plain_a : List Arg → Option ByteArray
  | [.v (.one (.c (.str x0)))] => some x0
  | _ => none
noncomputable def orielref03_Plain_e (a : ByteArray) : List Arg := [.v (.one (.c (C.str a)))]
theorem orielref03_Plain_ae {l : List Arg} {a : ByteArray} (h : orielref03_Plain_a l = some a) : l = orielref03_Plain_e a := by
  unfold orielref03_Plain_a at h
  split at h
  · cases h; rfl
  · cases h
noncomputable def orielref03_Plain_d : Res → Option Bool
  | ⟨.one (.d (.bool y0)), []⟩ => some y0
  | _ => none
noncomputable def orielref03_Plain_r (r : Bool) : Res := ⟨.one (.d (.bool r)), []⟩
theorem orielref03_Plain_dr {R : Res} {r : Bool} (h : orielref03_Plain_d R = some r) : R = orielref03_Plain_r r := by
  unfold orielref03_Plain_d at h
  split at h
  · cases h; rfl
  · cases h
noncomputable def orielref03_Plain_o (L : Lv) {Ω : Type} (f : FuncId) (l : List Arg) (K : Res → Option Ω) (next : Option Ω) : Option Ω := rowO 44 orielref03_Plain_a (fun a => L.orielref03_Plain a) orielref03_Plain_r f l K next
noncomputable def orielref01_All_a : List Arg → Option ByteArray
  | [.v (.one (.c (.str x0)))] => some x0
  | _ => none
noncomputable def orielref01_All_e (a : ByteArray) : List Arg := [.v (.one (.c (C.str a)))]
theorem orielref01_All_ae {l : List Arg} {a : ByteArray} (h : orielref01_All_a l = some a) : l = orielref01_All_e a := by
  unfold orielref01_All_a at h
  split at h
  · cases h; rfl
  · cases h
noncomputable def orielref01_All_d : Res → Option (LL × Int × Int)
  | ⟨.tup [.one (.own 21 y0), .one (.d (.int .i64 y1)), .one (.d (.int .i64 y2))], []⟩ => some (y0, y1, y2)
  | _ => none
noncomputable def orielref01_All_r (r : LL × Int × Int) : Res := ⟨.tup [.one (.own 21 r.1), .one (.d (.int .i64 r.2.1)), .one (.d (.int .i64 r.2.2))], []⟩
theorem orielref01_All_dr {R : Res} {r : LL × Int × Int} (h : orielref01_All_d R = some r) : R = orielref01_All_r r := by
  unfold orielref01_All_d at h
  split at h
  · cases h; rfl
  · cases h
noncomputable def orielref01_All_o (L : Lv) {Ω : Type} (f : FuncId) (l : List Arg) (K : Res → Option Ω) (next : Option Ω) : Option Ω := rowO 46 orielref01_All_a (fun a => L.orielref01_All a) orielref01_All_r f l K next
noncomputable def orielref02_Start_a : List Arg → Option Int
  | [.v (.one (.c (.int .i64 x0)))] => some x0
  | _ => none
noncomputable def orielref02_Start_e (a : Int) : List Arg := [.v (.one (.c (C.int .i64 a)))]
theorem orielref02_Start_ae {l : List Arg} {a : Int} (h : orielref02_Start_a l = some a) : l = orielref02_Start_e a := by
  unfold orielref02_Start_a at h
  split at h
  · cases h; rfl
  · cases h
noncomputable def orielref02_Start_d : Res → Option Bool
  | ⟨.one (.d (.bool y0)), []⟩ => some y0
  | _ => none
noncomputable def orielref02_Start_r (r : Bool) : Res := ⟨.one (.d (.bool r)), []⟩
theorem orielref02_Start_dr {R : Res} {r : Bool} (h : orielref02_Start_d R = some r) : R = orielref02_Start_r r := by
  unfold orielref02_Start_d at h
  split at h
  · cases h; rfl
  · cases h
noncomputable def orielref02_Start_o (L : Lv) {Ω : Type} (f : FuncId) (l : List Arg) (K : Res → Option Ω) (next : Option Ω) : Option Ω := rowO 53 orielref02_Start_a (fun a => L.orielref02_Start a) orielref02_Start_r f l K next
noncomputable def orielref01_Rune_a : List Arg → Option (ByteArray × Int)
  | [.v (.one (.c (.str x0))), .v (.one (.c (.int .i64 x1)))] => some (x0, x1)
  | _ => none
noncomputable def orielref01_Rune_e (a : ByteArray × Int) : List Arg := [.v (.one (.c (C.str a.1))), .v (.one (.c (C.int .i64 a.2)))]
theorem orielref01_Rune_ae {l : List Arg} {a : ByteArray × Int} (h : orielref01_Rune_a l = some a) : l = orielref01_Rune_e a := by
  unfold orielref01_Rune_a at h
  split at h
  · cases h; rfl
  · cases h
noncomputable def orielref01_Rune_d : Res → Option (Int × Int × Int)
  | ⟨.tup [.one (.d (.int .i64 y0)), .one (.d (.int .i64 y1)), .one (.d (.int .i64 y2))], []⟩ => some (y0, y1, y2)
  | _ => none
noncomputable def orielref01_Rune_r (r : Int × Int × Int) : Res := ⟨.tup [.one (.d (.int .i64 r.1)), .one (.d (.int .i64 r.2.1)), .one (.d (.int .i64 r.2.2))], []⟩
theorem orielref01_Rune_dr {R : Res} {r : Int × Int × Int} (h : orielref01_Rune_d R = some r) : R = orielref01_Rune_r r := by
  unfold orielref01_Rune_d at h
  split at h
  · cases h; rfl
  · cases h
noncomputable def orielref01_Rune_o (L : Lv) {Ω : Type} (f : FuncId) (l : List Arg) (K : Res → Option Ω) (next : Option Ω) : Option Ω := rowO 55 orielref01_Rune_a (fun a => L.orielref01_Rune a.1 a.2) orielref01_Rune_r f l K next
noncomputable def orielref01_Put_a : List Arg → Option Int
  | [.v (.one (.c (.int .i64 x0)))] => some x0
  | _ => none
noncomputable def orielref01_Put_e (a : Int) : List Arg := [.v (.one (.c (C.int .i64 a)))]
theorem orielref01_Put_ae {l : List Arg} {a : Int} (h : orielref01_Put_a l = some a) : l = orielref01_Put_e a := by
  unfold orielref01_Put_a at h
  split at h
  · cases h; rfl
  · cases h
noncomputable def orielref01_Put_d : Res → Option LL
  | ⟨.one (.own 5 y0), []⟩ => some y0
  | _ => none
noncomputable def orielref01_Put_r (r : LL) : Res := ⟨.one (.own 5 r), []⟩
theorem orielref01_Put_dr {R : Res} {r : LL} (h : orielref01_Put_d R = some r) : R = orielref01_Put_r r := by
  unfold orielref01_Put_d at h
  split at h
  · cases h; rfl
  · cases h
noncomputable def orielref01_Put_o (L : Lv) {Ω : Type} (f : FuncId) (l : List Arg) (K : Res → Option Ω) (next : Option Ω) : Option Ω := rowO 64 orielref01_Put_a (fun a => L.orielref01_Put a) orielref01_Put_r f l K next
noncomputable def orielref01_cut_a : List Arg → Option (ByteArray × Int)
  | [.v (.one (.c (.str x0))), .v (.one (.c (.int .i64 x1)))] => some (x0, x1)
  | _ => none
noncomputable def orielref01_cut_e (a : ByteArray × Int) : List Arg := [.v (.one (.c (C.str a.1))), .v (.one (.c (C.int .i64 a.2)))]
theorem orielref01_cut_ae {l : List Arg} {a : ByteArray × Int} (h : orielref01_cut_a l = some a) : l = orielref01_cut_e a := by
  unfold orielref01_cut_a at h
  split at h
  · cases h; rfl
  · cases h
noncomputable def orielref01_cut_d : Res → Option Bool
  | ⟨.one (.d (.bool y0)), []⟩ => some y0
  | _ => none
noncomputable def orielref01_cut_r (r : Bool) : Res := ⟨.one (.d (.bool r)), []⟩
theorem orielref01_cut_dr {R : Res} {r : Bool} (h : orielref01_cut_d R = some r) : R = orielref01_cut_r r := by
  unfold orielref01_cut_d at h
  split at h
  · cases h; rfl
  · cases h
noncomputable def orielref01_cut_o (L : Lv) {Ω : Type} (f : FuncId) (l : List Arg) (K : Res → Option Ω) (next : Option Ω) : Option Ω := rowO 66 orielref01_cut_a (fun a => L.orielref01_cut a.1 a.2) orielref01_cut_r f l K next
noncomputable def orielref01_value_a : List Arg → Option (ByteArray × Int × Int)
  | [.v (.one (.c (.str x0))), .v (.one (.c (.int .i64 x1))), .v (.one (.c (.int .i64 x2)))] => some (x0, x1, x2)
  | _ => none
noncomputable def orielref01_value_e (a : ByteArray × Int × Int) : List Arg := [.v (.one (.c (C.str a.1))), .v (.one (.c (C.int .i64 a.2.1))), .v (.one (.c (C.int .i64 a.2.2)))]
theorem orielref01_value_ae {l : List Arg} {a : ByteArray × Int × Int} (h : orielref01_value_a l = some a) : l = orielref01_value_e a := by
  unfold orielref01_value_a at h
  split at h
  · cases h; rfl
  · cases h
noncomputable def orielref01_value_d : Res → Option Int
  | ⟨.one (.d (.int .i64 y0)), []⟩ => some y0
  | _ => none
noncomputable def orielref01_value_r (r : Int) : Res := ⟨.one (.d (.int .i64 r)), []⟩
theorem orielref01_value_dr {R : Res} {r : Int} (h : orielref01_value_d R = some r) : R = orielref01_value_r r := by
  unfold orielref01_value_d at h
  split at h
  · cases h; rfl
  · cases h
noncomputable def orielref01_value_o (L : Lv) {Ω : Type} (f : FuncId) (l : List Arg) (K : Res → Option Ω) (next : Option Ω) : Option Ω := rowO 63 orielref01_value_a (fun a => L.orielref01_value a.1 a.2.1 a.2.2) orielref01_value_r f l K next
noncomputable def orielref12_Same_a : List Arg → Option (Int × LL × LL × Int × LL × LL)
  | [.v (.agg [.c (.int .i64 x0_0), .c (.row 25 x0_1), .c (.row 52 x0_2)]), .v (.agg [.c (.int .i64 x1_0), .c (.row 25 x1_1), .c (.row 52 x1_2)])] => some (x0_0, x0_1, x0_2, x1_0, x1_1, x1_2)
  | _ => none
noncomputable def orielref12_Same_e (a : Int × LL × LL × Int × LL × LL) : List Arg := [.v (.agg [.c (C.int .i64 a.1), .c (C.row 25 a.2.1), .c (C.row 52 a.2.2.1)]), .v (.agg [.c (C.int .i64 a.2.2.2.1), .c (C.row 25 a.2.2.2.2.1), .c (C.row 52 a.2.2.2.2.2)])]
theorem orielref12_Same_ae {l : List Arg} {a : Int × LL × LL × Int × LL × LL} (h : orielref12_Same_a l = some a) : l = orielref12_Same_e a := by
  unfold orielref12_Same_a at h
  split at h
  · cases h; rfl
  · cases h
noncomputable def orielref12_Same_d : Res → Option Bool
  | ⟨.one (.d (.bool y0)), []⟩ => some y0
  | _ => none
noncomputable def orielref12_Same_r (r : Bool) : Res := ⟨.one (.d (.bool r)), []⟩
theorem orielref12_Same_dr {R : Res} {r : Bool} (h : orielref12_Same_d R = some r) : R = orielref12_Same_r r := by
  unfold orielref12_Same_d at h
  split at h
  · cases h; rfl
  · cases h
noncomputable def orielref12_Same_o (L : Lv) {Ω : Type} (f : FuncId) (l : List Arg) (K : Res → Option Ω) (next : Option Ω) : Option Ω := rowO 12 orielref12_Same_a (fun a => L.orielref12_Same a.1 a.2.1 a.2.2.1 a.2.2.2.1 a.2.2.2.2.1 a.2.2.2.2.2) orielref12_Same_r f l K next
noncomputable def orielref02_Char_a : List Arg → Option Int
  | [.v (.one (.c (.int .i64 x0)))] => some x0
  | _ => none
noncomputable def orielref02_Char_e (a : Int) : List Arg := [.v (.one (.c (C.int .i64 a)))]
theorem orielref02_Char_ae {l : List Arg} {a : Int} (h : orielref02_Char_a l = some a) : l = orielref02_Char_e a := by
  unfold orielref02_Char_a at h
  split at h
  · cases h; rfl
  · cases h
noncomputable def orielref02_Char_d : Res → Option Bool
  | ⟨.one (.d (.bool y0)), []⟩ => some y0
  | _ => none
noncomputable def orielref02_Char_r (r : Bool) : Res := ⟨.one (.d (.bool r)), []⟩
theorem orielref02_Char_dr {R : Res} {r : Bool} (h : orielref02_Char_d R = some r) : R = orielref02_Char_r r := by
  unfold orielref02_Char_d at h
  split at h
  · cases h; rfl
  · cases h
noncomputable def orielref02_Char_o (L : Lv) {Ω : Type} (f : FuncId) (l : List Arg) (K : Res → Option Ω) (next : Option Ω) : Option Ω := rowO 47 orielref02_Char_a (fun a => L.orielref02_Char a) orielref02_Char_r f l K next
noncomputable def orielref02_Part_a : List Arg → Option Int
  | [.v (.one (.c (.int .i64 x0)))] => some x0
  | _ => none
noncomputable def orielref02_Part_e (a : Int) : List Arg := [.v (.one (.c (C.int .i64 a)))]
theorem orielref02_Part_ae {l : List Arg} {a : Int} (h : orielref02_Part_a l = some a) : l = orielref02_Part_e a := by
  unfold orielref02_Part_a at h
  split at h
  · cases h; rfl
  · cases h
noncomputable def orielref02_Part_d : Res → Option Bool
  | ⟨.one (.d (.bool y0)), []⟩ => some y0
  | _ => none
noncomputable def orielref02_Part_r (r : Bool) : Res := ⟨.one (.d (.bool r)), []⟩
theorem orielref02_Part_dr {R : Res} {r : Bool} (h : orielref02_Part_d R = some r) : R = orielref02_Part_r r := by
  unfold orielref02_Part_d at h
  split at h
  · cases h; rfl
  · cases h
noncomputable def orielref02_Part_o (L : Lv) {Ω : Type} (f : FuncId) (l : List Arg) (K : Res → Option Ω) (next : Option Ω) : Option Ω := rowO 54 orielref02_Part_a (fun a => L.orielref02_Part a) orielref02_Part_r f l K next
noncomputable def orielref01_begins_a : List Arg → Option (ByteArray × Int × LL)
  | [.v (.one (.c (.str x0))), .v (.one (.c (.int .i64 x1))), .v (.one (.c (.row 5 x2)))] => some (x0, x1, x2)
  | _ => none
noncomputable def orielref01_begins_e (a : ByteArray × Int × LL) : List Arg := [.v (.one (.c (C.str a.1))), .v (.one (.c (C.int .i64 a.2.1))), .v (.one (.c (C.row 5 a.2.2)))]
theorem orielref01_begins_ae {l : List Arg} {a : ByteArray × Int × LL} (h : orielref01_begins_a l = some a) : l = orielref01_begins_e a := by
  unfold orielref01_begins_a at h
  split at h
  · cases h; rfl
  · cases h
noncomputable def orielref01_begins_d : Res → Option Bool
  | ⟨.one (.d (.bool y0)), []⟩ => some y0
  | _ => none
noncomputable def orielref01_begins_r (r : Bool) : Res := ⟨.one (.d (.bool r)), []⟩
theorem orielref01_begins_dr {R : Res} {r : Bool} (h : orielref01_begins_d R = some r) : R = orielref01_begins_r r := by
  unfold orielref01_begins_d at h
  split at h
  · cases h; rfl
  · cases h
noncomputable def orielref01_begins_o (L : Lv) {Ω : Type} (f : FuncId) (l : List Arg) (K : Res → Option Ω) (next : Option Ω) : Option Ω := rowO 65 orielref01_begins_a (fun a => L.orielref01_begins a.1 a.2.1 a.2.2) orielref01_begins_r f l K next
noncomputable def orielref12_SameFilter_a : List Arg → Option (Int × ByteArray × ByteArray × ByteArray × LL × LL × Int × ByteArray × ByteArray × ByteArray × LL × LL)
  | [.v (.agg [.c (.int .i64 x0_0), .c (.str x0_1), .c (.str x0_2), .c (.str x0_3), .c (.row 52 x0_4), .c (.row 25 x0_5)]), .v (.agg [.c (.int .i64 x1_0), .c (.str x1_1), .c (.str x1_2), .c (.str x1_3), .c (.row 52 x1_4), .c (.row 25 x1_5)])] => some (x0_0, x0_1, x0_2, x0_3, x0_4, x0_5, x1_0, x1_1, x1_2, x1_3, x1_4, x1_5)
  | _ => none
noncomputable def orielref12_SameFilter_e (a : Int × ByteArray × ByteArray × ByteArray × LL × LL × Int × ByteArray × ByteArray × ByteArray × LL × LL) : List Arg := [.v (.agg [.c (C.int .i64 a.1), .c (C.str a.2.1), .c (C.str a.2.2.1), .c (C.str a.2.2.2.1), .c (C.row 52 a.2.2.2.2.1), .c (C.row 25 a.2.2.2.2.2.1)]), .v (.agg [.c (C.int .i64 a.2.2.2.2.2.2.1), .c (C.str a.2.2.2.2.2.2.2.1), .c (C.str a.2.2.2.2.2.2.2.2.1), .c (C.str a.2.2.2.2.2.2.2.2.2.1), .c (C.row 52 a.2.2.2.2.2.2.2.2.2.2.1), .c (C.row 25 a.2.2.2.2.2.2.2.2.2.2.2)])]
theorem orielref12_SameFilter_ae {l : List Arg} {a : Int × ByteArray × ByteArray × ByteArray × LL × LL × Int × ByteArray × ByteArray × ByteArray × LL × LL} (h : orielref12_SameFilter_a l = some a) : l = orielref12_SameFilter_e a := by
  unfold orielref12_SameFilter_a at h
  split at h
  · cases h; rfl
  · cases h
noncomputable def orielref12_SameFilter_d : Res → Option Bool
  | ⟨.one (.d (.bool y0)), []⟩ => some y0
  | _ => none
noncomputable def orielref12_SameFilter_r (r : Bool) : Res := ⟨.one (.d (.bool r)), []⟩
theorem orielref12_SameFilter_dr {R : Res} {r : Bool} (h : orielref12_SameFilter_d R = some r) : R = orielref12_SameFilter_r r := by
  unfold orielref12_SameFilter_d at h
  split at h
  · cases h; rfl
  · cases h
noncomputable def orielref12_SameFilter_o (L : Lv) {Ω : Type} (f : FuncId) (l : List Arg) (K : Res → Option Ω) (next : Option Ω) : Option Ω := rowO 27 orielref12_SameFilter_a (fun a => L.orielref12_SameFilter a.1 a.2.1 a.2.2.1 a.2.2.2.1 a.2.2.2.2.1 a.2.2.2.2.2.1 a.2.2.2.2.2.2.1 a.2.2.2.2.2.2.2.1 a.2.2.2.2.2.2.2.2.1 a.2.2.2.2.2.2.2.2.2.1 a.2.2.2.2.2.2.2.2.2.2.1 a.2.2.2.2.2.2.2.2.2.2.2) orielref12_SameFilter_r f l K next
noncomputable def orielref02_Blank_a : List Arg → Option Int
  | [.v (.one (.c (.int .i64 x0)))] => some x0
  | _ => none
noncomputable def orielref02_Blank_e (a : Int) : List Arg := [.v (.one (.c (C.int .i64 a)))]
theorem orielref02_Blank_ae {l : List Arg} {a : Int} (h : orielref02_Blank_a l = some a) : l = orielref02_Blank_e a := by
  unfold orielref02_Blank_a at h
  split at h
  · cases h; rfl
  · cases h
noncomputable def orielref02_Blank_d : Res → Option Bool
  | ⟨.one (.d (.bool y0)), []⟩ => some y0
  | _ => none
noncomputable def orielref02_Blank_r (r : Bool) : Res := ⟨.one (.d (.bool r)), []⟩
theorem orielref02_Blank_dr {R : Res} {r : Bool} (h : orielref02_Blank_d R = some r) : R = orielref02_Blank_r r := by
  unfold orielref02_Blank_d at h
  split at h
  · cases h; rfl
  · cases h
noncomputable def orielref02_Blank_o (L : Lv) {Ω : Type} (f : FuncId) (l : List Arg) (K : Res → Option Ω) (next : Option Ω) : Option Ω := rowO 56 orielref02_Blank_a (fun a => L.orielref02_Blank a) orielref02_Blank_r f l K next
noncomputable def orielref05_Find_a : List Arg → Option (ByteArray × Int × ByteArray)
  | [.v (.one (.c (.str x0))), .v (.one (.c (.int .i64 x1))), .v (.one (.c (.str x2)))] => some (x0, x1, x2)
  | _ => none
noncomputable def orielref05_Find_e (a : ByteArray × Int × ByteArray) : List Arg := [.v (.one (.c (C.str a.1))), .v (.one (.c (C.int .i64 a.2.1))), .v (.one (.c (C.str a.2.2)))]
theorem orielref05_Find_ae {l : List Arg} {a : ByteArray × Int × ByteArray} (h : orielref05_Find_a l = some a) : l = orielref05_Find_e a := by
  unfold orielref05_Find_a at h
  split at h
  · cases h; rfl
  · cases h
noncomputable def orielref05_Find_d : Res → Option Int
  | ⟨.one (.d (.int .i64 y0)), []⟩ => some y0
  | _ => none
noncomputable def orielref05_Find_r (r : Int) : Res := ⟨.one (.d (.int .i64 r)), []⟩
theorem orielref05_Find_dr {R : Res} {r : Int} (h : orielref05_Find_d R = some r) : R = orielref05_Find_r r := by
  unfold orielref05_Find_d at h
  split at h
  · cases h; rfl
  · cases h
noncomputable def orielref05_Find_o (L : Lv) {Ω : Type} (f : FuncId) (l : List Arg) (K : Res → Option Ω) (next : Option Ω) : Option Ω := rowO 45 orielref05_Find_a (fun a => L.orielref05_Find a.1 a.2.1 a.2.2) orielref05_Find_r f l K next
/-- functions of the library that are given -/
noncomputable def extG (f : FuncId) (l : List Arg) : Option Res := (rowO 59 strings_ContainsAny_a (fun a => anyV a.1 a.2) strings_ContainsAny_r f l some none)
theorem extG_ok (h0 : ∀ a v, (fun a => anyV a.1 a.2) a = some v → CallOK Try.prog 59 (strings_ContainsAny_e a) (strings_ContainsAny_r v)) : CallsOK Try.prog extG := fun f l R h => by
  unfold extG at h
  rcases rowG_ok (ea := strings_ContainsAny_e) (fun _ _ h => strings_ContainsAny_ae h) h0 h with h | h
  · exact h
  cases h
noncomputable def orK (L : Lv) {Ω : Type} (f : FuncId) (l : List Arg) (K : Res → Option Ω) : Option Ω := oriellaw12_PathRights_o L f l K (oriellaw12_awake_o L f l K (oriellaw12_named_o L f l K (path_Speaks_o L f l K (path_gather_path_o L f l K (path_gather_filter_o L f l K (api_Name_o L f l K (path_gather_attr_o L f l K (path_add_string_o L f l K (api_Name_2_o L f l K (api_Name_3_o L f l K (slices_Contains_string_string_o L f l K (slices_Index_string_string_o L f l K (path_Right_o L f l K (path_measured_o L f l K (path_measure_path_o L f l K (path_measure_part_o L f l K (path_add_string_2_o L f l K (path_measure_filter_o L f l K (path_shape_o L f l K (path_named_o L f l K (path_value_o L f l K (name_Plain_o L f l K (utf_All_o L f l K (char_Start_o L f l K (utf_Rune_o L f l K (char_in_o L f l K (utf_forms_o L f l K (char_All_o L f l K (utf_span_o L f l K (char_Char_o L f l K (char_Blank_o L f l K (strings_ContainsAny_o L f l K (char_Part_o L f l K (path_Size_o L f l K (orielref12_Size_o L f l K (path_Same_o L f l K (orielref12_size_o L f l K (api_Path_o L f l K (orielref12_sizeFilter_o L f l K (api_Filter_o L f l K (path_sameFilter_o L f l K (orielref12_Right_o L f l K (orielref12_path_o L f l K (orielref12_filter_o L f l K (orielref12_named_o L f l K (orielref04_Right_o L f l K (orielref03_Plain_o L f l K (orielref01_All_o L f l K (orielref02_Start_o L f l K (orielref01_Rune_o L f l K (orielref01_Put_o L f l K (orielref01_cut_o L f l K (orielref01_value_o L f l K (orielref12_Same_o L f l K (orielref02_Char_o L f l K (orielref02_Part_o L f l K (orielref01_begins_o L f l K (orielref12_SameFilter_o L f l K (orielref02_Blank_o L f l K (orielref05_Find_o L f l K (none)))))))))))))))))))))))))))))))))))))))))))))))))))))))))))))
noncomputable def oriellaw12_PathRights_b (L : Lv) (k : Nat) (x0_0 : Int) (x0_1 x0_2 : LL) (x1_0 : Int) (x1_1 x1_2 : LL) : Option Bool := bodyK noEq Try.prog (orK L) kp k 3 [.v (.agg [.c (C.int .i64 x0_0), .c (C.row 25 x0_1), .c (C.row 52 x0_2)]), .v (.agg [.c (C.int .i64 x1_0), .c (C.row 25 x1_1), .c (C.row 52 x1_2)])] oriellaw12_PathRights_d
noncomputable def oriellaw12_awake_b (L : Lv) (k : Nat) : Option Bool := bodyK noEq Try.prog (orK L) kp k 7 [] oriellaw12_awake_d
noncomputable def oriellaw12_named_b (L : Lv) (k : Nat) (x0 : ByteArray) : Option (Int × LL × LL) := bodyK noEq Try.prog (orK L) kp k 20 [.v (.one (.c (C.str x0)))] oriellaw12_named_d
noncomputable def path_Speaks_b (L : Lv) (k : Nat) (x0 : LL) : Option (LL × LL × LL × LL) := bodyK noEq Try.prog (orK L) kp k 14 [.v (.one (.c (C.row 25 x0)))] path_Speaks_d
noncomputable def path_Speaks_l0 (L : Lv) (k : Nat) (x0 : LL) (m0 : Nat) : Option (LL × LL × LL × LL) := headK noEq Try.prog (orK L) kp k 14 [.v (.one (.c (C.row 25 x0)))] [1, 1, 0, 1, 0] [m0] ⟨[(2, .one (.ptr 64 0)), (3, .one (.ptr 65 0)), (6, .one (.c (C.row 25 x0))), (7, .one (.c (C.int .i64 (x0.length : Int)))), (8, .one (.c (C.int .i64 0)))], [(64, .box 34 [.c (C.nil 42), .c (C.nil 42), .c (C.nil 32), .c (C.nil 9)]), (65, .box 55 [.c (C.nil 42), .c (C.nil 42), .c (C.nil 32), .c (C.nil 9)])], 67, 17⟩ path_Speaks_d
noncomputable def path_Speaks_l1 (L : Lv) (k : Nat) (x0 : LL) (m0 : Nat) (v2 : Int) (v3 v4 v5 v6 : LL) : Option (LL × LL × LL × LL) := headK noEq Try.prog (orK L) kp k 14 [.v (.one (.c (C.row 25 x0)))] [1, 1, 0, 1, 0] [m0] ⟨[(2, .one (.ptr 64 0)), (3, .one (.ptr 65 0)), (6, .one (.c (C.row 25 x0))), (7, .one (.c (C.int .i64 (x0.length : Int)))), (8, .one (.c (C.int .i64 v2)))], [(64, .box 34 [.c (C.nil 42), .c (C.nil 42), .c (C.nil 32), .c (C.nil 9)]), (65, .box 55 [.arr 66, .arr 67, .arr 68, .arr 69]), (66, .arr 42 false v3), (67, .arr 42 false v4), (68, .arr 32 false v5), (69, .arr 9 false v6)], 71, 17⟩ path_Speaks_d
noncomputable def path_gather_path_b (L : Lv) (k : Nat) (x0_0 x0_1 x0_2 x0_3 : LL) (x1_0 : Int) (x1_1 x1_2 : LL) : Option (LL × LL × LL × LL) := bodyK noEq Try.prog (orK L) kp k 28 [.ref 55 [.own 42 x0_0, .own 42 x0_1, .own 32 x0_2, .own 9 x0_3] 0, .v (.agg [.c (C.int .i64 x1_0), .c (C.row 25 x1_1), .c (C.row 52 x1_2)])] path_gather_path_d
noncomputable def path_gather_path_l0 (L : Lv) (k : Nat) (x0_0 x0_1 x0_2 x0_3 : LL) (x1_0 : Int) (x1_1 x1_2 : LL) (m0 : Nat) (v2 : Int) (v6 v7 v8 v9 : LL) : Option (LL × LL × LL × LL) := headK noEq Try.prog (orK L) kp k 28 [.ref 55 [.own 42 x0_0, .own 42 x0_1, .own 32 x0_2, .own 9 x0_3] 0, .v (.agg [.c (C.int .i64 x1_0), .c (C.row 25 x1_1), .c (C.row 52 x1_2)])] [1, 0, 1, 0] [m0] ⟨[(0, .one (.ptr 0 0)), (3, .one (.ptr 129 0)), (9, .one (.c (C.row 25 x1_1))), (10, .one (.c (C.int .i64 (x1_1.length : Int)))), (11, .one (.c (C.int .i64 v2)))], [(0, .box 55 [.arr 130, .arr 131, .arr 132, .arr 133]), (129, .box 25 [.c (C.int .i64 x1_0), .c (C.row 25 x1_1), .c (C.row 52 x1_2)]), (130, .arr 42 false v6), (131, .arr 42 false v7), (132, .arr 32 false v8), (133, .arr 9 false v9)], 135, 30⟩ path_gather_path_d
noncomputable def path_gather_path_l1 (L : Lv) (k : Nat) (x0_0 x0_1 x0_2 x0_3 : LL) (x1_0 : Int) (x1_1 x1_2 : LL) (m0 : Nat) (v2 : Int) (v3 v4 v5 v6 : LL) : Option (LL × LL × LL × LL) := headK noEq Try.prog (orK L) kp k 28 [.ref 55 [.own 42 x0_0, .own 42 x0_1, .own 32 x0_2, .own 9 x0_3] 0, .v (.agg [.c (C.int .i64 x1_0), .c (C.row 25 x1_1), .c (C.row 52 x1_2)])] [1, 1, 1, 0] [m0] ⟨[(0, .one (.ptr 0 0)), (20, .one (.c (C.row 52 x1_2))), (21, .one (.c (C.int .i64 (x1_2.length : Int)))), (22, .one (.c (C.int .i64 v2)))], [(0, .box 55 [.arr 129, .arr 130, .arr 131, .arr 132]), (129, .arr 42 false v3), (130, .arr 42 false v4), (131, .arr 32 false v5), (132, .arr 9 false v6)], 134, 30⟩ path_gather_path_d
noncomputable def path_gather_filter_b (L : Lv) (k : Nat) (x0_0 x0_1 x0_2 x0_3 : LL) (x1_0 : Int) (x1_1 x1_2 x1_3 : ByteArray) (x1_4 x1_5 : LL) : Option (LL × LL × LL × LL) := bodyK noEq Try.prog (orK L) kp k 35 [.ref 55 [.own 42 x0_0, .own 42 x0_1, .own 32 x0_2, .own 9 x0_3] 0, .v (.agg [.c (C.int .i64 x1_0), .c (C.str x1_1), .c (C.str x1_2), .c (C.str x1_3), .c (C.row 52 x1_4), .c (C.row 25 x1_5)])] path_gather_filter_d
noncomputable def path_gather_filter_l0 (L : Lv) (k : Nat) (x0_0 x0_1 x0_2 x0_3 : LL) (x1_0 : Int) (x1_1 x1_2 x1_3 : ByteArray) (x1_4 x1_5 : LL) (m0 : Nat) (v2 : Int) (v9 v10 v11 v12 : LL) : Option (LL × LL × LL × LL) := headK noEq Try.prog (orK L) kp k 35 [.ref 55 [.own 42 x0_0, .own 42 x0_1, .own 32 x0_2, .own 9 x0_3] 0, .v (.agg [.c (C.int .i64 x1_0), .c (C.str x1_1), .c (C.str x1_2), .c (C.str x1_3), .c (C.row 52 x1_4), .c (C.row 25 x1_5)])] [1, 1, 0, 1, 0] [m0] ⟨[(0, .one (.ptr 0 0)), (3, .one (.ptr 129 0)), (70, .one (.c (C.row 52 x1_4))), (71, .one (.c (C.int .i64 (x1_4.length : Int)))), (72, .one (.c (C.int .i64 v2)))], [(0, .box 55 [.arr 130, .arr 131, .arr 132, .arr 133]), (129, .box 52 [.c (C.int .i64 x1_0), .c (C.str x1_1), .c (C.str x1_2), .c (C.str x1_3), .c (C.row 52 x1_4), .c (C.row 25 x1_5)]), (130, .arr 42 false v9), (131, .arr 42 false v10), (132, .arr 32 false v11), (133, .arr 9 false v12)], 135, 91⟩ path_gather_filter_d
noncomputable def path_gather_filter_l1 (L : Lv) (k : Nat) (x0_0 x0_1 x0_2 x0_3 : LL) (x1_0 : Int) (x1_1 x1_2 x1_3 : ByteArray) (x1_4 x1_5 : LL) (m0 : Nat) (v2 : Int) (v3 v4 v5 v6 : LL) : Option (LL × LL × LL × LL) := headK noEq Try.prog (orK L) kp k 35 [.ref 55 [.own 42 x0_0, .own 42 x0_1, .own 32 x0_2, .own 9 x0_3] 0, .v (.agg [.c (C.int .i64 x1_0), .c (C.str x1_1), .c (C.str x1_2), .c (C.str x1_3), .c (C.row 52 x1_4), .c (C.row 25 x1_5)])] [1, 1, 1, 1, 0] [m0] ⟨[(0, .one (.ptr 0 0)), (81, .one (.c (C.row 25 x1_5))), (82, .one (.c (C.int .i64 (x1_5.length : Int)))), (83, .one (.c (C.int .i64 v2)))], [(0, .box 55 [.arr 129, .arr 130, .arr 131, .arr 132]), (129, .arr 42 false v3), (130, .arr 42 false v4), (131, .arr 32 false v5), (132, .arr 9 false v6)], 134, 91⟩ path_gather_filter_d
noncomputable def api_Name_b (L : Lv) (k : Nat) (x0 : LL) (x1_0 x1_1 : ByteArray) : Option LL := bodyK noEq Try.prog (orK L) kp k 40 [.mv 42 x0, .v (.agg [.c (C.str x1_0), .c (C.str x1_1)])] api_Name_d
noncomputable def path_gather_attr_b (L : Lv) (k : Nat) (x0_0 x0_1 x0_2 x0_3 : LL) (x1_0 x1_1 : ByteArray) : Option (Int × LL × LL × LL × LL) := bodyK noEq Try.prog (orK L) kp k 41 [.ref 55 [.own 42 x0_0, .own 42 x0_1, .own 32 x0_2, .own 9 x0_3] 0, .v (.agg [.c (C.str x1_0), .c (C.str x1_1)])] path_gather_attr_d
noncomputable def path_add_string_b (L : Lv) (k : Nat) (x0 : LL) (x1 : ByteArray) : Option LL := bodyK noEq Try.prog (orK L) kp k 42 [.mv 9 x0, .v (.one (.c (C.str x1)))] path_add_string_d
noncomputable def api_Name_2_b (L : Lv) (k : Nat) (x0 : LL) (x1_0 x1_1 : ByteArray) : Option Bool := bodyK noEq Try.prog (orK L) kp k 48 [.v (.one (.c (C.row 42 x0))), .v (.agg [.c (C.str x1_0), .c (C.str x1_1)])] api_Name_2_d
noncomputable def api_Name_3_b (L : Lv) (k : Nat) (x0 : LL) (x1_0 x1_1 : ByteArray) : Option Int := bodyK noEq Try.prog (orK L) kp k 49 [.v (.one (.c (C.row 42 x0))), .v (.agg [.c (C.str x1_0), .c (C.str x1_1)])] api_Name_3_d
noncomputable def api_Name_3_l0 (L : Lv) (k : Nat) (x0 : LL) (x1_0 x1_1 : ByteArray) (m0 : Nat) (v2 : Int) : Option Int := headK noEq Try.prog (orK L) kp k 49 [.v (.one (.c (C.row 42 x0))), .v (.agg [.c (C.str x1_0), .c (C.str x1_1)])] [1, 0, 1, 0] [m0] ⟨[(0, .one (.c (C.row 42 x0))), (3, .one (.ptr 128 0)), (7, .one (.c (C.int .i64 (x0.length : Int)))), (8, .one (.c (C.int .i64 v2)))], [(128, .box 42 [.c (C.str x1_0), .c (C.str x1_1)])], 130, 19⟩ api_Name_3_d
noncomputable def slices_Contains_string_string_b (L : Lv) (k : Nat) (x0 : LL) (x1 : ByteArray) : Option Bool := bodyK noEq Try.prog (orK L) kp k 50 [.v (.one (.c (C.row 9 x0))), .v (.one (.c (C.str x1)))] slices_Contains_string_string_d
noncomputable def slices_Index_string_string_b (L : Lv) (k : Nat) (x0 : LL) (x1 : ByteArray) : Option Int := bodyK noEq Try.prog (orK L) kp k 57 [.v (.one (.c (C.row 9 x0))), .v (.one (.c (C.str x1)))] slices_Index_string_string_d
noncomputable def slices_Index_string_string_l0 (L : Lv) (k : Nat) (x0 : LL) (x1 : ByteArray) (m0 : Nat) (v3 : Int) : Option Int := headK noEq Try.prog (orK L) kp k 57 [.v (.one (.c (C.row 9 x0))), .v (.one (.c (C.str x1)))] [1, 0, 1, 0] [m0] ⟨[(0, .one (.c (C.row 9 x0))), (1, .one (.c (C.str x1))), (7, .one (.c (C.int .i64 (x0.length : Int)))), (8, .one (.c (C.int .i64 v3)))], [], 129, 19⟩ slices_Index_string_string_d
noncomputable def path_Right_b (L : Lv) (k : Nat) (x0_0 : Int) (x0_1 x0_2 : LL) : Option Bool := bodyK noEq Try.prog (orK L) kp k 9 [.v (.agg [.c (C.int .i64 x0_0), .c (C.row 25 x0_1), .c (C.row 52 x0_2)])] path_Right_d
noncomputable def path_measured_b (L : Lv) (k : Nat) (x0_0 : Int) (x0_1 x0_2 : LL) : Option (Int × Bool) := bodyK noEq Try.prog (orK L) kp k 22 [.v (.agg [.c (C.int .i64 x0_0), .c (C.row 25 x0_1), .c (C.row 52 x0_2)])] path_measured_d
noncomputable def path_measure_path_b (L : Lv) (k : Nat) (x0_0 : Int) (x0_1 : Bool) (x1_0 : Int) (x1_1 x1_2 : LL) (x2 : Int) : Option (Int × Bool) := bodyK noEq Try.prog (orK L) kp k 33 [.ref 46 [.d (C.int .i64 x0_0), .d (C.bool x0_1)] 0, .v (.agg [.c (C.int .i64 x1_0), .c (C.row 25 x1_1), .c (C.row 52 x1_2)]), .v (.one (.c (C.int .i64 x2)))] path_measure_path_d
noncomputable def path_measure_path_l0 (L : Lv) (k : Nat) (x0_0 : Int) (x0_1 : Bool) (x1_0 : Int) (x1_1 x1_2 : LL) (x2 v3 : Int) (v4 : Bool) : Option (Int × Bool) := headK noEq Try.prog (orK L) kp k 33 [.ref 46 [.d (C.int .i64 x0_0), .d (C.bool x0_1)] 0, .v (.agg [.c (C.int .i64 x1_0), .c (C.row 25 x1_1), .c (C.row 52 x1_2)]), .v (.one (.c (C.int .i64 x2)))] [1, 1, 1, 1, 0, 0] [] ⟨[(0, .one (.ptr 0 0)), (2, .one (.c (C.int .i64 x2))), (4, .one (.ptr 193 0)), (6, .one (.c (C.int .i64 (x1_1.length : Int)))), (7, .one (.c (C.int .i64 (x1_2.length : Int))))], [(0, .box 46 [.c (C.int .i64 v3), .c (C.bool v4)]), (193, .box 25 [.c (C.int .i64 x1_0), .c (C.row 25 x1_1), .c (C.row 52 x1_2)])], 195, 112⟩ path_measure_path_d
noncomputable def path_measure_path_l1 (L : Lv) (k : Nat) (x0_0 : Int) (x0_1 : Bool) (x1_0 : Int) (x1_1 x1_2 : LL) (x2 v4 : Int) (v5 : Bool) : Option (Int × Bool) := headK noEq Try.prog (orK L) kp k 33 [.ref 46 [.d (C.int .i64 x0_0), .d (C.bool x0_1)] 0, .v (.agg [.c (C.int .i64 x1_0), .c (C.row 25 x1_1), .c (C.row 52 x1_2)]), .v (.one (.c (C.int .i64 x2)))] [1, 1, 1, 0, 1, 0, 1, 1, 0, 0] [] ⟨[(0, .one (.ptr 0 0)), (2, .one (.c (C.int .i64 x2))), (4, .one (.ptr 193 0)), (6, .one (.c (C.int .i64 (x1_1.length : Int)))), (7, .one (.c (C.int .i64 (x1_2.length : Int)))), (21, .one (.c (C.int .i64 x1_0)))], [(0, .box 46 [.c (C.int .i64 v4), .c (C.bool v5)]), (193, .box 25 [.c (C.int .i64 x1_0), .c (C.row 25 x1_1), .c (C.row 52 x1_2)])], 195, 112⟩ path_measure_path_d
noncomputable def path_measure_path_l2 (L : Lv) (k : Nat) (x0_0 : Int) (x0_1 : Bool) (x1_0 : Int) (x1_1 x1_2 : LL) (x2 : Int) (m0 : Nat) (v3 v4 : Int) (v5 : Bool) : Option (Int × Bool) := headK noEq Try.prog (orK L) kp k 33 [.ref 46 [.d (C.int .i64 x0_0), .d (C.bool x0_1)] 0, .v (.agg [.c (C.int .i64 x1_0), .c (C.row 25 x1_1), .c (C.row 52 x1_2)]), .v (.one (.c (C.int .i64 x2)))] [1, 1, 1, 1, 0, 1, 0] [m0] ⟨[(0, .one (.ptr 0 0)), (2, .one (.c (C.int .i64 x2))), (4, .one (.ptr 193 0)), (6, .one (.c (C.int .i64 (x1_1.length : Int)))), (7, .one (.c (C.int .i64 (x1_2.length : Int)))), (8, .one (.c (C.int .i64 v3)))], [(0, .box 46 [.c (C.int .i64 v4), .c (C.bool v5)]), (193, .box 25 [.c (C.int .i64 x1_0), .c (C.row 25 x1_1), .c (C.row 52 x1_2)])], 195, 112⟩ path_measure_path_d
noncomputable def path_measure_path_l3 (L : Lv) (k : Nat) (x0_0 : Int) (x0_1 : Bool) (x1_0 : Int) (x1_1 x1_2 : LL) (x2 : Int) (m0 : Nat) (v2 v3 : Int) (v4 : Bool) : Option (Int × Bool) := headK noEq Try.prog (orK L) kp k 33 [.ref 46 [.d (C.int .i64 x0_0), .d (C.bool x0_1)] 0, .v (.agg [.c (C.int .i64 x1_0), .c (C.row 25 x1_1), .c (C.row 52 x1_2)]), .v (.one (.c (C.int .i64 x2)))] [1, 1, 1, 1, 1, 1, 0] [m0] ⟨[(0, .one (.ptr 0 0)), (2, .one (.c (C.int .i64 x2))), (4, .one (.ptr 193 0)), (7, .one (.c (C.int .i64 (x1_2.length : Int)))), (9, .one (.c (C.int .i64 v2)))], [(0, .box 46 [.c (C.int .i64 v3), .c (C.bool v4)]), (193, .box 25 [.c (C.int .i64 x1_0), .c (C.row 25 x1_1), .c (C.row 52 x1_2)])], 195, 112⟩ path_measure_path_d
noncomputable def path_measure_part_b (L : Lv) (k : Nat) (x0_0 : Int) (x0_1 : Bool) (x1 : Int) : Option (Bool × Int × Bool) := bodyK noEq Try.prog (orK L) kp k 36 [.ref 46 [.d (C.int .i64 x0_0), .d (C.bool x0_1)] 0, .v (.one (.c (C.int .i64 x1)))] path_measure_part_d
noncomputable def path_add_string_2_b (L : Lv) (k : Nat) (x0 : LL) (x1 : ByteArray) : Option LL := bodyK noEq Try.prog (orK L) kp k 42 [.v (.one (.c (C.row 9 x0))), .v (.one (.c (C.str x1)))] path_add_string_2_d
noncomputable def path_measure_filter_b (L : Lv) (k : Nat) (x0_0 : Int) (x0_1 : Bool) (x1_0 : Int) (x1_1 x1_2 x1_3 : ByteArray) (x1_4 x1_5 : LL) (x2 : Int) : Option (Int × Bool) := bodyK noEq Try.prog (orK L) kp k 37 [.ref 46 [.d (C.int .i64 x0_0), .d (C.bool x0_1)] 0, .v (.agg [.c (C.int .i64 x1_0), .c (C.str x1_1), .c (C.str x1_2), .c (C.str x1_3), .c (C.row 52 x1_4), .c (C.row 25 x1_5)]), .v (.one (.c (C.int .i64 x2)))] path_measure_filter_d
noncomputable def path_measure_filter_l0 (L : Lv) (k : Nat) (x0_0 : Int) (x0_1 : Bool) (x1_0 : Int) (x1_1 x1_2 x1_3 : ByteArray) (x1_4 x1_5 : LL) (x2 : Int) (m0 : Nat) (v1 v2 : Int) (v3 : Bool) : Option (Int × Bool) := headK noEq Try.prog (orK L) kp k 37 [.ref 46 [.d (C.int .i64 x0_0), .d (C.bool x0_1)] 0, .v (.agg [.c (C.int .i64 x1_0), .c (C.str x1_1), .c (C.str x1_2), .c (C.str x1_3), .c (C.row 52 x1_4), .c (C.row 25 x1_5)]), .v (.one (.c (C.int .i64 x2)))] [1, 1, 1, 0, 1, 0] [m0] ⟨[(0, .one (.ptr 0 0)), (2, .one (.c (C.int .i64 x2))), (4, .one (.ptr 193 0)), (6, .one (.c (C.int .i64 v1)))], [(0, .box 46 [.c (C.int .i64 v2), .c (C.bool v3)]), (193, .box 52 [.c (C.int .i64 x1_0), .c (C.str x1_1), .c (C.str x1_2), .c (C.str x1_3), .c (C.row 52 x1_4), .c (C.row 25 x1_5)])], 195, 61⟩ path_measure_filter_d
noncomputable def path_measure_filter_l1 (L : Lv) (k : Nat) (x0_0 : Int) (x0_1 : Bool) (x1_0 : Int) (x1_1 x1_2 x1_3 : ByteArray) (x1_4 x1_5 : LL) (x2 : Int) (m0 : Nat) (v1 v2 : Int) (v3 : Bool) : Option (Int × Bool) := headK noEq Try.prog (orK L) kp k 37 [.ref 46 [.d (C.int .i64 x0_0), .d (C.bool x0_1)] 0, .v (.agg [.c (C.int .i64 x1_0), .c (C.str x1_1), .c (C.str x1_2), .c (C.str x1_3), .c (C.row 52 x1_4), .c (C.row 25 x1_5)]), .v (.one (.c (C.int .i64 x2)))] [1, 1, 1, 1, 1, 0] [m0] ⟨[(0, .one (.ptr 0 0)), (2, .one (.c (C.int .i64 x2))), (4, .one (.ptr 193 0)), (7, .one (.c (C.int .i64 v1)))], [(0, .box 46 [.c (C.int .i64 v2), .c (C.bool v3)]), (193, .box 52 [.c (C.int .i64 x1_0), .c (C.str x1_1), .c (C.str x1_2), .c (C.str x1_3), .c (C.row 52 x1_4), .c (C.row 25 x1_5)])], 195, 61⟩ path_measure_filter_d
noncomputable def path_shape_b (L : Lv) (k : Nat) (x0_0 : Int) (x0_1 x0_2 x0_3 : ByteArray) (x0_4 x0_5 : LL) : Option Bool := bodyK noEq Try.prog (orK L) kp k 43 [.v (.agg [.c (C.int .i64 x0_0), .c (C.str x0_1), .c (C.str x0_2), .c (C.str x0_3), .c (C.row 52 x0_4), .c (C.row 25 x0_5)])] path_shape_d
noncomputable def path_shape_l0 (L : Lv) (k : Nat) (x0_0 : Int) (x0_1 x0_2 x0_3 : ByteArray) (x0_4 x0_5 : LL) (v1 : Bool) : Option Bool := headK noEq Try.prog (orK L) kp k 43 [.v (.agg [.c (C.int .i64 x0_0), .c (C.str x0_1), .c (C.str x0_2), .c (C.str x0_3), .c (C.row 52 x0_4), .c (C.row 25 x0_5)])] [1, 1, 1, 1, 0, 1, 0, 0, 0] [] ⟨[(1, .one (.ptr 64 0)), (3, .one (.c (C.bool ((x0_1 == (⟨#[]⟩ : ByteArray)) && ((x0_2 == (⟨#[]⟩ : ByteArray)) && true))))), (4, .one (.c (C.bool v1))), (5, .one (.c (C.int .i64 (x0_4.length : Int)))), (6, .one (.c (C.int .i64 (x0_5.length : Int)))), (24, .one (.c (C.int .i64 x0_0)))], [(64, .box 52 [.c (C.int .i64 x0_0), .c (C.str x0_1), .c (C.str x0_2), .c (C.str x0_3), .c (C.row 52 x0_4), .c (C.row 25 x0_5)])], 66, 130⟩ path_shape_d
noncomputable def path_shape_l1 (L : Lv) (k : Nat) (x0_0 : Int) (x0_1 x0_2 x0_3 : ByteArray) (x0_4 x0_5 : LL) (v1 : Bool) : Option Bool := headK noEq Try.prog (orK L) kp k 43 [.v (.agg [.c (C.int .i64 x0_0), .c (C.str x0_1), .c (C.str x0_2), .c (C.str x0_3), .c (C.row 52 x0_4), .c (C.row 25 x0_5)])] [1, 1, 1, 1, 0, 1, 0, 1, 1, 0, 0] [] ⟨[(1, .one (.ptr 64 0)), (3, .one (.c (C.bool ((x0_1 == (⟨#[]⟩ : ByteArray)) && ((x0_2 == (⟨#[]⟩ : ByteArray)) && true))))), (4, .one (.c (C.bool v1))), (5, .one (.c (C.int .i64 (x0_4.length : Int)))), (6, .one (.c (C.int .i64 (x0_5.length : Int)))), (24, .one (.c (C.int .i64 x0_0)))], [(64, .box 52 [.c (C.int .i64 x0_0), .c (C.str x0_1), .c (C.str x0_2), .c (C.str x0_3), .c (C.row 52 x0_4), .c (C.row 25 x0_5)])], 66, 130⟩ path_shape_d
noncomputable def path_shape_l2 (L : Lv) (k : Nat) (x0_0 : Int) (x0_1 x0_2 x0_3 : ByteArray) (x0_4 x0_5 : LL) (v1 : Bool) : Option Bool := headK noEq Try.prog (orK L) kp k 43 [.v (.agg [.c (C.int .i64 x0_0), .c (C.str x0_1), .c (C.str x0_2), .c (C.str x0_3), .c (C.row 52 x0_4), .c (C.row 25 x0_5)])] [1, 1, 1, 1, 0, 1, 0, 1, 1, 1, 1, 0] [] ⟨[(1, .one (.ptr 64 0)), (3, .one (.c (C.bool ((x0_1 == (⟨#[]⟩ : ByteArray)) && ((x0_2 == (⟨#[]⟩ : ByteArray)) && true))))), (4, .one (.c (C.bool v1))), (5, .one (.c (C.int .i64 (x0_4.length : Int)))), (6, .one (.c (C.int .i64 (x0_5.length : Int)))), (24, .one (.c (C.int .i64 x0_0)))], [(64, .box 52 [.c (C.int .i64 x0_0), .c (C.str x0_1), .c (C.str x0_2), .c (C.str x0_3), .c (C.row 52 x0_4), .c (C.row 25 x0_5)])], 66, 130⟩ path_shape_d
noncomputable def path_named_b (L : Lv) (k : Nat) (x0_0 x0_1 : ByteArray) : Option Bool := bodyK noEq Try.prog (orK L) kp k 51 [.v (.agg [.c (C.str x0_0), .c (C.str x0_1)])] path_named_d
noncomputable def path_value_b (L : Lv) (k : Nat) (x0 : ByteArray) : Option Bool := bodyK noEq Try.prog (orK L) kp k 52 [.v (.one (.c (C.str x0)))] path_value_d
noncomputable def name_Plain_b (L : Lv) (k : Nat) (x0 : ByteArray) : Option Bool := bodyK noEq Try.prog (orK L) kp k 58 [.v (.one (.c (C.str x0)))] name_Plain_d
noncomputable def name_Plain_l0 (L : Lv) (k : Nat) (x0 : ByteArray) (m0 v2 : Nat) : Option Bool := headK noEq Try.prog (orK L) kp k 58 [.v (.one (.c (C.str x0)))] [1, 0, 1, 0] [m0] ⟨[(0, .one (.c (C.str x0))), (6, .itr 64)], [(64, .iter x0 v2)], 66, 25⟩ name_Plain_d
noncomputable def utf_All_b (L : Lv) (k : Nat) (x0 : ByteArray) : Option (LL × Int × Int) := bodyK noEq Try.prog (orK L) kp k 60 [.v (.one (.c (C.str x0)))] utf_All_d
noncomputable def utf_All_l0 (L : Lv) (k : Nat) (x0 : ByteArray) (m0 : Nat) : Option (LL × Int × Int) := headK noEq Try.prog (orK L) kp k 60 [.v (.one (.c (C.str x0)))] [1, 1, 1, 0, 0] [m0] ⟨[(0, .one (.c (C.str x0))), (5, .one (.c (C.nil 21))), (6, .one (.c (C.int .i64 0)))], [], 65, 35⟩ utf_All_d
noncomputable def utf_All_l1 (L : Lv) (k : Nat) (x0 : ByteArray) (m0 : Nat) (v1 : Int) (v2 : LL) : Option (LL × Int × Int) := headK noEq Try.prog (orK L) kp k 60 [.v (.one (.c (C.str x0)))] [1, 1, 1, 0, 0] [m0] ⟨[(0, .one (.c (C.str x0))), (5, .one (.arr 64)), (6, .one (.c (C.int .i64 v1)))], [(64, .arr 21 false v2)], 66, 35⟩ utf_All_d
noncomputable def char_Start_b (L : Lv) (k : Nat) (x0 : Int) : Option Bool := bodyK noEq Try.prog (orK L) kp k 67 [.v (.one (.c (C.int .i32 x0)))] char_Start_d
noncomputable def utf_Rune_b (L : Lv) (k : Nat) (x0 : ByteArray) (x1 : Int) : Option (Int × Int × Int) := bodyK noEq Try.prog (orK L) kp k 70 [.v (.one (.c (C.str x0))), .v (.one (.c (C.int .i64 x1)))] utf_Rune_d
noncomputable def utf_Rune_l0 (L : Lv) (k : Nat) (x0 : ByteArray) (x1 : Int) (m0 : Nat) (v2 v3 v4 v5 v6 v7 v8 v9 v10 v11 v12 v13 v14 : Int) : Option (Int × Int × Int) := headK noEq Try.prog (orK L) kp k 70 [.v (.one (.c (C.str x0))), .v (.one (.c (C.int .i64 x1)))] [1, 1, 0, 1, 0] [m0] ⟨[(0, .one (.c (C.str x0))), (1, .one (.c (C.int .i64 x1))), (21, .agg [.c (C.int .u8 v2), .c (C.int .u8 v3), .c (C.int .i32 v4), .c (C.int .u8 v5), .c (C.int .u8 v6), .c (C.int .i32 v7), .c (C.int .u8 v8), .c (C.int .u8 v9), .c (C.int .i32 v10), .c (C.int .u8 v11), .c (C.int .u8 v12), .c (C.int .i32 v13)]), (22, .one (.c (C.int .i64 v14)))], [], 129, 115⟩ utf_Rune_d
noncomputable def utf_Rune_l1 (L : Lv) (k : Nat) (x0 : ByteArray) (x1 : Int) (m0 : Nat) (v2 v3 v4 v5 v6 v7 v8 v9 v10 v11 v12 v13 v14 v15 v16 v17 v18 : Int) : Option (Int × Int × Int) := headK noEq Try.prog (orK L) kp k 70 [.v (.one (.c (C.str x0))), .v (.one (.c (C.int .i64 x1)))] [1, 1, 0, 1, 0, 0, 1, 1, 0, 0, 1, 0, 0] [m0] ⟨[(0, .one (.c (C.str x0))), (1, .one (.c (C.int .i64 x1))), (7, .one (.c (C.int .i64 v2))), (8, .one (.ptr 128 0)), (21, .agg [.c (C.int .u8 v3), .c (C.int .u8 v4), .c (C.int .i32 v5), .c (C.int .u8 v6), .c (C.int .u8 v7), .c (C.int .i32 v8), .c (C.int .u8 v9), .c (C.int .u8 v10), .c (C.int .i32 v11), .c (C.int .u8 v12), .c (C.int .u8 v13), .c (C.int .i32 v14)]), (22, .one (.c (C.int .i64 v15)))], [(128, .box 108 [.c (C.int .u8 v16), .c (C.int .u8 v17), .c (C.int .i32 v18)])], 130, 115⟩ utf_Rune_d
noncomputable def utf_Rune_l2 (L : Lv) (k : Nat) (x0 : ByteArray) (x1 : Int) (m0 m1 : Nat) (v2 v3 v4 v5 v6 v7 : Int) : Option (Int × Int × Int) := headK noEq Try.prog (orK L) kp k 70 [.v (.one (.c (C.str x0))), .v (.one (.c (C.int .i64 x1)))] [1, 1, 0, 1, 0, 0, 1, 1, 0, 0, 1, 1, 1, 1, 0, 0] [m0, m1] ⟨[(0, .one (.c (C.str x0))), (1, .one (.c (C.int .i64 x1))), (7, .one (.c (C.int .i64 v2))), (8, .one (.ptr 128 0)), (9, .one (.c (C.int .i32 v3))), (10, .one (.c (C.int .i64 v4)))], [(128, .box 108 [.c (C.int .u8 v5), .c (C.int .u8 v6), .c (C.int .i32 v7)])], 130, 115⟩ utf_Rune_d
noncomputable def utf_Rune_l3 (L : Lv) (k : Nat) (x0 : ByteArray) (x1 : Int) (m0 : Nat) (v2 v3 v4 v5 v6 v7 : Int) : Option (Int × Int × Int) := headK noEq Try.prog (orK L) kp k 70 [.v (.one (.c (C.str x0))), .v (.one (.c (C.int .i64 x1)))] [1, 1, 0, 1, 0, 0, 1, 1, 0, 0, 1, 1, 1, 1, 1, 0] [m0] ⟨[(0, .one (.c (C.str x0))), (1, .one (.c (C.int .i64 x1))), (7, .one (.c (C.int .i64 v2))), (8, .one (.ptr 128 0)), (9, .one (.c (C.int .i32 v3))), (10, .one (.c (C.int .i64 v4)))], [(128, .box 108 [.c (C.int .u8 v5), .c (C.int .u8 v6), .c (C.int .i32 v7)])], 130, 115⟩ utf_Rune_d
noncomputable def char_in_b (L : Lv) (k : Nat) (x0 : Int) (x1 : LL) : Option Bool := bodyK noEq Try.prog (orK L) kp k 72 [.v (.one (.c (C.int .i32 x0))), .v (.one (.c (C.row 99 x1)))] char_in_d
noncomputable def char_in_l0 (L : Lv) (k : Nat) (x0 : Int) (x1 : LL) (m0 : Nat) (v3 : Int) : Option Bool := headK noEq Try.prog (orK L) kp k 72 [.v (.one (.c (C.int .i32 x0))), .v (.one (.c (C.row 99 x1)))] [1, 0, 1, 0] [m0] ⟨[(0, .one (.c (C.int .i32 x0))), (7, .one (.c (C.row 99 x1))), (8, .one (.c (C.int .i64 (x1.length : Int)))), (9, .one (.c (C.int .i64 v3)))], [], 129, 24⟩ char_in_d
noncomputable def utf_forms_b (L : Lv) (k : Nat) : Option (Int × Int × Int × Int × Int × Int × Int × Int × Int × Int × Int × Int) := bodyK noEq Try.prog (orK L) kp k 77 [] utf_forms_d
noncomputable def char_All_b (L : Lv) (k : Nat) (x0 : ByteArray) : Option Bool := bodyK noEq Try.prog (orK L) kp k 61 [.v (.one (.c (C.str x0))), .v (.one (.c (C.row 87 [[C.fn (some 62)]])))] char_All_d
noncomputable def char_All_l0 (L : Lv) (k : Nat) (x0 : ByteArray) (m0 v1 : Nat) : Option Bool := headK noEq Try.prog (orK L) kp k 61 [.v (.one (.c (C.str x0))), .v (.one (.c (C.row 87 [[C.fn (some 62)]])))] [1, 0, 1, 0] [m0] ⟨[(1, .one (.c (C.row 87 [[C.fn (some 62)]]))), (11, .itr 128)], [(128, .iter x0 v1)], 130, 30⟩ char_All_d
noncomputable def char_All_l1 (L : Lv) (k : Nat) (x0 : ByteArray) (m0 m1 : Nat) (v0 : Int) (v1 : Bool) (v3 : Int) (v5 : Nat) : Option Bool := headK noEq Try.prog (orK L) kp k 61 [.v (.one (.c (C.str x0))), .v (.one (.c (C.row 87 [[C.fn (some 62)]])))] [1, 0, 1, 0, 0, 1, 1, 0, 1, 1, 0, 1, 0] [m0, m1] ⟨[(1, .one (.c (C.row 87 [[C.fn (some 62)]]))), (6, .one (.c (C.int .i32 v0))), (7, .one (.c (C.bool v1))), (11, .itr 128), (15, .one (.c (C.row 87 [[C.fn (some 62)]]))), (16, .one (.c (C.int .i64 1))), (17, .one (.c (C.int .i64 v3)))], [(128, .iter x0 v5)], 130, 30⟩ char_All_d
noncomputable def utf_span_b (L : Lv) (k : Nat) (x0 x1 : Int) : Option (Int × Int) := bodyK noEq Try.prog (orK L) kp k 78 [.v (.one (.c (C.int .i32 x0))), .v (.one (.c (C.int .i64 x1)))] utf_span_d
noncomputable def char_Char_b (L : Lv) (k : Nat) (x0 : Int) : Option Bool := bodyK noEq Try.prog (orK L) kp k 62 [.v (.one (.c (C.int .i32 x0)))] char_Char_d
noncomputable def char_Blank_b (L : Lv) (k : Nat) (x0 : Int) : Option Bool := bodyK noEq Try.prog (orK L) kp k 71 [.v (.one (.c (C.int .i32 x0)))] char_Blank_d
noncomputable def char_Part_b (L : Lv) (k : Nat) (x0 : Int) : Option Bool := bodyK noEq Try.prog (orK L) kp k 68 [.v (.one (.c (C.int .i32 x0)))] char_Part_d
noncomputable def path_Size_b (L : Lv) (k : Nat) (x0_0 : Int) (x0_1 x0_2 : LL) : Option Int := bodyK noEq Try.prog (orK L) kp k 13 [.v (.agg [.c (C.int .i64 x0_0), .c (C.row 25 x0_1), .c (C.row 52 x0_2)])] path_Size_d
noncomputable def orielref12_Size_b (L : Lv) (k : Nat) (x0_0 : Int) (x0_1 x0_2 : LL) : Option Int := bodyK noEq Try.prog (orK L) kp k 8 [.v (.agg [.c (C.int .i64 x0_0), .c (C.row 25 x0_1), .c (C.row 52 x0_2)])] orielref12_Size_d
noncomputable def path_Same_b (L : Lv) (k : Nat) (x0_0 : Int) (x0_1 x0_2 : LL) (x1_0 : Int) (x1_1 x1_2 : LL) : Option Bool := bodyK noEq Try.prog (orK L) kp k 11 [.v (.agg [.c (C.int .i64 x0_0), .c (C.row 25 x0_1), .c (C.row 52 x0_2)]), .v (.agg [.c (C.int .i64 x1_0), .c (C.row 25 x1_1), .c (C.row 52 x1_2)])] path_Same_d
noncomputable def orielref12_size_b (L : Lv) (k : Nat) (x0_0 : Int) (x0_1 x0_2 : LL) (x1 : Int) : Option Int := bodyK noEq Try.prog (orK L) kp k 21 [.v (.agg [.c (C.int .i64 x0_0), .c (C.row 25 x0_1), .c (C.row 52 x0_2)]), .v (.one (.c (C.int .i64 x1)))] orielref12_size_d
noncomputable def orielref12_size_l0 (L : Lv) (k : Nat) (x0_0 : Int) (x0_1 x0_2 : LL) (x1 : Int) (m0 : Nat) (v1 v2 : Int) : Option Int := headK noEq Try.prog (orK L) kp k 21 [.v (.agg [.c (C.int .i64 x0_0), .c (C.row 25 x0_1), .c (C.row 52 x0_2)]), .v (.one (.c (C.int .i64 x1)))] [1, 1, 0, 1, 0] [m0] ⟨[(1, .one (.c (C.int .i64 x1))), (2, .one (.ptr 128 0)), (5, .one (.c (C.int .i64 v1))), (6, .one (.c (C.int .i64 v2)))], [(128, .box 25 [.c (C.int .i64 x0_0), .c (C.row 25 x0_1), .c (C.row 52 x0_2)])], 130, 55⟩ orielref12_size_d
noncomputable def orielref12_size_l1 (L : Lv) (k : Nat) (x0_0 : Int) (x0_1 x0_2 : LL) (x1 : Int) (m0 : Nat) (v1 v2 : Int) : Option Int := headK noEq Try.prog (orK L) kp k 21 [.v (.agg [.c (C.int .i64 x0_0), .c (C.row 25 x0_1), .c (C.row 52 x0_2)]), .v (.one (.c (C.int .i64 x1)))] [1, 1, 1, 0, 1, 0] [m0] ⟨[(1, .one (.c (C.int .i64 x1))), (2, .one (.ptr 128 0)), (5, .one (.c (C.int .i64 v1))), (7, .one (.c (C.int .i64 v2)))], [(128, .box 25 [.c (C.int .i64 x0_0), .c (C.row 25 x0_1), .c (C.row 52 x0_2)])], 130, 55⟩ orielref12_size_d
noncomputable def api_Path_b (L : Lv) (k : Nat) (x0 x1 : LL) : Option Bool := bodyK noEq Try.prog (orK L) kp k 24 [.v (.one (.c (C.row 25 x0))), .v (.one (.c (C.row 25 x1))), .fn 11] api_Path_d
noncomputable def api_Path_l0 (L : Lv) (k : Nat) (x0 x1 : LL) (m0 : Nat) (v3 : Int) : Option Bool := headK noEq Try.prog (orK L) kp k 24 [.v (.one (.c (C.row 25 x0))), .v (.one (.c (C.row 25 x1))), .fn 11] [1, 1, 0, 1, 0] [m0] ⟨[(1, .one (.c (C.row 25 x1))), (2, .fn 11), (15, .one (.c (C.row 25 x0))), (16, .one (.c (C.int .i64 (x0.length : Int)))), (17, .one (.c (C.int .i64 v3)))], [], 193, 32⟩ api_Path_d
noncomputable def orielref12_sizeFilter_b (L : Lv) (k : Nat) (x0_0 : Int) (x0_1 x0_2 x0_3 : ByteArray) (x0_4 x0_5 : LL) (x1 : Int) : Option Int := bodyK noEq Try.prog (orK L) kp k 32 [.v (.agg [.c (C.int .i64 x0_0), .c (C.str x0_1), .c (C.str x0_2), .c (C.str x0_3), .c (C.row 52 x0_4), .c (C.row 25 x0_5)]), .v (.one (.c (C.int .i64 x1)))] orielref12_sizeFilter_d
noncomputable def orielref12_sizeFilter_l0 (L : Lv) (k : Nat) (x0_0 : Int) (x0_1 x0_2 x0_3 : ByteArray) (x0_4 x0_5 : LL) (x1 : Int) (m0 : Nat) (v1 v2 : Int) : Option Int := headK noEq Try.prog (orK L) kp k 32 [.v (.agg [.c (C.int .i64 x0_0), .c (C.str x0_1), .c (C.str x0_2), .c (C.str x0_3), .c (C.row 52 x0_4), .c (C.row 25 x0_5)]), .v (.one (.c (C.int .i64 x1)))] [1, 1, 0, 1, 0] [m0] ⟨[(1, .one (.c (C.int .i64 x1))), (2, .one (.ptr 128 0)), (5, .one (.c (C.int .i64 v1))), (6, .one (.c (C.int .i64 v2)))], [(128, .box 52 [.c (C.int .i64 x0_0), .c (C.str x0_1), .c (C.str x0_2), .c (C.str x0_3), .c (C.row 52 x0_4), .c (C.row 25 x0_5)])], 130, 55⟩ orielref12_sizeFilter_d
noncomputable def orielref12_sizeFilter_l1 (L : Lv) (k : Nat) (x0_0 : Int) (x0_1 x0_2 x0_3 : ByteArray) (x0_4 x0_5 : LL) (x1 : Int) (m0 : Nat) (v1 v2 : Int) : Option Int := headK noEq Try.prog (orK L) kp k 32 [.v (.agg [.c (C.int .i64 x0_0), .c (C.str x0_1), .c (C.str x0_2), .c (C.str x0_3), .c (C.row 52 x0_4), .c (C.row 25 x0_5)]), .v (.one (.c (C.int .i64 x1)))] [1, 1, 1, 0, 1, 0] [m0] ⟨[(1, .one (.c (C.int .i64 x1))), (2, .one (.ptr 128 0)), (5, .one (.c (C.int .i64 v1))), (7, .one (.c (C.int .i64 v2)))], [(128, .box 52 [.c (C.int .i64 x0_0), .c (C.str x0_1), .c (C.str x0_2), .c (C.str x0_3), .c (C.row 52 x0_4), .c (C.row 25 x0_5)])], 130, 55⟩ orielref12_sizeFilter_d
noncomputable def api_Filter_b (L : Lv) (k : Nat) (x0 x1 : LL) : Option Bool := bodyK noEq Try.prog (orK L) kp k 25 [.v (.one (.c (C.row 52 x0))), .v (.one (.c (C.row 52 x1))), .fn 26] api_Filter_d
noncomputable def api_Filter_l0 (L : Lv) (k : Nat) (x0 x1 : LL) (m0 : Nat) (v3 : Int) : Option Bool := headK noEq Try.prog (orK L) kp k 25 [.v (.one (.c (C.row 52 x0))), .v (.one (.c (C.row 52 x1))), .fn 26] [1, 1, 0, 1, 0] [m0] ⟨[(1, .one (.c (C.row 52 x1))), (2, .fn 26), (15, .one (.c (C.row 52 x0))), (16, .one (.c (C.int .i64 (x0.length : Int)))), (17, .one (.c (C.int .i64 v3)))], [], 193, 32⟩ api_Filter_d
noncomputable def path_sameFilter_b (L : Lv) (k : Nat) (x0_0 : Int) (x0_1 x0_2 x0_3 : ByteArray) (x0_4 x0_5 : LL) (x1_0 : Int) (x1_1 x1_2 x1_3 : ByteArray) (x1_4 x1_5 : LL) : Option Bool := bodyK noEq Try.prog (orK L) kp k 26 [.v (.agg [.c (C.int .i64 x0_0), .c (C.str x0_1), .c (C.str x0_2), .c (C.str x0_3), .c (C.row 52 x0_4), .c (C.row 25 x0_5)]), .v (.agg [.c (C.int .i64 x1_0), .c (C.str x1_1), .c (C.str x1_2), .c (C.str x1_3), .c (C.row 52 x1_4), .c (C.row 25 x1_5)])] path_sameFilter_d
noncomputable def orielref12_Right_b (L : Lv) (k : Nat) (x0_0 : Int) (x0_1 x0_2 : LL) : Option Bool := bodyK noEq Try.prog (orK L) kp k 10 [.v (.agg [.c (C.int .i64 x0_0), .c (C.row 25 x0_1), .c (C.row 52 x0_2)])] orielref12_Right_d
noncomputable def orielref12_path_b (L : Lv) (k : Nat) (x0_0 : Int) (x0_1 x0_2 : LL) (x1 : Int) : Option Bool := bodyK noEq Try.prog (orK L) kp k 23 [.v (.agg [.c (C.int .i64 x0_0), .c (C.row 25 x0_1), .c (C.row 52 x0_2)]), .v (.one (.c (C.int .i64 x1)))] orielref12_path_d
noncomputable def orielref12_path_l0 (L : Lv) (k : Nat) (x0_0 : Int) (x0_1 x0_2 : LL) (x1 v1 v2 : Int) : Option Bool := headK noEq Try.prog (orK L) kp k 23 [.v (.agg [.c (C.int .i64 x0_0), .c (C.row 25 x0_1), .c (C.row 52 x0_2)]), .v (.one (.c (C.int .i64 x1)))] [1, 1, 1, 1, 1, 1, 0, 0] [] ⟨[(1, .one (.c (C.int .i64 x1))), (2, .one (.ptr 128 0)), (5, .one (.c (C.int .i64 v1))), (6, .one (.c (C.int .i64 v2)))], [(128, .box 25 [.c (C.int .i64 x0_0), .c (C.row 25 x0_1), .c (C.row 52 x0_2)])], 130, 88⟩ orielref12_path_d
noncomputable def orielref12_path_l1 (L : Lv) (k : Nat) (x0_0 : Int) (x0_1 x0_2 : LL) (x1 : Int) (m0 : Nat) (v1 : Int) : Option Bool := headK noEq Try.prog (orK L) kp k 23 [.v (.agg [.c (C.int .i64 x0_0), .c (C.row 25 x0_1), .c (C.row 52 x0_2)]), .v (.one (.c (C.int .i64 x1)))] [1, 1, 1, 1, 1, 1, 1, 0, 1, 0] [m0] ⟨[(1, .one (.c (C.int .i64 x1))), (2, .one (.ptr 128 0)), (7, .one (.c (C.int .i64 v1)))], [(128, .box 25 [.c (C.int .i64 x0_0), .c (C.row 25 x0_1), .c (C.row 52 x0_2)])], 130, 88⟩ orielref12_path_d
noncomputable def orielref12_filter_b (L : Lv) (k : Nat) (x0_0 : Int) (x0_1 x0_2 x0_3 : ByteArray) (x0_4 x0_5 : LL) (x1 : Int) : Option Bool := bodyK noEq Try.prog (orK L) kp k 34 [.v (.agg [.c (C.int .i64 x0_0), .c (C.str x0_1), .c (C.str x0_2), .c (C.str x0_3), .c (C.row 52 x0_4), .c (C.row 25 x0_5)]), .v (.one (.c (C.int .i64 x1)))] orielref12_filter_d
noncomputable def orielref12_filter_l0 (L : Lv) (k : Nat) (x0_0 : Int) (x0_1 x0_2 x0_3 : ByteArray) (x0_4 x0_5 : LL) (x1 : Int) (v1 v2 : Bool) : Option Bool := headK noEq Try.prog (orK L) kp k 34 [.v (.agg [.c (C.int .i64 x0_0), .c (C.str x0_1), .c (C.str x0_2), .c (C.str x0_3), .c (C.row 52 x0_4), .c (C.row 25 x0_5)]), .v (.one (.c (C.int .i64 x1)))] [1, 1, 1, 1, 0, 0] [] ⟨[(1, .one (.c (C.int .i64 x1))), (2, .one (.ptr 128 0)), (5, .one (.c (C.bool v1))), (6, .one (.c (C.bool v2)))], [(128, .box 52 [.c (C.int .i64 x0_0), .c (C.str x0_1), .c (C.str x0_2), .c (C.str x0_3), .c (C.row 52 x0_4), .c (C.row 25 x0_5)])], 130, 144⟩ orielref12_filter_d
noncomputable def orielref12_filter_l1 (L : Lv) (k : Nat) (x0_0 : Int) (x0_1 x0_2 x0_3 : ByteArray) (x0_4 x0_5 : LL) (x1 : Int) (v1 : Bool) : Option Bool := headK noEq Try.prog (orK L) kp k 34 [.v (.agg [.c (C.int .i64 x0_0), .c (C.str x0_1), .c (C.str x0_2), .c (C.str x0_3), .c (C.row 52 x0_4), .c (C.row 25 x0_5)]), .v (.one (.c (C.int .i64 x1)))] [1, 1, 1, 1, 1, 0, 0] [] ⟨[(1, .one (.c (C.int .i64 x1))), (2, .one (.ptr 128 0)), (6, .one (.c (C.bool v1)))], [(128, .box 52 [.c (C.int .i64 x0_0), .c (C.str x0_1), .c (C.str x0_2), .c (C.str x0_3), .c (C.row 52 x0_4), .c (C.row 25 x0_5)])], 130, 144⟩ orielref12_filter_d
noncomputable def orielref12_filter_l2 (L : Lv) (k : Nat) (x0_0 : Int) (x0_1 x0_2 x0_3 : ByteArray) (x0_4 x0_5 : LL) (x1 v1 v2 : Int) : Option Bool := headK noEq Try.prog (orK L) kp k 34 [.v (.agg [.c (C.int .i64 x0_0), .c (C.str x0_1), .c (C.str x0_2), .c (C.str x0_3), .c (C.row 52 x0_4), .c (C.row 25 x0_5)]), .v (.one (.c (C.int .i64 x1)))] [1, 1, 1, 1, 1, 1, 1, 1, 1, 0, 0] [] ⟨[(1, .one (.c (C.int .i64 x1))), (2, .one (.ptr 128 0)), (7, .one (.c (C.int .i64 v1))), (8, .one (.c (C.int .i64 v2)))], [(128, .box 52 [.c (C.int .i64 x0_0), .c (C.str x0_1), .c (C.str x0_2), .c (C.str x0_3), .c (C.row 52 x0_4), .c (C.row 25 x0_5)])], 130, 144⟩ orielref12_filter_d
noncomputable def orielref12_filter_l3 (L : Lv) (k : Nat) (x0_0 : Int) (x0_1 x0_2 x0_3 : ByteArray) (x0_4 x0_5 : LL) (x1 v1 v2 : Int) : Option Bool := headK noEq Try.prog (orK L) kp k 34 [.v (.agg [.c (C.int .i64 x0_0), .c (C.str x0_1), .c (C.str x0_2), .c (C.str x0_3), .c (C.row 52 x0_4), .c (C.row 25 x0_5)]), .v (.one (.c (C.int .i64 x1)))] [1, 1, 1, 1, 1, 1, 1, 1, 1, 1, 0, 0] [] ⟨[(1, .one (.c (C.int .i64 x1))), (2, .one (.ptr 128 0)), (7, .one (.c (C.int .i64 v1))), (8, .one (.c (C.int .i64 v2)))], [(128, .box 52 [.c (C.int .i64 x0_0), .c (C.str x0_1), .c (C.str x0_2), .c (C.str x0_3), .c (C.row 52 x0_4), .c (C.row 25 x0_5)])], 130, 144⟩ orielref12_filter_d
noncomputable def orielref12_filter_l4 (L : Lv) (k : Nat) (x0_0 : Int) (x0_1 x0_2 x0_3 : ByteArray) (x0_4 x0_5 : LL) (x1 : Int) (m0 : Nat) (v1 : Int) : Option Bool := headK noEq Try.prog (orK L) kp k 34 [.v (.agg [.c (C.int .i64 x0_0), .c (C.str x0_1), .c (C.str x0_2), .c (C.str x0_3), .c (C.row 52 x0_4), .c (C.row 25 x0_5)]), .v (.one (.c (C.int .i64 x1)))] [1, 1, 1, 1, 1, 1, 1, 1, 1, 1, 1, 0, 1, 0] [m0] ⟨[(1, .one (.c (C.int .i64 x1))), (2, .one (.ptr 128 0)), (9, .one (.c (C.int .i64 v1)))], [(128, .box 52 [.c (C.int .i64 x0_0), .c (C.str x0_1), .c (C.str x0_2), .c (C.str x0_3), .c (C.row 52 x0_4), .c (C.row 25 x0_5)])], 130, 144⟩ orielref12_filter_d
noncomputable def orielref12_named_b (L : Lv) (k : Nat) (x0_0 x0_1 : ByteArray) : Option Bool := bodyK noEq Try.prog (orK L) kp k 38 [.v (.agg [.c (C.str x0_0), .c (C.str x0_1)])] orielref12_named_d
noncomputable def orielref04_Right_b (L : Lv) (k : Nat) (x0 : ByteArray) : Option Bool := bodyK noEq Try.prog (orK L) kp k 39 [.v (.one (.c (C.str x0)))] orielref04_Right_d
noncomputable def orielref04_Right_l0 (L : Lv) (k : Nat) (x0 : ByteArray) (m0 : Nat) (v0 v1 : Int) (v2 : LL) : Option Bool := headK noEq Try.prog (orK L) kp k 39 [.v (.one (.c (C.str x0)))] [1, 1, 0, 1, 0] [m0] ⟨[(3, .one (.arr 64)), (5, .one (.c (C.int .i64 v0))), (6, .one (.c (C.int .i64 v1)))], [(64, .arr 21 false v2)], 66, 28⟩ orielref04_Right_d
noncomputable def orielref03_Plain_b (L : Lv) (k : Nat) (x0 : ByteArray) : Option Bool := bodyK noEq Try.prog (orK L) kp k 44 [.v (.one (.c (C.str x0)))] orielref03_Plain_d
noncomputable def orielref03_Plain_l0 (L : Lv) (k : Nat) (x0 : ByteArray) (m0 : Nat) (v1 : Int) : Option Bool := headK noEq Try.prog (orK L) kp k 44 [.v (.one (.c (C.str x0)))] [1, 1, 1, 0, 1, 0] [m0] ⟨[(3, .one (.c (C.row 21 (runesRow x0)))), (4, .one (.c (C.int .i64 v1)))], [], 65, 31⟩ orielref03_Plain_d
noncomputable def orielref01_All_b (L : Lv) (k : Nat) (x0 : ByteArray) : Option (LL × Int × Int) := bodyK noEq Try.prog (orK L) kp k 46 [.v (.one (.c (C.str x0)))] orielref01_All_d
noncomputable def orielref01_All_l0 (L : Lv) (k : Nat) (x0 : ByteArray) (m0 : Nat) : Option (LL × Int × Int) := headK noEq Try.prog (orK L) kp k 46 [.v (.one (.c (C.str x0)))] [1, 1, 1, 0, 0] [m0] ⟨[(0, .one (.c (C.str x0))), (5, .one (.c (C.nil 21))), (6, .one (.c (C.int .i64 0)))], [], 65, 36⟩ orielref01_All_d
noncomputable def orielref01_All_l1 (L : Lv) (k : Nat) (x0 : ByteArray) (m0 : Nat) (v1 : Int) (v2 : LL) : Option (LL × Int × Int) := headK noEq Try.prog (orK L) kp k 46 [.v (.one (.c (C.str x0)))] [1, 1, 1, 0, 0] [m0] ⟨[(0, .one (.c (C.str x0))), (5, .one (.arr 64)), (6, .one (.c (C.int .i64 v1)))], [(64, .arr 21 false v2)], 66, 36⟩ orielref01_All_d
noncomputable def orielref02_Start_b (L : Lv) (k : Nat) (x0 : Int) : Option Bool := bodyK noEq Try.prog (orK L) kp k 53 [.v (.one (.c (C.int .i64 x0)))] orielref02_Start_d
noncomputable def orielref01_Rune_b (L : Lv) (k : Nat) (x0 : ByteArray) (x1 : Int) : Option (Int × Int × Int) := bodyK noEq Try.prog (orK L) kp k 55 [.v (.one (.c (C.str x0))), .v (.one (.c (C.int .i64 x1)))] orielref01_Rune_d
noncomputable def orielref01_Rune_l0 (L : Lv) (k : Nat) (x0 : ByteArray) (x1 : Int) (m0 : Nat) (v2 : Int) : Option (Int × Int × Int) := headK noEq Try.prog (orK L) kp k 55 [.v (.one (.c (C.str x0))), .v (.one (.c (C.int .i64 x1)))] [1, 1, 0, 1, 0] [m0] ⟨[(0, .one (.c (C.str x0))), (1, .one (.c (C.int .i64 x1))), (7, .one (.c (C.int .i64 v2)))], [], 129, 57⟩ orielref01_Rune_d
noncomputable def orielref01_Put_b (L : Lv) (k : Nat) (x0 : Int) : Option LL := bodyK noEq Try.prog (orK L) kp k 64 [.v (.one (.c (C.int .i64 x0)))] orielref01_Put_d
noncomputable def orielref01_cut_b (L : Lv) (k : Nat) (x0 : ByteArray) (x1 : Int) : Option Bool := bodyK noEq Try.prog (orK L) kp k 66 [.v (.one (.c (C.str x0))), .v (.one (.c (C.int .i64 x1)))] orielref01_cut_d
noncomputable def orielref01_cut_l0 (L : Lv) (k : Nat) (x0 : ByteArray) (x1 : Int) (m0 : Nat) (v3 : Int) : Option Bool := headK noEq Try.prog (orK L) kp k 66 [.v (.one (.c (C.str x0))), .v (.one (.c (C.int .i64 x1)))] [1, 1, 1, 0, 1, 0] [m0] ⟨[(0, .one (.c (C.str x0))), (1, .one (.c (C.int .i64 x1))), (5, .one (.c (C.int .i64 (IntKind.i64.wrap ((x0.size : Int) - x1))))), (6, .one (.c (C.int .i64 v3)))], [], 129, 156⟩ orielref01_cut_d
noncomputable def orielref01_cut_l1 (L : Lv) (k : Nat) (x0 : ByteArray) (x1 : Int) (m0 m1 : Nat) (v3 : Int) (v5 v6 : ByteArray) : Option Bool := headK noEq Try.prog (orK L) kp k 66 [.v (.one (.c (C.str x0))), .v (.one (.c (C.int .i64 x1)))] [1, 1, 1, 0, 1, 0, 0, 1, 0, 0, 1, 1, 1, 0, 0] [m0, m1] ⟨[(0, .one (.c (C.str x0))), (1, .one (.c (C.int .i64 x1))), (5, .one (.c (C.int .i64 (IntKind.i64.wrap ((x0.size : Int) - x1))))), (6, .one (.c (C.int .i64 v3))), (7, .one (.c (C.str (x0.extract x1.toNat ((x0.size : Int).toNat))))), (8, .one (.c (C.str v5))), (9, .one (.c (C.str v6)))], [], 129, 156⟩ orielref01_cut_d
noncomputable def orielref01_cut_l2 (L : Lv) (k : Nat) (x0 : ByteArray) (x1 : Int) (m0 m1 : Nat) (v3 v5 v6 : Int) (v7 : Bool) (v8 : Int) : Option Bool := headK noEq Try.prog (orK L) kp k 66 [.v (.one (.c (C.str x0))), .v (.one (.c (C.int .i64 x1)))] [1, 1, 1, 0, 1, 0, 0, 1, 0, 0, 1, 1, 1, 1, 1, 1, 1, 0, 1, 0] [m0, m1] ⟨[(0, .one (.c (C.str x0))), (1, .one (.c (C.int .i64 x1))), (5, .one (.c (C.int .i64 (IntKind.i64.wrap ((x0.size : Int) - x1))))), (6, .one (.c (C.int .i64 v3))), (7, .one (.c (C.str (x0.extract x1.toNat ((x0.size : Int).toNat))))), (10, .one (.c (C.int .i64 v5))), (11, .one (.c (C.int .i64 v6))), (12, .one (.c (C.bool v7))), (13, .one (.c (C.int .i64 v8)))], [], 129, 156⟩ orielref01_cut_d
noncomputable def orielref01_cut_l3 (L : Lv) (k : Nat) (x0 : ByteArray) (x1 : Int) (m0 : Nat) (v3 v5 v6 : Int) (v7 v8 : Bool) : Option Bool := headK noEq Try.prog (orK L) kp k 66 [.v (.one (.c (C.str x0))), .v (.one (.c (C.int .i64 x1)))] [1, 1, 1, 0, 1, 0, 0, 1, 0, 0, 1, 1, 1, 1, 1, 1, 1, 1, 1, 0, 0] [m0] ⟨[(0, .one (.c (C.str x0))), (1, .one (.c (C.int .i64 x1))), (5, .one (.c (C.int .i64 (IntKind.i64.wrap ((x0.size : Int) - x1))))), (6, .one (.c (C.int .i64 v3))), (7, .one (.c (C.str (x0.extract x1.toNat ((x0.size : Int).toNat))))), (10, .one (.c (C.int .i64 v5))), (11, .one (.c (C.int .i64 v6))), (12, .one (.c (C.bool v7))), (14, .one (.c (C.bool v8)))], [], 129, 156⟩ orielref01_cut_d
noncomputable def orielref01_cut_l4 (L : Lv) (k : Nat) (x0 : ByteArray) (x1 : Int) (m0 m1 : Nat) (v3 v5 v6 v7 : Int) : Option Bool := headK noEq Try.prog (orK L) kp k 66 [.v (.one (.c (C.str x0))), .v (.one (.c (C.int .i64 x1)))] [1, 1, 1, 0, 1, 0, 0, 1, 0, 0, 1, 1, 1, 1, 1, 1, 1, 1, 1, 1, 1, 0] [m0, m1] ⟨[(0, .one (.c (C.str x0))), (1, .one (.c (C.int .i64 x1))), (5, .one (.c (C.int .i64 (IntKind.i64.wrap ((x0.size : Int) - x1))))), (6, .one (.c (C.int .i64 v3))), (7, .one (.c (C.str (x0.extract x1.toNat ((x0.size : Int).toNat))))), (10, .one (.c (C.int .i64 v5))), (11, .one (.c (C.int .i64 v6))), (15, .one (.c (C.int .i64 v7)))], [], 129, 156⟩ orielref01_cut_d
noncomputable def orielref01_value_b (L : Lv) (k : Nat) (x0 : ByteArray) (x1 x2 : Int) : Option Int := bodyK noEq Try.prog (orK L) kp k 63 [.v (.one (.c (C.str x0))), .v (.one (.c (C.int .i64 x1))), .v (.one (.c (C.int .i64 x2)))] orielref01_value_d
noncomputable def orielref01_value_l0 (L : Lv) (k : Nat) (x0 : ByteArray) (x1 x2 : Int) (m0 : Nat) (v3 v4 : Int) : Option Int := headK noEq Try.prog (orK L) kp k 63 [.v (.one (.c (C.str x0))), .v (.one (.c (C.int .i64 x1))), .v (.one (.c (C.int .i64 x2)))] [1, 1, 0, 1, 0] [m0] ⟨[(0, .one (.c (C.str x0))), (1, .one (.c (C.int .i64 x1))), (2, .one (.c (C.int .i64 x2))), (7, .one (.c (C.int .i64 v3))), (8, .one (.c (C.int .i64 v4)))], [], 193, 54⟩ orielref01_value_d
noncomputable def orielref01_value_l1 (L : Lv) (k : Nat) (x0 : ByteArray) (x1 x2 : Int) (m0 : Nat) (v3 v4 v5 : Int) : Option Int := headK noEq Try.prog (orK L) kp k 63 [.v (.one (.c (C.str x0))), .v (.one (.c (C.int .i64 x1))), .v (.one (.c (C.int .i64 x2)))] [1, 1, 0, 1, 0, 0, 1, 0, 0, 1, 1, 1, 0, 0] [m0] ⟨[(0, .one (.c (C.str x0))), (1, .one (.c (C.int .i64 x1))), (2, .one (.c (C.int .i64 x2))), (7, .one (.c (C.int .i64 v3))), (8, .one (.c (C.int .i64 v4))), (9, .one (.c (C.int .i64 v5)))], [], 193, 54⟩ orielref01_value_d
noncomputable def orielref12_Same_b (L : Lv) (k : Nat) (x0_0 : Int) (x0_1 x0_2 : LL) (x1_0 : Int) (x1_1 x1_2 : LL) : Option Bool := bodyK noEq Try.prog (orK L) kp k 12 [.v (.agg [.c (C.int .i64 x0_0), .c (C.row 25 x0_1), .c (C.row 52 x0_2)]), .v (.agg [.c (C.int .i64 x1_0), .c (C.row 25 x1_1), .c (C.row 52 x1_2)])] orielref12_Same_d
noncomputable def orielref12_Same_l0 (L : Lv) (k : Nat) (x0_0 : Int) (x0_1 x0_2 : LL) (x1_0 : Int) (x1_1 x1_2 : LL) (m0 : Nat) (v0 : Int) : Option Bool := headK noEq Try.prog (orK L) kp k 12 [.v (.agg [.c (C.int .i64 x0_0), .c (C.row 25 x0_1), .c (C.row 52 x0_2)]), .v (.agg [.c (C.int .i64 x1_0), .c (C.row 25 x1_1), .c (C.row 52 x1_2)])] [1, 1, 0, 1, 0] [m0] ⟨[(2, .one (.ptr 128 0)), (3, .one (.ptr 129 0)), (5, .one (.c (C.int .i64 v0)))], [(128, .box 25 [.c (C.int .i64 x0_0), .c (C.row 25 x0_1), .c (C.row 52 x0_2)]), (129, .box 25 [.c (C.int .i64 x1_0), .c (C.row 25 x1_1), .c (C.row 52 x1_2)])], 131, 68⟩ orielref12_Same_d
noncomputable def orielref12_Same_l1 (L : Lv) (k : Nat) (x0_0 : Int) (x0_1 x0_2 : LL) (x1_0 : Int) (x1_1 x1_2 : LL) (m0 : Nat) (v0 : Int) : Option Bool := headK noEq Try.prog (orK L) kp k 12 [.v (.agg [.c (C.int .i64 x0_0), .c (C.row 25 x0_1), .c (C.row 52 x0_2)]), .v (.agg [.c (C.int .i64 x1_0), .c (C.row 25 x1_1), .c (C.row 52 x1_2)])] [1, 1, 1, 0, 1, 0] [m0] ⟨[(2, .one (.ptr 128 0)), (3, .one (.ptr 129 0)), (6, .one (.c (C.int .i64 v0)))], [(128, .box 25 [.c (C.int .i64 x0_0), .c (C.row 25 x0_1), .c (C.row 52 x0_2)]), (129, .box 25 [.c (C.int .i64 x1_0), .c (C.row 25 x1_1), .c (C.row 52 x1_2)])], 131, 68⟩ orielref12_Same_d
noncomputable def orielref02_Char_b (L : Lv) (k : Nat) (x0 : Int) : Option Bool := bodyK noEq Try.prog (orK L) kp k 47 [.v (.one (.c (C.int .i64 x0)))] orielref02_Char_d
noncomputable def orielref02_Part_b (L : Lv) (k : Nat) (x0 : Int) : Option Bool := bodyK noEq Try.prog (orK L) kp k 54 [.v (.one (.c (C.int .i64 x0)))] orielref02_Part_d
noncomputable def orielref01_begins_b (L : Lv) (k : Nat) (x0 : ByteArray) (x1 : Int) (x2 : LL) : Option Bool := bodyK noEq Try.prog (orK L) kp k 65 [.v (.one (.c (C.str x0))), .v (.one (.c (C.int .i64 x1))), .v (.one (.c (C.row 5 x2)))] orielref01_begins_d
noncomputable def orielref01_begins_l0 (L : Lv) (k : Nat) (x0 : ByteArray) (x1 : Int) (x2 : LL) (m0 : Nat) (v3 : Int) : Option Bool := headK noEq Try.prog (orK L) kp k 65 [.v (.one (.c (C.str x0))), .v (.one (.c (C.int .i64 x1))), .v (.one (.c (C.row 5 x2)))] [1, 1, 0, 1, 0] [m0] ⟨[(0, .one (.c (C.str x0))), (1, .one (.c (C.int .i64 x1))), (2, .one (.c (C.row 5 x2))), (7, .one (.c (C.int .i64 v3)))], [], 193, 36⟩ orielref01_begins_d
noncomputable def orielref12_SameFilter_b (L : Lv) (k : Nat) (x0_0 : Int) (x0_1 x0_2 x0_3 : ByteArray) (x0_4 x0_5 : LL) (x1_0 : Int) (x1_1 x1_2 x1_3 : ByteArray) (x1_4 x1_5 : LL) : Option Bool := bodyK noEq Try.prog (orK L) kp k 27 [.v (.agg [.c (C.int .i64 x0_0), .c (C.str x0_1), .c (C.str x0_2), .c (C.str x0_3), .c (C.row 52 x0_4), .c (C.row 25 x0_5)]), .v (.agg [.c (C.int .i64 x1_0), .c (C.str x1_1), .c (C.str x1_2), .c (C.str x1_3), .c (C.row 52 x1_4), .c (C.row 25 x1_5)])] orielref12_SameFilter_d
noncomputable def orielref12_SameFilter_l0 (L : Lv) (k : Nat) (x0_0 : Int) (x0_1 x0_2 x0_3 : ByteArray) (x0_4 x0_5 : LL) (x1_0 : Int) (x1_1 x1_2 x1_3 : ByteArray) (x1_4 x1_5 : LL) (m0 : Nat) (v0 : Int) : Option Bool := headK noEq Try.prog (orK L) kp k 27 [.v (.agg [.c (C.int .i64 x0_0), .c (C.str x0_1), .c (C.str x0_2), .c (C.str x0_3), .c (C.row 52 x0_4), .c (C.row 25 x0_5)]), .v (.agg [.c (C.int .i64 x1_0), .c (C.str x1_1), .c (C.str x1_2), .c (C.str x1_3), .c (C.row 52 x1_4), .c (C.row 25 x1_5)])] [1, 1, 0, 1, 0] [m0] ⟨[(2, .one (.ptr 128 0)), (3, .one (.ptr 129 0)), (5, .one (.c (C.int .i64 v0)))], [(128, .box 52 [.c (C.int .i64 x0_0), .c (C.str x0_1), .c (C.str x0_2), .c (C.str x0_3), .c (C.row 52 x0_4), .c (C.row 25 x0_5)]), (129, .box 52 [.c (C.int .i64 x1_0), .c (C.str x1_1), .c (C.str x1_2), .c (C.str x1_3), .c (C.row 52 x1_4), .c (C.row 25 x1_5)])], 131, 82⟩ orielref12_SameFilter_d
noncomputable def orielref12_SameFilter_l1 (L : Lv) (k : Nat) (x0_0 : Int) (x0_1 x0_2 x0_3 : ByteArray) (x0_4 x0_5 : LL) (x1_0 : Int) (x1_1 x1_2 x1_3 : ByteArray) (x1_4 x1_5 : LL) (m0 : Nat) (v0 : Int) : Option Bool := headK noEq Try.prog (orK L) kp k 27 [.v (.agg [.c (C.int .i64 x0_0), .c (C.str x0_1), .c (C.str x0_2), .c (C.str x0_3), .c (C.row 52 x0_4), .c (C.row 25 x0_5)]), .v (.agg [.c (C.int .i64 x1_0), .c (C.str x1_1), .c (C.str x1_2), .c (C.str x1_3), .c (C.row 52 x1_4), .c (C.row 25 x1_5)])] [1, 1, 1, 0, 1, 0] [m0] ⟨[(2, .one (.ptr 128 0)), (3, .one (.ptr 129 0)), (6, .one (.c (C.int .i64 v0)))], [(128, .box 52 [.c (C.int .i64 x0_0), .c (C.str x0_1), .c (C.str x0_2), .c (C.str x0_3), .c (C.row 52 x0_4), .c (C.row 25 x0_5)]), (129, .box 52 [.c (C.int .i64 x1_0), .c (C.str x1_1), .c (C.str x1_2), .c (C.str x1_3), .c (C.row 52 x1_4), .c (C.row 25 x1_5)])], 131, 82⟩ orielref12_SameFilter_d
noncomputable def orielref02_Blank_b (L : Lv) (k : Nat) (x0 : Int) : Option Bool := bodyK noEq Try.prog (orK L) kp k 56 [.v (.one (.c (C.int .i64 x0)))] orielref02_Blank_d
noncomputable def orielref05_Find_b (L : Lv) (k : Nat) (x0 : ByteArray) (x1 : Int) (x2 : ByteArray) : Option Int := bodyK noEq Try.prog (orK L) kp k 45 [.v (.one (.c (C.str x0))), .v (.one (.c (C.int .i64 x1))), .v (.one (.c (C.str x2)))] orielref05_Find_d
noncomputable def orielref05_Find_l0 (L : Lv) (k : Nat) (x0 : ByteArray) (x1 : Int) (x2 : ByteArray) (m0 : Nat) (v2 : Int) : Option Int := headK noEq Try.prog (orK L) kp k 45 [.v (.one (.c (C.str x0))), .v (.one (.c (C.int .i64 x1))), .v (.one (.c (C.str x2)))] [1, 0, 1, 0] [m0] ⟨[(0, .one (.c (C.str x0))), (2, .one (.c (C.str x2))), (7, .one (.c (C.int .i64 v2)))], [], 193, 28⟩ orielref05_Find_d
end Go.Vm.T
