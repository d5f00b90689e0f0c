/- The functions, as the machine tells them: definitions. -/
import Derived.Test.YtkdlhnmidbnpkaaVmThree
import Derived.Test.YtkdlhnmidbnpkaaProg
set_option linter.unusedVariables false
set_option maxHeartbeats 4000000
set_option maxRecDepth 100000
namespace Go.Vm.T
open Go Go.Vm Go.Proofs
noncomputable def kl : List (Nat × List (Nat × List Nat)) := [(11, [(5, [2, 3, 4, 5, 6])]), (12, [(5, [1, 3, 4, 8, 9, 10])]), (13, [(3, [5, 8, 9, 22, 23])]), (15, [(3, [0, 3, 4]), (9, [0, 3, 4, 5])]), (16, [(7, [1, 2, 5, 6, 7, 8]), (2000018, [1, 2, 5, 6, 7, 8, 9, 10, 999999])]), (20, [(4, [6, 11, 12, 13]), (7, [6, 11, 12, 13, 29, 30, 31]), (2000010, [6, 11, 12, 13, 15, 16, 29, 30, 31, 999999])]), (25, [(7, [3, 4, 5, 6, 9, 10, 11]), (25, [5, 6, 14])]), (27, [(6, [4, 5, 7, 8]), (12, [4, 5, 7, 9]), (17, [4, 5, 7, 10])]), (29, [(14, [1, 2, 7]), (2000011, [1, 2, 5, 6, 999999])]), (30, [(9, [1, 4]), (14, [1, 4, 5]), (2000002, [1, 3, 999999])]), (32, [(3, [1, 3, 4]), (7, [1, 3, 5])]), (33, [(2, [2, 3, 5])]), (34, [(3, [1, 3, 4])]), (35, [(3, [3, 7, 8, 9])]), (36, [(4, [0, 4, 5, 6, 7]), (7, [0, 4, 5, 6, 7, 51, 52, 53])]), (40, [(5, [3, 9, 10, 11])]), (43, [(4, [9, 10, 19, 20, 21])]), (46, [(4, [2, 3, 4, 5])]), (47, [(2, [2, 3, 4, 7]), (6, [2, 3, 7, 8])]), (48, [(3, [1, 2, 5, 6]), (7, [1, 2, 5, 7])]), (49, [(20, [1, 2, 9]), (2000005, [1, 2, 5, 6, 999999]), (2000007, [1, 2, 6, 999999]), (2000014, [1, 2, 7, 8, 999999]), (2000017, [1, 2, 7, 8, 999999])]), (50, [(3, [3, 5, 6])]), (52, [(6, [3, 4, 6, 7, 8]), (15, [2, 3, 4, 5, 10, 11]), (23, [2, 4, 5, 10, 13, 14]), (2000039, [2, 3, 4, 5, 16, 17, 999999]), (1000000, [83])]), (53, [(3, [1, 3, 4])]), (54, [(4, [2, 3, 5]), (9, [2, 3, 6])]), (56, [(3, [0, 3, 6, 7, 8]), (2000008, [0, 3, 6, 7, 8, 48, 999999])]), (57, [(5, [3, 9, 10, 11])]), (61, [(3, [1, 3, 4]), (7, [1, 3, 5])]), (62, [(3, [0, 1, 2, 7, 8])]), (63, [(3, [0, 1, 5, 7, 8])]), (64, [(3, [1, 2, 5, 6]), (7, [1, 2, 5, 7])]), (66, [(3, [0, 5, 6])]), (68, [(5, [3, 4])]), (70, [(4, [2, 3, 5]), (9, [2, 3, 6])]), (73, [(2, [0, 3, 12, 13, 14])]), (79, [(3, [1, 3, 4]), (7, [1, 3, 5])]), (80, [(2, [0, 3, 5])]), (81, [(2, [0, 1, 5])]), (82, [(2, [0, 2, 7])]), (83, [(4, [0, 1, 7])]), (88, [(3, [0, 3, 7, 8, 9])]), (90, [(2, [0, 1, 7, 8])]), (91, [(2, [0, 1, 7, 8])]), (93, [(3, [0, 1, 2, 7, 8]), (2000010, [0, 1, 2, 7, 8, 9, 999999])]), (95, [(4, [0, 1, 2, 7])]), (96, [(5, [0, 1, 5, 6]), (10, [0, 1, 5, 6, 7, 8, 9]), (17, [0, 1, 5, 6, 7, 10, 11, 12, 13]), (23, [0, 1, 5, 6, 7, 10, 11, 15]), (2000021, [0, 1, 5, 6, 7, 10, 11, 12, 14, 999999])]), (97, [(2, [0, 6])]), (98, [(3, [0, 5, 6])]), (99, [(2, [1, 11]), (6, [1, 6, 7, 11, 15, 16, 17])]), (105, [(4, [0, 1, 21, 22]), (9, [0, 1, 7, 8, 9, 10]), (2000006, [0, 1, 7, 8, 21, 22, 999999]), (2000012, [0, 1, 7, 8, 9, 10, 999999])]), (107, [(2, [0, 7, 8, 9])]), (108, [(4, [1, 2, 15, 16, 17])]), (109, [(4, [1, 2, 15, 16, 17])])]
noncomputable def kp := tabKeep2 kl
structure Lv where
  oriellaw20_KindLike : Int → LL → LL → Int → ByteArray → ByteArray → LL → ByteArray → Int → ByteArray → ByteArray → LL → ByteArray → Int → Int → Int → Option Bool
  orielref18_Holds : LL → LL → LL → Int → Int → Int → LL → LL → Int → ByteArray → ByteArray → ByteArray → LL → LL → Int → ByteArray → ByteArray → LL → ByteArray → LL → Option Bool
  oriellaw20_awake : Option Bool
  orielref18_Find : LL → LL → LL → Int → Int → Int → LL → LL → Int → LL → LL → Option Int
  orielref18_Make : Int → LL → LL → Option (LL × LL × LL × Int × Int × Int × LL × LL)
  orielref12_Same : Int → LL → LL → Int → LL → LL → Option Bool
  orielref17_Compile : Int → LL → LL → Option (Int × Int × Int × LL × LL)
  orielref12_SameFilter : Int → ByteArray → ByteArray → ByteArray → LL → LL → Int → ByteArray → ByteArray → ByteArray → LL → LL → Option Bool
  orielref17_add : Int → Int → Int → LL → LL → Int → LL → LL → Option (Int × Int × Int × LL × LL × Int × Int)
  orielref17_edge : Int → Int → Int → LL → LL → Int → Int → Int → Int → Option (Int × Int × Int × LL × LL)
  orielref18_Inner : Int → LL → LL → Option LL
  orielref18_within : Int → ByteArray → ByteArray → ByteArray → LL → LL → Option LL
  kind_Step : LL → LL → LL → Int → Int → Int → LL → LL → Int → ByteArray → ByteArray → LL → ByteArray → Bool → Bool → ByteArray → Bool → Bool → ByteArray → Option (Bool × Bool × ByteArray)
  strat_Items : LL → LL → LL → Int → Int → Int → LL → LL → Option Int
  kind_maker_prog : LL → LL → LL → Int → Int → Int → LL → LL → Int → ByteArray → ByteArray → LL → ByteArray → Bool → Bool → ByteArray → Bool → Bool → ByteArray → LL → Int → Option (LL × LL × LL × Int × Int × Int × LL × LL × Int × ByteArray × ByteArray × LL × ByteArray × Bool × Bool × ByteArray × Bool × Bool × ByteArray × LL)
  strat_Tests : LL → LL → LL → Int → Int → Int → LL → LL → Int → Int → Int → LL → LL → Int → ByteArray → ByteArray → LL → ByteArray → LL → Option LL
  strat_node_holds : LL → LL → LL → Int → Int → Int → LL → LL → Int → ByteArray → ByteArray → LL → ByteArray → LL → Int → ByteArray → ByteArray → ByteArray → LL → LL → Option (Bool × LL × LL × LL × Int × Int × Int × LL × LL × Int × ByteArray × ByteArray × LL × ByteArray × LL)
  strat_node_attr : LL → LL → LL → Int → Int → Int → LL → LL → Int → ByteArray → ByteArray → LL → ByteArray → LL → ByteArray → ByteArray → Option (ByteArray × Bool × LL × LL × LL × Int × Int × Int × LL × LL × Int × ByteArray × ByteArray × LL × ByteArray × LL)
  api_Filter : LL → LL → LL → LL → Int → Int → Int → LL → LL → Int → ByteArray → ByteArray → LL → ByteArray → LL → Option Bool
  api_Filter_2 : LL → LL → LL → LL → Int → Int → Int → LL → LL → Int → ByteArray → ByteArray → LL → ByteArray → LL → Option Bool
  api_Path : LL → LL → LL → LL → Int → Int → Int → LL → LL → Int → ByteArray → ByteArray → LL → ByteArray → LL → Option Bool
  api_Filter_3 : LL → LL → LL → LL → Int → Int → Int → LL → LL → Int → ByteArray → ByteArray → LL → ByteArray → LL → Option Int
  api_Filter_4 : LL → LL → LL → LL → Int → Int → Int → LL → LL → Int → ByteArray → ByteArray → LL → ByteArray → LL → Option Int
  api_Path_2 : LL → LL → LL → LL → Int → Int → Int → LL → LL → Int → ByteArray → ByteArray → LL → ByteArray → LL → Option Int
  strat_node_fails : LL → LL → LL → Int → Int → Int → LL → LL → Int → ByteArray → ByteArray → LL → ByteArray → LL → Int → ByteArray → ByteArray → ByteArray → LL → LL → Option Bool
  strat_node_holds_2 : LL → LL → LL → Int → Int → Int → LL → LL → Int → ByteArray → ByteArray → LL → ByteArray → LL → Int → ByteArray → ByteArray → ByteArray → LL → LL → Option Bool
  strat_node_leads : LL → LL → LL → Int → Int → Int → LL → LL → Int → ByteArray → ByteArray → LL → ByteArray → LL → Int → LL → LL → Option Bool
  strat_node_attr_2 : LL → LL → LL → Int → Int → Int → LL → LL → Int → ByteArray → ByteArray → LL → ByteArray → LL → ByteArray → ByteArray → Option (ByteArray × Bool)
  strat_Find : LL → LL → LL → Int → Int → Int → LL → LL → Int → LL → LL → Option Int
  api_Path_3 : LL → Int → LL → LL → Option Int
  strat_Find_1 : Int → LL → LL → Int → LL → LL → Option Bool
  path_Same : Int → LL → LL → Int → LL → LL → Option Bool
  api_Path_4 : LL → LL → Option Bool
  kind_Whole : LL → LL → LL → Int → Int → Int → LL → LL → LL → Option LL
  kind_maker_leads : LL → LL → LL → Int → Int → Int → LL → LL → Int → ByteArray → ByteArray → LL → ByteArray → Bool → Bool → ByteArray → Bool → Bool → ByteArray → LL → Int → Int → Int → Int → Int → LL → Option (Bool × LL × LL × LL × Int × Int × Int × LL × LL × Int × ByteArray × ByteArray × LL × ByteArray × Bool × Bool × ByteArray × Bool × Bool × ByteArray × LL)
  api_Filter_5 : LL → LL → Option Bool
  word_Whole : LL → Option Bool
  kind_good : Bool → Bool → ByteArray → Int → Option Bool
  path_sameFilter : Int → ByteArray → ByteArray → ByteArray → LL → LL → Int → ByteArray → ByteArray → ByteArray → LL → LL → Option Bool
  word_Begins : LL → Option Bool
  word_Right : Int → ByteArray → ByteArray → LL → ByteArray → Option Bool
  word_named : ByteArray → ByteArray → Option Bool
  word_text : ByteArray → Option Bool
  name_Plain : ByteArray → Option Bool
  utf_All : ByteArray → Option (LL × Int × Int)
  char_Start : Int → Option Bool
  utf_Rune : ByteArray → Int → Option (Int × Int × Int)
  char_in : Int → LL → Option Bool
  utf_forms : Option (Int × Int × Int × Int × Int × Int × Int × Int × Int × Int × Int × Int)
  word_Nodes : LL → Option LL
  word_Depth : LL → Option Int
  char_All : ByteArray → Option Bool
  utf_span : Int → Int → Option (Int × Int)
  char_Char : Int → Option Bool
  char_Blank : Int → Option Bool
  kind_Arrive : LL → LL → LL → Int → Int → Int → LL → LL → Int → Int → Int → LL → LL → Int → ByteArray → ByteArray → LL → ByteArray → Bool → Bool → ByteArray → LL → Option LL
  word_attrs : LL → Option Bool
  char_Part : Int → Option Bool
  orielref12_Right : Int → LL → LL → Option Bool
  orielref12_Size : Int → LL → LL → Option Int
  orielref12_size : Int → LL → LL → Int → Option Int
  orielref12_sizeFilter : Int → ByteArray → ByteArray → ByteArray → LL → LL → Int → Option Int
  orielref12_path : Int → LL → LL → Int → Option Bool
  orielref12_filter : Int → ByteArray → ByteArray → ByteArray → LL → LL → Int → Option Bool
  orielref12_named : ByteArray → ByteArray → Option Bool
  orielref04_Right : ByteArray → Option Bool
  orielref03_Plain : ByteArray → Option Bool
  orielref01_All : ByteArray → Option (LL × Int × Int)
  orielref02_Start : Int → Option Bool
  orielref01_Rune : ByteArray → Int → Option (Int × Int × Int)
  orielref01_Put : Int → Option LL
  orielref01_cut : ByteArray → Int → Option Bool
  orielref01_value : ByteArray → Int → Int → Option Int
  oriellaw20_node : Int → ByteArray → ByteArray → LL → ByteArray → Option Bool
  orielref02_Char : Int → Option Bool
  orielref02_Part : Int → Option Bool
  orielref01_begins : ByteArray → Int → LL → Option Bool
  orielref09_Right : Int → ByteArray → ByteArray → LL → ByteArray → Option Bool
  orielref02_Blank : Int → Option Bool
  orielref09_named : ByteArray → ByteArray → Option Bool
  orielref05_Find : ByteArray → Int → ByteArray → Option Int
  orielref09_Few : LL → Option Bool
  orielref19_Like : Int → LL → LL → Int → ByteArray → ByteArray → LL → ByteArray → Int → ByteArray → ByteArray → LL → ByteArray → Option Bool
  orielref19_Make : Int → LL → LL → Option (LL × LL × LL × LL)
  orielref12_Filters : Int → LL → LL → Option LL
  orielref12_within : Int → ByteArray → ByteArray → ByteArray → LL → LL → Option LL
  orielref12_Names : LL → Int → Int → Option LL
  orielref12_hasName : LL → ByteArray → ByteArray → Option Bool
  orielref12_Values : LL → Int → ByteArray → ByteArray → Option LL
  orielref12_Has : LL → ByteArray → Option Bool
  orielref19_value : Int → ByteArray → ByteArray → LL → ByteArray → ByteArray → ByteArray → LL → Option Int
  oriellaw20_sort : LL → LL → LL → Int → Int → Int → LL → LL → Int → Bool → Bool → Option (Bool × Bool × ByteArray)
  orielref18_Items : LL → LL → LL → Int → Int → Int → LL → LL → Option Int
noncomputable def oriellaw20_KindLike_a : List Arg → Option (Int × LL × LL × Int × ByteArray × ByteArray × LL × ByteArray × Int × ByteArray × ByteArray × LL × ByteArray × Int × Int × Int)
  | [.v (.agg [.c (.int .i64 x0_0), .c (.row 25 x0_1), .c (.row 66 x0_2)]), .v (.agg [.c (.int .i64 x1_0), .c (.str x1_1), .c (.str x1_2), .c (.row 86 x1_3), .c (.str x1_4)]), .v (.agg [.c (.int .i64 x2_0), .c (.str x2_1), .c (.str x2_2), .c (.row 86 x2_3), .c (.str x2_4)]), .v (.one (.c (.int .u64 x3))), .v (.one (.c (.int .u64 x4))), .v (.one (.c (.int .u8 x5)))] => some (x0_0, x0_1, x0_2, x1_0, x1_1, x1_2, x1_3, x1_4, x2_0, x2_1, x2_2, x2_3, x2_4, x3, x4, x5)
  | _ => none
noncomputable def oriellaw20_KindLike_e (a : Int × LL × LL × Int × ByteArray × ByteArray × LL × ByteArray × Int × ByteArray × ByteArray × LL × ByteArray × Int × Int × Int) : List Arg := [.v (.agg [.c (C.int .i64 a.1), .c (C.row 25 a.2.1), .c (C.row 66 a.2.2.1)]), .v (.agg [.c (C.int .i64 a.2.2.2.1), .c (C.str a.2.2.2.2.1), .c (C.str a.2.2.2.2.2.1), .c (C.row 86 a.2.2.2.2.2.2.1), .c (C.str a.2.2.2.2.2.2.2.1)]), .v (.agg [.c (C.int .i64 a.2.2.2.2.2.2.2.2.1), .c (C.str a.2.2.2.2.2.2.2.2.2.1), .c (C.str a.2.2.2.2.2.2.2.2.2.2.1), .c (C.row 86 a.2.2.2.2.2.2.2.2.2.2.2.1), .c (C.str a.2.2.2.2.2.2.2.2.2.2.2.2.1)]), .v (.one (.c (C.int .u64 a.2.2.2.2.2.2.2.2.2.2.2.2.2.1))), .v (.one (.c (C.int .u64 a.2.2.2.2.2.2.2.2.2.2.2.2.2.2.1))), .v (.one (.c (C.int .u8 a.2.2.2.2.2.2.2.2.2.2.2.2.2.2.2)))]
theorem oriellaw20_KindLike_ae {l : List Arg} {a : Int × LL × LL × Int × ByteArray × ByteArray × LL × ByteArray × Int × ByteArray × ByteArray × LL × ByteArray × Int × Int × Int} (h : oriellaw20_KindLike_a l = some a) : l = oriellaw20_KindLike_e a := by
  unfold oriellaw20_KindLike_a at h
  split at h
  · cases h; rfl
  · cases h
noncomputable def oriellaw20_KindLike_d : Res → Option Bool
  | ⟨.one (.d (.bool y0)), []⟩ => some y0
  | _ => none
noncomputable def oriellaw20_KindLike_r (r : Bool) : Res := ⟨.one (.d (.bool r)), []⟩
theorem oriellaw20_KindLike_dr {R : Res} {r : Bool} (h : oriellaw20_KindLike_d R = some r) : R = oriellaw20_KindLike_r r := by
  unfold oriellaw20_KindLike_d at h
  split at h
  · cases h; rfl
  · cases h
noncomputable def oriellaw20_KindLike_o (L : Lv) {Ω : Type} (f : FuncId) (l : List Arg) (K : Res → Option Ω) (next : Option Ω) : Option Ω := rowO 7 oriellaw20_KindLike_a (fun a => L.oriellaw20_KindLike a.1 a.2.1 a.2.2.1 a.2.2.2.1 a.2.2.2.2.1 a.2.2.2.2.2.1 a.2.2.2.2.2.2.1 a.2.2.2.2.2.2.2.1 a.2.2.2.2.2.2.2.2.1 a.2.2.2.2.2.2.2.2.2.1 a.2.2.2.2.2.2.2.2.2.2.1 a.2.2.2.2.2.2.2.2.2.2.2.1 a.2.2.2.2.2.2.2.2.2.2.2.2.1 a.2.2.2.2.2.2.2.2.2.2.2.2.2.1 a.2.2.2.2.2.2.2.2.2.2.2.2.2.2.1 a.2.2.2.2.2.2.2.2.2.2.2.2.2.2.2) oriellaw20_KindLike_r f l K next
noncomputable def orielref18_Holds_a : List Arg → Option (LL × LL × LL × Int × Int × Int × LL × LL × Int × ByteArray × ByteArray × ByteArray × LL × LL × Int × ByteArray × ByteArray × LL × ByteArray × LL)
  | [.v (.agg [.c (.row 25 x0_0), .c (.row 39 x0_1), .c (.row 3 x0_2), .c (.int .i64 x0_3), .c (.int .i64 x0_4), .c (.int .i64 x0_5), .c (.row 83 x0_6), .c (.row 66 x0_7)]), .v (.agg [.c (.int .i64 x1_0), .c (.str x1_1), .c (.str x1_2), .c (.str x1_3), .c (.row 66 x1_4), .c (.row 25 x1_5)]), .v (.agg [.c (.int .i64 x2_0), .c (.str x2_1), .c (.str x2_2), .c (.row 86 x2_3), .c (.str x2_4)]), .v (.one (.c (.row 5 x3)))] => some (x0_0, x0_1, x0_2, x0_3, x0_4, x0_5, x0_6, x0_7, x1_0, x1_1, x1_2, x1_3, x1_4, x1_5, x2_0, x2_1, x2_2, x2_3, x2_4, x3)
  | _ => none
noncomputable def orielref18_Holds_e (a : LL × LL × LL × Int × Int × Int × LL × LL × Int × ByteArray × ByteArray × ByteArray × LL × LL × Int × ByteArray × ByteArray × LL × ByteArray × LL) : List Arg := [.v (.agg [.c (C.row 25 a.1), .c (C.row 39 a.2.1), .c (C.row 3 a.2.2.1), .c (C.int .i64 a.2.2.2.1), .c (C.int .i64 a.2.2.2.2.1), .c (C.int .i64 a.2.2.2.2.2.1), .c (C.row 83 a.2.2.2.2.2.2.1), .c (C.row 66 a.2.2.2.2.2.2.2.1)]), .v (.agg [.c (C.int .i64 a.2.2.2.2.2.2.2.2.1), .c (C.str a.2.2.2.2.2.2.2.2.2.1), .c (C.str a.2.2.2.2.2.2.2.2.2.2.1), .c (C.str a.2.2.2.2.2.2.2.2.2.2.2.1), .c (C.row 66 a.2.2.2.2.2.2.2.2.2.2.2.2.1), .c (C.row 25 a.2.2.2.2.2.2.2.2.2.2.2.2.2.1)]), .v (.agg [.c (C.int .i64 a.2.2.2.2.2.2.2.2.2.2.2.2.2.2.1), .c (C.str a.2.2.2.2.2.2.2.2.2.2.2.2.2.2.2.1), .c (C.str a.2.2.2.2.2.2.2.2.2.2.2.2.2.2.2.2.1), .c (C.row 86 a.2.2.2.2.2.2.2.2.2.2.2.2.2.2.2.2.2.1), .c (C.str a.2.2.2.2.2.2.2.2.2.2.2.2.2.2.2.2.2.2.1)]), .v (.one (.c (C.row 5 a.2.2.2.2.2.2.2.2.2.2.2.2.2.2.2.2.2.2.2)))]
theorem orielref18_Holds_ae {l : List Arg} {a : LL × LL × LL × Int × Int × Int × LL × LL × Int × ByteArray × ByteArray × ByteArray × LL × LL × Int × ByteArray × ByteArray × LL × ByteArray × LL} (h : orielref18_Holds_a l = some a) : l = orielref18_Holds_e a := by
  unfold orielref18_Holds_a at h
  split at h
  · cases h; rfl
  · cases h
noncomputable def orielref18_Holds_d : Res → Option Bool
  | ⟨.one (.d (.bool y0)), []⟩ => some y0
  | _ => none
noncomputable def orielref18_Holds_r (r : Bool) : Res := ⟨.one (.d (.bool r)), []⟩
theorem orielref18_Holds_dr {R : Res} {r : Bool} (h : orielref18_Holds_d R = some r) : R = orielref18_Holds_r r := by
  unfold orielref18_Holds_d at h
  split at h
  · cases h; rfl
  · cases h
noncomputable def orielref18_Holds_o (L : Lv) {Ω : Type} (f : FuncId) (l : List Arg) (K : Res → Option Ω) (next : Option Ω) : Option Ω := rowO 25 orielref18_Holds_a (fun a => L.orielref18_Holds a.1 a.2.1 a.2.2.1 a.2.2.2.1 a.2.2.2.2.1 a.2.2.2.2.2.1 a.2.2.2.2.2.2.1 a.2.2.2.2.2.2.2.1 a.2.2.2.2.2.2.2.2.1 a.2.2.2.2.2.2.2.2.2.1 a.2.2.2.2.2.2.2.2.2.2.1 a.2.2.2.2.2.2.2.2.2.2.2.1 a.2.2.2.2.2.2.2.2.2.2.2.2.1 a.2.2.2.2.2.2.2.2.2.2.2.2.2.1 a.2.2.2.2.2.2.2.2.2.2.2.2.2.2.1 a.2.2.2.2.2.2.2.2.2.2.2.2.2.2.2.1 a.2.2.2.2.2.2.2.2.2.2.2.2.2.2.2.2.1 a.2.2.2.2.2.2.2.2.2.2.2.2.2.2.2.2.2.1 a.2.2.2.2.2.2.2.2.2.2.2.2.2.2.2.2.2.2.1 a.2.2.2.2.2.2.2.2.2.2.2.2.2.2.2.2.2.2.2) orielref18_Holds_r f l K next
noncomputable def oriellaw20_awake_a : List Arg → Option Unit
  | [] => some ()
  | _ => none
noncomputable def oriellaw20_awake_e (a : Unit) : List Arg := []
theorem oriellaw20_awake_ae {l : List Arg} {a : Unit} (h : oriellaw20_awake_a l = some a) : l = oriellaw20_awake_e a := by
  unfold oriellaw20_awake_a at h
  split at h
  · cases h; rfl
  · cases h
noncomputable def oriellaw20_awake_d : Res → Option Bool
  | ⟨.one (.d (.bool y0)), []⟩ => some y0
  | _ => none
noncomputable def oriellaw20_awake_r (r : Bool) : Res := ⟨.one (.d (.bool r)), []⟩
theorem oriellaw20_awake_dr {R : Res} {r : Bool} (h : oriellaw20_awake_d R = some r) : R = oriellaw20_awake_r r := by
  unfold oriellaw20_awake_d at h
  split at h
  · cases h; rfl
  · cases h
noncomputable def oriellaw20_awake_o (L : Lv) {Ω : Type} (f : FuncId) (l : List Arg) (K : Res → Option Ω) (next : Option Ω) : Option Ω := rowO 8 oriellaw20_awake_a (fun a => L.oriellaw20_awake) oriellaw20_awake_r f l K next
noncomputable def orielref18_Find_a : List Arg → Option (LL × LL × LL × Int × Int × Int × LL × LL × Int × LL × LL)
  | [.v (.agg [.c (.row 25 x0_0), .c (.row 39 x0_1), .c (.row 3 x0_2), .c (.int .i64 x0_3), .c (.int .i64 x0_4), .c (.int .i64 x0_5), .c (.row 83 x0_6), .c (.row 66 x0_7)]), .v (.agg [.c (.int .i64 x1_0), .c (.row 25 x1_1), .c (.row 66 x1_2)])] => some (x0_0, x0_1, x0_2, x0_3, x0_4, x0_5, x0_6, x0_7, x1_0, x1_1, x1_2)
  | _ => none
noncomputable def orielref18_Find_e (a : LL × LL × LL × Int × Int × Int × LL × LL × Int × LL × LL) : List Arg := [.v (.agg [.c (C.row 25 a.1), .c (C.row 39 a.2.1), .c (C.row 3 a.2.2.1), .c (C.int .i64 a.2.2.2.1), .c (C.int .i64 a.2.2.2.2.1), .c (C.int .i64 a.2.2.2.2.2.1), .c (C.row 83 a.2.2.2.2.2.2.1), .c (C.row 66 a.2.2.2.2.2.2.2.1)]), .v (.agg [.c (C.int .i64 a.2.2.2.2.2.2.2.2.1), .c (C.row 25 a.2.2.2.2.2.2.2.2.2.1), .c (C.row 66 a.2.2.2.2.2.2.2.2.2.2)])]
theorem orielref18_Find_ae {l : List Arg} {a : LL × LL × LL × Int × Int × Int × LL × LL × Int × LL × LL} (h : orielref18_Find_a l = some a) : l = orielref18_Find_e a := by
  unfold orielref18_Find_a at h
  split at h
  · cases h; rfl
  · cases h
noncomputable def orielref18_Find_d : Res → Option Int
  | ⟨.one (.d (.int .i64 y0)), []⟩ => some y0
  | _ => none
noncomputable def orielref18_Find_r (r : Int) : Res := ⟨.one (.d (.int .i64 r)), []⟩
theorem orielref18_Find_dr {R : Res} {r : Int} (h : orielref18_Find_d R = some r) : R = orielref18_Find_r r := by
  unfold orielref18_Find_d at h
  split at h
  · cases h; rfl
  · cases h
noncomputable def orielref18_Find_o (L : Lv) {Ω : Type} (f : FuncId) (l : List Arg) (K : Res → Option Ω) (next : Option Ω) : Option Ω := rowO 33 orielref18_Find_a (fun a => L.orielref18_Find a.1 a.2.1 a.2.2.1 a.2.2.2.1 a.2.2.2.2.1 a.2.2.2.2.2.1 a.2.2.2.2.2.2.1 a.2.2.2.2.2.2.2.1 a.2.2.2.2.2.2.2.2.1 a.2.2.2.2.2.2.2.2.2.1 a.2.2.2.2.2.2.2.2.2.2) orielref18_Find_r f l K next
noncomputable def orielref18_Make_a : List Arg → Option (Int × LL × LL)
  | [.v (.agg [.c (.int .i64 x0_0), .c (.row 25 x0_1), .c (.row 66 x0_2)])] => some (x0_0, x0_1, x0_2)
  | _ => none
noncomputable def orielref18_Make_e (a : Int × LL × LL) : List Arg := [.v (.agg [.c (C.int .i64 a.1), .c (C.row 25 a.2.1), .c (C.row 66 a.2.2)])]
theorem orielref18_Make_ae {l : List Arg} {a : Int × LL × LL} (h : orielref18_Make_a l = some a) : l = orielref18_Make_e a := by
  unfold orielref18_Make_a at h
  split at h
  · cases h; rfl
  · cases h
noncomputable def orielref18_Make_d : Res → Option (LL × LL × LL × Int × Int × Int × LL × LL)
  | ⟨.agg [.own 25 y0, .own 39 y1, .own 3 y2, .d (.int .i64 y3), .d (.int .i64 y4), .d (.int .i64 y5), .d (.row 83 y6), .d (.row 66 y7)], []⟩ => some (y0, y1, y2, y3, y4, y5, y6, y7)
  | _ => none
noncomputable def orielref18_Make_r (r : LL × LL × LL × Int × Int × Int × LL × LL) : Res := ⟨.agg [.own 25 r.1, .own 39 r.2.1, .own 3 r.2.2.1, .d (.int .i64 r.2.2.2.1), .d (.int .i64 r.2.2.2.2.1), .d (.int .i64 r.2.2.2.2.2.1), .d (.row 83 r.2.2.2.2.2.2.1), .d (.row 66 r.2.2.2.2.2.2.2)], []⟩
theorem orielref18_Make_dr {R : Res} {r : LL × LL × LL × Int × Int × Int × LL × LL} (h : orielref18_Make_d R = some r) : R = orielref18_Make_r r := by
  unfold orielref18_Make_d at h
  split at h
  · cases h; rfl
  · cases h
noncomputable def orielref18_Make_o (L : Lv) {Ω : Type} (f : FuncId) (l : List Arg) (K : Res → Option Ω) (next : Option Ω) : Option Ω := rowO 11 orielref18_Make_a (fun a => L.orielref18_Make a.1 a.2.1 a.2.2) orielref18_Make_r f l K next
noncomputable def orielref12_Same_a : List Arg → Option (Int × LL × LL × Int × LL × LL)
  | [.v (.agg [.c (.int .i64 x0_0), .c (.row 25 x0_1), .c (.row 66 x0_2)]), .v (.agg [.c (.int .i64 x1_0), .c (.row 25 x1_1), .c (.row 66 x1_2)])] => some (x0_0, x0_1, x0_2, x1_0, x1_1, x1_2)
  | _ => none
noncomputable def orielref12_Same_e (a : Int × LL × LL × Int × LL × LL) : List Arg := [.v (.agg [.c (C.int .i64 a.1), .c (C.row 25 a.2.1), .c (C.row 66 a.2.2.1)]), .v (.agg [.c (C.int .i64 a.2.2.2.1), .c (C.row 25 a.2.2.2.2.1), .c (C.row 66 a.2.2.2.2.2)])]
theorem orielref12_Same_ae {l : List Arg} {a : Int × LL × LL × Int × LL × LL} (h : orielref12_Same_a l = some a) : l = orielref12_Same_e a := by
  unfold orielref12_Same_a at h
  split at h
  · cases h; rfl
  · cases h
noncomputable def orielref12_Same_d : Res → Option Bool
  | ⟨.one (.d (.bool y0)), []⟩ => some y0
  | _ => none
noncomputable def orielref12_Same_r (r : Bool) : Res := ⟨.one (.d (.bool r)), []⟩
theorem orielref12_Same_dr {R : Res} {r : Bool} (h : orielref12_Same_d R = some r) : R = orielref12_Same_r r := by
  unfold orielref12_Same_d at h
  split at h
  · cases h; rfl
  · cases h
noncomputable def orielref12_Same_o (L : Lv) {Ω : Type} (f : FuncId) (l : List Arg) (K : Res → Option Ω) (next : Option Ω) : Option Ω := rowO 54 orielref12_Same_a (fun a => L.orielref12_Same a.1 a.2.1 a.2.2.1 a.2.2.2.1 a.2.2.2.2.1 a.2.2.2.2.2) orielref12_Same_r f l K next
noncomputable def orielref17_Compile_a : List Arg → Option (Int × LL × LL)
  | [.v (.agg [.c (.int .i64 x0_0), .c (.row 25 x0_1), .c (.row 66 x0_2)])] => some (x0_0, x0_1, x0_2)
  | _ => none
noncomputable def orielref17_Compile_e (a : Int × LL × LL) : List Arg := [.v (.agg [.c (C.int .i64 a.1), .c (C.row 25 a.2.1), .c (C.row 66 a.2.2)])]
theorem orielref17_Compile_ae {l : List Arg} {a : Int × LL × LL} (h : orielref17_Compile_a l = some a) : l = orielref17_Compile_e a := by
  unfold orielref17_Compile_a at h
  split at h
  · cases h; rfl
  · cases h
noncomputable def orielref17_Compile_d : Res → Option (Int × Int × Int × LL × LL)
  | ⟨.agg [.d (.int .i64 y0), .d (.int .i64 y1), .d (.int .i64 y2), .d (.row 83 y3), .d (.row 66 y4)], []⟩ => some (y0, y1, y2, y3, y4)
  | _ => none
noncomputable def orielref17_Compile_r (r : Int × Int × Int × LL × LL) : Res := ⟨.agg [.d (.int .i64 r.1), .d (.int .i64 r.2.1), .d (.int .i64 r.2.2.1), .d (.row 83 r.2.2.2.1), .d (.row 66 r.2.2.2.2)], []⟩
theorem orielref17_Compile_dr {R : Res} {r : Int × Int × Int × LL × LL} (h : orielref17_Compile_d R = some r) : R = orielref17_Compile_r r := by
  unfold orielref17_Compile_d at h
  split at h
  · cases h; rfl
  · cases h
noncomputable def orielref17_Compile_o (L : Lv) {Ω : Type} (f : FuncId) (l : List Arg) (K : Res → Option Ω) (next : Option Ω) : Option Ω := rowO 31 orielref17_Compile_a (fun a => L.orielref17_Compile a.1 a.2.1 a.2.2) orielref17_Compile_r f l K next
noncomputable def orielref12_SameFilter_a : List Arg → Option (Int × ByteArray × ByteArray × ByteArray × LL × LL × Int × ByteArray × ByteArray × ByteArray × LL × LL)
  | [.v (.agg [.c (.int .i64 x0_0), .c (.str x0_1), .c (.str x0_2), .c (.str x0_3), .c (.row 66 x0_4), .c (.row 25 x0_5)]), .v (.agg [.c (.int .i64 x1_0), .c (.str x1_1), .c (.str x1_2), .c (.str x1_3), .c (.row 66 x1_4), .c (.row 25 x1_5)])] => some (x0_0, x0_1, x0_2, x0_3, x0_4, x0_5, x1_0, x1_1, x1_2, x1_3, x1_4, x1_5)
  | _ => none
noncomputable def orielref12_SameFilter_e (a : Int × ByteArray × ByteArray × ByteArray × LL × LL × Int × ByteArray × ByteArray × ByteArray × LL × LL) : List Arg := [.v (.agg [.c (C.int .i64 a.1), .c (C.str a.2.1), .c (C.str a.2.2.1), .c (C.str a.2.2.2.1), .c (C.row 66 a.2.2.2.2.1), .c (C.row 25 a.2.2.2.2.2.1)]), .v (.agg [.c (C.int .i64 a.2.2.2.2.2.2.1), .c (C.str a.2.2.2.2.2.2.2.1), .c (C.str a.2.2.2.2.2.2.2.2.1), .c (C.str a.2.2.2.2.2.2.2.2.2.1), .c (C.row 66 a.2.2.2.2.2.2.2.2.2.2.1), .c (C.row 25 a.2.2.2.2.2.2.2.2.2.2.2)])]
theorem orielref12_SameFilter_ae {l : List Arg} {a : Int × ByteArray × ByteArray × ByteArray × LL × LL × Int × ByteArray × ByteArray × ByteArray × LL × LL} (h : orielref12_SameFilter_a l = some a) : l = orielref12_SameFilter_e a := by
  unfold orielref12_SameFilter_a at h
  split at h
  · cases h; rfl
  · cases h
noncomputable def orielref12_SameFilter_d : Res → Option Bool
  | ⟨.one (.d (.bool y0)), []⟩ => some y0
  | _ => none
noncomputable def orielref12_SameFilter_r (r : Bool) : Res := ⟨.one (.d (.bool r)), []⟩
theorem orielref12_SameFilter_dr {R : Res} {r : Bool} (h : orielref12_SameFilter_d R = some r) : R = orielref12_SameFilter_r r := by
  unfold orielref12_SameFilter_d at h
  split at h
  · cases h; rfl
  · cases h
noncomputable def orielref12_SameFilter_o (L : Lv) {Ω : Type} (f : FuncId) (l : List Arg) (K : Res → Option Ω) (next : Option Ω) : Option Ω := rowO 70 orielref12_SameFilter_a (fun a => L.orielref12_SameFilter a.1 a.2.1 a.2.2.1 a.2.2.2.1 a.2.2.2.2.1 a.2.2.2.2.2.1 a.2.2.2.2.2.2.1 a.2.2.2.2.2.2.2.1 a.2.2.2.2.2.2.2.2.1 a.2.2.2.2.2.2.2.2.2.1 a.2.2.2.2.2.2.2.2.2.2.1 a.2.2.2.2.2.2.2.2.2.2.2) orielref12_SameFilter_r f l K next
noncomputable def orielref17_add_a : List Arg → Option (Int × Int × Int × LL × LL × Int × LL × LL)
  | [.v (.agg [.c (.int .i64 x0_0), .c (.int .i64 x0_1), .c (.int .i64 x0_2), .c (.row 83 x0_3), .c (.row 66 x0_4)]), .v (.agg [.c (.int .i64 x1_0), .c (.row 25 x1_1), .c (.row 66 x1_2)])] => some (x0_0, x0_1, x0_2, x0_3, x0_4, x1_0, x1_1, x1_2)
  | _ => none
noncomputable def orielref17_add_e (a : Int × Int × Int × LL × LL × Int × LL × LL) : List Arg := [.v (.agg [.c (C.int .i64 a.1), .c (C.int .i64 a.2.1), .c (C.int .i64 a.2.2.1), .c (C.row 83 a.2.2.2.1), .c (C.row 66 a.2.2.2.2.1)]), .v (.agg [.c (C.int .i64 a.2.2.2.2.2.1), .c (C.row 25 a.2.2.2.2.2.2.1), .c (C.row 66 a.2.2.2.2.2.2.2)])]
theorem orielref17_add_ae {l : List Arg} {a : Int × Int × Int × LL × LL × Int × LL × LL} (h : orielref17_add_a l = some a) : l = orielref17_add_e a := by
  unfold orielref17_add_a at h
  split at h
  · cases h; rfl
  · cases h
noncomputable def orielref17_add_d : Res → Option (Int × Int × Int × LL × LL × Int × Int)
  | ⟨.agg [.d (.int .i64 y0), .d (.int .i64 y1), .d (.int .i64 y2), .d (.row 83 y3), .d (.row 66 y4), .d (.int .i64 y5), .d (.int .i64 y6)], []⟩ => some (y0, y1, y2, y3, y4, y5, y6)
  | _ => none
noncomputable def orielref17_add_r (r : Int × Int × Int × LL × LL × Int × Int) : Res := ⟨.agg [.d (.int .i64 r.1), .d (.int .i64 r.2.1), .d (.int .i64 r.2.2.1), .d (.row 83 r.2.2.2.1), .d (.row 66 r.2.2.2.2.1), .d (.int .i64 r.2.2.2.2.2.1), .d (.int .i64 r.2.2.2.2.2.2)], []⟩
theorem orielref17_add_dr {R : Res} {r : Int × Int × Int × LL × LL × Int × Int} (h : orielref17_add_d R = some r) : R = orielref17_add_r r := by
  unfold orielref17_add_d at h
  split at h
  · cases h; rfl
  · cases h
noncomputable def orielref17_add_o (L : Lv) {Ω : Type} (f : FuncId) (l : List Arg) (K : Res → Option Ω) (next : Option Ω) : Option Ω := rowO 52 orielref17_add_a (fun a => L.orielref17_add a.1 a.2.1 a.2.2.1 a.2.2.2.1 a.2.2.2.2.1 a.2.2.2.2.2.1 a.2.2.2.2.2.2.1 a.2.2.2.2.2.2.2) orielref17_add_r f l K next
noncomputable def orielref17_edge_a : List Arg → Option (Int × Int × Int × LL × LL × Int × Int × Int × Int)
  | [.v (.agg [.c (.int .i64 x0_0), .c (.int .i64 x0_1), .c (.int .i64 x0_2), .c (.row 83 x0_3), .c (.row 66 x0_4)]), .v (.one (.c (.int .i64 x1))), .v (.one (.c (.int .i64 x2))), .v (.one (.c (.int .i64 x3))), .v (.one (.c (.int .i64 x4)))] => some (x0_0, x0_1, x0_2, x0_3, x0_4, x1, x2, x3, x4)
  | _ => none
noncomputable def orielref17_edge_e (a : Int × Int × Int × LL × LL × Int × Int × Int × Int) : List Arg := [.v (.agg [.c (C.int .i64 a.1), .c (C.int .i64 a.2.1), .c (C.int .i64 a.2.2.1), .c (C.row 83 a.2.2.2.1), .c (C.row 66 a.2.2.2.2.1)]), .v (.one (.c (C.int .i64 a.2.2.2.2.2.1))), .v (.one (.c (C.int .i64 a.2.2.2.2.2.2.1))), .v (.one (.c (C.int .i64 a.2.2.2.2.2.2.2.1))), .v (.one (.c (C.int .i64 a.2.2.2.2.2.2.2.2)))]
theorem orielref17_edge_ae {l : List Arg} {a : Int × Int × Int × LL × LL × Int × Int × Int × Int} (h : orielref17_edge_a l = some a) : l = orielref17_edge_e a := by
  unfold orielref17_edge_a at h
  split at h
  · cases h; rfl
  · cases h
noncomputable def orielref17_edge_d : Res → Option (Int × Int × Int × LL × LL)
  | ⟨.agg [.d (.int .i64 y0), .d (.int .i64 y1), .d (.int .i64 y2), .own 83 y3, .d (.row 66 y4)], []⟩ => some (y0, y1, y2, y3, y4)
  | _ => none
noncomputable def orielref17_edge_r (r : Int × Int × Int × LL × LL) : Res := ⟨.agg [.d (.int .i64 r.1), .d (.int .i64 r.2.1), .d (.int .i64 r.2.2.1), .own 83 r.2.2.2.1, .d (.row 66 r.2.2.2.2)], []⟩
theorem orielref17_edge_dr {R : Res} {r : Int × Int × Int × LL × LL} (h : orielref17_edge_d R = some r) : R = orielref17_edge_r r := by
  unfold orielref17_edge_d at h
  split at h
  · cases h; rfl
  · cases h
noncomputable def orielref17_edge_o (L : Lv) {Ω : Type} (f : FuncId) (l : List Arg) (K : Res → Option Ω) (next : Option Ω) : Option Ω := rowO 69 orielref17_edge_a (fun a => L.orielref17_edge a.1 a.2.1 a.2.2.1 a.2.2.2.1 a.2.2.2.2.1 a.2.2.2.2.2.1 a.2.2.2.2.2.2.1 a.2.2.2.2.2.2.2.1 a.2.2.2.2.2.2.2.2) orielref17_edge_r f l K next
noncomputable def orielref18_Inner_a : List Arg → Option (Int × LL × LL)
  | [.v (.agg [.c (.int .i64 x0_0), .c (.row 25 x0_1), .c (.row 66 x0_2)])] => some (x0_0, x0_1, x0_2)
  | _ => none
noncomputable def orielref18_Inner_e (a : Int × LL × LL) : List Arg := [.v (.agg [.c (C.int .i64 a.1), .c (C.row 25 a.2.1), .c (C.row 66 a.2.2)])]
theorem orielref18_Inner_ae {l : List Arg} {a : Int × LL × LL} (h : orielref18_Inner_a l = some a) : l = orielref18_Inner_e a := by
  unfold orielref18_Inner_a at h
  split at h
  · cases h; rfl
  · cases h
noncomputable def orielref18_Inner_d : Res → Option LL
  | ⟨.one (.own 25 y0), []⟩ => some y0
  | _ => none
noncomputable def orielref18_Inner_r (r : LL) : Res := ⟨.one (.own 25 r), []⟩
theorem orielref18_Inner_dr {R : Res} {r : LL} (h : orielref18_Inner_d R = some r) : R = orielref18_Inner_r r := by
  unfold orielref18_Inner_d at h
  split at h
  · cases h; rfl
  · cases h
noncomputable def orielref18_Inner_o (L : Lv) {Ω : Type} (f : FuncId) (l : List Arg) (K : Res → Option Ω) (next : Option Ω) : Option Ω := rowO 32 orielref18_Inner_a (fun a => L.orielref18_Inner a.1 a.2.1 a.2.2) orielref18_Inner_r f l K next
noncomputable def orielref18_within_a : List Arg → Option (Int × ByteArray × ByteArray × ByteArray × LL × LL)
  | [.v (.agg [.c (.int .i64 x0_0), .c (.str x0_1), .c (.str x0_2), .c (.str x0_3), .c (.row 66 x0_4), .c (.row 25 x0_5)])] => some (x0_0, x0_1, x0_2, x0_3, x0_4, x0_5)
  | _ => none
noncomputable def orielref18_within_e (a : Int × ByteArray × ByteArray × ByteArray × LL × LL) : List Arg := [.v (.agg [.c (C.int .i64 a.1), .c (C.str a.2.1), .c (C.str a.2.2.1), .c (C.str a.2.2.2.1), .c (C.row 66 a.2.2.2.2.1), .c (C.row 25 a.2.2.2.2.2)])]
theorem orielref18_within_ae {l : List Arg} {a : Int × ByteArray × ByteArray × ByteArray × LL × LL} (h : orielref18_within_a l = some a) : l = orielref18_within_e a := by
  unfold orielref18_within_a at h
  split at h
  · cases h; rfl
  · cases h
noncomputable def orielref18_within_d : Res → Option LL
  | ⟨.one (.own 25 y0), []⟩ => some y0
  | _ => none
noncomputable def orielref18_within_r (r : LL) : Res := ⟨.one (.own 25 r), []⟩
theorem orielref18_within_dr {R : Res} {r : LL} (h : orielref18_within_d R = some r) : R = orielref18_within_r r := by
  unfold orielref18_within_d at h
  split at h
  · cases h; rfl
  · cases h
noncomputable def orielref18_within_o (L : Lv) {Ω : Type} (f : FuncId) (l : List Arg) (K : Res → Option Ω) (next : Option Ω) : Option Ω := rowO 53 orielref18_within_a (fun a => L.orielref18_within a.1 a.2.1 a.2.2.1 a.2.2.2.1 a.2.2.2.2.1 a.2.2.2.2.2) orielref18_within_r f l K next
noncomputable def kind_Step_a : List Arg → Option (LL × LL × LL × Int × Int × Int × LL × LL × Int × ByteArray × ByteArray × LL × ByteArray × Bool × Bool × ByteArray × Bool × Bool × ByteArray)
  | [.v (.agg [.c (.row 25 x0_0), .c (.row 39 x0_1), .c (.row 3 x0_2), .c (.int .i64 x0_3), .c (.int .i64 x0_4), .c (.int .i64 x0_5), .c (.row 83 x0_6), .c (.row 66 x0_7)]), .v (.agg [.c (.int .i64 x1_0), .c (.str x1_1), .c (.str x1_2), .c (.row 86 x1_3), .c (.str x1_4)]), .v (.agg [.c (.bool x2_0), .c (.bool x2_1), .c (.str x2_2)]), .v (.agg [.c (.bool x3_0), .c (.bool x3_1), .c (.str x3_2)])] => some (x0_0, x0_1, x0_2, x0_3, x0_4, x0_5, x0_6, x0_7, x1_0, x1_1, x1_2, x1_3, x1_4, x2_0, x2_1, x2_2, x3_0, x3_1, x3_2)
  | _ => none
noncomputable def kind_Step_e (a : LL × LL × LL × Int × Int × Int × LL × LL × Int × ByteArray × ByteArray × LL × ByteArray × Bool × Bool × ByteArray × Bool × Bool × ByteArray) : List Arg := [.v (.agg [.c (C.row 25 a.1), .c (C.row 39 a.2.1), .c (C.row 3 a.2.2.1), .c (C.int .i64 a.2.2.2.1), .c (C.int .i64 a.2.2.2.2.1), .c (C.int .i64 a.2.2.2.2.2.1), .c (C.row 83 a.2.2.2.2.2.2.1), .c (C.row 66 a.2.2.2.2.2.2.2.1)]), .v (.agg [.c (C.int .i64 a.2.2.2.2.2.2.2.2.1), .c (C.str a.2.2.2.2.2.2.2.2.2.1), .c (C.str a.2.2.2.2.2.2.2.2.2.2.1), .c (C.row 86 a.2.2.2.2.2.2.2.2.2.2.2.1), .c (C.str a.2.2.2.2.2.2.2.2.2.2.2.2.1)]), .v (.agg [.c (C.bool a.2.2.2.2.2.2.2.2.2.2.2.2.2.1), .c (C.bool a.2.2.2.2.2.2.2.2.2.2.2.2.2.2.1), .c (C.str a.2.2.2.2.2.2.2.2.2.2.2.2.2.2.2.1)]), .v (.agg [.c (C.bool a.2.2.2.2.2.2.2.2.2.2.2.2.2.2.2.2.1), .c (C.bool a.2.2.2.2.2.2.2.2.2.2.2.2.2.2.2.2.2.1), .c (C.str a.2.2.2.2.2.2.2.2.2.2.2.2.2.2.2.2.2.2)])]
theorem kind_Step_ae {l : List Arg} {a : LL × LL × LL × Int × Int × Int × LL × LL × Int × ByteArray × ByteArray × LL × ByteArray × Bool × Bool × ByteArray × Bool × Bool × ByteArray} (h : kind_Step_a l = some a) : l = kind_Step_e a := by
  unfold kind_Step_a at h
  split at h
  · cases h; rfl
  · cases h
noncomputable def kind_Step_d : Res → Option (Bool × Bool × ByteArray)
  | ⟨.agg [.d (.bool y0), .d (.bool y1), .d (.str y2)], []⟩ => some (y0, y1, y2)
  | _ => none
noncomputable def kind_Step_r (r : Bool × Bool × ByteArray) : Res := ⟨.agg [.d (.bool r.1), .d (.bool r.2.1), .d (.str r.2.2)], []⟩
theorem kind_Step_dr {R : Res} {r : Bool × Bool × ByteArray} (h : kind_Step_d R = some r) : R = kind_Step_r r := by
  unfold kind_Step_d at h
  split at h
  · cases h; rfl
  · cases h
noncomputable def kind_Step_o (L : Lv) {Ω : Type} (f : FuncId) (l : List Arg) (K : Res → Option Ω) (next : Option Ω) : Option Ω := rowO 13 kind_Step_a (fun a => L.kind_Step a.1 a.2.1 a.2.2.1 a.2.2.2.1 a.2.2.2.2.1 a.2.2.2.2.2.1 a.2.2.2.2.2.2.1 a.2.2.2.2.2.2.2.1 a.2.2.2.2.2.2.2.2.1 a.2.2.2.2.2.2.2.2.2.1 a.2.2.2.2.2.2.2.2.2.2.1 a.2.2.2.2.2.2.2.2.2.2.2.1 a.2.2.2.2.2.2.2.2.2.2.2.2.1 a.2.2.2.2.2.2.2.2.2.2.2.2.2.1 a.2.2.2.2.2.2.2.2.2.2.2.2.2.2.1 a.2.2.2.2.2.2.2.2.2.2.2.2.2.2.2.1 a.2.2.2.2.2.2.2.2.2.2.2.2.2.2.2.2.1 a.2.2.2.2.2.2.2.2.2.2.2.2.2.2.2.2.2.1 a.2.2.2.2.2.2.2.2.2.2.2.2.2.2.2.2.2.2) kind_Step_r f l K next
noncomputable def strat_Items_a : List Arg → Option (LL × LL × LL × Int × Int × Int × LL × LL)
  | [.v (.agg [.c (.row 25 x0_0), .c (.row 39 x0_1), .c (.row 3 x0_2), .c (.int .i64 x0_3), .c (.int .i64 x0_4), .c (.int .i64 x0_5), .c (.row 83 x0_6), .c (.row 66 x0_7)])] => some (x0_0, x0_1, x0_2, x0_3, x0_4, x0_5, x0_6, x0_7)
  | _ => none
noncomputable def strat_Items_e (a : LL × LL × LL × Int × Int × Int × LL × LL) : List Arg := [.v (.agg [.c (C.row 25 a.1), .c (C.row 39 a.2.1), .c (C.row 3 a.2.2.1), .c (C.int .i64 a.2.2.2.1), .c (C.int .i64 a.2.2.2.2.1), .c (C.int .i64 a.2.2.2.2.2.1), .c (C.row 83 a.2.2.2.2.2.2.1), .c (C.row 66 a.2.2.2.2.2.2.2)])]
theorem strat_Items_ae {l : List Arg} {a : LL × LL × LL × Int × Int × Int × LL × LL} (h : strat_Items_a l = some a) : l = strat_Items_e a := by
  unfold strat_Items_a at h
  split at h
  · cases h; rfl
  · cases h
noncomputable def strat_Items_d : Res → Option Int
  | ⟨.one (.d (.int .i64 y0)), []⟩ => some y0
  | _ => none
noncomputable def strat_Items_r (r : Int) : Res := ⟨.one (.d (.int .i64 r)), []⟩
theorem strat_Items_dr {R : Res} {r : Int} (h : strat_Items_d R = some r) : R = strat_Items_r r := by
  unfold strat_Items_d at h
  split at h
  · cases h; rfl
  · cases h
noncomputable def strat_Items_o (L : Lv) {Ω : Type} (f : FuncId) (l : List Arg) (K : Res → Option Ω) (next : Option Ω) : Option Ω := rowO 35 strat_Items_a (fun a => L.strat_Items a.1 a.2.1 a.2.2.1 a.2.2.2.1 a.2.2.2.2.1 a.2.2.2.2.2.1 a.2.2.2.2.2.2.1 a.2.2.2.2.2.2.2) strat_Items_r f l K next
noncomputable def kind_maker_prog_a : List Arg → Option (LL × LL × LL × Int × Int × Int × LL × LL × Int × ByteArray × ByteArray × LL × ByteArray × Bool × Bool × ByteArray × Bool × Bool × ByteArray × LL × Int)
  | [.ref 79 [.d (.row 25 x0_0), .d (.row 39 x0_1), .d (.row 3 x0_2), .d (.int .i64 x0_3), .d (.int .i64 x0_4), .d (.int .i64 x0_5), .d (.row 83 x0_6), .d (.row 66 x0_7), .d (.int .i64 x0_8), .d (.str x0_9), .d (.str x0_10), .d (.row 86 x0_11), .d (.str x0_12), .d (.bool x0_13), .d (.bool x0_14), .d (.str x0_15), .d (.bool x0_16), .d (.bool x0_17), .d (.str x0_18), .own 5 x0_19] 0, .v (.one (.c (.int .i64 x1)))] => some (x0_0, x0_1, x0_2, x0_3, x0_4, x0_5, x0_6, x0_7, x0_8, x0_9, x0_10, x0_11, x0_12, x0_13, x0_14, x0_15, x0_16, x0_17, x0_18, x0_19, x1)
  | _ => none
noncomputable def kind_maker_prog_e (a : LL × LL × LL × Int × Int × Int × LL × LL × Int × ByteArray × ByteArray × LL × ByteArray × Bool × Bool × ByteArray × Bool × Bool × ByteArray × LL × Int) : List Arg := [.ref 79 [.d (C.row 25 a.1), .d (C.row 39 a.2.1), .d (C.row 3 a.2.2.1), .d (C.int .i64 a.2.2.2.1), .d (C.int .i64 a.2.2.2.2.1), .d (C.int .i64 a.2.2.2.2.2.1), .d (C.row 83 a.2.2.2.2.2.2.1), .d (C.row 66 a.2.2.2.2.2.2.2.1), .d (C.int .i64 a.2.2.2.2.2.2.2.2.1), .d (C.str a.2.2.2.2.2.2.2.2.2.1), .d (C.str a.2.2.2.2.2.2.2.2.2.2.1), .d (C.row 86 a.2.2.2.2.2.2.2.2.2.2.2.1), .d (C.str a.2.2.2.2.2.2.2.2.2.2.2.2.1), .d (C.bool a.2.2.2.2.2.2.2.2.2.2.2.2.2.1), .d (C.bool a.2.2.2.2.2.2.2.2.2.2.2.2.2.2.1), .d (C.str a.2.2.2.2.2.2.2.2.2.2.2.2.2.2.2.1), .d (C.bool a.2.2.2.2.2.2.2.2.2.2.2.2.2.2.2.2.1), .d (C.bool a.2.2.2.2.2.2.2.2.2.2.2.2.2.2.2.2.2.1), .d (C.str a.2.2.2.2.2.2.2.2.2.2.2.2.2.2.2.2.2.2.1), .own 5 a.2.2.2.2.2.2.2.2.2.2.2.2.2.2.2.2.2.2.2.1] 0, .v (.one (.c (C.int .i64 a.2.2.2.2.2.2.2.2.2.2.2.2.2.2.2.2.2.2.2.2)))]
theorem kind_maker_prog_ae {l : List Arg} {a : LL × LL × LL × Int × Int × Int × LL × LL × Int × ByteArray × ByteArray × LL × ByteArray × Bool × Bool × ByteArray × Bool × Bool × ByteArray × LL × Int} (h : kind_maker_prog_a l = some a) : l = kind_maker_prog_e a := by
  unfold kind_maker_prog_a at h
  split at h
  · cases h; rfl
  · cases h
noncomputable def kind_maker_prog_d : Res → Option (LL × LL × LL × Int × Int × Int × LL × LL × Int × ByteArray × ByteArray × LL × ByteArray × Bool × Bool × ByteArray × Bool × Bool × ByteArray × LL)
  | ⟨.tup [], [[.d (.row 25 y0), .d (.row 39 y1), .d (.row 3 y2), .d (.int .i64 y3), .d (.int .i64 y4), .d (.int .i64 y5), .d (.row 83 y6), .d (.row 66 y7), .d (.int .i64 y8), .d (.str y9), .d (.str y10), .d (.row 86 y11), .d (.str y12), .d (.bool y13), .d (.bool y14), .d (.str y15), .d (.bool y16), .d (.bool y17), .d (.str y18), .own 5 y19]]⟩ => some (y0, y1, y2, y3, y4, y5, y6, y7, y8, y9, y10, y11, y12, y13, y14, y15, y16, y17, y18, y19)
  | _ => none
noncomputable def kind_maker_prog_r (r : LL × LL × LL × Int × Int × Int × LL × LL × Int × ByteArray × ByteArray × LL × ByteArray × Bool × Bool × ByteArray × Bool × Bool × ByteArray × LL) : Res := ⟨.tup [], [[.d (.row 25 r.1), .d (.row 39 r.2.1), .d (.row 3 r.2.2.1), .d (.int .i64 r.2.2.2.1), .d (.int .i64 r.2.2.2.2.1), .d (.int .i64 r.2.2.2.2.2.1), .d (.row 83 r.2.2.2.2.2.2.1), .d (.row 66 r.2.2.2.2.2.2.2.1), .d (.int .i64 r.2.2.2.2.2.2.2.2.1), .d (.str r.2.2.2.2.2.2.2.2.2.1), .d (.str r.2.2.2.2.2.2.2.2.2.2.1), .d (.row 86 r.2.2.2.2.2.2.2.2.2.2.2.1), .d (.str r.2.2.2.2.2.2.2.2.2.2.2.2.1), .d (.bool r.2.2.2.2.2.2.2.2.2.2.2.2.2.1), .d (.bool r.2.2.2.2.2.2.2.2.2.2.2.2.2.2.1), .d (.str r.2.2.2.2.2.2.2.2.2.2.2.2.2.2.2.1), .d (.bool r.2.2.2.2.2.2.2.2.2.2.2.2.2.2.2.2.1), .d (.bool r.2.2.2.2.2.2.2.2.2.2.2.2.2.2.2.2.2.1), .d (.str r.2.2.2.2.2.2.2.2.2.2.2.2.2.2.2.2.2.2.1), .own 5 r.2.2.2.2.2.2.2.2.2.2.2.2.2.2.2.2.2.2.2]]⟩
theorem kind_maker_prog_dr {R : Res} {r : LL × LL × LL × Int × Int × Int × LL × LL × Int × ByteArray × ByteArray × LL × ByteArray × Bool × Bool × ByteArray × Bool × Bool × ByteArray × LL} (h : kind_maker_prog_d R = some r) : R = kind_maker_prog_r r := by
  unfold kind_maker_prog_d at h
  split at h
  · cases h; rfl
  · cases h
noncomputable def kind_maker_prog_o (L : Lv) {Ω : Type} (f : FuncId) (l : List Arg) (K : Res → Option Ω) (next : Option Ω) : Option Ω := rowO 36 kind_maker_prog_a (fun a => L.kind_maker_prog a.1 a.2.1 a.2.2.1 a.2.2.2.1 a.2.2.2.2.1 a.2.2.2.2.2.1 a.2.2.2.2.2.2.1 a.2.2.2.2.2.2.2.1 a.2.2.2.2.2.2.2.2.1 a.2.2.2.2.2.2.2.2.2.1 a.2.2.2.2.2.2.2.2.2.2.1 a.2.2.2.2.2.2.2.2.2.2.2.1 a.2.2.2.2.2.2.2.2.2.2.2.2.1 a.2.2.2.2.2.2.2.2.2.2.2.2.2.1 a.2.2.2.2.2.2.2.2.2.2.2.2.2.2.1 a.2.2.2.2.2.2.2.2.2.2.2.2.2.2.2.1 a.2.2.2.2.2.2.2.2.2.2.2.2.2.2.2.2.1 a.2.2.2.2.2.2.2.2.2.2.2.2.2.2.2.2.2.1 a.2.2.2.2.2.2.2.2.2.2.2.2.2.2.2.2.2.2.1 a.2.2.2.2.2.2.2.2.2.2.2.2.2.2.2.2.2.2.2.1 a.2.2.2.2.2.2.2.2.2.2.2.2.2.2.2.2.2.2.2.2) kind_maker_prog_r f l K next
noncomputable def strat_Tests_a : List Arg → Option (LL × LL × LL × Int × Int × Int × LL × LL × Int × Int × Int × LL × LL × Int × ByteArray × ByteArray × LL × ByteArray × LL)
  | [.v (.agg [.c (.row 25 x0_0), .c (.row 39 x0_1), .c (.row 3 x0_2), .c (.int .i64 x0_3), .c (.int .i64 x0_4), .c (.int .i64 x0_5), .c (.row 83 x0_6), .c (.row 66 x0_7)]), .v (.agg [.c (.int .i64 x1_0), .c (.int .i64 x1_1), .c (.int .i64 x1_2), .c (.row 83 x1_3), .c (.row 66 x1_4)]), .v (.agg [.c (.int .i64 x2_0), .c (.str x2_1), .c (.str x2_2), .c (.row 86 x2_3), .c (.str x2_4)]), .v (.one (.c (.row 5 x3)))] => some (x0_0, x0_1, x0_2, x0_3, x0_4, x0_5, x0_6, x0_7, x1_0, x1_1, x1_2, x1_3, x1_4, x2_0, x2_1, x2_2, x2_3, x2_4, x3)
  | _ => none
noncomputable def strat_Tests_e (a : LL × LL × LL × Int × Int × Int × LL × LL × Int × Int × Int × LL × LL × Int × ByteArray × ByteArray × LL × ByteArray × LL) : List Arg := [.v (.agg [.c (C.row 25 a.1), .c (C.row 39 a.2.1), .c (C.row 3 a.2.2.1), .c (C.int .i64 a.2.2.2.1), .c (C.int .i64 a.2.2.2.2.1), .c (C.int .i64 a.2.2.2.2.2.1), .c (C.row 83 a.2.2.2.2.2.2.1), .c (C.row 66 a.2.2.2.2.2.2.2.1)]), .v (.agg [.c (C.int .i64 a.2.2.2.2.2.2.2.2.1), .c (C.int .i64 a.2.2.2.2.2.2.2.2.2.1), .c (C.int .i64 a.2.2.2.2.2.2.2.2.2.2.1), .c (C.row 83 a.2.2.2.2.2.2.2.2.2.2.2.1), .c (C.row 66 a.2.2.2.2.2.2.2.2.2.2.2.2.1)]), .v (.agg [.c (C.int .i64 a.2.2.2.2.2.2.2.2.2.2.2.2.2.1), .c (C.str a.2.2.2.2.2.2.2.2.2.2.2.2.2.2.1), .c (C.str a.2.2.2.2.2.2.2.2.2.2.2.2.2.2.2.1), .c (C.row 86 a.2.2.2.2.2.2.2.2.2.2.2.2.2.2.2.2.1), .c (C.str a.2.2.2.2.2.2.2.2.2.2.2.2.2.2.2.2.2.1)]), .v (.one (.c (C.row 5 a.2.2.2.2.2.2.2.2.2.2.2.2.2.2.2.2.2.2)))]
theorem strat_Tests_ae {l : List Arg} {a : LL × LL × LL × Int × Int × Int × LL × LL × Int × Int × Int × LL × LL × Int × ByteArray × ByteArray × LL × ByteArray × LL} (h : strat_Tests_a l = some a) : l = strat_Tests_e a := by
  unfold strat_Tests_a at h
  split at h
  · cases h; rfl
  · cases h
noncomputable def strat_Tests_d : Res → Option LL
  | ⟨.one (.own 4 y0), []⟩ => some y0
  | _ => none
noncomputable def strat_Tests_r (r : LL) : Res := ⟨.one (.own 4 r), []⟩
theorem strat_Tests_dr {R : Res} {r : LL} (h : strat_Tests_d R = some r) : R = strat_Tests_r r := by
  unfold strat_Tests_d at h
  split at h
  · cases h; rfl
  · cases h
noncomputable def strat_Tests_o (L : Lv) {Ω : Type} (f : FuncId) (l : List Arg) (K : Res → Option Ω) (next : Option Ω) : Option Ω := rowO 43 strat_Tests_a (fun a => L.strat_Tests a.1 a.2.1 a.2.2.1 a.2.2.2.1 a.2.2.2.2.1 a.2.2.2.2.2.1 a.2.2.2.2.2.2.1 a.2.2.2.2.2.2.2.1 a.2.2.2.2.2.2.2.2.1 a.2.2.2.2.2.2.2.2.2.1 a.2.2.2.2.2.2.2.2.2.2.1 a.2.2.2.2.2.2.2.2.2.2.2.1 a.2.2.2.2.2.2.2.2.2.2.2.2.1 a.2.2.2.2.2.2.2.2.2.2.2.2.2.1 a.2.2.2.2.2.2.2.2.2.2.2.2.2.2.1 a.2.2.2.2.2.2.2.2.2.2.2.2.2.2.2.1 a.2.2.2.2.2.2.2.2.2.2.2.2.2.2.2.2.1 a.2.2.2.2.2.2.2.2.2.2.2.2.2.2.2.2.2.1 a.2.2.2.2.2.2.2.2.2.2.2.2.2.2.2.2.2.2) strat_Tests_r f l K next
noncomputable def strat_node_holds_a : List Arg → Option (LL × LL × LL × Int × Int × Int × LL × LL × Int × ByteArray × ByteArray × LL × ByteArray × LL × Int × ByteArray × ByteArray × ByteArray × LL × LL)
  | [.ref 112 [.d (.row 25 x0_0), .d (.row 39 x0_1), .d (.row 3 x0_2), .d (.int .i64 x0_3), .d (.int .i64 x0_4), .d (.int .i64 x0_5), .d (.row 83 x0_6), .d (.row 66 x0_7), .d (.int .i64 x0_8), .d (.str x0_9), .d (.str x0_10), .d (.row 86 x0_11), .d (.str x0_12), .d (.row 5 x0_13)] 0, .v (.agg [.c (.int .i64 x1_0), .c (.str x1_1), .c (.str x1_2), .c (.str x1_3), .c (.row 66 x1_4), .c (.row 25 x1_5)])] => some (x0_0, x0_1, x0_2, x0_3, x0_4, x0_5, x0_6, x0_7, x0_8, x0_9, x0_10, x0_11, x0_12, x0_13, x1_0, x1_1, x1_2, x1_3, x1_4, x1_5)
  | _ => none
noncomputable def strat_node_holds_e (a : LL × LL × LL × Int × Int × Int × LL × LL × Int × ByteArray × ByteArray × LL × ByteArray × LL × Int × ByteArray × ByteArray × ByteArray × LL × LL) : List Arg := [.ref 112 [.d (C.row 25 a.1), .d (C.row 39 a.2.1), .d (C.row 3 a.2.2.1), .d (C.int .i64 a.2.2.2.1), .d (C.int .i64 a.2.2.2.2.1), .d (C.int .i64 a.2.2.2.2.2.1), .d (C.row 83 a.2.2.2.2.2.2.1), .d (C.row 66 a.2.2.2.2.2.2.2.1), .d (C.int .i64 a.2.2.2.2.2.2.2.2.1), .d (C.str a.2.2.2.2.2.2.2.2.2.1), .d (C.str a.2.2.2.2.2.2.2.2.2.2.1), .d (C.row 86 a.2.2.2.2.2.2.2.2.2.2.2.1), .d (C.str a.2.2.2.2.2.2.2.2.2.2.2.2.1), .d (C.row 5 a.2.2.2.2.2.2.2.2.2.2.2.2.2.1)] 0, .v (.agg [.c (C.int .i64 a.2.2.2.2.2.2.2.2.2.2.2.2.2.2.1), .c (C.str a.2.2.2.2.2.2.2.2.2.2.2.2.2.2.2.1), .c (C.str a.2.2.2.2.2.2.2.2.2.2.2.2.2.2.2.2.1), .c (C.str a.2.2.2.2.2.2.2.2.2.2.2.2.2.2.2.2.2.1), .c (C.row 66 a.2.2.2.2.2.2.2.2.2.2.2.2.2.2.2.2.2.2.1), .c (C.row 25 a.2.2.2.2.2.2.2.2.2.2.2.2.2.2.2.2.2.2.2)])]
theorem strat_node_holds_ae {l : List Arg} {a : LL × LL × LL × Int × Int × Int × LL × LL × Int × ByteArray × ByteArray × LL × ByteArray × LL × Int × ByteArray × ByteArray × ByteArray × LL × LL} (h : strat_node_holds_a l = some a) : l = strat_node_holds_e a := by
  unfold strat_node_holds_a at h
  split at h
  · cases h; rfl
  · cases h
noncomputable def strat_node_holds_d : Res → Option (Bool × LL × LL × LL × Int × Int × Int × LL × LL × Int × ByteArray × ByteArray × LL × ByteArray × LL)
  | ⟨.one (.d (.bool y0)), [[.d (.row 25 y1), .d (.row 39 y2), .d (.row 3 y3), .d (.int .i64 y4), .d (.int .i64 y5), .d (.int .i64 y6), .d (.row 83 y7), .d (.row 66 y8), .d (.int .i64 y9), .d (.str y10), .d (.str y11), .d (.row 86 y12), .d (.str y13), .d (.row 5 y14)]]⟩ => some (y0, y1, y2, y3, y4, y5, y6, y7, y8, y9, y10, y11, y12, y13, y14)
  | _ => none
noncomputable def strat_node_holds_r (r : Bool × LL × LL × LL × Int × Int × Int × LL × LL × Int × ByteArray × ByteArray × LL × ByteArray × LL) : Res := ⟨.one (.d (.bool r.1)), [[.d (.row 25 r.2.1), .d (.row 39 r.2.2.1), .d (.row 3 r.2.2.2.1), .d (.int .i64 r.2.2.2.2.1), .d (.int .i64 r.2.2.2.2.2.1), .d (.int .i64 r.2.2.2.2.2.2.1), .d (.row 83 r.2.2.2.2.2.2.2.1), .d (.row 66 r.2.2.2.2.2.2.2.2.1), .d (.int .i64 r.2.2.2.2.2.2.2.2.2.1), .d (.str r.2.2.2.2.2.2.2.2.2.2.1), .d (.str r.2.2.2.2.2.2.2.2.2.2.2.1), .d (.row 86 r.2.2.2.2.2.2.2.2.2.2.2.2.1), .d (.str r.2.2.2.2.2.2.2.2.2.2.2.2.2.1), .d (.row 5 r.2.2.2.2.2.2.2.2.2.2.2.2.2.2)]]⟩
theorem strat_node_holds_dr {R : Res} {r : Bool × LL × LL × LL × Int × Int × Int × LL × LL × Int × ByteArray × ByteArray × LL × ByteArray × LL} (h : strat_node_holds_d R = some r) : R = strat_node_holds_r r := by
  unfold strat_node_holds_d at h
  split at h
  · cases h; rfl
  · cases h
noncomputable def strat_node_holds_o (L : Lv) {Ω : Type} (f : FuncId) (l : List Arg) (K : Res → Option Ω) (next : Option Ω) : Option Ω := rowO 58 strat_node_holds_a (fun a => L.strat_node_holds a.1 a.2.1 a.2.2.1 a.2.2.2.1 a.2.2.2.2.1 a.2.2.2.2.2.1 a.2.2.2.2.2.2.1 a.2.2.2.2.2.2.2.1 a.2.2.2.2.2.2.2.2.1 a.2.2.2.2.2.2.2.2.2.1 a.2.2.2.2.2.2.2.2.2.2.1 a.2.2.2.2.2.2.2.2.2.2.2.1 a.2.2.2.2.2.2.2.2.2.2.2.2.1 a.2.2.2.2.2.2.2.2.2.2.2.2.2.1 a.2.2.2.2.2.2.2.2.2.2.2.2.2.2.1 a.2.2.2.2.2.2.2.2.2.2.2.2.2.2.2.1 a.2.2.2.2.2.2.2.2.2.2.2.2.2.2.2.2.1 a.2.2.2.2.2.2.2.2.2.2.2.2.2.2.2.2.2.1 a.2.2.2.2.2.2.2.2.2.2.2.2.2.2.2.2.2.2.1 a.2.2.2.2.2.2.2.2.2.2.2.2.2.2.2.2.2.2.2) strat_node_holds_r f l K next
noncomputable def strat_node_attr_a : List Arg → Option (LL × LL × LL × Int × Int × Int × LL × LL × Int × ByteArray × ByteArray × LL × ByteArray × LL × ByteArray × ByteArray)
  | [.ref 112 [.d (.row 25 x0_0), .d (.row 39 x0_1), .d (.row 3 x0_2), .d (.int .i64 x0_3), .d (.int .i64 x0_4), .d (.int .i64 x0_5), .d (.row 83 x0_6), .d (.row 66 x0_7), .d (.int .i64 x0_8), .d (.str x0_9), .d (.str x0_10), .d (.row 86 x0_11), .d (.str x0_12), .d (.row 5 x0_13)] 0, .v (.agg [.c (.str x1_0), .c (.str x1_1)])] => some (x0_0, x0_1, x0_2, x0_3, x0_4, x0_5, x0_6, x0_7, x0_8, x0_9, x0_10, x0_11, x0_12, x0_13, x1_0, x1_1)
  | _ => none
noncomputable def strat_node_attr_e (a : LL × LL × LL × Int × Int × Int × LL × LL × Int × ByteArray × ByteArray × LL × ByteArray × LL × ByteArray × ByteArray) : List Arg := [.ref 112 [.d (C.row 25 a.1), .d (C.row 39 a.2.1), .d (C.row 3 a.2.2.1), .d (C.int .i64 a.2.2.2.1), .d (C.int .i64 a.2.2.2.2.1), .d (C.int .i64 a.2.2.2.2.2.1), .d (C.row 83 a.2.2.2.2.2.2.1), .d (C.row 66 a.2.2.2.2.2.2.2.1), .d (C.int .i64 a.2.2.2.2.2.2.2.2.1), .d (C.str a.2.2.2.2.2.2.2.2.2.1), .d (C.str a.2.2.2.2.2.2.2.2.2.2.1), .d (C.row 86 a.2.2.2.2.2.2.2.2.2.2.2.1), .d (C.str a.2.2.2.2.2.2.2.2.2.2.2.2.1), .d (C.row 5 a.2.2.2.2.2.2.2.2.2.2.2.2.2.1)] 0, .v (.agg [.c (C.str a.2.2.2.2.2.2.2.2.2.2.2.2.2.2.1), .c (C.str a.2.2.2.2.2.2.2.2.2.2.2.2.2.2.2)])]
theorem strat_node_attr_ae {l : List Arg} {a : LL × LL × LL × Int × Int × Int × LL × LL × Int × ByteArray × ByteArray × LL × ByteArray × LL × ByteArray × ByteArray} (h : strat_node_attr_a l = some a) : l = strat_node_attr_e a := by
  unfold strat_node_attr_a at h
  split at h
  · cases h; rfl
  · cases h
noncomputable def strat_node_attr_d : Res → Option (ByteArray × Bool × LL × LL × LL × Int × Int × Int × LL × LL × Int × ByteArray × ByteArray × LL × ByteArray × LL)
  | ⟨.tup [.one (.d (.str y0)), .one (.d (.bool y1))], [[.d (.row 25 y2), .d (.row 39 y3), .d (.row 3 y4), .d (.int .i64 y5), .d (.int .i64 y6), .d (.int .i64 y7), .d (.row 83 y8), .d (.row 66 y9), .d (.int .i64 y10), .d (.str y11), .d (.str y12), .d (.row 86 y13), .d (.str y14), .d (.row 5 y15)]]⟩ => some (y0, y1, y2, y3, y4, y5, y6, y7, y8, y9, y10, y11, y12, y13, y14, y15)
  | _ => none
noncomputable def strat_node_attr_r (r : ByteArray × Bool × LL × LL × LL × Int × Int × Int × LL × LL × Int × ByteArray × ByteArray × LL × ByteArray × LL) : Res := ⟨.tup [.one (.d (.str r.1)), .one (.d (.bool r.2.1))], [[.d (.row 25 r.2.2.1), .d (.row 39 r.2.2.2.1), .d (.row 3 r.2.2.2.2.1), .d (.int .i64 r.2.2.2.2.2.1), .d (.int .i64 r.2.2.2.2.2.2.1), .d (.int .i64 r.2.2.2.2.2.2.2.1), .d (.row 83 r.2.2.2.2.2.2.2.2.1), .d (.row 66 r.2.2.2.2.2.2.2.2.2.1), .d (.int .i64 r.2.2.2.2.2.2.2.2.2.2.1), .d (.str r.2.2.2.2.2.2.2.2.2.2.2.1), .d (.str r.2.2.2.2.2.2.2.2.2.2.2.2.1), .d (.row 86 r.2.2.2.2.2.2.2.2.2.2.2.2.2.1), .d (.str r.2.2.2.2.2.2.2.2.2.2.2.2.2.2.1), .d (.row 5 r.2.2.2.2.2.2.2.2.2.2.2.2.2.2.2)]]⟩
theorem strat_node_attr_dr {R : Res} {r : ByteArray × Bool × LL × LL × LL × Int × Int × Int × LL × LL × Int × ByteArray × ByteArray × LL × ByteArray × LL} (h : strat_node_attr_d R = some r) : R = strat_node_attr_r r := by
  unfold strat_node_attr_d at h
  split at h
  · cases h; rfl
  · cases h
noncomputable def strat_node_attr_o (L : Lv) {Ω : Type} (f : FuncId) (l : List Arg) (K : Res → Option Ω) (next : Option Ω) : Option Ω := rowO 73 strat_node_attr_a (fun a => L.strat_node_attr a.1 a.2.1 a.2.2.1 a.2.2.2.1 a.2.2.2.2.1 a.2.2.2.2.2.1 a.2.2.2.2.2.2.1 a.2.2.2.2.2.2.2.1 a.2.2.2.2.2.2.2.2.1 a.2.2.2.2.2.2.2.2.2.1 a.2.2.2.2.2.2.2.2.2.2.1 a.2.2.2.2.2.2.2.2.2.2.2.1 a.2.2.2.2.2.2.2.2.2.2.2.2.1 a.2.2.2.2.2.2.2.2.2.2.2.2.2.1 a.2.2.2.2.2.2.2.2.2.2.2.2.2.2.1 a.2.2.2.2.2.2.2.2.2.2.2.2.2.2.2) strat_node_attr_r f l K next
noncomputable def api_Filter_a : List Arg → Option (LL × LL × LL × LL × Int × Int × Int × LL × LL × Int × ByteArray × ByteArray × LL × ByteArray × LL)
  | [.v (.one (.c (.row 66 x0))), .fnr 75 true 112 [.row 25 x1_0, .row 39 x1_1, .row 3 x1_2, .int .i64 x1_3, .int .i64 x1_4, .int .i64 x1_5, .row 83 x1_6, .row 66 x1_7, .int .i64 x1_8, .str x1_9, .str x1_10, .row 86 x1_11, .str x1_12, .row 5 x1_13] 0] => some (x0, x1_0, x1_1, x1_2, x1_3, x1_4, x1_5, x1_6, x1_7, x1_8, x1_9, x1_10, x1_11, x1_12, x1_13)
  | _ => none
noncomputable def api_Filter_e (a : LL × LL × LL × LL × Int × Int × Int × LL × LL × Int × ByteArray × ByteArray × LL × ByteArray × LL) : List Arg := [.v (.one (.c (C.row 66 a.1))), .fnr 75 true 112 [C.row 25 a.2.1, C.row 39 a.2.2.1, C.row 3 a.2.2.2.1, C.int .i64 a.2.2.2.2.1, C.int .i64 a.2.2.2.2.2.1, C.int .i64 a.2.2.2.2.2.2.1, C.row 83 a.2.2.2.2.2.2.2.1, C.row 66 a.2.2.2.2.2.2.2.2.1, C.int .i64 a.2.2.2.2.2.2.2.2.2.1, C.str a.2.2.2.2.2.2.2.2.2.2.1, C.str a.2.2.2.2.2.2.2.2.2.2.2.1, C.row 86 a.2.2.2.2.2.2.2.2.2.2.2.2.1, C.str a.2.2.2.2.2.2.2.2.2.2.2.2.2.1, C.row 5 a.2.2.2.2.2.2.2.2.2.2.2.2.2.2] 0]
theorem api_Filter_ae {l : List Arg} {a : LL × LL × LL × LL × Int × Int × Int × LL × LL × Int × ByteArray × ByteArray × LL × ByteArray × LL} (h : api_Filter_a l = some a) : l = api_Filter_e a := by
  unfold api_Filter_a at h
  split at h
  · cases h; rfl
  · cases h
noncomputable def api_Filter_d : Res → Option Bool
  | ⟨.one (.d (.bool y0)), []⟩ => some y0
  | _ => none
noncomputable def api_Filter_r (r : Bool) : Res := ⟨.one (.d (.bool r)), []⟩
theorem api_Filter_dr {R : Res} {r : Bool} (h : api_Filter_d R = some r) : R = api_Filter_r r := by
  unfold api_Filter_d at h
  split at h
  · cases h; rfl
  · cases h
noncomputable def api_Filter_o (L : Lv) {Ω : Type} (f : FuncId) (l : List Arg) (K : Res → Option Ω) (next : Option Ω) : Option Ω := rowO 74 api_Filter_a (fun a => L.api_Filter a.1 a.2.1 a.2.2.1 a.2.2.2.1 a.2.2.2.2.1 a.2.2.2.2.2.1 a.2.2.2.2.2.2.1 a.2.2.2.2.2.2.2.1 a.2.2.2.2.2.2.2.2.1 a.2.2.2.2.2.2.2.2.2.1 a.2.2.2.2.2.2.2.2.2.2.1 a.2.2.2.2.2.2.2.2.2.2.2.1 a.2.2.2.2.2.2.2.2.2.2.2.2.1 a.2.2.2.2.2.2.2.2.2.2.2.2.2.1 a.2.2.2.2.2.2.2.2.2.2.2.2.2.2) api_Filter_r f l K next
noncomputable def api_Filter_2_a : List Arg → Option (LL × LL × LL × LL × Int × Int × Int × LL × LL × Int × ByteArray × ByteArray × LL × ByteArray × LL)
  | [.v (.one (.c (.row 66 x0))), .fnr 58 true 112 [.row 25 x1_0, .row 39 x1_1, .row 3 x1_2, .int .i64 x1_3, .int .i64 x1_4, .int .i64 x1_5, .row 83 x1_6, .row 66 x1_7, .int .i64 x1_8, .str x1_9, .str x1_10, .row 86 x1_11, .str x1_12, .row 5 x1_13] 0] => some (x0, x1_0, x1_1, x1_2, x1_3, x1_4, x1_5, x1_6, x1_7, x1_8, x1_9, x1_10, x1_11, x1_12, x1_13)
  | _ => none
noncomputable def api_Filter_2_e (a : LL × LL × LL × LL × Int × Int × Int × LL × LL × Int × ByteArray × ByteArray × LL × ByteArray × LL) : List Arg := [.v (.one (.c (C.row 66 a.1))), .fnr 58 true 112 [C.row 25 a.2.1, C.row 39 a.2.2.1, C.row 3 a.2.2.2.1, C.int .i64 a.2.2.2.2.1, C.int .i64 a.2.2.2.2.2.1, C.int .i64 a.2.2.2.2.2.2.1, C.row 83 a.2.2.2.2.2.2.2.1, C.row 66 a.2.2.2.2.2.2.2.2.1, C.int .i64 a.2.2.2.2.2.2.2.2.2.1, C.str a.2.2.2.2.2.2.2.2.2.2.1, C.str a.2.2.2.2.2.2.2.2.2.2.2.1, C.row 86 a.2.2.2.2.2.2.2.2.2.2.2.2.1, C.str a.2.2.2.2.2.2.2.2.2.2.2.2.2.1, C.row 5 a.2.2.2.2.2.2.2.2.2.2.2.2.2.2] 0]
theorem api_Filter_2_ae {l : List Arg} {a : LL × LL × LL × LL × Int × Int × Int × LL × LL × Int × ByteArray × ByteArray × LL × ByteArray × LL} (h : api_Filter_2_a l = some a) : l = api_Filter_2_e a := by
  unfold api_Filter_2_a at h
  split at h
  · cases h; rfl
  · cases h
noncomputable def api_Filter_2_d : Res → Option Bool
  | ⟨.one (.d (.bool y0)), []⟩ => some y0
  | _ => none
noncomputable def api_Filter_2_r (r : Bool) : Res := ⟨.one (.d (.bool r)), []⟩
theorem api_Filter_2_dr {R : Res} {r : Bool} (h : api_Filter_2_d R = some r) : R = api_Filter_2_r r := by
  unfold api_Filter_2_d at h
  split at h
  · cases h; rfl
  · cases h
noncomputable def api_Filter_2_o (L : Lv) {Ω : Type} (f : FuncId) (l : List Arg) (K : Res → Option Ω) (next : Option Ω) : Option Ω := rowO 74 api_Filter_2_a (fun a => L.api_Filter_2 a.1 a.2.1 a.2.2.1 a.2.2.2.1 a.2.2.2.2.1 a.2.2.2.2.2.1 a.2.2.2.2.2.2.1 a.2.2.2.2.2.2.2.1 a.2.2.2.2.2.2.2.2.1 a.2.2.2.2.2.2.2.2.2.1 a.2.2.2.2.2.2.2.2.2.2.1 a.2.2.2.2.2.2.2.2.2.2.2.1 a.2.2.2.2.2.2.2.2.2.2.2.2.1 a.2.2.2.2.2.2.2.2.2.2.2.2.2.1 a.2.2.2.2.2.2.2.2.2.2.2.2.2.2) api_Filter_2_r f l K next
noncomputable def api_Path_a : List Arg → Option (LL × LL × LL × LL × Int × Int × Int × LL × LL × Int × ByteArray × ByteArray × LL × ByteArray × LL)
  | [.v (.one (.c (.row 25 x0))), .fnr 77 true 112 [.row 25 x1_0, .row 39 x1_1, .row 3 x1_2, .int .i64 x1_3, .int .i64 x1_4, .int .i64 x1_5, .row 83 x1_6, .row 66 x1_7, .int .i64 x1_8, .str x1_9, .str x1_10, .row 86 x1_11, .str x1_12, .row 5 x1_13] 0] => some (x0, x1_0, x1_1, x1_2, x1_3, x1_4, x1_5, x1_6, x1_7, x1_8, x1_9, x1_10, x1_11, x1_12, x1_13)
  | _ => none
noncomputable def api_Path_e (a : LL × LL × LL × LL × Int × Int × Int × LL × LL × Int × ByteArray × ByteArray × LL × ByteArray × LL) : List Arg := [.v (.one (.c (C.row 25 a.1))), .fnr 77 true 112 [C.row 25 a.2.1, C.row 39 a.2.2.1, C.row 3 a.2.2.2.1, C.int .i64 a.2.2.2.2.1, C.int .i64 a.2.2.2.2.2.1, C.int .i64 a.2.2.2.2.2.2.1, C.row 83 a.2.2.2.2.2.2.2.1, C.row 66 a.2.2.2.2.2.2.2.2.1, C.int .i64 a.2.2.2.2.2.2.2.2.2.1, C.str a.2.2.2.2.2.2.2.2.2.2.1, C.str a.2.2.2.2.2.2.2.2.2.2.2.1, C.row 86 a.2.2.2.2.2.2.2.2.2.2.2.2.1, C.str a.2.2.2.2.2.2.2.2.2.2.2.2.2.1, C.row 5 a.2.2.2.2.2.2.2.2.2.2.2.2.2.2] 0]
theorem api_Path_ae {l : List Arg} {a : LL × LL × LL × LL × Int × Int × Int × LL × LL × Int × ByteArray × ByteArray × LL × ByteArray × LL} (h : api_Path_a l = some a) : l = api_Path_e a := by
  unfold api_Path_a at h
  split at h
  · cases h; rfl
  · cases h
noncomputable def api_Path_d : Res → Option Bool
  | ⟨.one (.d (.bool y0)), []⟩ => some y0
  | _ => none
noncomputable def api_Path_r (r : Bool) : Res := ⟨.one (.d (.bool r)), []⟩
theorem api_Path_dr {R : Res} {r : Bool} (h : api_Path_d R = some r) : R = api_Path_r r := by
  unfold api_Path_d at h
  split at h
  · cases h; rfl
  · cases h
noncomputable def api_Path_o (L : Lv) {Ω : Type} (f : FuncId) (l : List Arg) (K : Res → Option Ω) (next : Option Ω) : Option Ω := rowO 76 api_Path_a (fun a => L.api_Path a.1 a.2.1 a.2.2.1 a.2.2.2.1 a.2.2.2.2.1 a.2.2.2.2.2.1 a.2.2.2.2.2.2.1 a.2.2.2.2.2.2.2.1 a.2.2.2.2.2.2.2.2.1 a.2.2.2.2.2.2.2.2.2.1 a.2.2.2.2.2.2.2.2.2.2.1 a.2.2.2.2.2.2.2.2.2.2.2.1 a.2.2.2.2.2.2.2.2.2.2.2.2.1 a.2.2.2.2.2.2.2.2.2.2.2.2.2.1 a.2.2.2.2.2.2.2.2.2.2.2.2.2.2) api_Path_r f l K next
noncomputable def api_Filter_3_a : List Arg → Option (LL × LL × LL × LL × Int × Int × Int × LL × LL × Int × ByteArray × ByteArray × LL × ByteArray × LL)
  | [.v (.one (.c (.row 66 x0))), .fnr 75 true 112 [.row 25 x1_0, .row 39 x1_1, .row 3 x1_2, .int .i64 x1_3, .int .i64 x1_4, .int .i64 x1_5, .row 83 x1_6, .row 66 x1_7, .int .i64 x1_8, .str x1_9, .str x1_10, .row 86 x1_11, .str x1_12, .row 5 x1_13] 0] => some (x0, x1_0, x1_1, x1_2, x1_3, x1_4, x1_5, x1_6, x1_7, x1_8, x1_9, x1_10, x1_11, x1_12, x1_13)
  | _ => none
noncomputable def api_Filter_3_e (a : LL × LL × LL × LL × Int × Int × Int × LL × LL × Int × ByteArray × ByteArray × LL × ByteArray × LL) : List Arg := [.v (.one (.c (C.row 66 a.1))), .fnr 75 true 112 [C.row 25 a.2.1, C.row 39 a.2.2.1, C.row 3 a.2.2.2.1, C.int .i64 a.2.2.2.2.1, C.int .i64 a.2.2.2.2.2.1, C.int .i64 a.2.2.2.2.2.2.1, C.row 83 a.2.2.2.2.2.2.2.1, C.row 66 a.2.2.2.2.2.2.2.2.1, C.int .i64 a.2.2.2.2.2.2.2.2.2.1, C.str a.2.2.2.2.2.2.2.2.2.2.1, C.str a.2.2.2.2.2.2.2.2.2.2.2.1, C.row 86 a.2.2.2.2.2.2.2.2.2.2.2.2.1, C.str a.2.2.2.2.2.2.2.2.2.2.2.2.2.1, C.row 5 a.2.2.2.2.2.2.2.2.2.2.2.2.2.2] 0]
theorem api_Filter_3_ae {l : List Arg} {a : LL × LL × LL × LL × Int × Int × Int × LL × LL × Int × ByteArray × ByteArray × LL × ByteArray × LL} (h : api_Filter_3_a l = some a) : l = api_Filter_3_e a := by
  unfold api_Filter_3_a at h
  split at h
  · cases h; rfl
  · cases h
noncomputable def api_Filter_3_d : Res → Option Int
  | ⟨.one (.d (.int .i64 y0)), []⟩ => some y0
  | _ => none
noncomputable def api_Filter_3_r (r : Int) : Res := ⟨.one (.d (.int .i64 r)), []⟩
theorem api_Filter_3_dr {R : Res} {r : Int} (h : api_Filter_3_d R = some r) : R = api_Filter_3_r r := by
  unfold api_Filter_3_d at h
  split at h
  · cases h; rfl
  · cases h
noncomputable def api_Filter_3_o (L : Lv) {Ω : Type} (f : FuncId) (l : List Arg) (K : Res → Option Ω) (next : Option Ω) : Option Ω := rowO 90 api_Filter_3_a (fun a => L.api_Filter_3 a.1 a.2.1 a.2.2.1 a.2.2.2.1 a.2.2.2.2.1 a.2.2.2.2.2.1 a.2.2.2.2.2.2.1 a.2.2.2.2.2.2.2.1 a.2.2.2.2.2.2.2.2.1 a.2.2.2.2.2.2.2.2.2.1 a.2.2.2.2.2.2.2.2.2.2.1 a.2.2.2.2.2.2.2.2.2.2.2.1 a.2.2.2.2.2.2.2.2.2.2.2.2.1 a.2.2.2.2.2.2.2.2.2.2.2.2.2.1 a.2.2.2.2.2.2.2.2.2.2.2.2.2.2) api_Filter_3_r f l K next
noncomputable def api_Filter_4_a : List Arg → Option (LL × LL × LL × LL × Int × Int × Int × LL × LL × Int × ByteArray × ByteArray × LL × ByteArray × LL)
  | [.v (.one (.c (.row 66 x0))), .fnr 58 true 112 [.row 25 x1_0, .row 39 x1_1, .row 3 x1_2, .int .i64 x1_3, .int .i64 x1_4, .int .i64 x1_5, .row 83 x1_6, .row 66 x1_7, .int .i64 x1_8, .str x1_9, .str x1_10, .row 86 x1_11, .str x1_12, .row 5 x1_13] 0] => some (x0, x1_0, x1_1, x1_2, x1_3, x1_4, x1_5, x1_6, x1_7, x1_8, x1_9, x1_10, x1_11, x1_12, x1_13)
  | _ => none
noncomputable def api_Filter_4_e (a : LL × LL × LL × LL × Int × Int × Int × LL × LL × Int × ByteArray × ByteArray × LL × ByteArray × LL) : List Arg := [.v (.one (.c (C.row 66 a.1))), .fnr 58 true 112 [C.row 25 a.2.1, C.row 39 a.2.2.1, C.row 3 a.2.2.2.1, C.int .i64 a.2.2.2.2.1, C.int .i64 a.2.2.2.2.2.1, C.int .i64 a.2.2.2.2.2.2.1, C.row 83 a.2.2.2.2.2.2.2.1, C.row 66 a.2.2.2.2.2.2.2.2.1, C.int .i64 a.2.2.2.2.2.2.2.2.2.1, C.str a.2.2.2.2.2.2.2.2.2.2.1, C.str a.2.2.2.2.2.2.2.2.2.2.2.1, C.row 86 a.2.2.2.2.2.2.2.2.2.2.2.2.1, C.str a.2.2.2.2.2.2.2.2.2.2.2.2.2.1, C.row 5 a.2.2.2.2.2.2.2.2.2.2.2.2.2.2] 0]
theorem api_Filter_4_ae {l : List Arg} {a : LL × LL × LL × LL × Int × Int × Int × LL × LL × Int × ByteArray × ByteArray × LL × ByteArray × LL} (h : api_Filter_4_a l = some a) : l = api_Filter_4_e a := by
  unfold api_Filter_4_a at h
  split at h
  · cases h; rfl
  · cases h
noncomputable def api_Filter_4_d : Res → Option Int
  | ⟨.one (.d (.int .i64 y0)), []⟩ => some y0
  | _ => none
noncomputable def api_Filter_4_r (r : Int) : Res := ⟨.one (.d (.int .i64 r)), []⟩
theorem api_Filter_4_dr {R : Res} {r : Int} (h : api_Filter_4_d R = some r) : R = api_Filter_4_r r := by
  unfold api_Filter_4_d at h
  split at h
  · cases h; rfl
  · cases h
noncomputable def api_Filter_4_o (L : Lv) {Ω : Type} (f : FuncId) (l : List Arg) (K : Res → Option Ω) (next : Option Ω) : Option Ω := rowO 90 api_Filter_4_a (fun a => L.api_Filter_4 a.1 a.2.1 a.2.2.1 a.2.2.2.1 a.2.2.2.2.1 a.2.2.2.2.2.1 a.2.2.2.2.2.2.1 a.2.2.2.2.2.2.2.1 a.2.2.2.2.2.2.2.2.1 a.2.2.2.2.2.2.2.2.2.1 a.2.2.2.2.2.2.2.2.2.2.1 a.2.2.2.2.2.2.2.2.2.2.2.1 a.2.2.2.2.2.2.2.2.2.2.2.2.1 a.2.2.2.2.2.2.2.2.2.2.2.2.2.1 a.2.2.2.2.2.2.2.2.2.2.2.2.2.2) api_Filter_4_r f l K next
noncomputable def api_Path_2_a : List Arg → Option (LL × LL × LL × LL × Int × Int × Int × LL × LL × Int × ByteArray × ByteArray × LL × ByteArray × LL)
  | [.v (.one (.c (.row 25 x0))), .fnr 77 true 112 [.row 25 x1_0, .row 39 x1_1, .row 3 x1_2, .int .i64 x1_3, .int .i64 x1_4, .int .i64 x1_5, .row 83 x1_6, .row 66 x1_7, .int .i64 x1_8, .str x1_9, .str x1_10, .row 86 x1_11, .str x1_12, .row 5 x1_13] 0] => some (x0, x1_0, x1_1, x1_2, x1_3, x1_4, x1_5, x1_6, x1_7, x1_8, x1_9, x1_10, x1_11, x1_12, x1_13)
  | _ => none
noncomputable def api_Path_2_e (a : LL × LL × LL × LL × Int × Int × Int × LL × LL × Int × ByteArray × ByteArray × LL × ByteArray × LL) : List Arg := [.v (.one (.c (C.row 25 a.1))), .fnr 77 true 112 [C.row 25 a.2.1, C.row 39 a.2.2.1, C.row 3 a.2.2.2.1, C.int .i64 a.2.2.2.2.1, C.int .i64 a.2.2.2.2.2.1, C.int .i64 a.2.2.2.2.2.2.1, C.row 83 a.2.2.2.2.2.2.2.1, C.row 66 a.2.2.2.2.2.2.2.2.1, C.int .i64 a.2.2.2.2.2.2.2.2.2.1, C.str a.2.2.2.2.2.2.2.2.2.2.1, C.str a.2.2.2.2.2.2.2.2.2.2.2.1, C.row 86 a.2.2.2.2.2.2.2.2.2.2.2.2.1, C.str a.2.2.2.2.2.2.2.2.2.2.2.2.2.1, C.row 5 a.2.2.2.2.2.2.2.2.2.2.2.2.2.2] 0]
theorem api_Path_2_ae {l : List Arg} {a : LL × LL × LL × LL × Int × Int × Int × LL × LL × Int × ByteArray × ByteArray × LL × ByteArray × LL} (h : api_Path_2_a l = some a) : l = api_Path_2_e a := by
  unfold api_Path_2_a at h
  split at h
  · cases h; rfl
  · cases h
noncomputable def api_Path_2_d : Res → Option Int
  | ⟨.one (.d (.int .i64 y0)), []⟩ => some y0
  | _ => none
noncomputable def api_Path_2_r (r : Int) : Res := ⟨.one (.d (.int .i64 r)), []⟩
theorem api_Path_2_dr {R : Res} {r : Int} (h : api_Path_2_d R = some r) : R = api_Path_2_r r := by
  unfold api_Path_2_d at h
  split at h
  · cases h; rfl
  · cases h
noncomputable def api_Path_2_o (L : Lv) {Ω : Type} (f : FuncId) (l : List Arg) (K : Res → Option Ω) (next : Option Ω) : Option Ω := rowO 91 api_Path_2_a (fun a => L.api_Path_2 a.1 a.2.1 a.2.2.1 a.2.2.2.1 a.2.2.2.2.1 a.2.2.2.2.2.1 a.2.2.2.2.2.2.1 a.2.2.2.2.2.2.2.1 a.2.2.2.2.2.2.2.2.1 a.2.2.2.2.2.2.2.2.2.1 a.2.2.2.2.2.2.2.2.2.2.1 a.2.2.2.2.2.2.2.2.2.2.2.1 a.2.2.2.2.2.2.2.2.2.2.2.2.1 a.2.2.2.2.2.2.2.2.2.2.2.2.2.1 a.2.2.2.2.2.2.2.2.2.2.2.2.2.2) api_Path_2_r f l K next
noncomputable def strat_node_fails_a : List Arg → Option (LL × LL × LL × Int × Int × Int × LL × LL × Int × ByteArray × ByteArray × LL × ByteArray × LL × Int × ByteArray × ByteArray × ByteArray × LL × LL)
  | [.rop 112 [.row 25 x0_0, .row 39 x0_1, .row 3 x0_2, .int .i64 x0_3, .int .i64 x0_4, .int .i64 x0_5, .row 83 x0_6, .row 66 x0_7, .int .i64 x0_8, .str x0_9, .str x0_10, .row 86 x0_11, .str x0_12, .row 5 x0_13] 0, .v (.agg [.c (.int .i64 x1_0), .c (.str x1_1), .c (.str x1_2), .c (.str x1_3), .c (.row 66 x1_4), .c (.row 25 x1_5)])] => some (x0_0, x0_1, x0_2, x0_3, x0_4, x0_5, x0_6, x0_7, x0_8, x0_9, x0_10, x0_11, x0_12, x0_13, x1_0, x1_1, x1_2, x1_3, x1_4, x1_5)
  | _ => none
noncomputable def strat_node_fails_e (a : LL × LL × LL × Int × Int × Int × LL × LL × Int × ByteArray × ByteArray × LL × ByteArray × LL × Int × ByteArray × ByteArray × ByteArray × LL × LL) : List Arg := [.rop 112 [C.row 25 a.1, C.row 39 a.2.1, C.row 3 a.2.2.1, C.int .i64 a.2.2.2.1, C.int .i64 a.2.2.2.2.1, C.int .i64 a.2.2.2.2.2.1, C.row 83 a.2.2.2.2.2.2.1, C.row 66 a.2.2.2.2.2.2.2.1, C.int .i64 a.2.2.2.2.2.2.2.2.1, C.str a.2.2.2.2.2.2.2.2.2.1, C.str a.2.2.2.2.2.2.2.2.2.2.1, C.row 86 a.2.2.2.2.2.2.2.2.2.2.2.1, C.str a.2.2.2.2.2.2.2.2.2.2.2.2.1, C.row 5 a.2.2.2.2.2.2.2.2.2.2.2.2.2.1] 0, .v (.agg [.c (C.int .i64 a.2.2.2.2.2.2.2.2.2.2.2.2.2.2.1), .c (C.str a.2.2.2.2.2.2.2.2.2.2.2.2.2.2.2.1), .c (C.str a.2.2.2.2.2.2.2.2.2.2.2.2.2.2.2.2.1), .c (C.str a.2.2.2.2.2.2.2.2.2.2.2.2.2.2.2.2.2.1), .c (C.row 66 a.2.2.2.2.2.2.2.2.2.2.2.2.2.2.2.2.2.2.1), .c (C.row 25 a.2.2.2.2.2.2.2.2.2.2.2.2.2.2.2.2.2.2.2)])]
theorem strat_node_fails_ae {l : List Arg} {a : LL × LL × LL × Int × Int × Int × LL × LL × Int × ByteArray × ByteArray × LL × ByteArray × LL × Int × ByteArray × ByteArray × ByteArray × LL × LL} (h : strat_node_fails_a l = some a) : l = strat_node_fails_e a := by
  unfold strat_node_fails_a at h
  split at h
  · cases h; rfl
  · cases h
noncomputable def strat_node_fails_d : Res → Option Bool
  | ⟨.one (.d (.bool y0)), []⟩ => some y0
  | _ => none
noncomputable def strat_node_fails_r (r : Bool) : Res := ⟨.one (.d (.bool r)), []⟩
theorem strat_node_fails_dr {R : Res} {r : Bool} (h : strat_node_fails_d R = some r) : R = strat_node_fails_r r := by
  unfold strat_node_fails_d at h
  split at h
  · cases h; rfl
  · cases h
noncomputable def strat_node_fails_o (L : Lv) {Ω : Type} (f : FuncId) (l : List Arg) (K : Res → Option Ω) (next : Option Ω) : Option Ω := rowO 75 strat_node_fails_a (fun a => L.strat_node_fails a.1 a.2.1 a.2.2.1 a.2.2.2.1 a.2.2.2.2.1 a.2.2.2.2.2.1 a.2.2.2.2.2.2.1 a.2.2.2.2.2.2.2.1 a.2.2.2.2.2.2.2.2.1 a.2.2.2.2.2.2.2.2.2.1 a.2.2.2.2.2.2.2.2.2.2.1 a.2.2.2.2.2.2.2.2.2.2.2.1 a.2.2.2.2.2.2.2.2.2.2.2.2.1 a.2.2.2.2.2.2.2.2.2.2.2.2.2.1 a.2.2.2.2.2.2.2.2.2.2.2.2.2.2.1 a.2.2.2.2.2.2.2.2.2.2.2.2.2.2.2.1 a.2.2.2.2.2.2.2.2.2.2.2.2.2.2.2.2.1 a.2.2.2.2.2.2.2.2.2.2.2.2.2.2.2.2.2.1 a.2.2.2.2.2.2.2.2.2.2.2.2.2.2.2.2.2.2.1 a.2.2.2.2.2.2.2.2.2.2.2.2.2.2.2.2.2.2.2) strat_node_fails_r f l K next
noncomputable def strat_node_holds_2_a : List Arg → Option (LL × LL × LL × Int × Int × Int × LL × LL × Int × ByteArray × ByteArray × LL × ByteArray × LL × Int × ByteArray × ByteArray × ByteArray × LL × LL)
  | [.rop 112 [.row 25 x0_0, .row 39 x0_1, .row 3 x0_2, .int .i64 x0_3, .int .i64 x0_4, .int .i64 x0_5, .row 83 x0_6, .row 66 x0_7, .int .i64 x0_8, .str x0_9, .str x0_10, .row 86 x0_11, .str x0_12, .row 5 x0_13] 0, .v (.agg [.c (.int .i64 x1_0), .c (.str x1_1), .c (.str x1_2), .c (.str x1_3), .c (.row 66 x1_4), .c (.row 25 x1_5)])] => some (x0_0, x0_1, x0_2, x0_3, x0_4, x0_5, x0_6, x0_7, x0_8, x0_9, x0_10, x0_11, x0_12, x0_13, x1_0, x1_1, x1_2, x1_3, x1_4, x1_5)
  | _ => none
noncomputable def strat_node_holds_2_e (a : LL × LL × LL × Int × Int × Int × LL × LL × Int × ByteArray × ByteArray × LL × ByteArray × LL × Int × ByteArray × ByteArray × ByteArray × LL × LL) : List Arg := [.rop 112 [C.row 25 a.1, C.row 39 a.2.1, C.row 3 a.2.2.1, C.int .i64 a.2.2.2.1, C.int .i64 a.2.2.2.2.1, C.int .i64 a.2.2.2.2.2.1, C.row 83 a.2.2.2.2.2.2.1, C.row 66 a.2.2.2.2.2.2.2.1, C.int .i64 a.2.2.2.2.2.2.2.2.1, C.str a.2.2.2.2.2.2.2.2.2.1, C.str a.2.2.2.2.2.2.2.2.2.2.1, C.row 86 a.2.2.2.2.2.2.2.2.2.2.2.1, C.str a.2.2.2.2.2.2.2.2.2.2.2.2.1, C.row 5 a.2.2.2.2.2.2.2.2.2.2.2.2.2.1] 0, .v (.agg [.c (C.int .i64 a.2.2.2.2.2.2.2.2.2.2.2.2.2.2.1), .c (C.str a.2.2.2.2.2.2.2.2.2.2.2.2.2.2.2.1), .c (C.str a.2.2.2.2.2.2.2.2.2.2.2.2.2.2.2.2.1), .c (C.str a.2.2.2.2.2.2.2.2.2.2.2.2.2.2.2.2.2.1), .c (C.row 66 a.2.2.2.2.2.2.2.2.2.2.2.2.2.2.2.2.2.2.1), .c (C.row 25 a.2.2.2.2.2.2.2.2.2.2.2.2.2.2.2.2.2.2.2)])]
theorem strat_node_holds_2_ae {l : List Arg} {a : LL × LL × LL × Int × Int × Int × LL × LL × Int × ByteArray × ByteArray × LL × ByteArray × LL × Int × ByteArray × ByteArray × ByteArray × LL × LL} (h : strat_node_holds_2_a l = some a) : l = strat_node_holds_2_e a := by
  unfold strat_node_holds_2_a at h
  split at h
  · cases h; rfl
  · cases h
noncomputable def strat_node_holds_2_d : Res → Option Bool
  | ⟨.one (.d (.bool y0)), []⟩ => some y0
  | _ => none
noncomputable def strat_node_holds_2_r (r : Bool) : Res := ⟨.one (.d (.bool r)), []⟩
theorem strat_node_holds_2_dr {R : Res} {r : Bool} (h : strat_node_holds_2_d R = some r) : R = strat_node_holds_2_r r := by
  unfold strat_node_holds_2_d at h
  split at h
  · cases h; rfl
  · cases h
noncomputable def strat_node_holds_2_o (L : Lv) {Ω : Type} (f : FuncId) (l : List Arg) (K : Res → Option Ω) (next : Option Ω) : Option Ω := rowO 58 strat_node_holds_2_a (fun a => L.strat_node_holds_2 a.1 a.2.1 a.2.2.1 a.2.2.2.1 a.2.2.2.2.1 a.2.2.2.2.2.1 a.2.2.2.2.2.2.1 a.2.2.2.2.2.2.2.1 a.2.2.2.2.2.2.2.2.1 a.2.2.2.2.2.2.2.2.2.1 a.2.2.2.2.2.2.2.2.2.2.1 a.2.2.2.2.2.2.2.2.2.2.2.1 a.2.2.2.2.2.2.2.2.2.2.2.2.1 a.2.2.2.2.2.2.2.2.2.2.2.2.2.1 a.2.2.2.2.2.2.2.2.2.2.2.2.2.2.1 a.2.2.2.2.2.2.2.2.2.2.2.2.2.2.2.1 a.2.2.2.2.2.2.2.2.2.2.2.2.2.2.2.2.1 a.2.2.2.2.2.2.2.2.2.2.2.2.2.2.2.2.2.1 a.2.2.2.2.2.2.2.2.2.2.2.2.2.2.2.2.2.2.1 a.2.2.2.2.2.2.2.2.2.2.2.2.2.2.2.2.2.2.2) strat_node_holds_2_r f l K next
noncomputable def strat_node_leads_a : List Arg → Option (LL × LL × LL × Int × Int × Int × LL × LL × Int × ByteArray × ByteArray × LL × ByteArray × LL × Int × LL × LL)
  | [.rop 112 [.row 25 x0_0, .row 39 x0_1, .row 3 x0_2, .int .i64 x0_3, .int .i64 x0_4, .int .i64 x0_5, .row 83 x0_6, .row 66 x0_7, .int .i64 x0_8, .str x0_9, .str x0_10, .row 86 x0_11, .str x0_12, .row 5 x0_13] 0, .v (.agg [.c (.int .i64 x1_0), .c (.row 25 x1_1), .c (.row 66 x1_2)])] => some (x0_0, x0_1, x0_2, x0_3, x0_4, x0_5, x0_6, x0_7, x0_8, x0_9, x0_10, x0_11, x0_12, x0_13, x1_0, x1_1, x1_2)
  | _ => none
noncomputable def strat_node_leads_e (a : LL × LL × LL × Int × Int × Int × LL × LL × Int × ByteArray × ByteArray × LL × ByteArray × LL × Int × LL × LL) : List Arg := [.rop 112 [C.row 25 a.1, C.row 39 a.2.1, C.row 3 a.2.2.1, C.int .i64 a.2.2.2.1, C.int .i64 a.2.2.2.2.1, C.int .i64 a.2.2.2.2.2.1, C.row 83 a.2.2.2.2.2.2.1, C.row 66 a.2.2.2.2.2.2.2.1, C.int .i64 a.2.2.2.2.2.2.2.2.1, C.str a.2.2.2.2.2.2.2.2.2.1, C.str a.2.2.2.2.2.2.2.2.2.2.1, C.row 86 a.2.2.2.2.2.2.2.2.2.2.2.1, C.str a.2.2.2.2.2.2.2.2.2.2.2.2.1, C.row 5 a.2.2.2.2.2.2.2.2.2.2.2.2.2.1] 0, .v (.agg [.c (C.int .i64 a.2.2.2.2.2.2.2.2.2.2.2.2.2.2.1), .c (C.row 25 a.2.2.2.2.2.2.2.2.2.2.2.2.2.2.2.1), .c (C.row 66 a.2.2.2.2.2.2.2.2.2.2.2.2.2.2.2.2)])]
theorem strat_node_leads_ae {l : List Arg} {a : LL × LL × LL × Int × Int × Int × LL × LL × Int × ByteArray × ByteArray × LL × ByteArray × LL × Int × LL × LL} (h : strat_node_leads_a l = some a) : l = strat_node_leads_e a := by
  unfold strat_node_leads_a at h
  split at h
  · cases h; rfl
  · cases h
noncomputable def strat_node_leads_d : Res → Option Bool
  | ⟨.one (.d (.bool y0)), []⟩ => some y0
  | _ => none
noncomputable def strat_node_leads_r (r : Bool) : Res := ⟨.one (.d (.bool r)), []⟩
theorem strat_node_leads_dr {R : Res} {r : Bool} (h : strat_node_leads_d R = some r) : R = strat_node_leads_r r := by
  unfold strat_node_leads_d at h
  split at h
  · cases h; rfl
  · cases h
noncomputable def strat_node_leads_o (L : Lv) {Ω : Type} (f : FuncId) (l : List Arg) (K : Res → Option Ω) (next : Option Ω) : Option Ω := rowO 77 strat_node_leads_a (fun a => L.strat_node_leads a.1 a.2.1 a.2.2.1 a.2.2.2.1 a.2.2.2.2.1 a.2.2.2.2.2.1 a.2.2.2.2.2.2.1 a.2.2.2.2.2.2.2.1 a.2.2.2.2.2.2.2.2.1 a.2.2.2.2.2.2.2.2.2.1 a.2.2.2.2.2.2.2.2.2.2.1 a.2.2.2.2.2.2.2.2.2.2.2.1 a.2.2.2.2.2.2.2.2.2.2.2.2.1 a.2.2.2.2.2.2.2.2.2.2.2.2.2.1 a.2.2.2.2.2.2.2.2.2.2.2.2.2.2.1 a.2.2.2.2.2.2.2.2.2.2.2.2.2.2.2.1 a.2.2.2.2.2.2.2.2.2.2.2.2.2.2.2.2) strat_node_leads_r f l K next
noncomputable def strat_node_attr_2_a : List Arg → Option (LL × LL × LL × Int × Int × Int × LL × LL × Int × ByteArray × ByteArray × LL × ByteArray × LL × ByteArray × ByteArray)
  | [.rop 112 [.row 25 x0_0, .row 39 x0_1, .row 3 x0_2, .int .i64 x0_3, .int .i64 x0_4, .int .i64 x0_5, .row 83 x0_6, .row 66 x0_7, .int .i64 x0_8, .str x0_9, .str x0_10, .row 86 x0_11, .str x0_12, .row 5 x0_13] 0, .v (.agg [.c (.str x1_0), .c (.str x1_1)])] => some (x0_0, x0_1, x0_2, x0_3, x0_4, x0_5, x0_6, x0_7, x0_8, x0_9, x0_10, x0_11, x0_12, x0_13, x1_0, x1_1)
  | _ => none
noncomputable def strat_node_attr_2_e (a : LL × LL × LL × Int × Int × Int × LL × LL × Int × ByteArray × ByteArray × LL × ByteArray × LL × ByteArray × ByteArray) : List Arg := [.rop 112 [C.row 25 a.1, C.row 39 a.2.1, C.row 3 a.2.2.1, C.int .i64 a.2.2.2.1, C.int .i64 a.2.2.2.2.1, C.int .i64 a.2.2.2.2.2.1, C.row 83 a.2.2.2.2.2.2.1, C.row 66 a.2.2.2.2.2.2.2.1, C.int .i64 a.2.2.2.2.2.2.2.2.1, C.str a.2.2.2.2.2.2.2.2.2.1, C.str a.2.2.2.2.2.2.2.2.2.2.1, C.row 86 a.2.2.2.2.2.2.2.2.2.2.2.1, C.str a.2.2.2.2.2.2.2.2.2.2.2.2.1, C.row 5 a.2.2.2.2.2.2.2.2.2.2.2.2.2.1] 0, .v (.agg [.c (C.str a.2.2.2.2.2.2.2.2.2.2.2.2.2.2.1), .c (C.str a.2.2.2.2.2.2.2.2.2.2.2.2.2.2.2)])]
theorem strat_node_attr_2_ae {l : List Arg} {a : LL × LL × LL × Int × Int × Int × LL × LL × Int × ByteArray × ByteArray × LL × ByteArray × LL × ByteArray × ByteArray} (h : strat_node_attr_2_a l = some a) : l = strat_node_attr_2_e a := by
  unfold strat_node_attr_2_a at h
  split at h
  · cases h; rfl
  · cases h
noncomputable def strat_node_attr_2_d : Res → Option (ByteArray × Bool)
  | ⟨.tup [.one (.d (.str y0)), .one (.d (.bool y1))], []⟩ => some (y0, y1)
  | _ => none
noncomputable def strat_node_attr_2_r (r : ByteArray × Bool) : Res := ⟨.tup [.one (.d (.str r.1)), .one (.d (.bool r.2))], []⟩
theorem strat_node_attr_2_dr {R : Res} {r : ByteArray × Bool} (h : strat_node_attr_2_d R = some r) : R = strat_node_attr_2_r r := by
  unfold strat_node_attr_2_d at h
  split at h
  · cases h; rfl
  · cases h
noncomputable def strat_node_attr_2_o (L : Lv) {Ω : Type} (f : FuncId) (l : List Arg) (K : Res → Option Ω) (next : Option Ω) : Option Ω := rowO 73 strat_node_attr_2_a (fun a => L.strat_node_attr_2 a.1 a.2.1 a.2.2.1 a.2.2.2.1 a.2.2.2.2.1 a.2.2.2.2.2.1 a.2.2.2.2.2.2.1 a.2.2.2.2.2.2.2.1 a.2.2.2.2.2.2.2.2.1 a.2.2.2.2.2.2.2.2.2.1 a.2.2.2.2.2.2.2.2.2.2.1 a.2.2.2.2.2.2.2.2.2.2.2.1 a.2.2.2.2.2.2.2.2.2.2.2.2.1 a.2.2.2.2.2.2.2.2.2.2.2.2.2.1 a.2.2.2.2.2.2.2.2.2.2.2.2.2.2.1 a.2.2.2.2.2.2.2.2.2.2.2.2.2.2.2) strat_node_attr_2_r f l K next
noncomputable def strat_Find_a : List Arg → Option (LL × LL × LL × Int × Int × Int × LL × LL × Int × LL × LL)
  | [.v (.agg [.c (.row 25 x0_0), .c (.row 39 x0_1), .c (.row 3 x0_2), .c (.int .i64 x0_3), .c (.int .i64 x0_4), .c (.int .i64 x0_5), .c (.row 83 x0_6), .c (.row 66 x0_7)]), .v (.agg [.c (.int .i64 x1_0), .c (.row 25 x1_1), .c (.row 66 x1_2)])] => some (x0_0, x0_1, x0_2, x0_3, x0_4, x0_5, x0_6, x0_7, x1_0, x1_1, x1_2)
  | _ => none
noncomputable def strat_Find_e (a : LL × LL × LL × Int × Int × Int × LL × LL × Int × LL × LL) : List Arg := [.v (.agg [.c (C.row 25 a.1), .c (C.row 39 a.2.1), .c (C.row 3 a.2.2.1), .c (C.int .i64 a.2.2.2.1), .c (C.int .i64 a.2.2.2.2.1), .c (C.int .i64 a.2.2.2.2.2.1), .c (C.row 83 a.2.2.2.2.2.2.1), .c (C.row 66 a.2.2.2.2.2.2.2.1)]), .v (.agg [.c (C.int .i64 a.2.2.2.2.2.2.2.2.1), .c (C.row 25 a.2.2.2.2.2.2.2.2.2.1), .c (C.row 66 a.2.2.2.2.2.2.2.2.2.2)])]
theorem strat_Find_ae {l : List Arg} {a : LL × LL × LL × Int × Int × Int × LL × LL × Int × LL × LL} (h : strat_Find_a l = some a) : l = strat_Find_e a := by
  unfold strat_Find_a at h
  split at h
  · cases h; rfl
  · cases h
noncomputable def strat_Find_d : Res → Option Int
  | ⟨.one (.d (.int .i64 y0)), []⟩ => some y0
  | _ => none
noncomputable def strat_Find_r (r : Int) : Res := ⟨.one (.d (.int .i64 r)), []⟩
theorem strat_Find_dr {R : Res} {r : Int} (h : strat_Find_d R = some r) : R = strat_Find_r r := by
  unfold strat_Find_d at h
  split at h
  · cases h; rfl
  · cases h
noncomputable def strat_Find_o (L : Lv) {Ω : Type} (f : FuncId) (l : List Arg) (K : Res → Option Ω) (next : Option Ω) : Option Ω := rowO 92 strat_Find_a (fun a => L.strat_Find a.1 a.2.1 a.2.2.1 a.2.2.2.1 a.2.2.2.2.1 a.2.2.2.2.2.1 a.2.2.2.2.2.2.1 a.2.2.2.2.2.2.2.1 a.2.2.2.2.2.2.2.2.1 a.2.2.2.2.2.2.2.2.2.1 a.2.2.2.2.2.2.2.2.2.2) strat_Find_r f l K next
noncomputable def api_Path_3_a : List Arg → Option (LL × Int × LL × LL)
  | [.v (.one (.c (.row 25 x0))), .fnr 101 false 25 [.int .i64 x1_0, .row 25 x1_1, .row 66 x1_2] 0] => some (x0, x1_0, x1_1, x1_2)
  | _ => none
noncomputable def api_Path_3_e (a : LL × Int × LL × LL) : List Arg := [.v (.one (.c (C.row 25 a.1))), .fnr 101 false 25 [C.int .i64 a.2.1, C.row 25 a.2.2.1, C.row 66 a.2.2.2] 0]
theorem api_Path_3_ae {l : List Arg} {a : LL × Int × LL × LL} (h : api_Path_3_a l = some a) : l = api_Path_3_e a := by
  unfold api_Path_3_a at h
  split at h
  · cases h; rfl
  · cases h
noncomputable def api_Path_3_d : Res → Option Int
  | ⟨.one (.d (.int .i64 y0)), []⟩ => some y0
  | _ => none
noncomputable def api_Path_3_r (r : Int) : Res := ⟨.one (.d (.int .i64 r)), []⟩
theorem api_Path_3_dr {R : Res} {r : Int} (h : api_Path_3_d R = some r) : R = api_Path_3_r r := by
  unfold api_Path_3_d at h
  split at h
  · cases h; rfl
  · cases h
noncomputable def api_Path_3_o (L : Lv) {Ω : Type} (f : FuncId) (l : List Arg) (K : Res → Option Ω) (next : Option Ω) : Option Ω := rowO 91 api_Path_3_a (fun a => L.api_Path_3 a.1 a.2.1 a.2.2.1 a.2.2.2) api_Path_3_r f l K next
noncomputable def strat_Find_1_a : List Arg → Option (Int × LL × LL × Int × LL × LL)
  | [.v (.agg [.c (.int .i64 x0_0), .c (.row 25 x0_1), .c (.row 66 x0_2)]), .rop 25 [.int .i64 x1_0, .row 25 x1_1, .row 66 x1_2] 0] => some (x0_0, x0_1, x0_2, x1_0, x1_1, x1_2)
  | _ => none
noncomputable def strat_Find_1_e (a : Int × LL × LL × Int × LL × LL) : List Arg := [.v (.agg [.c (C.int .i64 a.1), .c (C.row 25 a.2.1), .c (C.row 66 a.2.2.1)]), .rop 25 [C.int .i64 a.2.2.2.1, C.row 25 a.2.2.2.2.1, C.row 66 a.2.2.2.2.2] 0]
theorem strat_Find_1_ae {l : List Arg} {a : Int × LL × LL × Int × LL × LL} (h : strat_Find_1_a l = some a) : l = strat_Find_1_e a := by
  unfold strat_Find_1_a at h
  split at h
  · cases h; rfl
  · cases h
noncomputable def strat_Find_1_d : Res → Option Bool
  | ⟨.one (.d (.bool y0)), []⟩ => some y0
  | _ => none
noncomputable def strat_Find_1_r (r : Bool) : Res := ⟨.one (.d (.bool r)), []⟩
theorem strat_Find_1_dr {R : Res} {r : Bool} (h : strat_Find_1_d R = some r) : R = strat_Find_1_r r := by
  unfold strat_Find_1_d at h
  split at h
  · cases h; rfl
  · cases h
noncomputable def strat_Find_1_o (L : Lv) {Ω : Type} (f : FuncId) (l : List Arg) (K : Res → Option Ω) (next : Option Ω) : Option Ω := rowO 101 strat_Find_1_a (fun a => L.strat_Find_1 a.1 a.2.1 a.2.2.1 a.2.2.2.1 a.2.2.2.2.1 a.2.2.2.2.2) strat_Find_1_r f l K next
noncomputable def path_Same_a : List Arg → Option (Int × LL × LL × Int × LL × LL)
  | [.v (.agg [.c (.int .i64 x0_0), .c (.row 25 x0_1), .c (.row 66 x0_2)]), .v (.agg [.c (.int .i64 x1_0), .c (.row 25 x1_1), .c (.row 66 x1_2)])] => some (x0_0, x0_1, x0_2, x1_0, x1_1, x1_2)
  | _ => none
noncomputable def path_Same_e (a : Int × LL × LL × Int × LL × LL) : List Arg := [.v (.agg [.c (C.int .i64 a.1), .c (C.row 25 a.2.1), .c (C.row 66 a.2.2.1)]), .v (.agg [.c (C.int .i64 a.2.2.2.1), .c (C.row 25 a.2.2.2.2.1), .c (C.row 66 a.2.2.2.2.2)])]
theorem path_Same_ae {l : List Arg} {a : Int × LL × LL × Int × LL × LL} (h : path_Same_a l = some a) : l = path_Same_e a := by
  unfold path_Same_a at h
  split at h
  · cases h; rfl
  · cases h
noncomputable def path_Same_d : Res → Option Bool
  | ⟨.one (.d (.bool y0)), []⟩ => some y0
  | _ => none
noncomputable def path_Same_r (r : Bool) : Res := ⟨.one (.d (.bool r)), []⟩
theorem path_Same_dr {R : Res} {r : Bool} (h : path_Same_d R = some r) : R = path_Same_r r := by
  unfold path_Same_d at h
  split at h
  · cases h; rfl
  · cases h
noncomputable def path_Same_o (L : Lv) {Ω : Type} (f : FuncId) (l : List Arg) (K : Res → Option Ω) (next : Option Ω) : Option Ω := rowO 102 path_Same_a (fun a => L.path_Same a.1 a.2.1 a.2.2.1 a.2.2.2.1 a.2.2.2.2.1 a.2.2.2.2.2) path_Same_r f l K next
noncomputable def api_Path_4_a : List Arg → Option (LL × LL)
  | [.v (.one (.c (.row 25 x0))), .v (.one (.c (.row 25 x1))), .fn 102] => some (x0, x1)
  | _ => none
noncomputable def api_Path_4_e (a : LL × LL) : List Arg := [.v (.one (.c (C.row 25 a.1))), .v (.one (.c (C.row 25 a.2))), .fn 102]
theorem api_Path_4_ae {l : List Arg} {a : LL × LL} (h : api_Path_4_a l = some a) : l = api_Path_4_e a := by
  unfold api_Path_4_a at h
  split at h
  · cases h; rfl
  · cases h
noncomputable def api_Path_4_d : Res → Option Bool
  | ⟨.one (.d (.bool y0)), []⟩ => some y0
  | _ => none
noncomputable def api_Path_4_r (r : Bool) : Res := ⟨.one (.d (.bool r)), []⟩
theorem api_Path_4_dr {R : Res} {r : Bool} (h : api_Path_4_d R = some r) : R = api_Path_4_r r := by
  unfold api_Path_4_d at h
  split at h
  · cases h; rfl
  · cases h
noncomputable def api_Path_4_o (L : Lv) {Ω : Type} (f : FuncId) (l : List Arg) (K : Res → Option Ω) (next : Option Ω) : Option Ω := rowO 108 api_Path_4_a (fun a => L.api_Path_4 a.1 a.2) api_Path_4_r f l K next
noncomputable def kind_Whole_a : List Arg → Option (LL × LL × LL × Int × Int × Int × LL × LL × LL)
  | [.v (.agg [.c (.row 25 x0_0), .c (.row 39 x0_1), .c (.row 3 x0_2), .c (.int .i64 x0_3), .c (.int .i64 x0_4), .c (.int .i64 x0_5), .c (.row 83 x0_6), .c (.row 66 x0_7)]), .v (.one (.c (.row 30 x1)))] => some (x0_0, x0_1, x0_2, x0_3, x0_4, x0_5, x0_6, x0_7, x1)
  | _ => none
noncomputable def kind_Whole_e (a : LL × LL × LL × Int × Int × Int × LL × LL × LL) : List Arg := [.v (.agg [.c (C.row 25 a.1), .c (C.row 39 a.2.1), .c (C.row 3 a.2.2.1), .c (C.int .i64 a.2.2.2.1), .c (C.int .i64 a.2.2.2.2.1), .c (C.int .i64 a.2.2.2.2.2.1), .c (C.row 83 a.2.2.2.2.2.2.1), .c (C.row 66 a.2.2.2.2.2.2.2.1)]), .v (.one (.c (C.row 30 a.2.2.2.2.2.2.2.2)))]
theorem kind_Whole_ae {l : List Arg} {a : LL × LL × LL × Int × Int × Int × LL × LL × LL} (h : kind_Whole_a l = some a) : l = kind_Whole_e a := by
  unfold kind_Whole_a at h
  split at h
  · cases h; rfl
  · cases h
noncomputable def kind_Whole_d : Res → Option LL
  | ⟨.one (.own 44 y0), []⟩ => some y0
  | _ => none
noncomputable def kind_Whole_r (r : LL) : Res := ⟨.one (.own 44 r), []⟩
theorem kind_Whole_dr {R : Res} {r : LL} (h : kind_Whole_d R = some r) : R = kind_Whole_r r := by
  unfold kind_Whole_d at h
  split at h
  · cases h; rfl
  · cases h
noncomputable def kind_Whole_o (L : Lv) {Ω : Type} (f : FuncId) (l : List Arg) (K : Res → Option Ω) (next : Option Ω) : Option Ω := rowO 16 kind_Whole_a (fun a => L.kind_Whole a.1 a.2.1 a.2.2.1 a.2.2.2.1 a.2.2.2.2.1 a.2.2.2.2.2.1 a.2.2.2.2.2.2.1 a.2.2.2.2.2.2.2.1 a.2.2.2.2.2.2.2.2) kind_Whole_r f l K next
noncomputable def kind_maker_leads_a : List Arg → Option (LL × LL × LL × Int × Int × Int × LL × LL × Int × ByteArray × ByteArray × LL × ByteArray × Bool × Bool × ByteArray × Bool × Bool × ByteArray × LL × Int × Int × Int × Int × Int × LL)
  | [.ref 79 [.d (.row 25 x0_0), .d (.row 39 x0_1), .d (.row 3 x0_2), .d (.int .i64 x0_3), .d (.int .i64 x0_4), .d (.int .i64 x0_5), .d (.row 83 x0_6), .d (.row 66 x0_7), .d (.int .i64 x0_8), .d (.str x0_9), .d (.str x0_10), .d (.row 86 x0_11), .d (.str x0_12), .d (.bool x0_13), .d (.bool x0_14), .d (.str x0_15), .d (.bool x0_16), .d (.bool x0_17), .d (.str x0_18), .own 5 x0_19] 0, .v (.one (.c (.int .i64 x1))), .v (.agg [.c (.int .i64 x2_0), .c (.int .i64 x2_1), .c (.int .i64 x2_2), .c (.int .i64 x2_3)]), .v (.one (.c (.row 4 x3)))] => some (x0_0, x0_1, x0_2, x0_3, x0_4, x0_5, x0_6, x0_7, x0_8, x0_9, x0_10, x0_11, x0_12, x0_13, x0_14, x0_15, x0_16, x0_17, x0_18, x0_19, x1, x2_0, x2_1, x2_2, x2_3, x3)
  | _ => none
noncomputable def kind_maker_leads_e (a : LL × LL × LL × Int × Int × Int × LL × LL × Int × ByteArray × ByteArray × LL × ByteArray × Bool × Bool × ByteArray × Bool × Bool × ByteArray × LL × Int × Int × Int × Int × Int × LL) : List Arg := [.ref 79 [.d (C.row 25 a.1), .d (C.row 39 a.2.1), .d (C.row 3 a.2.2.1), .d (C.int .i64 a.2.2.2.1), .d (C.int .i64 a.2.2.2.2.1), .d (C.int .i64 a.2.2.2.2.2.1), .d (C.row 83 a.2.2.2.2.2.2.1), .d (C.row 66 a.2.2.2.2.2.2.2.1), .d (C.int .i64 a.2.2.2.2.2.2.2.2.1), .d (C.str a.2.2.2.2.2.2.2.2.2.1), .d (C.str a.2.2.2.2.2.2.2.2.2.2.1), .d (C.row 86 a.2.2.2.2.2.2.2.2.2.2.2.1), .d (C.str a.2.2.2.2.2.2.2.2.2.2.2.2.1), .d (C.bool a.2.2.2.2.2.2.2.2.2.2.2.2.2.1), .d (C.bool a.2.2.2.2.2.2.2.2.2.2.2.2.2.2.1), .d (C.str a.2.2.2.2.2.2.2.2.2.2.2.2.2.2.2.1), .d (C.bool a.2.2.2.2.2.2.2.2.2.2.2.2.2.2.2.2.1), .d (C.bool a.2.2.2.2.2.2.2.2.2.2.2.2.2.2.2.2.2.1), .d (C.str a.2.2.2.2.2.2.2.2.2.2.2.2.2.2.2.2.2.2.1), .own 5 a.2.2.2.2.2.2.2.2.2.2.2.2.2.2.2.2.2.2.2.1] 0, .v (.one (.c (C.int .i64 a.2.2.2.2.2.2.2.2.2.2.2.2.2.2.2.2.2.2.2.2.1))), .v (.agg [.c (C.int .i64 a.2.2.2.2.2.2.2.2.2.2.2.2.2.2.2.2.2.2.2.2.2.1), .c (C.int .i64 a.2.2.2.2.2.2.2.2.2.2.2.2.2.2.2.2.2.2.2.2.2.2.1), .c (C.int .i64 a.2.2.2.2.2.2.2.2.2.2.2.2.2.2.2.2.2.2.2.2.2.2.2.1), .c (C.int .i64 a.2.2.2.2.2.2.2.2.2.2.2.2.2.2.2.2.2.2.2.2.2.2.2.2.1)]), .v (.one (.c (C.row 4 a.2.2.2.2.2.2.2.2.2.2.2.2.2.2.2.2.2.2.2.2.2.2.2.2.2)))]
theorem kind_maker_leads_ae {l : List Arg} {a : LL × LL × LL × Int × Int × Int × LL × LL × Int × ByteArray × ByteArray × LL × ByteArray × Bool × Bool × ByteArray × Bool × Bool × ByteArray × LL × Int × Int × Int × Int × Int × LL} (h : kind_maker_leads_a l = some a) : l = kind_maker_leads_e a := by
  unfold kind_maker_leads_a at h
  split at h
  · cases h; rfl
  · cases h
noncomputable def kind_maker_leads_d : Res → Option (Bool × LL × LL × LL × Int × Int × Int × LL × LL × Int × ByteArray × ByteArray × LL × ByteArray × Bool × Bool × ByteArray × Bool × Bool × ByteArray × LL)
  | ⟨.one (.d (.bool y0)), [[.d (.row 25 y1), .d (.row 39 y2), .d (.row 3 y3), .d (.int .i64 y4), .d (.int .i64 y5), .d (.int .i64 y6), .d (.row 83 y7), .d (.row 66 y8), .d (.int .i64 y9), .d (.str y10), .d (.str y11), .d (.row 86 y12), .d (.str y13), .d (.bool y14), .d (.bool y15), .d (.str y16), .d (.bool y17), .d (.bool y18), .d (.str y19), .own 5 y20]]⟩ => some (y0, y1, y2, y3, y4, y5, y6, y7, y8, y9, y10, y11, y12, y13, y14, y15, y16, y17, y18, y19, y20)
  | _ => none
noncomputable def kind_maker_leads_r (r : Bool × LL × LL × LL × Int × Int × Int × LL × LL × Int × ByteArray × ByteArray × LL × ByteArray × Bool × Bool × ByteArray × Bool × Bool × ByteArray × LL) : Res := ⟨.one (.d (.bool r.1)), [[.d (.row 25 r.2.1), .d (.row 39 r.2.2.1), .d (.row 3 r.2.2.2.1), .d (.int .i64 r.2.2.2.2.1), .d (.int .i64 r.2.2.2.2.2.1), .d (.int .i64 r.2.2.2.2.2.2.1), .d (.row 83 r.2.2.2.2.2.2.2.1), .d (.row 66 r.2.2.2.2.2.2.2.2.1), .d (.int .i64 r.2.2.2.2.2.2.2.2.2.1), .d (.str r.2.2.2.2.2.2.2.2.2.2.1), .d (.str r.2.2.2.2.2.2.2.2.2.2.2.1), .d (.row 86 r.2.2.2.2.2.2.2.2.2.2.2.2.1), .d (.str r.2.2.2.2.2.2.2.2.2.2.2.2.2.1), .d (.bool r.2.2.2.2.2.2.2.2.2.2.2.2.2.2.1), .d (.bool r.2.2.2.2.2.2.2.2.2.2.2.2.2.2.2.1), .d (.str r.2.2.2.2.2.2.2.2.2.2.2.2.2.2.2.2.1), .d (.bool r.2.2.2.2.2.2.2.2.2.2.2.2.2.2.2.2.2.1), .d (.bool r.2.2.2.2.2.2.2.2.2.2.2.2.2.2.2.2.2.2.1), .d (.str r.2.2.2.2.2.2.2.2.2.2.2.2.2.2.2.2.2.2.2.1), .own 5 r.2.2.2.2.2.2.2.2.2.2.2.2.2.2.2.2.2.2.2.2]]⟩
theorem kind_maker_leads_dr {R : Res} {r : Bool × LL × LL × LL × Int × Int × Int × LL × LL × Int × ByteArray × ByteArray × LL × ByteArray × Bool × Bool × ByteArray × Bool × Bool × ByteArray × LL} (h : kind_maker_leads_d R = some r) : R = kind_maker_leads_r r := by
  unfold kind_maker_leads_d at h
  split at h
  · cases h; rfl
  · cases h
noncomputable def kind_maker_leads_o (L : Lv) {Ω : Type} (f : FuncId) (l : List Arg) (K : Res → Option Ω) (next : Option Ω) : Option Ω := rowO 55 kind_maker_leads_a (fun a => L.kind_maker_leads a.1 a.2.1 a.2.2.1 a.2.2.2.1 a.2.2.2.2.1 a.2.2.2.2.2.1 a.2.2.2.2.2.2.1 a.2.2.2.2.2.2.2.1 a.2.2.2.2.2.2.2.2.1 a.2.2.2.2.2.2.2.2.2.1 a.2.2.2.2.2.2.2.2.2.2.1 a.2.2.2.2.2.2.2.2.2.2.2.1 a.2.2.2.2.2.2.2.2.2.2.2.2.1 a.2.2.2.2.2.2.2.2.2.2.2.2.2.1 a.2.2.2.2.2.2.2.2.2.2.2.2.2.2.1 a.2.2.2.2.2.2.2.2.2.2.2.2.2.2.2.1 a.2.2.2.2.2.2.2.2.2.2.2.2.2.2.2.2.1 a.2.2.2.2.2.2.2.2.2.2.2.2.2.2.2.2.2.1 a.2.2.2.2.2.2.2.2.2.2.2.2.2.2.2.2.2.2.1 a.2.2.2.2.2.2.2.2.2.2.2.2.2.2.2.2.2.2.2.1 a.2.2.2.2.2.2.2.2.2.2.2.2.2.2.2.2.2.2.2.2.1 a.2.2.2.2.2.2.2.2.2.2.2.2.2.2.2.2.2.2.2.2.2.1 a.2.2.2.2.2.2.2.2.2.2.2.2.2.2.2.2.2.2.2.2.2.2.1 a.2.2.2.2.2.2.2.2.2.2.2.2.2.2.2.2.2.2.2.2.2.2.2.1 a.2.2.2.2.2.2.2.2.2.2.2.2.2.2.2.2.2.2.2.2.2.2.2.2.1 a.2.2.2.2.2.2.2.2.2.2.2.2.2.2.2.2.2.2.2.2.2.2.2.2.2) kind_maker_leads_r f l K next
noncomputable def api_Filter_5_a : List Arg → Option (LL × LL)
  | [.v (.one (.c (.row 66 x0))), .v (.one (.c (.row 66 x1))), .fn 110] => some (x0, x1)
  | _ => none
noncomputable def api_Filter_5_e (a : LL × LL) : List Arg := [.v (.one (.c (C.row 66 a.1))), .v (.one (.c (C.row 66 a.2))), .fn 110]
theorem api_Filter_5_ae {l : List Arg} {a : LL × LL} (h : api_Filter_5_a l = some a) : l = api_Filter_5_e a := by
  unfold api_Filter_5_a at h
  split at h
  · cases h; rfl
  · cases h
noncomputable def api_Filter_5_d : Res → Option Bool
  | ⟨.one (.d (.bool y0)), []⟩ => some y0
  | _ => none
noncomputable def api_Filter_5_r (r : Bool) : Res := ⟨.one (.d (.bool r)), []⟩
theorem api_Filter_5_dr {R : Res} {r : Bool} (h : api_Filter_5_d R = some r) : R = api_Filter_5_r r := by
  unfold api_Filter_5_d at h
  split at h
  · cases h; rfl
  · cases h
noncomputable def api_Filter_5_o (L : Lv) {Ω : Type} (f : FuncId) (l : List Arg) (K : Res → Option Ω) (next : Option Ω) : Option Ω := rowO 109 api_Filter_5_a (fun a => L.api_Filter_5 a.1 a.2) api_Filter_5_r f l K next
noncomputable def word_Whole_a : List Arg → Option LL
  | [.v (.one (.c (.row 30 x0)))] => some x0
  | _ => none
noncomputable def word_Whole_e (a : LL) : List Arg := [.v (.one (.c (C.row 30 a)))]
theorem word_Whole_ae {l : List Arg} {a : LL} (h : word_Whole_a l = some a) : l = word_Whole_e a := by
  unfold word_Whole_a at h
  split at h
  · cases h; rfl
  · cases h
noncomputable def word_Whole_d : Res → Option Bool
  | ⟨.one (.d (.bool y0)), []⟩ => some y0
  | _ => none
noncomputable def word_Whole_r (r : Bool) : Res := ⟨.one (.d (.bool r)), []⟩
theorem word_Whole_dr {R : Res} {r : Bool} (h : word_Whole_d R = some r) : R = word_Whole_r r := by
  unfold word_Whole_d at h
  split at h
  · cases h; rfl
  · cases h
noncomputable def word_Whole_o (L : Lv) {Ω : Type} (f : FuncId) (l : List Arg) (K : Res → Option Ω) (next : Option Ω) : Option Ω := rowO 39 word_Whole_a (fun a => L.word_Whole a) word_Whole_r f l K next
noncomputable def kind_good_a : List Arg → Option (Bool × Bool × ByteArray × Int)
  | [.v (.agg [.c (.bool x0_0), .c (.bool x0_1), .c (.str x0_2)]), .v (.one (.c (.int .i64 x1)))] => some (x0_0, x0_1, x0_2, x1)
  | _ => none
noncomputable def kind_good_e (a : Bool × Bool × ByteArray × Int) : List Arg := [.v (.agg [.c (C.bool a.1), .c (C.bool a.2.1), .c (C.str a.2.2.1)]), .v (.one (.c (C.int .i64 a.2.2.2)))]
theorem kind_good_ae {l : List Arg} {a : Bool × Bool × ByteArray × Int} (h : kind_good_a l = some a) : l = kind_good_e a := by
  unfold kind_good_a at h
  split at h
  · cases h; rfl
  · cases h
noncomputable def kind_good_d : Res → Option Bool
  | ⟨.one (.d (.bool y0)), []⟩ => some y0
  | _ => none
noncomputable def kind_good_r (r : Bool) : Res := ⟨.one (.d (.bool r)), []⟩
theorem kind_good_dr {R : Res} {r : Bool} (h : kind_good_d R = some r) : R = kind_good_r r := by
  unfold kind_good_d at h
  split at h
  · cases h; rfl
  · cases h
noncomputable def kind_good_o (L : Lv) {Ω : Type} (f : FuncId) (l : List Arg) (K : Res → Option Ω) (next : Option Ω) : Option Ω := rowO 71 kind_good_a (fun a => L.kind_good a.1 a.2.1 a.2.2.1 a.2.2.2) kind_good_r f l K next
noncomputable def path_sameFilter_a : List Arg → Option (Int × ByteArray × ByteArray × ByteArray × LL × LL × Int × ByteArray × ByteArray × ByteArray × LL × LL)
  | [.v (.agg [.c (.int .i64 x0_0), .c (.str x0_1), .c (.str x0_2), .c (.str x0_3), .c (.row 66 x0_4), .c (.row 25 x0_5)]), .v (.agg [.c (.int .i64 x1_0), .c (.str x1_1), .c (.str x1_2), .c (.str x1_3), .c (.row 66 x1_4), .c (.row 25 x1_5)])] => some (x0_0, x0_1, x0_2, x0_3, x0_4, x0_5, x1_0, x1_1, x1_2, x1_3, x1_4, x1_5)
  | _ => none
noncomputable def path_sameFilter_e (a : Int × ByteArray × ByteArray × ByteArray × LL × LL × Int × ByteArray × ByteArray × ByteArray × LL × LL) : List Arg := [.v (.agg [.c (C.int .i64 a.1), .c (C.str a.2.1), .c (C.str a.2.2.1), .c (C.str a.2.2.2.1), .c (C.row 66 a.2.2.2.2.1), .c (C.row 25 a.2.2.2.2.2.1)]), .v (.agg [.c (C.int .i64 a.2.2.2.2.2.2.1), .c (C.str a.2.2.2.2.2.2.2.1), .c (C.str a.2.2.2.2.2.2.2.2.1), .c (C.str a.2.2.2.2.2.2.2.2.2.1), .c (C.row 66 a.2.2.2.2.2.2.2.2.2.2.1), .c (C.row 25 a.2.2.2.2.2.2.2.2.2.2.2)])]
theorem path_sameFilter_ae {l : List Arg} {a : Int × ByteArray × ByteArray × ByteArray × LL × LL × Int × ByteArray × ByteArray × ByteArray × LL × LL} (h : path_sameFilter_a l = some a) : l = path_sameFilter_e a := by
  unfold path_sameFilter_a at h
  split at h
  · cases h; rfl
  · cases h
noncomputable def path_sameFilter_d : Res → Option Bool
  | ⟨.one (.d (.bool y0)), []⟩ => some y0
  | _ => none
noncomputable def path_sameFilter_r (r : Bool) : Res := ⟨.one (.d (.bool r)), []⟩
theorem path_sameFilter_dr {R : Res} {r : Bool} (h : path_sameFilter_d R = some r) : R = path_sameFilter_r r := by
  unfold path_sameFilter_d at h
  split at h
  · cases h; rfl
  · cases h
noncomputable def path_sameFilter_o (L : Lv) {Ω : Type} (f : FuncId) (l : List Arg) (K : Res → Option Ω) (next : Option Ω) : Option Ω := rowO 110 path_sameFilter_a (fun a => L.path_sameFilter a.1 a.2.1 a.2.2.1 a.2.2.2.1 a.2.2.2.2.1 a.2.2.2.2.2.1 a.2.2.2.2.2.2.1 a.2.2.2.2.2.2.2.1 a.2.2.2.2.2.2.2.2.1 a.2.2.2.2.2.2.2.2.2.1 a.2.2.2.2.2.2.2.2.2.2.1 a.2.2.2.2.2.2.2.2.2.2.2) path_sameFilter_r f l K next
noncomputable def word_Begins_a : List Arg → Option LL
  | [.v (.one (.c (.row 30 x0)))] => some x0
  | _ => none
noncomputable def word_Begins_e (a : LL) : List Arg := [.v (.one (.c (C.row 30 a)))]
theorem word_Begins_ae {l : List Arg} {a : LL} (h : word_Begins_a l = some a) : l = word_Begins_e a := by
  unfold word_Begins_a at h
  split at h
  · cases h; rfl
  · cases h
noncomputable def word_Begins_d : Res → Option Bool
  | ⟨.one (.d (.bool y0)), []⟩ => some y0
  | _ => none
noncomputable def word_Begins_r (r : Bool) : Res := ⟨.one (.d (.bool r)), []⟩
theorem word_Begins_dr {R : Res} {r : Bool} (h : word_Begins_d R = some r) : R = word_Begins_r r := by
  unfold word_Begins_d at h
  split at h
  · cases h; rfl
  · cases h
noncomputable def word_Begins_o (L : Lv) {Ω : Type} (f : FuncId) (l : List Arg) (K : Res → Option Ω) (next : Option Ω) : Option Ω := rowO 56 word_Begins_a (fun a => L.word_Begins a) word_Begins_r f l K next
noncomputable def word_Right_a : List Arg → Option (Int × ByteArray × ByteArray × LL × ByteArray)
  | [.v (.agg [.c (.int .i64 x0_0), .c (.str x0_1), .c (.str x0_2), .c (.row 86 x0_3), .c (.str x0_4)])] => some (x0_0, x0_1, x0_2, x0_3, x0_4)
  | _ => none
noncomputable def word_Right_e (a : Int × ByteArray × ByteArray × LL × ByteArray) : List Arg := [.v (.agg [.c (C.int .i64 a.1), .c (C.str a.2.1), .c (C.str a.2.2.1), .c (C.row 86 a.2.2.2.1), .c (C.str a.2.2.2.2)])]
theorem word_Right_ae {l : List Arg} {a : Int × ByteArray × ByteArray × LL × ByteArray} (h : word_Right_a l = some a) : l = word_Right_e a := by
  unfold word_Right_a at h
  split at h
  · cases h; rfl
  · cases h
noncomputable def word_Right_d : Res → Option Bool
  | ⟨.one (.d (.bool y0)), []⟩ => some y0
  | _ => none
noncomputable def word_Right_r (r : Bool) : Res := ⟨.one (.d (.bool r)), []⟩
theorem word_Right_dr {R : Res} {r : Bool} (h : word_Right_d R = some r) : R = word_Right_r r := by
  unfold word_Right_d at h
  split at h
  · cases h; rfl
  · cases h
noncomputable def word_Right_o (L : Lv) {Ω : Type} (f : FuncId) (l : List Arg) (K : Res → Option Ω) (next : Option Ω) : Option Ω := rowO 72 word_Right_a (fun a => L.word_Right a.1 a.2.1 a.2.2.1 a.2.2.2.1 a.2.2.2.2) word_Right_r f l K next
noncomputable def word_named_a : List Arg → Option (ByteArray × ByteArray)
  | [.v (.agg [.c (.str x0_0), .c (.str x0_1)])] => some (x0_0, x0_1)
  | _ => none
noncomputable def word_named_e (a : ByteArray × ByteArray) : List Arg := [.v (.agg [.c (C.str a.1), .c (C.str a.2)])]
theorem word_named_ae {l : List Arg} {a : ByteArray × ByteArray} (h : word_named_a l = some a) : l = word_named_e a := by
  unfold word_named_a at h
  split at h
  · cases h; rfl
  · cases h
noncomputable def word_named_d : Res → Option Bool
  | ⟨.one (.d (.bool y0)), []⟩ => some y0
  | _ => none
noncomputable def word_named_r (r : Bool) : Res := ⟨.one (.d (.bool r)), []⟩
theorem word_named_dr {R : Res} {r : Bool} (h : word_named_d R = some r) : R = word_named_r r := by
  unfold word_named_d at h
  split at h
  · cases h; rfl
  · cases h
noncomputable def word_named_o (L : Lv) {Ω : Type} (f : FuncId) (l : List Arg) (K : Res → Option Ω) (next : Option Ω) : Option Ω := rowO 87 word_named_a (fun a => L.word_named a.1 a.2) word_named_r f l K next
noncomputable def word_text_a : List Arg → Option ByteArray
  | [.v (.one (.c (.str x0)))] => some x0
  | _ => none
noncomputable def word_text_e (a : ByteArray) : List Arg := [.v (.one (.c (C.str a)))]
theorem word_text_ae {l : List Arg} {a : ByteArray} (h : word_text_a l = some a) : l = word_text_e a := by
  unfold word_text_a at h
  split at h
  · cases h; rfl
  · cases h
noncomputable def word_text_d : Res → Option Bool
  | ⟨.one (.d (.bool y0)), []⟩ => some y0
  | _ => none
noncomputable def word_text_r (r : Bool) : Res := ⟨.one (.d (.bool r)), []⟩
theorem word_text_dr {R : Res} {r : Bool} (h : word_text_d R = some r) : R = word_text_r r := by
  unfold word_text_d at h
  split at h
  · cases h; rfl
  · cases h
noncomputable def word_text_o (L : Lv) {Ω : Type} (f : FuncId) (l : List Arg) (K : Res → Option Ω) (next : Option Ω) : Option Ω := rowO 89 word_text_a (fun a => L.word_text a) word_text_r f l K next
noncomputable def name_Plain_a : List Arg → Option ByteArray
  | [.v (.one (.c (.str x0)))] => some x0
  | _ => none
noncomputable def name_Plain_e (a : ByteArray) : List Arg := [.v (.one (.c (C.str a)))]
theorem name_Plain_ae {l : List Arg} {a : ByteArray} (h : name_Plain_a l = some a) : l = name_Plain_e a := by
  unfold name_Plain_a at h
  split at h
  · cases h; rfl
  · cases h
noncomputable def name_Plain_d : Res → Option Bool
  | ⟨.one (.d (.bool y0)), []⟩ => some y0
  | _ => none
noncomputable def name_Plain_r (r : Bool) : Res := ⟨.one (.d (.bool r)), []⟩
theorem name_Plain_dr {R : Res} {r : Bool} (h : name_Plain_d R = some r) : R = name_Plain_r r := by
  unfold name_Plain_d at h
  split at h
  · cases h; rfl
  · cases h
noncomputable def name_Plain_o (L : Lv) {Ω : Type} (f : FuncId) (l : List Arg) (K : Res → Option Ω) (next : Option Ω) : Option Ω := rowO 97 name_Plain_a (fun a => L.name_Plain a) name_Plain_r f l K next
noncomputable def utf_All_a : List Arg → Option ByteArray
  | [.v (.one (.c (.str x0)))] => some x0
  | _ => none
noncomputable def utf_All_e (a : ByteArray) : List Arg := [.v (.one (.c (C.str a)))]
theorem utf_All_ae {l : List Arg} {a : ByteArray} (h : utf_All_a l = some a) : l = utf_All_e a := by
  unfold utf_All_a at h
  split at h
  · cases h; rfl
  · cases h
noncomputable def utf_All_d : Res → Option (LL × Int × Int)
  | ⟨.tup [.one (.own 21 y0), .one (.d (.int .i64 y1)), .one (.d (.int .i64 y2))], []⟩ => some (y0, y1, y2)
  | _ => none
noncomputable def utf_All_r (r : LL × Int × Int) : Res := ⟨.tup [.one (.own 21 r.1), .one (.d (.int .i64 r.2.1)), .one (.d (.int .i64 r.2.2))], []⟩
theorem utf_All_dr {R : Res} {r : LL × Int × Int} (h : utf_All_d R = some r) : R = utf_All_r r := by
  unfold utf_All_d at h
  split at h
  · cases h; rfl
  · cases h
noncomputable def utf_All_o (L : Lv) {Ω : Type} (f : FuncId) (l : List Arg) (K : Res → Option Ω) (next : Option Ω) : Option Ω := rowO 98 utf_All_a (fun a => L.utf_All a) utf_All_r f l K next
noncomputable def char_Start_a : List Arg → Option Int
  | [.v (.one (.c (.int .i32 x0)))] => some x0
  | _ => none
noncomputable def char_Start_e (a : Int) : List Arg := [.v (.one (.c (C.int .i32 a)))]
theorem char_Start_ae {l : List Arg} {a : Int} (h : char_Start_a l = some a) : l = char_Start_e a := by
  unfold char_Start_a at h
  split at h
  · cases h; rfl
  · cases h
noncomputable def char_Start_d : Res → Option Bool
  | ⟨.one (.d (.bool y0)), []⟩ => some y0
  | _ => none
noncomputable def char_Start_r (r : Bool) : Res := ⟨.one (.d (.bool r)), []⟩
theorem char_Start_dr {R : Res} {r : Bool} (h : char_Start_d R = some r) : R = char_Start_r r := by
  unfold char_Start_d at h
  split at h
  · cases h; rfl
  · cases h
noncomputable def char_Start_o (L : Lv) {Ω : Type} (f : FuncId) (l : List Arg) (K : Res → Option Ω) (next : Option Ω) : Option Ω := rowO 103 char_Start_a (fun a => L.char_Start a) char_Start_r f l K next
noncomputable def utf_Rune_a : List Arg → Option (ByteArray × Int)
  | [.v (.one (.c (.str x0))), .v (.one (.c (.int .i64 x1)))] => some (x0, x1)
  | _ => none
noncomputable def utf_Rune_e (a : ByteArray × Int) : List Arg := [.v (.one (.c (C.str a.1))), .v (.one (.c (C.int .i64 a.2)))]
theorem utf_Rune_ae {l : List Arg} {a : ByteArray × Int} (h : utf_Rune_a l = some a) : l = utf_Rune_e a := by
  unfold utf_Rune_a at h
  split at h
  · cases h; rfl
  · cases h
noncomputable def utf_Rune_d : Res → Option (Int × Int × Int)
  | ⟨.tup [.one (.d (.int .i32 y0)), .one (.d (.int .i64 y1)), .one (.d (.int .i64 y2))], []⟩ => some (y0, y1, y2)
  | _ => none
noncomputable def utf_Rune_r (r : Int × Int × Int) : Res := ⟨.tup [.one (.d (.int .i32 r.1)), .one (.d (.int .i64 r.2.1)), .one (.d (.int .i64 r.2.2))], []⟩
theorem utf_Rune_dr {R : Res} {r : Int × Int × Int} (h : utf_Rune_d R = some r) : R = utf_Rune_r r := by
  unfold utf_Rune_d at h
  split at h
  · cases h; rfl
  · cases h
noncomputable def utf_Rune_o (L : Lv) {Ω : Type} (f : FuncId) (l : List Arg) (K : Res → Option Ω) (next : Option Ω) : Option Ω := rowO 105 utf_Rune_a (fun a => L.utf_Rune a.1 a.2) utf_Rune_r f l K next
noncomputable def char_in_a : List Arg → Option (Int × LL)
  | [.v (.one (.c (.int .i32 x0))), .v (.one (.c (.row 153 x1)))] => some (x0, x1)
  | _ => none
noncomputable def char_in_e (a : Int × LL) : List Arg := [.v (.one (.c (C.int .i32 a.1))), .v (.one (.c (C.row 153 a.2)))]
theorem char_in_ae {l : List Arg} {a : Int × LL} (h : char_in_a l = some a) : l = char_in_e a := by
  unfold char_in_a at h
  split at h
  · cases h; rfl
  · cases h
noncomputable def char_in_d : Res → Option Bool
  | ⟨.one (.d (.bool y0)), []⟩ => some y0
  | _ => none
noncomputable def char_in_r (r : Bool) : Res := ⟨.one (.d (.bool r)), []⟩
theorem char_in_dr {R : Res} {r : Bool} (h : char_in_d R = some r) : R = char_in_r r := by
  unfold char_in_d at h
  split at h
  · cases h; rfl
  · cases h
noncomputable def char_in_o (L : Lv) {Ω : Type} (f : FuncId) (l : List Arg) (K : Res → Option Ω) (next : Option Ω) : Option Ω := rowO 107 char_in_a (fun a => L.char_in a.1 a.2) char_in_r f l K next
noncomputable def utf_forms_a : List Arg → Option Unit
  | [] => some ()
  | _ => none
noncomputable def utf_forms_e (a : Unit) : List Arg := []
theorem utf_forms_ae {l : List Arg} {a : Unit} (h : utf_forms_a l = some a) : l = utf_forms_e a := by
  unfold utf_forms_a at h
  split at h
  · cases h; rfl
  · cases h
noncomputable def utf_forms_d : Res → Option (Int × Int × Int × Int × Int × Int × Int × Int × Int × Int × Int × Int)
  | ⟨.agg [.d (.int .u8 y0), .d (.int .u8 y1), .d (.int .i32 y2), .d (.int .u8 y3), .d (.int .u8 y4), .d (.int .i32 y5), .d (.int .u8 y6), .d (.int .u8 y7), .d (.int .i32 y8), .d (.int .u8 y9), .d (.int .u8 y10), .d (.int .i32 y11)], []⟩ => some (y0, y1, y2, y3, y4, y5, y6, y7, y8, y9, y10, y11)
  | _ => none
noncomputable def utf_forms_r (r : Int × Int × Int × Int × Int × Int × Int × Int × Int × Int × Int × Int) : Res := ⟨.agg [.d (.int .u8 r.1), .d (.int .u8 r.2.1), .d (.int .i32 r.2.2.1), .d (.int .u8 r.2.2.2.1), .d (.int .u8 r.2.2.2.2.1), .d (.int .i32 r.2.2.2.2.2.1), .d (.int .u8 r.2.2.2.2.2.2.1), .d (.int .u8 r.2.2.2.2.2.2.2.1), .d (.int .i32 r.2.2.2.2.2.2.2.2.1), .d (.int .u8 r.2.2.2.2.2.2.2.2.2.1), .d (.int .u8 r.2.2.2.2.2.2.2.2.2.2.1), .d (.int .i32 r.2.2.2.2.2.2.2.2.2.2.2)], []⟩
theorem utf_forms_dr {R : Res} {r : Int × Int × Int × Int × Int × Int × Int × Int × Int × Int × Int × Int} (h : utf_forms_d R = some r) : R = utf_forms_r r := by
  unfold utf_forms_d at h
  split at h
  · cases h; rfl
  · cases h
noncomputable def utf_forms_o (L : Lv) {Ω : Type} (f : FuncId) (l : List Arg) (K : Res → Option Ω) (next : Option Ω) : Option Ω := rowO 111 utf_forms_a (fun a => L.utf_forms) utf_forms_r f l K next
noncomputable def word_Nodes_a : List Arg → Option LL
  | [.v (.one (.c (.row 30 x0)))] => some x0
  | _ => none
noncomputable def word_Nodes_e (a : LL) : List Arg := [.v (.one (.c (C.row 30 a)))]
theorem word_Nodes_ae {l : List Arg} {a : LL} (h : word_Nodes_a l = some a) : l = word_Nodes_e a := by
  unfold word_Nodes_a at h
  split at h
  · cases h; rfl
  · cases h
noncomputable def word_Nodes_d : Res → Option LL
  | ⟨.one (.own 3 y0), []⟩ => some y0
  | _ => none
noncomputable def word_Nodes_r (r : LL) : Res := ⟨.one (.own 3 r), []⟩
theorem word_Nodes_dr {R : Res} {r : LL} (h : word_Nodes_d R = some r) : R = word_Nodes_r r := by
  unfold word_Nodes_d at h
  split at h
  · cases h; rfl
  · cases h
noncomputable def word_Nodes_o (L : Lv) {Ω : Type} (f : FuncId) (l : List Arg) (K : Res → Option Ω) (next : Option Ω) : Option Ω := rowO 40 word_Nodes_a (fun a => L.word_Nodes a) word_Nodes_r f l K next
noncomputable def word_Depth_a : List Arg → Option LL
  | [.v (.one (.c (.row 30 x0)))] => some x0
  | _ => none
noncomputable def word_Depth_e (a : LL) : List Arg := [.v (.one (.c (C.row 30 a)))]
theorem word_Depth_ae {l : List Arg} {a : LL} (h : word_Depth_a l = some a) : l = word_Depth_e a := by
  unfold word_Depth_a at h
  split at h
  · cases h; rfl
  · cases h
noncomputable def word_Depth_d : Res → Option Int
  | ⟨.one (.d (.int .i64 y0)), []⟩ => some y0
  | _ => none
noncomputable def word_Depth_r (r : Int) : Res := ⟨.one (.d (.int .i64 r)), []⟩
theorem word_Depth_dr {R : Res} {r : Int} (h : word_Depth_d R = some r) : R = word_Depth_r r := by
  unfold word_Depth_d at h
  split at h
  · cases h; rfl
  · cases h
noncomputable def word_Depth_o (L : Lv) {Ω : Type} (f : FuncId) (l : List Arg) (K : Res → Option Ω) (next : Option Ω) : Option Ω := rowO 57 word_Depth_a (fun a => L.word_Depth a) word_Depth_r f l K next
noncomputable def char_All_a : List Arg → Option ByteArray
  | [.v (.one (.c (.str x0))), .v (.one (.c (.row 147 [[C.fn (some 100)]])))] => some x0
  | _ => none
noncomputable def char_All_e (a : ByteArray) : List Arg := [.v (.one (.c (C.str a))), .v (.one (.c (C.row 147 [[C.fn (some 100)]])))]
theorem char_All_ae {l : List Arg} {a : ByteArray} (h : char_All_a l = some a) : l = char_All_e a := by
  unfold char_All_a at h
  split at h
  · cases h; rfl
  · cases h
noncomputable def char_All_d : Res → Option Bool
  | ⟨.one (.d (.bool y0)), []⟩ => some y0
  | _ => none
noncomputable def char_All_r (r : Bool) : Res := ⟨.one (.d (.bool r)), []⟩
theorem char_All_dr {R : Res} {r : Bool} (h : char_All_d R = some r) : R = char_All_r r := by
  unfold char_All_d at h
  split at h
  · cases h; rfl
  · cases h
noncomputable def char_All_o (L : Lv) {Ω : Type} (f : FuncId) (l : List Arg) (K : Res → Option Ω) (next : Option Ω) : Option Ω := rowO 99 char_All_a (fun a => L.char_All a) char_All_r f l K next
noncomputable def utf_span_a : List Arg → Option (Int × Int)
  | [.v (.one (.c (.int .i32 x0))), .v (.one (.c (.int .i64 x1)))] => some (x0, x1)
  | _ => none
noncomputable def utf_span_e (a : Int × Int) : List Arg := [.v (.one (.c (C.int .i32 a.1))), .v (.one (.c (C.int .i64 a.2)))]
theorem utf_span_ae {l : List Arg} {a : Int × Int} (h : utf_span_a l = some a) : l = utf_span_e a := by
  unfold utf_span_a at h
  split at h
  · cases h; rfl
  · cases h
noncomputable def utf_span_d : Res → Option (Int × Int)
  | ⟨.tup [.one (.d (.int .i32 y0)), .one (.d (.int .i32 y1))], []⟩ => some (y0, y1)
  | _ => none
noncomputable def utf_span_r (r : Int × Int) : Res := ⟨.tup [.one (.d (.int .i32 r.1)), .one (.d (.int .i32 r.2))], []⟩
theorem utf_span_dr {R : Res} {r : Int × Int} (h : utf_span_d R = some r) : R = utf_span_r r := by
  unfold utf_span_d at h
  split at h
  · cases h; rfl
  · cases h
noncomputable def utf_span_o (L : Lv) {Ω : Type} (f : FuncId) (l : List Arg) (K : Res → Option Ω) (next : Option Ω) : Option Ω := rowO 112 utf_span_a (fun a => L.utf_span a.1 a.2) utf_span_r f l K next
noncomputable def char_Char_a : List Arg → Option Int
  | [.v (.one (.c (.int .i32 x0)))] => some x0
  | _ => none
noncomputable def char_Char_e (a : Int) : List Arg := [.v (.one (.c (C.int .i32 a)))]
theorem char_Char_ae {l : List Arg} {a : Int} (h : char_Char_a l = some a) : l = char_Char_e a := by
  unfold char_Char_a at h
  split at h
  · cases h; rfl
  · cases h
noncomputable def char_Char_d : Res → Option Bool
  | ⟨.one (.d (.bool y0)), []⟩ => some y0
  | _ => none
noncomputable def char_Char_r (r : Bool) : Res := ⟨.one (.d (.bool r)), []⟩
theorem char_Char_dr {R : Res} {r : Bool} (h : char_Char_d R = some r) : R = char_Char_r r := by
  unfold char_Char_d at h
  split at h
  · cases h; rfl
  · cases h
noncomputable def char_Char_o (L : Lv) {Ω : Type} (f : FuncId) (l : List Arg) (K : Res → Option Ω) (next : Option Ω) : Option Ω := rowO 100 char_Char_a (fun a => L.char_Char a) char_Char_r f l K next
noncomputable def char_Blank_a : List Arg → Option Int
  | [.v (.one (.c (.int .i32 x0)))] => some x0
  | _ => none
noncomputable def char_Blank_e (a : Int) : List Arg := [.v (.one (.c (C.int .i32 a)))]
theorem char_Blank_ae {l : List Arg} {a : Int} (h : char_Blank_a l = some a) : l = char_Blank_e a := by
  unfold char_Blank_a at h
  split at h
  · cases h; rfl
  · cases h
noncomputable def char_Blank_d : Res → Option Bool
  | ⟨.one (.d (.bool y0)), []⟩ => some y0
  | _ => none
noncomputable def char_Blank_r (r : Bool) : Res := ⟨.one (.d (.bool r)), []⟩
theorem char_Blank_dr {R : Res} {r : Bool} (h : char_Blank_d R = some r) : R = char_Blank_r r := by
  unfold char_Blank_d at h
  split at h
  · cases h; rfl
  · cases h
noncomputable def char_Blank_o (L : Lv) {Ω : Type} (f : FuncId) (l : List Arg) (K : Res → Option Ω) (next : Option Ω) : Option Ω := rowO 106 char_Blank_a (fun a => L.char_Blank a) char_Blank_r f l K next
noncomputable def kind_Arrive_a : List Arg → Option (LL × LL × LL × Int × Int × Int × LL × LL × Int × Int × Int × LL × LL × Int × ByteArray × ByteArray × LL × ByteArray × Bool × Bool × ByteArray × LL)
  | [.v (.agg [.c (.row 25 x0_0), .c (.row 39 x0_1), .c (.row 3 x0_2), .c (.int .i64 x0_3), .c (.int .i64 x0_4), .c (.int .i64 x0_5), .c (.row 83 x0_6), .c (.row 66 x0_7)]), .v (.agg [.c (.int .i64 x1_0), .c (.int .i64 x1_1), .c (.int .i64 x1_2), .c (.row 83 x1_3), .c (.row 66 x1_4)]), .v (.agg [.c (.int .i64 x2_0), .c (.str x2_1), .c (.str x2_2), .c (.row 86 x2_3), .c (.str x2_4)]), .v (.agg [.c (.bool x3_0), .c (.bool x3_1), .c (.str x3_2)]), .v (.one (.c (.row 4 x4)))] => some (x0_0, x0_1, x0_2, x0_3, x0_4, x0_5, x0_6, x0_7, x1_0, x1_1, x1_2, x1_3, x1_4, x2_0, x2_1, x2_2, x2_3, x2_4, x3_0, x3_1, x3_2, x4)
  | _ => none
noncomputable def kind_Arrive_e (a : LL × LL × LL × Int × Int × Int × LL × LL × Int × Int × Int × LL × LL × Int × ByteArray × ByteArray × LL × ByteArray × Bool × Bool × ByteArray × LL) : List Arg := [.v (.agg [.c (C.row 25 a.1), .c (C.row 39 a.2.1), .c (C.row 3 a.2.2.1), .c (C.int .i64 a.2.2.2.1), .c (C.int .i64 a.2.2.2.2.1), .c (C.int .i64 a.2.2.2.2.2.1), .c (C.row 83 a.2.2.2.2.2.2.1), .c (C.row 66 a.2.2.2.2.2.2.2.1)]), .v (.agg [.c (C.int .i64 a.2.2.2.2.2.2.2.2.1), .c (C.int .i64 a.2.2.2.2.2.2.2.2.2.1), .c (C.int .i64 a.2.2.2.2.2.2.2.2.2.2.1), .c (C.row 83 a.2.2.2.2.2.2.2.2.2.2.2.1), .c (C.row 66 a.2.2.2.2.2.2.2.2.2.2.2.2.1)]), .v (.agg [.c (C.int .i64 a.2.2.2.2.2.2.2.2.2.2.2.2.2.1), .c (C.str a.2.2.2.2.2.2.2.2.2.2.2.2.2.2.1), .c (C.str a.2.2.2.2.2.2.2.2.2.2.2.2.2.2.2.1), .c (C.row 86 a.2.2.2.2.2.2.2.2.2.2.2.2.2.2.2.2.1), .c (C.str a.2.2.2.2.2.2.2.2.2.2.2.2.2.2.2.2.2.1)]), .v (.agg [.c (C.bool a.2.2.2.2.2.2.2.2.2.2.2.2.2.2.2.2.2.2.1), .c (C.bool a.2.2.2.2.2.2.2.2.2.2.2.2.2.2.2.2.2.2.2.1), .c (C.str a.2.2.2.2.2.2.2.2.2.2.2.2.2.2.2.2.2.2.2.2.1)]), .v (.one (.c (C.row 4 a.2.2.2.2.2.2.2.2.2.2.2.2.2.2.2.2.2.2.2.2.2)))]
theorem kind_Arrive_ae {l : List Arg} {a : LL × LL × LL × Int × Int × Int × LL × LL × Int × Int × Int × LL × LL × Int × ByteArray × ByteArray × LL × ByteArray × Bool × Bool × ByteArray × LL} (h : kind_Arrive_a l = some a) : l = kind_Arrive_e a := by
  unfold kind_Arrive_a at h
  split at h
  · cases h; rfl
  · cases h
noncomputable def kind_Arrive_d : Res → Option LL
  | ⟨.one (.own 4 y0), []⟩ => some y0
  | _ => none
noncomputable def kind_Arrive_r (r : LL) : Res := ⟨.one (.own 4 r), []⟩
theorem kind_Arrive_dr {R : Res} {r : LL} (h : kind_Arrive_d R = some r) : R = kind_Arrive_r r := by
  unfold kind_Arrive_d at h
  split at h
  · cases h; rfl
  · cases h
noncomputable def kind_Arrive_o (L : Lv) {Ω : Type} (f : FuncId) (l : List Arg) (K : Res → Option Ω) (next : Option Ω) : Option Ω := rowO 20 kind_Arrive_a (fun a => L.kind_Arrive a.1 a.2.1 a.2.2.1 a.2.2.2.1 a.2.2.2.2.1 a.2.2.2.2.2.1 a.2.2.2.2.2.2.1 a.2.2.2.2.2.2.2.1 a.2.2.2.2.2.2.2.2.1 a.2.2.2.2.2.2.2.2.2.1 a.2.2.2.2.2.2.2.2.2.2.1 a.2.2.2.2.2.2.2.2.2.2.2.1 a.2.2.2.2.2.2.2.2.2.2.2.2.1 a.2.2.2.2.2.2.2.2.2.2.2.2.2.1 a.2.2.2.2.2.2.2.2.2.2.2.2.2.2.1 a.2.2.2.2.2.2.2.2.2.2.2.2.2.2.2.1 a.2.2.2.2.2.2.2.2.2.2.2.2.2.2.2.2.1 a.2.2.2.2.2.2.2.2.2.2.2.2.2.2.2.2.2.1 a.2.2.2.2.2.2.2.2.2.2.2.2.2.2.2.2.2.2.1 a.2.2.2.2.2.2.2.2.2.2.2.2.2.2.2.2.2.2.2.1 a.2.2.2.2.2.2.2.2.2.2.2.2.2.2.2.2.2.2.2.2.1 a.2.2.2.2.2.2.2.2.2.2.2.2.2.2.2.2.2.2.2.2.2) kind_Arrive_r f l K next
noncomputable def word_attrs_a : List Arg → Option LL
  | [.v (.one (.c (.row 86 x0)))] => some x0
  | _ => none
noncomputable def word_attrs_e (a : LL) : List Arg := [.v (.one (.c (C.row 86 a)))]
theorem word_attrs_ae {l : List Arg} {a : LL} (h : word_attrs_a l = some a) : l = word_attrs_e a := by
  unfold word_attrs_a at h
  split at h
  · cases h; rfl
  · cases h
noncomputable def word_attrs_d : Res → Option Bool
  | ⟨.one (.d (.bool y0)), []⟩ => some y0
  | _ => none
noncomputable def word_attrs_r (r : Bool) : Res := ⟨.one (.d (.bool r)), []⟩
theorem word_attrs_dr {R : Res} {r : Bool} (h : word_attrs_d R = some r) : R = word_attrs_r r := by
  unfold word_attrs_d at h
  split at h
  · cases h; rfl
  · cases h
noncomputable def word_attrs_o (L : Lv) {Ω : Type} (f : FuncId) (l : List Arg) (K : Res → Option Ω) (next : Option Ω) : Option Ω := rowO 88 word_attrs_a (fun a => L.word_attrs a) word_attrs_r f l K next
noncomputable def char_Part_a : List Arg → Option Int
  | [.v (.one (.c (.int .i32 x0)))] => some x0
  | _ => none
noncomputable def char_Part_e (a : Int) : List Arg := [.v (.one (.c (C.int .i32 a)))]
theorem char_Part_ae {l : List Arg} {a : Int} (h : char_Part_a l = some a) : l = char_Part_e a := by
  unfold char_Part_a at h
  split at h
  · cases h; rfl
  · cases h
noncomputable def char_Part_d : Res → Option Bool
  | ⟨.one (.d (.bool y0)), []⟩ => some y0
  | _ => none
noncomputable def char_Part_r (r : Bool) : Res := ⟨.one (.d (.bool r)), []⟩
theorem char_Part_dr {R : Res} {r : Bool} (h : char_Part_d R = some r) : R = char_Part_r r := by
  unfold char_Part_d at h
  split at h
  · cases h; rfl
  · cases h
noncomputable def char_Part_o (L : Lv) {Ω : Type} (f : FuncId) (l : List Arg) (K : Res → Option Ω) (next : Option Ω) : Option Ω := rowO 104 char_Part_a (fun a => L.char_Part a) char_Part_r f l K next
noncomputable def orielref12_Right_a : List Arg → Option (Int × LL × LL)
  | [.v (.agg [.c (.int .i64 x0_0), .c (.row 25 x0_1), .c (.row 66 x0_2)])] => some (x0_0, x0_1, x0_2)
  | _ => none
noncomputable def orielref12_Right_e (a : Int × LL × LL) : List Arg := [.v (.agg [.c (C.int .i64 a.1), .c (C.row 25 a.2.1), .c (C.row 66 a.2.2)])]
theorem orielref12_Right_ae {l : List Arg} {a : Int × LL × LL} (h : orielref12_Right_a l = some a) : l = orielref12_Right_e a := by
  unfold orielref12_Right_a at h
  split at h
  · cases h; rfl
  · cases h
noncomputable def orielref12_Right_d : Res → Option Bool
  | ⟨.one (.d (.bool y0)), []⟩ => some y0
  | _ => none
noncomputable def orielref12_Right_r (r : Bool) : Res := ⟨.one (.d (.bool r)), []⟩
theorem orielref12_Right_dr {R : Res} {r : Bool} (h : orielref12_Right_d R = some r) : R = orielref12_Right_r r := by
  unfold orielref12_Right_d at h
  split at h
  · cases h; rfl
  · cases h
noncomputable def orielref12_Right_o (L : Lv) {Ω : Type} (f : FuncId) (l : List Arg) (K : Res → Option Ω) (next : Option Ω) : Option Ω := rowO 9 orielref12_Right_a (fun a => L.orielref12_Right a.1 a.2.1 a.2.2) orielref12_Right_r f l K next
noncomputable def orielref12_Size_a : List Arg → Option (Int × LL × LL)
  | [.v (.agg [.c (.int .i64 x0_0), .c (.row 25 x0_1), .c (.row 66 x0_2)])] => some (x0_0, x0_1, x0_2)
  | _ => none
noncomputable def orielref12_Size_e (a : Int × LL × LL) : List Arg := [.v (.agg [.c (C.int .i64 a.1), .c (C.row 25 a.2.1), .c (C.row 66 a.2.2)])]
theorem orielref12_Size_ae {l : List Arg} {a : Int × LL × LL} (h : orielref12_Size_a l = some a) : l = orielref12_Size_e a := by
  unfold orielref12_Size_a at h
  split at h
  · cases h; rfl
  · cases h
noncomputable def orielref12_Size_d : Res → Option Int
  | ⟨.one (.d (.int .i64 y0)), []⟩ => some y0
  | _ => none
noncomputable def orielref12_Size_r (r : Int) : Res := ⟨.one (.d (.int .i64 r)), []⟩
theorem orielref12_Size_dr {R : Res} {r : Int} (h : orielref12_Size_d R = some r) : R = orielref12_Size_r r := by
  unfold orielref12_Size_d at h
  split at h
  · cases h; rfl
  · cases h
noncomputable def orielref12_Size_o (L : Lv) {Ω : Type} (f : FuncId) (l : List Arg) (K : Res → Option Ω) (next : Option Ω) : Option Ω := rowO 28 orielref12_Size_a (fun a => L.orielref12_Size a.1 a.2.1 a.2.2) orielref12_Size_r f l K next
noncomputable def orielref12_size_a : List Arg → Option (Int × LL × LL × Int)
  | [.v (.agg [.c (.int .i64 x0_0), .c (.row 25 x0_1), .c (.row 66 x0_2)]), .v (.one (.c (.int .i64 x1)))] => some (x0_0, x0_1, x0_2, x1)
  | _ => none
noncomputable def orielref12_size_e (a : Int × LL × LL × Int) : List Arg := [.v (.agg [.c (C.int .i64 a.1), .c (C.row 25 a.2.1), .c (C.row 66 a.2.2.1)]), .v (.one (.c (C.int .i64 a.2.2.2)))]
theorem orielref12_size_ae {l : List Arg} {a : Int × LL × LL × Int} (h : orielref12_size_a l = some a) : l = orielref12_size_e a := by
  unfold orielref12_size_a at h
  split at h
  · cases h; rfl
  · cases h
noncomputable def orielref12_size_d : Res → Option Int
  | ⟨.one (.d (.int .i64 y0)), []⟩ => some y0
  | _ => none
noncomputable def orielref12_size_r (r : Int) : Res := ⟨.one (.d (.int .i64 r)), []⟩
theorem orielref12_size_dr {R : Res} {r : Int} (h : orielref12_size_d R = some r) : R = orielref12_size_r r := by
  unfold orielref12_size_d at h
  split at h
  · cases h; rfl
  · cases h
noncomputable def orielref12_size_o (L : Lv) {Ω : Type} (f : FuncId) (l : List Arg) (K : Res → Option Ω) (next : Option Ω) : Option Ω := rowO 48 orielref12_size_a (fun a => L.orielref12_size a.1 a.2.1 a.2.2.1 a.2.2.2) orielref12_size_r f l K next
noncomputable def orielref12_sizeFilter_a : List Arg → Option (Int × ByteArray × ByteArray × ByteArray × LL × LL × Int)
  | [.v (.agg [.c (.int .i64 x0_0), .c (.str x0_1), .c (.str x0_2), .c (.str x0_3), .c (.row 66 x0_4), .c (.row 25 x0_5)]), .v (.one (.c (.int .i64 x1)))] => some (x0_0, x0_1, x0_2, x0_3, x0_4, x0_5, x1)
  | _ => none
noncomputable def orielref12_sizeFilter_e (a : Int × ByteArray × ByteArray × ByteArray × LL × LL × Int) : List Arg := [.v (.agg [.c (C.int .i64 a.1), .c (C.str a.2.1), .c (C.str a.2.2.1), .c (C.str a.2.2.2.1), .c (C.row 66 a.2.2.2.2.1), .c (C.row 25 a.2.2.2.2.2.1)]), .v (.one (.c (C.int .i64 a.2.2.2.2.2.2)))]
theorem orielref12_sizeFilter_ae {l : List Arg} {a : Int × ByteArray × ByteArray × ByteArray × LL × LL × Int} (h : orielref12_sizeFilter_a l = some a) : l = orielref12_sizeFilter_e a := by
  unfold orielref12_sizeFilter_a at h
  split at h
  · cases h; rfl
  · cases h
noncomputable def orielref12_sizeFilter_d : Res → Option Int
  | ⟨.one (.d (.int .i64 y0)), []⟩ => some y0
  | _ => none
noncomputable def orielref12_sizeFilter_r (r : Int) : Res := ⟨.one (.d (.int .i64 r)), []⟩
theorem orielref12_sizeFilter_dr {R : Res} {r : Int} (h : orielref12_sizeFilter_d R = some r) : R = orielref12_sizeFilter_r r := by
  unfold orielref12_sizeFilter_d at h
  split at h
  · cases h; rfl
  · cases h
noncomputable def orielref12_sizeFilter_o (L : Lv) {Ω : Type} (f : FuncId) (l : List Arg) (K : Res → Option Ω) (next : Option Ω) : Option Ω := rowO 64 orielref12_sizeFilter_a (fun a => L.orielref12_sizeFilter a.1 a.2.1 a.2.2.1 a.2.2.2.1 a.2.2.2.2.1 a.2.2.2.2.2.1 a.2.2.2.2.2.2) orielref12_sizeFilter_r f l K next
noncomputable def orielref12_path_a : List Arg → Option (Int × LL × LL × Int)
  | [.v (.agg [.c (.int .i64 x0_0), .c (.row 25 x0_1), .c (.row 66 x0_2)]), .v (.one (.c (.int .i64 x1)))] => some (x0_0, x0_1, x0_2, x1)
  | _ => none
noncomputable def orielref12_path_e (a : Int × LL × LL × Int) : List Arg := [.v (.agg [.c (C.int .i64 a.1), .c (C.row 25 a.2.1), .c (C.row 66 a.2.2.1)]), .v (.one (.c (C.int .i64 a.2.2.2)))]
theorem orielref12_path_ae {l : List Arg} {a : Int × LL × LL × Int} (h : orielref12_path_a l = some a) : l = orielref12_path_e a := by
  unfold orielref12_path_a at h
  split at h
  · cases h; rfl
  · cases h
noncomputable def orielref12_path_d : Res → Option Bool
  | ⟨.one (.d (.bool y0)), []⟩ => some y0
  | _ => none
noncomputable def orielref12_path_r (r : Bool) : Res := ⟨.one (.d (.bool r)), []⟩
theorem orielref12_path_dr {R : Res} {r : Bool} (h : orielref12_path_d R = some r) : R = orielref12_path_r r := by
  unfold orielref12_path_d at h
  split at h
  · cases h; rfl
  · cases h
noncomputable def orielref12_path_o (L : Lv) {Ω : Type} (f : FuncId) (l : List Arg) (K : Res → Option Ω) (next : Option Ω) : Option Ω := rowO 29 orielref12_path_a (fun a => L.orielref12_path a.1 a.2.1 a.2.2.1 a.2.2.2) orielref12_path_r f l K next
noncomputable def orielref12_filter_a : List Arg → Option (Int × ByteArray × ByteArray × ByteArray × LL × LL × Int)
  | [.v (.agg [.c (.int .i64 x0_0), .c (.str x0_1), .c (.str x0_2), .c (.str x0_3), .c (.row 66 x0_4), .c (.row 25 x0_5)]), .v (.one (.c (.int .i64 x1)))] => some (x0_0, x0_1, x0_2, x0_3, x0_4, x0_5, x1)
  | _ => none
noncomputable def orielref12_filter_e (a : Int × ByteArray × ByteArray × ByteArray × LL × LL × Int) : List Arg := [.v (.agg [.c (C.int .i64 a.1), .c (C.str a.2.1), .c (C.str a.2.2.1), .c (C.str a.2.2.2.1), .c (C.row 66 a.2.2.2.2.1), .c (C.row 25 a.2.2.2.2.2.1)]), .v (.one (.c (C.int .i64 a.2.2.2.2.2.2)))]
theorem orielref12_filter_ae {l : List Arg} {a : Int × ByteArray × ByteArray × ByteArray × LL × LL × Int} (h : orielref12_filter_a l = some a) : l = orielref12_filter_e a := by
  unfold orielref12_filter_a at h
  split at h
  · cases h; rfl
  · cases h
noncomputable def orielref12_filter_d : Res → Option Bool
  | ⟨.one (.d (.bool y0)), []⟩ => some y0
  | _ => none
noncomputable def orielref12_filter_r (r : Bool) : Res := ⟨.one (.d (.bool r)), []⟩
theorem orielref12_filter_dr {R : Res} {r : Bool} (h : orielref12_filter_d R = some r) : R = orielref12_filter_r r := by
  unfold orielref12_filter_d at h
  split at h
  · cases h; rfl
  · cases h
noncomputable def orielref12_filter_o (L : Lv) {Ω : Type} (f : FuncId) (l : List Arg) (K : Res → Option Ω) (next : Option Ω) : Option Ω := rowO 49 orielref12_filter_a (fun a => L.orielref12_filter a.1 a.2.1 a.2.2.1 a.2.2.2.1 a.2.2.2.2.1 a.2.2.2.2.2.1 a.2.2.2.2.2.2) orielref12_filter_r f l K next
noncomputable def orielref12_named_a : List Arg → Option (ByteArray × ByteArray)
  | [.v (.agg [.c (.str x0_0), .c (.str x0_1)])] => some (x0_0, x0_1)
  | _ => none
noncomputable def orielref12_named_e (a : ByteArray × ByteArray) : List Arg := [.v (.agg [.c (C.str a.1), .c (C.str a.2)])]
theorem orielref12_named_ae {l : List Arg} {a : ByteArray × ByteArray} (h : orielref12_named_a l = some a) : l = orielref12_named_e a := by
  unfold orielref12_named_a at h
  split at h
  · cases h; rfl
  · cases h
noncomputable def orielref12_named_d : Res → Option Bool
  | ⟨.one (.d (.bool y0)), []⟩ => some y0
  | _ => none
noncomputable def orielref12_named_r (r : Bool) : Res := ⟨.one (.d (.bool r)), []⟩
theorem orielref12_named_dr {R : Res} {r : Bool} (h : orielref12_named_d R = some r) : R = orielref12_named_r r := by
  unfold orielref12_named_d at h
  split at h
  · cases h; rfl
  · cases h
noncomputable def orielref12_named_o (L : Lv) {Ω : Type} (f : FuncId) (l : List Arg) (K : Res → Option Ω) (next : Option Ω) : Option Ω := rowO 65 orielref12_named_a (fun a => L.orielref12_named a.1 a.2) orielref12_named_r f l K next
noncomputable def orielref04_Right_a : List Arg → Option ByteArray
  | [.v (.one (.c (.str x0)))] => some x0
  | _ => none
noncomputable def orielref04_Right_e (a : ByteArray) : List Arg := [.v (.one (.c (C.str a)))]
theorem orielref04_Right_ae {l : List Arg} {a : ByteArray} (h : orielref04_Right_a l = some a) : l = orielref04_Right_e a := by
  unfold orielref04_Right_a at h
  split at h
  · cases h; rfl
  · cases h
noncomputable def orielref04_Right_d : Res → Option Bool
  | ⟨.one (.d (.bool y0)), []⟩ => some y0
  | _ => none
noncomputable def orielref04_Right_r (r : Bool) : Res := ⟨.one (.d (.bool r)), []⟩
theorem orielref04_Right_dr {R : Res} {r : Bool} (h : orielref04_Right_d R = some r) : R = orielref04_Right_r r := by
  unfold orielref04_Right_d at h
  split at h
  · cases h; rfl
  · cases h
noncomputable def orielref04_Right_o (L : Lv) {Ω : Type} (f : FuncId) (l : List Arg) (K : Res → Option Ω) (next : Option Ω) : Option Ω := rowO 50 orielref04_Right_a (fun a => L.orielref04_Right a) orielref04_Right_r f l K next
noncomputable def orielref03_Plain_a : List Arg → Option ByteArray
  | [.v (.one (.c (.str x0)))] => some x0
  | _ => none
noncomputable def orielref03_Plain_e (a : ByteArray) : List Arg := [.v (.one (.c (C.str a)))]
theorem orielref03_Plain_ae {l : List Arg} {a : ByteArray} (h : orielref03_Plain_a l = some a) : l = orielref03_Plain_e a := by
  unfold orielref03_Plain_a at h
  split at h
  · cases h; rfl
  · cases h
noncomputable def orielref03_Plain_d : Res → Option Bool
  | ⟨.one (.d (.bool y0)), []⟩ => some y0
  | _ => none
noncomputable def orielref03_Plain_r (r : Bool) : Res := ⟨.one (.d (.bool r)), []⟩
theorem orielref03_Plain_dr {R : Res} {r : Bool} (h : orielref03_Plain_d R = some r) : R = orielref03_Plain_r r := by
  unfold orielref03_Plain_d at h
  split at h
  · cases h; rfl
  · cases h
noncomputable def orielref03_Plain_o (L : Lv) {Ω : Type} (f : FuncId) (l : List Arg) (K : Res → Option Ω) (next : Option Ω) : Option Ω := rowO 68 orielref03_Plain_a (fun a => L.orielref03_Plain a) orielref03_Plain_r f l K next
noncomputable def orielref01_All_a : List Arg → Option ByteArray
  | [.v (.one (.c (.str x0)))] => some x0
  | _ => none
noncomputable def orielref01_All_e (a : ByteArray) : List Arg := [.v (.one (.c (C.str a)))]
theorem orielref01_All_ae {l : List Arg} {a : ByteArray} (h : orielref01_All_a l = some a) : l = orielref01_All_e a := by
  unfold orielref01_All_a at h
  split at h
  · cases h; rfl
  · cases h
noncomputable def orielref01_All_d : Res → Option (LL × Int × Int)
  | ⟨.tup [.one (.own 21 y0), .one (.d (.int .i64 y1)), .one (.d (.int .i64 y2))], []⟩ => some (y0, y1, y2)
  | _ => none
noncomputable def orielref01_All_r (r : LL × Int × Int) : Res := ⟨.tup [.one (.own 21 r.1), .one (.d (.int .i64 r.2.1)), .one (.d (.int .i64 r.2.2))], []⟩
theorem orielref01_All_dr {R : Res} {r : LL × Int × Int} (h : orielref01_All_d R = some r) : R = orielref01_All_r r := by
  unfold orielref01_All_d at h
  split at h
  · cases h; rfl
  · cases h
noncomputable def orielref01_All_o (L : Lv) {Ω : Type} (f : FuncId) (l : List Arg) (K : Res → Option Ω) (next : Option Ω) : Option Ω := rowO 66 orielref01_All_a (fun a => L.orielref01_All a) orielref01_All_r f l K next
noncomputable def orielref02_Start_a : List Arg → Option Int
  | [.v (.one (.c (.int .i64 x0)))] => some x0
  | _ => none
noncomputable def orielref02_Start_e (a : Int) : List Arg := [.v (.one (.c (C.int .i64 a)))]
theorem orielref02_Start_ae {l : List Arg} {a : Int} (h : orielref02_Start_a l = some a) : l = orielref02_Start_e a := by
  unfold orielref02_Start_a at h
  split at h
  · cases h; rfl
  · cases h
noncomputable def orielref02_Start_d : Res → Option Bool
  | ⟨.one (.d (.bool y0)), []⟩ => some y0
  | _ => none
noncomputable def orielref02_Start_r (r : Bool) : Res := ⟨.one (.d (.bool r)), []⟩
theorem orielref02_Start_dr {R : Res} {r : Bool} (h : orielref02_Start_d R = some r) : R = orielref02_Start_r r := by
  unfold orielref02_Start_d at h
  split at h
  · cases h; rfl
  · cases h
noncomputable def orielref02_Start_o (L : Lv) {Ω : Type} (f : FuncId) (l : List Arg) (K : Res → Option Ω) (next : Option Ω) : Option Ω := rowO 85 orielref02_Start_a (fun a => L.orielref02_Start a) orielref02_Start_r f l K next
noncomputable def orielref01_Rune_a : List Arg → Option (ByteArray × Int)
  | [.v (.one (.c (.str x0))), .v (.one (.c (.int .i64 x1)))] => some (x0, x1)
  | _ => none
noncomputable def orielref01_Rune_e (a : ByteArray × Int) : List Arg := [.v (.one (.c (C.str a.1))), .v (.one (.c (C.int .i64 a.2)))]
theorem orielref01_Rune_ae {l : List Arg} {a : ByteArray × Int} (h : orielref01_Rune_a l = some a) : l = orielref01_Rune_e a := by
  unfold orielref01_Rune_a at h
  split at h
  · cases h; rfl
  · cases h
noncomputable def orielref01_Rune_d : Res → Option (Int × Int × Int)
  | ⟨.tup [.one (.d (.int .i64 y0)), .one (.d (.int .i64 y1)), .one (.d (.int .i64 y2))], []⟩ => some (y0, y1, y2)
  | _ => none
noncomputable def orielref01_Rune_r (r : Int × Int × Int) : Res := ⟨.tup [.one (.d (.int .i64 r.1)), .one (.d (.int .i64 r.2.1)), .one (.d (.int .i64 r.2.2))], []⟩
theorem orielref01_Rune_dr {R : Res} {r : Int × Int × Int} (h : orielref01_Rune_d R = some r) : R = orielref01_Rune_r r := by
  unfold orielref01_Rune_d at h
  split at h
  · cases h; rfl
  · cases h
noncomputable def orielref01_Rune_o (L : Lv) {Ω : Type} (f : FuncId) (l : List Arg) (K : Res → Option Ω) (next : Option Ω) : Option Ω := rowO 83 orielref01_Rune_a (fun a => L.orielref01_Rune a.1 a.2) orielref01_Rune_r f l K next
noncomputable def orielref01_Put_a : List Arg → Option Int
  | [.v (.one (.c (.int .i64 x0)))] => some x0
  | _ => none
noncomputable def orielref01_Put_e (a : Int) : List Arg := [.v (.one (.c (C.int .i64 a)))]
theorem orielref01_Put_ae {l : List Arg} {a : Int} (h : orielref01_Put_a l = some a) : l = orielref01_Put_e a := by
  unfold orielref01_Put_a at h
  split at h
  · cases h; rfl
  · cases h
noncomputable def orielref01_Put_d : Res → Option LL
  | ⟨.one (.own 5 y0), []⟩ => some y0
  | _ => none
noncomputable def orielref01_Put_r (r : LL) : Res := ⟨.one (.own 5 r), []⟩
theorem orielref01_Put_dr {R : Res} {r : LL} (h : orielref01_Put_d R = some r) : R = orielref01_Put_r r := by
  unfold orielref01_Put_d at h
  split at h
  · cases h; rfl
  · cases h
noncomputable def orielref01_Put_o (L : Lv) {Ω : Type} (f : FuncId) (l : List Arg) (K : Res → Option Ω) (next : Option Ω) : Option Ω := rowO 94 orielref01_Put_a (fun a => L.orielref01_Put a) orielref01_Put_r f l K next
noncomputable def orielref01_cut_a : List Arg → Option (ByteArray × Int)
  | [.v (.one (.c (.str x0))), .v (.one (.c (.int .i64 x1)))] => some (x0, x1)
  | _ => none
noncomputable def orielref01_cut_e (a : ByteArray × Int) : List Arg := [.v (.one (.c (C.str a.1))), .v (.one (.c (C.int .i64 a.2)))]
theorem orielref01_cut_ae {l : List Arg} {a : ByteArray × Int} (h : orielref01_cut_a l = some a) : l = orielref01_cut_e a := by
  unfold orielref01_cut_a at h
  split at h
  · cases h; rfl
  · cases h
noncomputable def orielref01_cut_d : Res → Option Bool
  | ⟨.one (.d (.bool y0)), []⟩ => some y0
  | _ => none
noncomputable def orielref01_cut_r (r : Bool) : Res := ⟨.one (.d (.bool r)), []⟩
theorem orielref01_cut_dr {R : Res} {r : Bool} (h : orielref01_cut_d R = some r) : R = orielref01_cut_r r := by
  unfold orielref01_cut_d at h
  split at h
  · cases h; rfl
  · cases h
noncomputable def orielref01_cut_o (L : Lv) {Ω : Type} (f : FuncId) (l : List Arg) (K : Res → Option Ω) (next : Option Ω) : Option Ω := rowO 96 orielref01_cut_a (fun a => L.orielref01_cut a.1 a.2) orielref01_cut_r f l K next
noncomputable def orielref01_value_a : List Arg → Option (ByteArray × Int × Int)
  | [.v (.one (.c (.str x0))), .v (.one (.c (.int .i64 x1))), .v (.one (.c (.int .i64 x2)))] => some (x0, x1, x2)
  | _ => none
noncomputable def orielref01_value_e (a : ByteArray × Int × Int) : List Arg := [.v (.one (.c (C.str a.1))), .v (.one (.c (C.int .i64 a.2.1))), .v (.one (.c (C.int .i64 a.2.2)))]
theorem orielref01_value_ae {l : List Arg} {a : ByteArray × Int × Int} (h : orielref01_value_a l = some a) : l = orielref01_value_e a := by
  unfold orielref01_value_a at h
  split at h
  · cases h; rfl
  · cases h
noncomputable def orielref01_value_d : Res → Option Int
  | ⟨.one (.d (.int .i64 y0)), []⟩ => some y0
  | _ => none
noncomputable def orielref01_value_r (r : Int) : Res := ⟨.one (.d (.int .i64 r)), []⟩
theorem orielref01_value_dr {R : Res} {r : Int} (h : orielref01_value_d R = some r) : R = orielref01_value_r r := by
  unfold orielref01_value_d at h
  split at h
  · cases h; rfl
  · cases h
noncomputable def orielref01_value_o (L : Lv) {Ω : Type} (f : FuncId) (l : List Arg) (K : Res → Option Ω) (next : Option Ω) : Option Ω := rowO 93 orielref01_value_a (fun a => L.orielref01_value a.1 a.2.1 a.2.2) orielref01_value_r f l K next
noncomputable def oriellaw20_node_a : List Arg → Option (Int × ByteArray × ByteArray × LL × ByteArray)
  | [.v (.agg [.c (.int .i64 x0_0), .c (.str x0_1), .c (.str x0_2), .c (.row 86 x0_3), .c (.str x0_4)])] => some (x0_0, x0_1, x0_2, x0_3, x0_4)
  | _ => none
noncomputable def oriellaw20_node_e (a : Int × ByteArray × ByteArray × LL × ByteArray) : List Arg := [.v (.agg [.c (C.int .i64 a.1), .c (C.str a.2.1), .c (C.str a.2.2.1), .c (C.row 86 a.2.2.2.1), .c (C.str a.2.2.2.2)])]
theorem oriellaw20_node_ae {l : List Arg} {a : Int × ByteArray × ByteArray × LL × ByteArray} (h : oriellaw20_node_a l = some a) : l = oriellaw20_node_e a := by
  unfold oriellaw20_node_a at h
  split at h
  · cases h; rfl
  · cases h
noncomputable def oriellaw20_node_d : Res → Option Bool
  | ⟨.one (.d (.bool y0)), []⟩ => some y0
  | _ => none
noncomputable def oriellaw20_node_r (r : Bool) : Res := ⟨.one (.d (.bool r)), []⟩
theorem oriellaw20_node_dr {R : Res} {r : Bool} (h : oriellaw20_node_d R = some r) : R = oriellaw20_node_r r := by
  unfold oriellaw20_node_d at h
  split at h
  · cases h; rfl
  · cases h
noncomputable def oriellaw20_node_o (L : Lv) {Ω : Type} (f : FuncId) (l : List Arg) (K : Res → Option Ω) (next : Option Ω) : Option Ω := rowO 10 oriellaw20_node_a (fun a => L.oriellaw20_node a.1 a.2.1 a.2.2.1 a.2.2.2.1 a.2.2.2.2) oriellaw20_node_r f l K next
noncomputable def orielref02_Char_a : List Arg → Option Int
  | [.v (.one (.c (.int .i64 x0)))] => some x0
  | _ => none
noncomputable def orielref02_Char_e (a : Int) : List Arg := [.v (.one (.c (C.int .i64 a)))]
theorem orielref02_Char_ae {l : List Arg} {a : Int} (h : orielref02_Char_a l = some a) : l = orielref02_Char_e a := by
  unfold orielref02_Char_a at h
  split at h
  · cases h; rfl
  · cases h
noncomputable def orielref02_Char_d : Res → Option Bool
  | ⟨.one (.d (.bool y0)), []⟩ => some y0
  | _ => none
noncomputable def orielref02_Char_r (r : Bool) : Res := ⟨.one (.d (.bool r)), []⟩
theorem orielref02_Char_dr {R : Res} {r : Bool} (h : orielref02_Char_d R = some r) : R = orielref02_Char_r r := by
  unfold orielref02_Char_d at h
  split at h
  · cases h; rfl
  · cases h
noncomputable def orielref02_Char_o (L : Lv) {Ω : Type} (f : FuncId) (l : List Arg) (K : Res → Option Ω) (next : Option Ω) : Option Ω := rowO 67 orielref02_Char_a (fun a => L.orielref02_Char a) orielref02_Char_r f l K next
noncomputable def orielref02_Part_a : List Arg → Option Int
  | [.v (.one (.c (.int .i64 x0)))] => some x0
  | _ => none
noncomputable def orielref02_Part_e (a : Int) : List Arg := [.v (.one (.c (C.int .i64 a)))]
theorem orielref02_Part_ae {l : List Arg} {a : Int} (h : orielref02_Part_a l = some a) : l = orielref02_Part_e a := by
  unfold orielref02_Part_a at h
  split at h
  · cases h; rfl
  · cases h
noncomputable def orielref02_Part_d : Res → Option Bool
  | ⟨.one (.d (.bool y0)), []⟩ => some y0
  | _ => none
noncomputable def orielref02_Part_r (r : Bool) : Res := ⟨.one (.d (.bool r)), []⟩
theorem orielref02_Part_dr {R : Res} {r : Bool} (h : orielref02_Part_d R = some r) : R = orielref02_Part_r r := by
  unfold orielref02_Part_d at h
  split at h
  · cases h; rfl
  · cases h
noncomputable def orielref02_Part_o (L : Lv) {Ω : Type} (f : FuncId) (l : List Arg) (K : Res → Option Ω) (next : Option Ω) : Option Ω := rowO 86 orielref02_Part_a (fun a => L.orielref02_Part a) orielref02_Part_r f l K next
noncomputable def orielref01_begins_a : List Arg → Option (ByteArray × Int × LL)
  | [.v (.one (.c (.str x0))), .v (.one (.c (.int .i64 x1))), .v (.one (.c (.row 5 x2)))] => some (x0, x1, x2)
  | _ => none
noncomputable def orielref01_begins_e (a : ByteArray × Int × LL) : List Arg := [.v (.one (.c (C.str a.1))), .v (.one (.c (C.int .i64 a.2.1))), .v (.one (.c (C.row 5 a.2.2)))]
theorem orielref01_begins_ae {l : List Arg} {a : ByteArray × Int × LL} (h : orielref01_begins_a l = some a) : l = orielref01_begins_e a := by
  unfold orielref01_begins_a at h
  split at h
  · cases h; rfl
  · cases h
noncomputable def orielref01_begins_d : Res → Option Bool
  | ⟨.one (.d (.bool y0)), []⟩ => some y0
  | _ => none
noncomputable def orielref01_begins_r (r : Bool) : Res := ⟨.one (.d (.bool r)), []⟩
theorem orielref01_begins_dr {R : Res} {r : Bool} (h : orielref01_begins_d R = some r) : R = orielref01_begins_r r := by
  unfold orielref01_begins_d at h
  split at h
  · cases h; rfl
  · cases h
noncomputable def orielref01_begins_o (L : Lv) {Ω : Type} (f : FuncId) (l : List Arg) (K : Res → Option Ω) (next : Option Ω) : Option Ω := rowO 95 orielref01_begins_a (fun a => L.orielref01_begins a.1 a.2.1 a.2.2) orielref01_begins_r f l K next
noncomputable def orielref09_Right_a : List Arg → Option (Int × ByteArray × ByteArray × LL × ByteArray)
  | [.v (.agg [.c (.int .i64 x0_0), .c (.str x0_1), .c (.str x0_2), .c (.row 86 x0_3), .c (.str x0_4)])] => some (x0_0, x0_1, x0_2, x0_3, x0_4)
  | _ => none
noncomputable def orielref09_Right_e (a : Int × ByteArray × ByteArray × LL × ByteArray) : List Arg := [.v (.agg [.c (C.int .i64 a.1), .c (C.str a.2.1), .c (C.str a.2.2.1), .c (C.row 86 a.2.2.2.1), .c (C.str a.2.2.2.2)])]
theorem orielref09_Right_ae {l : List Arg} {a : Int × ByteArray × ByteArray × LL × ByteArray} (h : orielref09_Right_a l = some a) : l = orielref09_Right_e a := by
  unfold orielref09_Right_a at h
  split at h
  · cases h; rfl
  · cases h
noncomputable def orielref09_Right_d : Res → Option Bool
  | ⟨.one (.d (.bool y0)), []⟩ => some y0
  | _ => none
noncomputable def orielref09_Right_r (r : Bool) : Res := ⟨.one (.d (.bool r)), []⟩
theorem orielref09_Right_dr {R : Res} {r : Bool} (h : orielref09_Right_d R = some r) : R = orielref09_Right_r r := by
  unfold orielref09_Right_d at h
  split at h
  · cases h; rfl
  · cases h
noncomputable def orielref09_Right_o (L : Lv) {Ω : Type} (f : FuncId) (l : List Arg) (K : Res → Option Ω) (next : Option Ω) : Option Ω := rowO 30 orielref09_Right_a (fun a => L.orielref09_Right a.1 a.2.1 a.2.2.1 a.2.2.2.1 a.2.2.2.2) orielref09_Right_r f l K next
noncomputable def orielref02_Blank_a : List Arg → Option Int
  | [.v (.one (.c (.int .i64 x0)))] => some x0
  | _ => none
noncomputable def orielref02_Blank_e (a : Int) : List Arg := [.v (.one (.c (C.int .i64 a)))]
theorem orielref02_Blank_ae {l : List Arg} {a : Int} (h : orielref02_Blank_a l = some a) : l = orielref02_Blank_e a := by
  unfold orielref02_Blank_a at h
  split at h
  · cases h; rfl
  · cases h
noncomputable def orielref02_Blank_d : Res → Option Bool
  | ⟨.one (.d (.bool y0)), []⟩ => some y0
  | _ => none
noncomputable def orielref02_Blank_r (r : Bool) : Res := ⟨.one (.d (.bool r)), []⟩
theorem orielref02_Blank_dr {R : Res} {r : Bool} (h : orielref02_Blank_d R = some r) : R = orielref02_Blank_r r := by
  unfold orielref02_Blank_d at h
  split at h
  · cases h; rfl
  · cases h
noncomputable def orielref02_Blank_o (L : Lv) {Ω : Type} (f : FuncId) (l : List Arg) (K : Res → Option Ω) (next : Option Ω) : Option Ω := rowO 84 orielref02_Blank_a (fun a => L.orielref02_Blank a) orielref02_Blank_r f l K next
noncomputable def orielref09_named_a : List Arg → Option (ByteArray × ByteArray)
  | [.v (.agg [.c (.str x0_0), .c (.str x0_1)])] => some (x0_0, x0_1)
  | _ => none
noncomputable def orielref09_named_e (a : ByteArray × ByteArray) : List Arg := [.v (.agg [.c (C.str a.1), .c (C.str a.2)])]
theorem orielref09_named_ae {l : List Arg} {a : ByteArray × ByteArray} (h : orielref09_named_a l = some a) : l = orielref09_named_e a := by
  unfold orielref09_named_a at h
  split at h
  · cases h; rfl
  · cases h
noncomputable def orielref09_named_d : Res → Option Bool
  | ⟨.one (.d (.bool y0)), []⟩ => some y0
  | _ => none
noncomputable def orielref09_named_r (r : Bool) : Res := ⟨.one (.d (.bool r)), []⟩
theorem orielref09_named_dr {R : Res} {r : Bool} (h : orielref09_named_d R = some r) : R = orielref09_named_r r := by
  unfold orielref09_named_d at h
  split at h
  · cases h; rfl
  · cases h
noncomputable def orielref09_named_o (L : Lv) {Ω : Type} (f : FuncId) (l : List Arg) (K : Res → Option Ω) (next : Option Ω) : Option Ω := rowO 51 orielref09_named_a (fun a => L.orielref09_named a.1 a.2) orielref09_named_r f l K next
noncomputable def orielref05_Find_a : List Arg → Option (ByteArray × Int × ByteArray)
  | [.v (.one (.c (.str x0))), .v (.one (.c (.int .i64 x1))), .v (.one (.c (.str x2)))] => some (x0, x1, x2)
  | _ => none
noncomputable def orielref05_Find_e (a : ByteArray × Int × ByteArray) : List Arg := [.v (.one (.c (C.str a.1))), .v (.one (.c (C.int .i64 a.2.1))), .v (.one (.c (C.str a.2.2)))]
theorem orielref05_Find_ae {l : List Arg} {a : ByteArray × Int × ByteArray} (h : orielref05_Find_a l = some a) : l = orielref05_Find_e a := by
  unfold orielref05_Find_a at h
  split at h
  · cases h; rfl
  · cases h
noncomputable def orielref05_Find_d : Res → Option Int
  | ⟨.one (.d (.int .i64 y0)), []⟩ => some y0
  | _ => none
noncomputable def orielref05_Find_r (r : Int) : Res := ⟨.one (.d (.int .i64 r)), []⟩
theorem orielref05_Find_dr {R : Res} {r : Int} (h : orielref05_Find_d R = some r) : R = orielref05_Find_r r := by
  unfold orielref05_Find_d at h
  split at h
  · cases h; rfl
  · cases h
noncomputable def orielref05_Find_o (L : Lv) {Ω : Type} (f : FuncId) (l : List Arg) (K : Res → Option Ω) (next : Option Ω) : Option Ω := rowO 82 orielref05_Find_a (fun a => L.orielref05_Find a.1 a.2.1 a.2.2) orielref05_Find_r f l K next
noncomputable def orielref09_Few_a : List Arg → Option LL
  | [.v (.one (.c (.row 30 x0)))] => some x0
  | _ => none
noncomputable def orielref09_Few_e (a : LL) : List Arg := [.v (.one (.c (C.row 30 a)))]
theorem orielref09_Few_ae {l : List Arg} {a : LL} (h : orielref09_Few_a l = some a) : l = orielref09_Few_e a := by
  unfold orielref09_Few_a at h
  split at h
  · cases h; rfl
  · cases h
noncomputable def orielref09_Few_d : Res → Option Bool
  | ⟨.one (.d (.bool y0)), []⟩ => some y0
  | _ => none
noncomputable def orielref09_Few_r (r : Bool) : Res := ⟨.one (.d (.bool r)), []⟩
theorem orielref09_Few_dr {R : Res} {r : Bool} (h : orielref09_Few_d R = some r) : R = orielref09_Few_r r := by
  unfold orielref09_Few_d at h
  split at h
  · cases h; rfl
  · cases h
noncomputable def orielref09_Few_o (L : Lv) {Ω : Type} (f : FuncId) (l : List Arg) (K : Res → Option Ω) (next : Option Ω) : Option Ω := rowO 15 orielref09_Few_a (fun a => L.orielref09_Few a) orielref09_Few_r f l K next
noncomputable def orielref19_Like_a : List Arg → Option (Int × LL × LL × Int × ByteArray × ByteArray × LL × ByteArray × Int × ByteArray × ByteArray × LL × ByteArray)
  | [.v (.agg [.c (.int .i64 x0_0), .c (.row 25 x0_1), .c (.row 66 x0_2)]), .v (.agg [.c (.int .i64 x1_0), .c (.str x1_1), .c (.str x1_2), .c (.row 86 x1_3), .c (.str x1_4)]), .v (.agg [.c (.int .i64 x2_0), .c (.str x2_1), .c (.str x2_2), .c (.row 86 x2_3), .c (.str x2_4)])] => some (x0_0, x0_1, x0_2, x1_0, x1_1, x1_2, x1_3, x1_4, x2_0, x2_1, x2_2, x2_3, x2_4)
  | _ => none
noncomputable def orielref19_Like_e (a : Int × LL × LL × Int × ByteArray × ByteArray × LL × ByteArray × Int × ByteArray × ByteArray × LL × ByteArray) : List Arg := [.v (.agg [.c (C.int .i64 a.1), .c (C.row 25 a.2.1), .c (C.row 66 a.2.2.1)]), .v (.agg [.c (C.int .i64 a.2.2.2.1), .c (C.str a.2.2.2.2.1), .c (C.str a.2.2.2.2.2.1), .c (C.row 86 a.2.2.2.2.2.2.1), .c (C.str a.2.2.2.2.2.2.2.1)]), .v (.agg [.c (C.int .i64 a.2.2.2.2.2.2.2.2.1), .c (C.str a.2.2.2.2.2.2.2.2.2.1), .c (C.str a.2.2.2.2.2.2.2.2.2.2.1), .c (C.row 86 a.2.2.2.2.2.2.2.2.2.2.2.1), .c (C.str a.2.2.2.2.2.2.2.2.2.2.2.2)])]
theorem orielref19_Like_ae {l : List Arg} {a : Int × LL × LL × Int × ByteArray × ByteArray × LL × ByteArray × Int × ByteArray × ByteArray × LL × ByteArray} (h : orielref19_Like_a l = some a) : l = orielref19_Like_e a := by
  unfold orielref19_Like_a at h
  split at h
  · cases h; rfl
  · cases h
noncomputable def orielref19_Like_d : Res → Option Bool
  | ⟨.one (.d (.bool y0)), []⟩ => some y0
  | _ => none
noncomputable def orielref19_Like_r (r : Bool) : Res := ⟨.one (.d (.bool r)), []⟩
theorem orielref19_Like_dr {R : Res} {r : Bool} (h : orielref19_Like_d R = some r) : R = orielref19_Like_r r := by
  unfold orielref19_Like_d at h
  split at h
  · cases h; rfl
  · cases h
noncomputable def orielref19_Like_o (L : Lv) {Ω : Type} (f : FuncId) (l : List Arg) (K : Res → Option Ω) (next : Option Ω) : Option Ω := rowO 27 orielref19_Like_a (fun a => L.orielref19_Like a.1 a.2.1 a.2.2.1 a.2.2.2.1 a.2.2.2.2.1 a.2.2.2.2.2.1 a.2.2.2.2.2.2.1 a.2.2.2.2.2.2.2.1 a.2.2.2.2.2.2.2.2.1 a.2.2.2.2.2.2.2.2.2.1 a.2.2.2.2.2.2.2.2.2.2.1 a.2.2.2.2.2.2.2.2.2.2.2.1 a.2.2.2.2.2.2.2.2.2.2.2.2) orielref19_Like_r f l K next
noncomputable def orielref19_Make_a : List Arg → Option (Int × LL × LL)
  | [.v (.agg [.c (.int .i64 x0_0), .c (.row 25 x0_1), .c (.row 66 x0_2)])] => some (x0_0, x0_1, x0_2)
  | _ => none
noncomputable def orielref19_Make_e (a : Int × LL × LL) : List Arg := [.v (.agg [.c (C.int .i64 a.1), .c (C.row 25 a.2.1), .c (C.row 66 a.2.2)])]
theorem orielref19_Make_ae {l : List Arg} {a : Int × LL × LL} (h : orielref19_Make_a l = some a) : l = orielref19_Make_e a := by
  unfold orielref19_Make_a at h
  split at h
  · cases h; rfl
  · cases h
noncomputable def orielref19_Make_d : Res → Option (LL × LL × LL × LL)
  | ⟨.agg [.own 27 y0, .own 27 y1, .own 95 y2, .own 9 y3], []⟩ => some (y0, y1, y2, y3)
  | _ => none
noncomputable def orielref19_Make_r (r : LL × LL × LL × LL) : Res := ⟨.agg [.own 27 r.1, .own 27 r.2.1, .own 95 r.2.2.1, .own 9 r.2.2.2], []⟩
theorem orielref19_Make_dr {R : Res} {r : LL × LL × LL × LL} (h : orielref19_Make_d R = some r) : R = orielref19_Make_r r := by
  unfold orielref19_Make_d at h
  split at h
  · cases h; rfl
  · cases h
noncomputable def orielref19_Make_o (L : Lv) {Ω : Type} (f : FuncId) (l : List Arg) (K : Res → Option Ω) (next : Option Ω) : Option Ω := rowO 46 orielref19_Make_a (fun a => L.orielref19_Make a.1 a.2.1 a.2.2) orielref19_Make_r f l K next
noncomputable def orielref12_Filters_a : List Arg → Option (Int × LL × LL)
  | [.v (.agg [.c (.int .i64 x0_0), .c (.row 25 x0_1), .c (.row 66 x0_2)])] => some (x0_0, x0_1, x0_2)
  | _ => none
noncomputable def orielref12_Filters_e (a : Int × LL × LL) : List Arg := [.v (.agg [.c (C.int .i64 a.1), .c (C.row 25 a.2.1), .c (C.row 66 a.2.2)])]
theorem orielref12_Filters_ae {l : List Arg} {a : Int × LL × LL} (h : orielref12_Filters_a l = some a) : l = orielref12_Filters_e a := by
  unfold orielref12_Filters_a at h
  split at h
  · cases h; rfl
  · cases h
noncomputable def orielref12_Filters_d : Res → Option LL
  | ⟨.one (.own 66 y0), []⟩ => some y0
  | _ => none
noncomputable def orielref12_Filters_r (r : LL) : Res := ⟨.one (.own 66 r), []⟩
theorem orielref12_Filters_dr {R : Res} {r : LL} (h : orielref12_Filters_d R = some r) : R = orielref12_Filters_r r := by
  unfold orielref12_Filters_d at h
  split at h
  · cases h; rfl
  · cases h
noncomputable def orielref12_Filters_o (L : Lv) {Ω : Type} (f : FuncId) (l : List Arg) (K : Res → Option Ω) (next : Option Ω) : Option Ω := rowO 61 orielref12_Filters_a (fun a => L.orielref12_Filters a.1 a.2.1 a.2.2) orielref12_Filters_r f l K next
noncomputable def orielref12_within_a : List Arg → Option (Int × ByteArray × ByteArray × ByteArray × LL × LL)
  | [.v (.agg [.c (.int .i64 x0_0), .c (.str x0_1), .c (.str x0_2), .c (.str x0_3), .c (.row 66 x0_4), .c (.row 25 x0_5)])] => some (x0_0, x0_1, x0_2, x0_3, x0_4, x0_5)
  | _ => none
noncomputable def orielref12_within_e (a : Int × ByteArray × ByteArray × ByteArray × LL × LL) : List Arg := [.v (.agg [.c (C.int .i64 a.1), .c (C.str a.2.1), .c (C.str a.2.2.1), .c (C.str a.2.2.2.1), .c (C.row 66 a.2.2.2.2.1), .c (C.row 25 a.2.2.2.2.2)])]
theorem orielref12_within_ae {l : List Arg} {a : Int × ByteArray × ByteArray × ByteArray × LL × LL} (h : orielref12_within_a l = some a) : l = orielref12_within_e a := by
  unfold orielref12_within_a at h
  split at h
  · cases h; rfl
  · cases h
noncomputable def orielref12_within_d : Res → Option LL
  | ⟨.one (.own 66 y0), []⟩ => some y0
  | _ => none
noncomputable def orielref12_within_r (r : LL) : Res := ⟨.one (.own 66 r), []⟩
theorem orielref12_within_dr {R : Res} {r : LL} (h : orielref12_within_d R = some r) : R = orielref12_within_r r := by
  unfold orielref12_within_d at h
  split at h
  · cases h; rfl
  · cases h
noncomputable def orielref12_within_o (L : Lv) {Ω : Type} (f : FuncId) (l : List Arg) (K : Res → Option Ω) (next : Option Ω) : Option Ω := rowO 79 orielref12_within_a (fun a => L.orielref12_within a.1 a.2.1 a.2.2.1 a.2.2.2.1 a.2.2.2.2.1 a.2.2.2.2.2) orielref12_within_r f l K next
noncomputable def orielref12_Names_a : List Arg → Option (LL × Int × Int)
  | [.v (.one (.c (.row 66 x0))), .v (.one (.c (.int .i64 x1))), .v (.one (.c (.int .i64 x2)))] => some (x0, x1, x2)
  | _ => none
noncomputable def orielref12_Names_e (a : LL × Int × Int) : List Arg := [.v (.one (.c (C.row 66 a.1))), .v (.one (.c (C.int .i64 a.2.1))), .v (.one (.c (C.int .i64 a.2.2)))]
theorem orielref12_Names_ae {l : List Arg} {a : LL × Int × Int} (h : orielref12_Names_a l = some a) : l = orielref12_Names_e a := by
  unfold orielref12_Names_a at h
  split at h
  · cases h; rfl
  · cases h
noncomputable def orielref12_Names_d : Res → Option LL
  | ⟨.one (.own 27 y0), []⟩ => some y0
  | _ => none
noncomputable def orielref12_Names_r (r : LL) : Res := ⟨.one (.own 27 r), []⟩
theorem orielref12_Names_dr {R : Res} {r : LL} (h : orielref12_Names_d R = some r) : R = orielref12_Names_r r := by
  unfold orielref12_Names_d at h
  split at h
  · cases h; rfl
  · cases h
noncomputable def orielref12_Names_o (L : Lv) {Ω : Type} (f : FuncId) (l : List Arg) (K : Res → Option Ω) (next : Option Ω) : Option Ω := rowO 62 orielref12_Names_a (fun a => L.orielref12_Names a.1 a.2.1 a.2.2) orielref12_Names_r f l K next
noncomputable def orielref12_hasName_a : List Arg → Option (LL × ByteArray × ByteArray)
  | [.v (.one (.c (.row 27 x0))), .v (.agg [.c (.str x1_0), .c (.str x1_1)])] => some (x0, x1_0, x1_1)
  | _ => none
noncomputable def orielref12_hasName_e (a : LL × ByteArray × ByteArray) : List Arg := [.v (.one (.c (C.row 27 a.1))), .v (.agg [.c (C.str a.2.1), .c (C.str a.2.2)])]
theorem orielref12_hasName_ae {l : List Arg} {a : LL × ByteArray × ByteArray} (h : orielref12_hasName_a l = some a) : l = orielref12_hasName_e a := by
  unfold orielref12_hasName_a at h
  split at h
  · cases h; rfl
  · cases h
noncomputable def orielref12_hasName_d : Res → Option Bool
  | ⟨.one (.d (.bool y0)), []⟩ => some y0
  | _ => none
noncomputable def orielref12_hasName_r (r : Bool) : Res := ⟨.one (.d (.bool r)), []⟩
theorem orielref12_hasName_dr {R : Res} {r : Bool} (h : orielref12_hasName_d R = some r) : R = orielref12_hasName_r r := by
  unfold orielref12_hasName_d at h
  split at h
  · cases h; rfl
  · cases h
noncomputable def orielref12_hasName_o (L : Lv) {Ω : Type} (f : FuncId) (l : List Arg) (K : Res → Option Ω) (next : Option Ω) : Option Ω := rowO 80 orielref12_hasName_a (fun a => L.orielref12_hasName a.1 a.2.1 a.2.2) orielref12_hasName_r f l K next
noncomputable def orielref12_Values_a : List Arg → Option (LL × Int × ByteArray × ByteArray)
  | [.v (.one (.c (.row 66 x0))), .v (.one (.c (.int .i64 x1))), .v (.agg [.c (.str x2_0), .c (.str x2_1)])] => some (x0, x1, x2_0, x2_1)
  | _ => none
noncomputable def orielref12_Values_e (a : LL × Int × ByteArray × ByteArray) : List Arg := [.v (.one (.c (C.row 66 a.1))), .v (.one (.c (C.int .i64 a.2.1))), .v (.agg [.c (C.str a.2.2.1), .c (C.str a.2.2.2)])]
theorem orielref12_Values_ae {l : List Arg} {a : LL × Int × ByteArray × ByteArray} (h : orielref12_Values_a l = some a) : l = orielref12_Values_e a := by
  unfold orielref12_Values_a at h
  split at h
  · cases h; rfl
  · cases h
noncomputable def orielref12_Values_d : Res → Option LL
  | ⟨.one (.own 9 y0), []⟩ => some y0
  | _ => none
noncomputable def orielref12_Values_r (r : LL) : Res := ⟨.one (.own 9 r), []⟩
theorem orielref12_Values_dr {R : Res} {r : LL} (h : orielref12_Values_d R = some r) : R = orielref12_Values_r r := by
  unfold orielref12_Values_d at h
  split at h
  · cases h; rfl
  · cases h
noncomputable def orielref12_Values_o (L : Lv) {Ω : Type} (f : FuncId) (l : List Arg) (K : Res → Option Ω) (next : Option Ω) : Option Ω := rowO 63 orielref12_Values_a (fun a => L.orielref12_Values a.1 a.2.1 a.2.2.1 a.2.2.2) orielref12_Values_r f l K next
noncomputable def orielref12_Has_a : List Arg → Option (LL × ByteArray)
  | [.v (.one (.c (.row 9 x0))), .v (.one (.c (.str x1)))] => some (x0, x1)
  | _ => none
noncomputable def orielref12_Has_e (a : LL × ByteArray) : List Arg := [.v (.one (.c (C.row 9 a.1))), .v (.one (.c (C.str a.2)))]
theorem orielref12_Has_ae {l : List Arg} {a : LL × ByteArray} (h : orielref12_Has_a l = some a) : l = orielref12_Has_e a := by
  unfold orielref12_Has_a at h
  split at h
  · cases h; rfl
  · cases h
noncomputable def orielref12_Has_d : Res → Option Bool
  | ⟨.one (.d (.bool y0)), []⟩ => some y0
  | _ => none
noncomputable def orielref12_Has_r (r : Bool) : Res := ⟨.one (.d (.bool r)), []⟩
theorem orielref12_Has_dr {R : Res} {r : Bool} (h : orielref12_Has_d R = some r) : R = orielref12_Has_r r := by
  unfold orielref12_Has_d at h
  split at h
  · cases h; rfl
  · cases h
noncomputable def orielref12_Has_o (L : Lv) {Ω : Type} (f : FuncId) (l : List Arg) (K : Res → Option Ω) (next : Option Ω) : Option Ω := rowO 81 orielref12_Has_a (fun a => L.orielref12_Has a.1 a.2) orielref12_Has_r f l K next
noncomputable def orielref19_value_a : List Arg → Option (Int × ByteArray × ByteArray × LL × ByteArray × ByteArray × ByteArray × LL)
  | [.v (.agg [.c (.int .i64 x0_0), .c (.str x0_1), .c (.str x0_2), .c (.row 86 x0_3), .c (.str x0_4)]), .v (.agg [.c (.str x1_0), .c (.str x1_1)]), .v (.one (.c (.row 9 x2)))] => some (x0_0, x0_1, x0_2, x0_3, x0_4, x1_0, x1_1, x2)
  | _ => none
noncomputable def orielref19_value_e (a : Int × ByteArray × ByteArray × LL × ByteArray × ByteArray × ByteArray × LL) : List Arg := [.v (.agg [.c (C.int .i64 a.1), .c (C.str a.2.1), .c (C.str a.2.2.1), .c (C.row 86 a.2.2.2.1), .c (C.str a.2.2.2.2.1)]), .v (.agg [.c (C.str a.2.2.2.2.2.1), .c (C.str a.2.2.2.2.2.2.1)]), .v (.one (.c (C.row 9 a.2.2.2.2.2.2.2)))]
theorem orielref19_value_ae {l : List Arg} {a : Int × ByteArray × ByteArray × LL × ByteArray × ByteArray × ByteArray × LL} (h : orielref19_value_a l = some a) : l = orielref19_value_e a := by
  unfold orielref19_value_a at h
  split at h
  · cases h; rfl
  · cases h
noncomputable def orielref19_value_d : Res → Option Int
  | ⟨.one (.d (.int .i64 y0)), []⟩ => some y0
  | _ => none
noncomputable def orielref19_value_r (r : Int) : Res := ⟨.one (.d (.int .i64 r)), []⟩
theorem orielref19_value_dr {R : Res} {r : Int} (h : orielref19_value_d R = some r) : R = orielref19_value_r r := by
  unfold orielref19_value_d at h
  split at h
  · cases h; rfl
  · cases h
noncomputable def orielref19_value_o (L : Lv) {Ω : Type} (f : FuncId) (l : List Arg) (K : Res → Option Ω) (next : Option Ω) : Option Ω := rowO 47 orielref19_value_a (fun a => L.orielref19_value a.1 a.2.1 a.2.2.1 a.2.2.2.1 a.2.2.2.2.1 a.2.2.2.2.2.1 a.2.2.2.2.2.2.1 a.2.2.2.2.2.2.2) orielref19_value_r f l K next
noncomputable def oriellaw20_sort_a : List Arg → Option (LL × LL × LL × Int × Int × Int × LL × LL × Int × Bool × Bool)
  | [.v (.agg [.c (.row 25 x0_0), .c (.row 39 x0_1), .c (.row 3 x0_2), .c (.int .i64 x0_3), .c (.int .i64 x0_4), .c (.int .i64 x0_5), .c (.row 83 x0_6), .c (.row 66 x0_7)]), .v (.one (.c (.int .u64 x1))), .v (.one (.c (.bool x2))), .v (.one (.c (.bool x3)))] => some (x0_0, x0_1, x0_2, x0_3, x0_4, x0_5, x0_6, x0_7, x1, x2, x3)
  | _ => none
noncomputable def oriellaw20_sort_e (a : LL × LL × LL × Int × Int × Int × LL × LL × Int × Bool × Bool) : List Arg := [.v (.agg [.c (C.row 25 a.1), .c (C.row 39 a.2.1), .c (C.row 3 a.2.2.1), .c (C.int .i64 a.2.2.2.1), .c (C.int .i64 a.2.2.2.2.1), .c (C.int .i64 a.2.2.2.2.2.1), .c (C.row 83 a.2.2.2.2.2.2.1), .c (C.row 66 a.2.2.2.2.2.2.2.1)]), .v (.one (.c (C.int .u64 a.2.2.2.2.2.2.2.2.1))), .v (.one (.c (C.bool a.2.2.2.2.2.2.2.2.2.1))), .v (.one (.c (C.bool a.2.2.2.2.2.2.2.2.2.2)))]
theorem oriellaw20_sort_ae {l : List Arg} {a : LL × LL × LL × Int × Int × Int × LL × LL × Int × Bool × Bool} (h : oriellaw20_sort_a l = some a) : l = oriellaw20_sort_e a := by
  unfold oriellaw20_sort_a at h
  split at h
  · cases h; rfl
  · cases h
noncomputable def oriellaw20_sort_d : Res → Option (Bool × Bool × ByteArray)
  | ⟨.agg [.d (.bool y0), .d (.bool y1), .d (.str y2)], []⟩ => some (y0, y1, y2)
  | _ => none
noncomputable def oriellaw20_sort_r (r : Bool × Bool × ByteArray) : Res := ⟨.agg [.d (.bool r.1), .d (.bool r.2.1), .d (.str r.2.2)], []⟩
theorem oriellaw20_sort_dr {R : Res} {r : Bool × Bool × ByteArray} (h : oriellaw20_sort_d R = some r) : R = oriellaw20_sort_r r := by
  unfold oriellaw20_sort_d at h
  split at h
  · cases h; rfl
  · cases h
noncomputable def oriellaw20_sort_o (L : Lv) {Ω : Type} (f : FuncId) (l : List Arg) (K : Res → Option Ω) (next : Option Ω) : Option Ω := rowO 12 oriellaw20_sort_a (fun a => L.oriellaw20_sort a.1 a.2.1 a.2.2.1 a.2.2.2.1 a.2.2.2.2.1 a.2.2.2.2.2.1 a.2.2.2.2.2.2.1 a.2.2.2.2.2.2.2.1 a.2.2.2.2.2.2.2.2.1 a.2.2.2.2.2.2.2.2.2.1 a.2.2.2.2.2.2.2.2.2.2) oriellaw20_sort_r f l K next
noncomputable def orielref18_Items_a : List Arg → Option (LL × LL × LL × Int × Int × Int × LL × LL)
  | [.v (.agg [.c (.row 25 x0_0), .c (.row 39 x0_1), .c (.row 3 x0_2), .c (.int .i64 x0_3), .c (.int .i64 x0_4), .c (.int .i64 x0_5), .c (.row 83 x0_6), .c (.row 66 x0_7)])] => some (x0_0, x0_1, x0_2, x0_3, x0_4, x0_5, x0_6, x0_7)
  | _ => none
noncomputable def orielref18_Items_e (a : LL × LL × LL × Int × Int × Int × LL × LL) : List Arg := [.v (.agg [.c (C.row 25 a.1), .c (C.row 39 a.2.1), .c (C.row 3 a.2.2.1), .c (C.int .i64 a.2.2.2.1), .c (C.int .i64 a.2.2.2.2.1), .c (C.int .i64 a.2.2.2.2.2.1), .c (C.row 83 a.2.2.2.2.2.2.1), .c (C.row 66 a.2.2.2.2.2.2.2)])]
theorem orielref18_Items_ae {l : List Arg} {a : LL × LL × LL × Int × Int × Int × LL × LL} (h : orielref18_Items_a l = some a) : l = orielref18_Items_e a := by
  unfold orielref18_Items_a at h
  split at h
  · cases h; rfl
  · cases h
noncomputable def orielref18_Items_d : Res → Option Int
  | ⟨.one (.d (.int .i64 y0)), []⟩ => some y0
  | _ => none
noncomputable def orielref18_Items_r (r : Int) : Res := ⟨.one (.d (.int .i64 r)), []⟩
theorem orielref18_Items_dr {R : Res} {r : Int} (h : orielref18_Items_d R = some r) : R = orielref18_Items_r r := by
  unfold orielref18_Items_d at h
  split at h
  · cases h; rfl
  · cases h
noncomputable def orielref18_Items_o (L : Lv) {Ω : Type} (f : FuncId) (l : List Arg) (K : Res → Option Ω) (next : Option Ω) : Option Ω := rowO 34 orielref18_Items_a (fun a => L.orielref18_Items a.1 a.2.1 a.2.2.1 a.2.2.2.1 a.2.2.2.2.1 a.2.2.2.2.2.1 a.2.2.2.2.2.2.1 a.2.2.2.2.2.2.2) orielref18_Items_r f l K next
noncomputable def orK (L : Lv) {Ω : Type} (f : FuncId) (l : List Arg) (K : Res → Option Ω) : Option Ω := oriellaw20_KindLike_o L f l K (orielref18_Holds_o L f l K (oriellaw20_awake_o L f l K (orielref18_Find_o L f l K (orielref18_Make_o L f l K (orielref12_Same_o L f l K (orielref17_Compile_o L f l K (orielref12_SameFilter_o L f l K (orielref17_add_o L f l K (orielref17_edge_o L f l K (orielref18_Inner_o L f l K (orielref18_within_o L f l K (kind_Step_o L f l K (strat_Items_o L f l K (kind_maker_prog_o L f l K (strat_Tests_o L f l K (strat_node_holds_o L f l K (strat_node_attr_o L f l K (api_Filter_o L f l K (api_Filter_2_o L f l K (api_Path_o L f l K (api_Filter_3_o L f l K (api_Filter_4_o L f l K (api_Path_2_o L f l K (strat_node_fails_o L f l K (strat_node_holds_2_o L f l K (strat_node_leads_o L f l K (strat_node_attr_2_o L f l K (strat_Find_o L f l K (api_Path_3_o L f l K (strat_Find_1_o L f l K (path_Same_o L f l K (api_Path_4_o L f l K (kind_Whole_o L f l K (kind_maker_leads_o L f l K (api_Filter_5_o L f l K (word_Whole_o L f l K (kind_good_o L f l K (path_sameFilter_o L f l K (word_Begins_o L f l K (word_Right_o L f l K (word_named_o L f l K (word_text_o L f l K (name_Plain_o L f l K (utf_All_o L f l K (char_Start_o L f l K (utf_Rune_o L f l K (char_in_o L f l K (utf_forms_o L f l K (word_Nodes_o L f l K (word_Depth_o L f l K (char_All_o L f l K (utf_span_o L f l K (char_Char_o L f l K (char_Blank_o L f l K (kind_Arrive_o L f l K (word_attrs_o L f l K (char_Part_o L f l K (orielref12_Right_o L f l K (orielref12_Size_o L f l K (orielref12_size_o L f l K (orielref12_sizeFilter_o L f l K (orielref12_path_o L f l K (orielref12_filter_o L f l K (orielref12_named_o L f l K (orielref04_Right_o L f l K (orielref03_Plain_o L f l K (orielref01_All_o L f l K (orielref02_Start_o L f l K (orielref01_Rune_o L f l K (orielref01_Put_o L f l K (orielref01_cut_o L f l K (orielref01_value_o L f l K (oriellaw20_node_o L f l K (orielref02_Char_o L f l K (orielref02_Part_o L f l K (orielref01_begins_o L f l K (orielref09_Right_o L f l K (orielref02_Blank_o L f l K (orielref09_named_o L f l K (orielref05_Find_o L f l K (orielref09_Few_o L f l K (orielref19_Like_o L f l K (orielref19_Make_o L f l K (orielref12_Filters_o L f l K (orielref12_within_o L f l K (orielref12_Names_o L f l K (orielref12_hasName_o L f l K (orielref12_Values_o L f l K (orielref12_Has_o L f l K (orielref19_value_o L f l K (oriellaw20_sort_o L f l K (orielref18_Items_o L f l K (none)))))))))))))))))))))))))))))))))))))))))))))))))))))))))))))))))))))))))))))))))))))))))))))
noncomputable def oriellaw20_KindLike_b (L : Lv) (k : Nat) (x0_0 : Int) (x0_1 x0_2 : LL) (x1_0 : Int) (x1_1 x1_2 : ByteArray) (x1_3 : LL) (x1_4 : ByteArray) (x2_0 : Int) (x2_1 x2_2 : ByteArray) (x2_3 : LL) (x2_4 : ByteArray) (x3 x4 x5 : Int) : Option Bool := bodyK noEq Try.prog (orK L) kp k 7 [.v (.agg [.c (C.int .i64 x0_0), .c (C.row 25 x0_1), .c (C.row 66 x0_2)]), .v (.agg [.c (C.int .i64 x1_0), .c (C.str x1_1), .c (C.str x1_2), .c (C.row 86 x1_3), .c (C.str x1_4)]), .v (.agg [.c (C.int .i64 x2_0), .c (C.str x2_1), .c (C.str x2_2), .c (C.row 86 x2_3), .c (C.str x2_4)]), .v (.one (.c (C.int .u64 x3))), .v (.one (.c (C.int .u64 x4))), .v (.one (.c (C.int .u8 x5)))] oriellaw20_KindLike_d
noncomputable def orielref18_Holds_b (L : Lv) (k : Nat) (x0_0 x0_1 x0_2 : LL) (x0_3 x0_4 x0_5 : Int) (x0_6 x0_7 : LL) (x1_0 : Int) (x1_1 x1_2 x1_3 : ByteArray) (x1_4 x1_5 : LL) (x2_0 : Int) (x2_1 x2_2 : ByteArray) (x2_3 : LL) (x2_4 : ByteArray) (x3 : LL) : Option Bool := bodyK noEq Try.prog (orK L) kp k 25 [.v (.agg [.c (C.row 25 x0_0), .c (C.row 39 x0_1), .c (C.row 3 x0_2), .c (C.int .i64 x0_3), .c (C.int .i64 x0_4), .c (C.int .i64 x0_5), .c (C.row 83 x0_6), .c (C.row 66 x0_7)]), .v (.agg [.c (C.int .i64 x1_0), .c (C.str x1_1), .c (C.str x1_2), .c (C.str x1_3), .c (C.row 66 x1_4), .c (C.row 25 x1_5)]), .v (.agg [.c (C.int .i64 x2_0), .c (C.str x2_1), .c (C.str x2_2), .c (C.row 86 x2_3), .c (C.str x2_4)]), .v (.one (.c (C.row 5 x3)))] orielref18_Holds_d
noncomputable def orielref18_Holds_l0 (L : Lv) (k : Nat) (x0_0 x0_1 x0_2 : LL) (x0_3 x0_4 x0_5 : Int) (x0_6 x0_7 : LL) (x1_0 : Int) (x1_1 x1_2 x1_3 : ByteArray) (x1_4 x1_5 : LL) (x2_0 : Int) (x2_1 x2_2 : ByteArray) (x2_3 : LL) (x2_4 : ByteArray) (x3 : LL) (m0 : Nat) (v1 v2 : Bool) (v3 : Int) : Option Bool := headK noEq Try.prog (orK L) kp k 25 [.v (.agg [.c (C.row 25 x0_0), .c (C.row 39 x0_1), .c (C.row 3 x0_2), .c (C.int .i64 x0_3), .c (C.int .i64 x0_4), .c (C.int .i64 x0_5), .c (C.row 83 x0_6), .c (C.row 66 x0_7)]), .v (.agg [.c (C.int .i64 x1_0), .c (C.str x1_1), .c (C.str x1_2), .c (C.str x1_3), .c (C.row 66 x1_4), .c (C.row 25 x1_5)]), .v (.agg [.c (C.int .i64 x2_0), .c (C.str x2_1), .c (C.str x2_2), .c (C.row 86 x2_3), .c (C.str x2_4)]), .v (.one (.c (C.row 5 x3)))] [1, 1, 0, 1, 0, 1, 1, 0, 1, 0] [m0] ⟨[(3, .one (.c (C.row 5 x3))), (4, .one (.ptr 256 0)), (5, .one (.ptr 257 0)), (6, .one (.ptr 258 0)), (9, .one (.c (C.bool v1))), (10, .one (.c (C.bool v2))), (11, .one (.c (C.int .i64 v3)))], [(256, .box 41 [.c (C.row 25 x0_0), .c (C.row 39 x0_1), .c (C.row 3 x0_2), .c (C.int .i64 x0_3), .c (C.int .i64 x0_4), .c (C.int .i64 x0_5), .c (C.row 83 x0_6), .c (C.row 66 x0_7)]), (257, .box 66 [.c (C.int .i64 x1_0), .c (C.str x1_1), .c (C.str x1_2), .c (C.str x1_3), .c (C.row 66 x1_4), .c (C.row 25 x1_5)]), (258, .box 30 [.c (C.int .i64 x2_0), .c (C.str x2_1), .c (C.str x2_2), .c (C.row 86 x2_3), .c (C.str x2_4)])], 260, 177⟩ orielref18_Holds_d
noncomputable def orielref18_Holds_l1 (L : Lv) (k : Nat) (x0_0 x0_1 x0_2 : LL) (x0_3 x0_4 x0_5 : Int) (x0_6 x0_7 : LL) (x1_0 : Int) (x1_1 x1_2 x1_3 : ByteArray) (x1_4 x1_5 : LL) (x2_0 : Int) (x2_1 x2_2 : ByteArray) (x2_3 : LL) (x2_4 : ByteArray) (x3 : LL) (m0 : Nat) (v0 : Int) : Option Bool := headK noEq Try.prog (orK L) kp k 25 [.v (.agg [.c (C.row 25 x0_0), .c (C.row 39 x0_1), .c (C.row 3 x0_2), .c (C.int .i64 x0_3), .c (C.int .i64 x0_4), .c (C.int .i64 x0_5), .c (C.row 83 x0_6), .c (C.row 66 x0_7)]), .v (.agg [.c (C.int .i64 x1_0), .c (C.str x1_1), .c (C.str x1_2), .c (C.str x1_3), .c (C.row 66 x1_4), .c (C.row 25 x1_5)]), .v (.agg [.c (C.int .i64 x2_0), .c (C.str x2_1), .c (C.str x2_2), .c (C.row 86 x2_3), .c (C.str x2_4)]), .v (.one (.c (C.row 5 x3)))] [1, 1, 1, 1, 1, 1, 1, 1, 0, 1, 0] [m0] ⟨[(5, .one (.ptr 256 0)), (6, .one (.ptr 257 0)), (14, .one (.c (C.int .i64 v0)))], [(256, .box 66 [.c (C.int .i64 x1_0), .c (C.str x1_1), .c (C.str x1_2), .c (C.str x1_3), .c (C.row 66 x1_4), .c (C.row 25 x1_5)]), (257, .box 30 [.c (C.int .i64 x2_0), .c (C.str x2_1), .c (C.str x2_2), .c (C.row 86 x2_3), .c (C.str x2_4)])], 259, 177⟩ orielref18_Holds_d
noncomputable def oriellaw20_awake_b (L : Lv) (k : Nat) : Option Bool := bodyK noEq Try.prog (orK L) kp k 8 [] oriellaw20_awake_d
noncomputable def orielref18_Find_b (L : Lv) (k : Nat) (x0_0 x0_1 x0_2 : LL) (x0_3 x0_4 x0_5 : Int) (x0_6 x0_7 : LL) (x1_0 : Int) (x1_1 x1_2 : LL) : Option Int := bodyK noEq Try.prog (orK L) kp k 33 [.v (.agg [.c (C.row 25 x0_0), .c (C.row 39 x0_1), .c (C.row 3 x0_2), .c (C.int .i64 x0_3), .c (C.int .i64 x0_4), .c (C.int .i64 x0_5), .c (C.row 83 x0_6), .c (C.row 66 x0_7)]), .v (.agg [.c (C.int .i64 x1_0), .c (C.row 25 x1_1), .c (C.row 66 x1_2)])] orielref18_Find_d
noncomputable def orielref18_Find_l0 (L : Lv) (k : Nat) (x0_0 x0_1 x0_2 : LL) (x0_3 x0_4 x0_5 : Int) (x0_6 x0_7 : LL) (x1_0 : Int) (x1_1 x1_2 : LL) (m0 : Nat) (v0 : Int) : Option Int := headK noEq Try.prog (orK L) kp k 33 [.v (.agg [.c (C.row 25 x0_0), .c (C.row 39 x0_1), .c (C.row 3 x0_2), .c (C.int .i64 x0_3), .c (C.int .i64 x0_4), .c (C.int .i64 x0_5), .c (C.row 83 x0_6), .c (C.row 66 x0_7)]), .v (.agg [.c (C.int .i64 x1_0), .c (C.row 25 x1_1), .c (C.row 66 x1_2)])] [1, 0, 1, 0] [m0] ⟨[(2, .one (.ptr 128 0)), (3, .one (.ptr 129 0)), (5, .one (.c (C.int .i64 v0)))], [(128, .box 41 [.c (C.row 25 x0_0), .c (C.row 39 x0_1), .c (C.row 3 x0_2), .c (C.int .i64 x0_3), .c (C.int .i64 x0_4), .c (C.int .i64 x0_5), .c (C.row 83 x0_6), .c (C.row 66 x0_7)]), (129, .box 25 [.c (C.int .i64 x1_0), .c (C.row 25 x1_1), .c (C.row 66 x1_2)])], 131, 21⟩ orielref18_Find_d
noncomputable def orielref18_Make_b (L : Lv) (k : Nat) (x0_0 : Int) (x0_1 x0_2 : LL) : Option (LL × LL × LL × Int × Int × Int × LL × LL) := bodyK noEq Try.prog (orK L) kp k 11 [.v (.agg [.c (C.int .i64 x0_0), .c (C.row 25 x0_1), .c (C.row 66 x0_2)])] orielref18_Make_d
noncomputable def orielref18_Make_l0 (L : Lv) (k : Nat) (x0_0 : Int) (x0_1 x0_2 : LL) (m0 : Nat) (v1 v5 v6 v7 : Int) (v8 v9 v10 : LL) : Option (LL × LL × LL × Int × Int × Int × LL × LL) := headK noEq Try.prog (orK L) kp k 11 [.v (.agg [.c (C.int .i64 x0_0), .c (C.row 25 x0_1), .c (C.row 66 x0_2)])] [1, 1, 1, 1, 0, 1, 0] [m0] ⟨[(2, .one (.ptr 64 0)), (3, .one (.ptr 65 0)), (4, .one (.arr 66)), (5, .one (.c (C.int .i64 0))), (6, .one (.c (C.int .i64 v1)))], [(64, .box 41 [.c (C.nil 25), .c (C.nil 39), .c (C.nil 3), .c (C.int .i64 0), .c (C.int .i64 0), .c (C.int .i64 0), .c (C.nil 83), .c (C.nil 66)]), (65, .box 41 [.c (C.nil 25), .c (C.nil 39), .c (C.nil 3), .c (C.int .i64 v5), .c (C.int .i64 v6), .c (C.int .i64 v7), .c (C.row 83 v8), .c (C.row 66 v9)]), (66, .arr 25 false v10)], 68, 57⟩ orielref18_Make_d
noncomputable def orielref18_Make_l1 (L : Lv) (k : Nat) (x0_0 : Int) (x0_1 x0_2 : LL) (m0 : Nat) (v0 v1 v5 v6 v7 : Int) (v8 v9 v10 v11 v12 v13 : LL) : Option (LL × LL × LL × Int × Int × Int × LL × LL) := headK noEq Try.prog (orK L) kp k 11 [.v (.agg [.c (C.int .i64 x0_0), .c (C.row 25 x0_1), .c (C.row 66 x0_2)])] [1, 1, 1, 1, 0, 1, 0] [m0] ⟨[(2, .one (.ptr 64 0)), (3, .one (.ptr 65 0)), (4, .one (.arr 66)), (5, .one (.c (C.int .i64 v0))), (6, .one (.c (C.int .i64 v1)))], [(64, .box 41 [.c (C.nil 25), .c (C.nil 39), .c (C.nil 3), .c (C.int .i64 0), .c (C.int .i64 0), .c (C.int .i64 0), .c (C.nil 83), .c (C.nil 66)]), (65, .box 41 [.arr 67, .arr 68, .arr 69, .c (C.int .i64 v5), .c (C.int .i64 v6), .c (C.int .i64 v7), .c (C.row 83 v8), .c (C.row 66 v9)]), (66, .arr 25 false v10), (67, .arr 25 false v11), (68, .arr 39 false v12), (69, .arr 3 false v13)], 71, 57⟩ orielref18_Make_d
noncomputable def orielref12_Same_b (L : Lv) (k : Nat) (x0_0 : Int) (x0_1 x0_2 : LL) (x1_0 : Int) (x1_1 x1_2 : LL) : Option Bool := bodyK noEq Try.prog (orK L) kp k 54 [.v (.agg [.c (C.int .i64 x0_0), .c (C.row 25 x0_1), .c (C.row 66 x0_2)]), .v (.agg [.c (C.int .i64 x1_0), .c (C.row 25 x1_1), .c (C.row 66 x1_2)])] orielref12_Same_d
noncomputable def orielref12_Same_l0 (L : Lv) (k : Nat) (x0_0 : Int) (x0_1 x0_2 : LL) (x1_0 : Int) (x1_1 x1_2 : LL) (m0 : Nat) (v0 : Int) : Option Bool := headK noEq Try.prog (orK L) kp k 54 [.v (.agg [.c (C.int .i64 x0_0), .c (C.row 25 x0_1), .c (C.row 66 x0_2)]), .v (.agg [.c (C.int .i64 x1_0), .c (C.row 25 x1_1), .c (C.row 66 x1_2)])] [1, 1, 0, 1, 0] [m0] ⟨[(2, .one (.ptr 128 0)), (3, .one (.ptr 129 0)), (5, .one (.c (C.int .i64 v0)))], [(128, .box 25 [.c (C.int .i64 x0_0), .c (C.row 25 x0_1), .c (C.row 66 x0_2)]), (129, .box 25 [.c (C.int .i64 x1_0), .c (C.row 25 x1_1), .c (C.row 66 x1_2)])], 131, 68⟩ orielref12_Same_d
noncomputable def orielref12_Same_l1 (L : Lv) (k : Nat) (x0_0 : Int) (x0_1 x0_2 : LL) (x1_0 : Int) (x1_1 x1_2 : LL) (m0 : Nat) (v0 : Int) : Option Bool := headK noEq Try.prog (orK L) kp k 54 [.v (.agg [.c (C.int .i64 x0_0), .c (C.row 25 x0_1), .c (C.row 66 x0_2)]), .v (.agg [.c (C.int .i64 x1_0), .c (C.row 25 x1_1), .c (C.row 66 x1_2)])] [1, 1, 1, 0, 1, 0] [m0] ⟨[(2, .one (.ptr 128 0)), (3, .one (.ptr 129 0)), (6, .one (.c (C.int .i64 v0)))], [(128, .box 25 [.c (C.int .i64 x0_0), .c (C.row 25 x0_1), .c (C.row 66 x0_2)]), (129, .box 25 [.c (C.int .i64 x1_0), .c (C.row 25 x1_1), .c (C.row 66 x1_2)])], 131, 68⟩ orielref12_Same_d
noncomputable def orielref17_Compile_b (L : Lv) (k : Nat) (x0_0 : Int) (x0_1 x0_2 : LL) : Option (Int × Int × Int × LL × LL) := bodyK noEq Try.prog (orK L) kp k 31 [.v (.agg [.c (C.int .i64 x0_0), .c (C.row 25 x0_1), .c (C.row 66 x0_2)])] orielref17_Compile_d
noncomputable def orielref12_SameFilter_b (L : Lv) (k : Nat) (x0_0 : Int) (x0_1 x0_2 x0_3 : ByteArray) (x0_4 x0_5 : LL) (x1_0 : Int) (x1_1 x1_2 x1_3 : ByteArray) (x1_4 x1_5 : LL) : Option Bool := bodyK noEq Try.prog (orK L) kp k 70 [.v (.agg [.c (C.int .i64 x0_0), .c (C.str x0_1), .c (C.str x0_2), .c (C.str x0_3), .c (C.row 66 x0_4), .c (C.row 25 x0_5)]), .v (.agg [.c (C.int .i64 x1_0), .c (C.str x1_1), .c (C.str x1_2), .c (C.str x1_3), .c (C.row 66 x1_4), .c (C.row 25 x1_5)])] orielref12_SameFilter_d
noncomputable def orielref12_SameFilter_l0 (L : Lv) (k : Nat) (x0_0 : Int) (x0_1 x0_2 x0_3 : ByteArray) (x0_4 x0_5 : LL) (x1_0 : Int) (x1_1 x1_2 x1_3 : ByteArray) (x1_4 x1_5 : LL) (m0 : Nat) (v0 : Int) : Option Bool := headK noEq Try.prog (orK L) kp k 70 [.v (.agg [.c (C.int .i64 x0_0), .c (C.str x0_1), .c (C.str x0_2), .c (C.str x0_3), .c (C.row 66 x0_4), .c (C.row 25 x0_5)]), .v (.agg [.c (C.int .i64 x1_0), .c (C.str x1_1), .c (C.str x1_2), .c (C.str x1_3), .c (C.row 66 x1_4), .c (C.row 25 x1_5)])] [1, 1, 0, 1, 0] [m0] ⟨[(2, .one (.ptr 128 0)), (3, .one (.ptr 129 0)), (5, .one (.c (C.int .i64 v0)))], [(128, .box 66 [.c (C.int .i64 x0_0), .c (C.str x0_1), .c (C.str x0_2), .c (C.str x0_3), .c (C.row 66 x0_4), .c (C.row 25 x0_5)]), (129, .box 66 [.c (C.int .i64 x1_0), .c (C.str x1_1), .c (C.str x1_2), .c (C.str x1_3), .c (C.row 66 x1_4), .c (C.row 25 x1_5)])], 131, 82⟩ orielref12_SameFilter_d
noncomputable def orielref12_SameFilter_l1 (L : Lv) (k : Nat) (x0_0 : Int) (x0_1 x0_2 x0_3 : ByteArray) (x0_4 x0_5 : LL) (x1_0 : Int) (x1_1 x1_2 x1_3 : ByteArray) (x1_4 x1_5 : LL) (m0 : Nat) (v0 : Int) : Option Bool := headK noEq Try.prog (orK L) kp k 70 [.v (.agg [.c (C.int .i64 x0_0), .c (C.str x0_1), .c (C.str x0_2), .c (C.str x0_3), .c (C.row 66 x0_4), .c (C.row 25 x0_5)]), .v (.agg [.c (C.int .i64 x1_0), .c (C.str x1_1), .c (C.str x1_2), .c (C.str x1_3), .c (C.row 66 x1_4), .c (C.row 25 x1_5)])] [1, 1, 1, 0, 1, 0] [m0] ⟨[(2, .one (.ptr 128 0)), (3, .one (.ptr 129 0)), (6, .one (.c (C.int .i64 v0)))], [(128, .box 66 [.c (C.int .i64 x0_0), .c (C.str x0_1), .c (C.str x0_2), .c (C.str x0_3), .c (C.row 66 x0_4), .c (C.row 25 x0_5)]), (129, .box 66 [.c (C.int .i64 x1_0), .c (C.str x1_1), .c (C.str x1_2), .c (C.str x1_3), .c (C.row 66 x1_4), .c (C.row 25 x1_5)])], 131, 82⟩ orielref12_SameFilter_d
noncomputable def orielref17_add_b (L : Lv) (k : Nat) (x0_0 x0_1 x0_2 : Int) (x0_3 x0_4 : LL) (x1_0 : Int) (x1_1 x1_2 : LL) : Option (Int × Int × Int × LL × LL × Int × Int) := bodyK noEq Try.prog (orK L) kp k 52 [.v (.agg [.c (C.int .i64 x0_0), .c (C.int .i64 x0_1), .c (C.int .i64 x0_2), .c (C.row 83 x0_3), .c (C.row 66 x0_4)]), .v (.agg [.c (C.int .i64 x1_0), .c (C.row 25 x1_1), .c (C.row 66 x1_2)])] orielref17_add_d
noncomputable def orielref17_add_l0 (L : Lv) (k : Nat) (x0_0 x0_1 x0_2 : Int) (x0_3 x0_4 : LL) (x1_0 : Int) (x1_1 x1_2 : LL) (m0 : Nat) : Option (Int × Int × Int × LL × LL × Int × Int) := headK noEq Try.prog (orK L) kp k 52 [.v (.agg [.c (C.int .i64 x0_0), .c (C.int .i64 x0_1), .c (C.int .i64 x0_2), .c (C.row 83 x0_3), .c (C.row 66 x0_4)]), .v (.agg [.c (C.int .i64 x1_0), .c (C.row 25 x1_1), .c (C.row 66 x1_2)])] [1, 1, 1, 0, 1, 0, 1, 1, 0, 1, 0] [m0] ⟨[(2, .one (.ptr 128 0)), (3, .one (.ptr 129 0)), (4, .one (.ptr 130 0)), (5, .one (.c (C.int .i64 x0_0))), (10, .one (.c (C.nil 3))), (11, .one (.c (C.int .i64 0)))], [(128, .box 39 [.c (C.int .i64 (IntKind.i64.wrap (x0_0 + 1))), .c (C.int .i64 x0_1), .c (C.int .i64 x0_2), .c (C.row 83 x0_3), .c (C.row 66 x0_4)]), (129, .box 25 [.c (C.int .i64 x1_0), .c (C.row 25 x1_1), .c (C.row 66 x1_2)]), (130, .box 105 [.c (C.int .i64 0), .c (C.int .i64 0), .c (C.int .i64 0), .c (C.nil 83), .c (C.nil 66), .c (C.int .i64 0), .c (C.int .i64 0)])], 132, 175⟩ orielref17_add_d
noncomputable def orielref17_add_l1 (L : Lv) (k : Nat) (x0_0 x0_1 x0_2 : Int) (x0_3 x0_4 : LL) (x1_0 : Int) (x1_1 x1_2 : LL) (v1 : Int) : Option (Int × Int × Int × LL × LL × Int × Int) := headK noEq Try.prog (orK L) kp k 52 [.v (.agg [.c (C.int .i64 x0_0), .c (C.int .i64 x0_1), .c (C.int .i64 x0_2), .c (C.row 83 x0_3), .c (C.row 66 x0_4)]), .v (.agg [.c (C.int .i64 x1_0), .c (C.row 25 x1_1), .c (C.row 66 x1_2)])] [1, 1, 1, 1, 1, 1, 1, 1, 1, 1, 0, 0] [] ⟨[(2, .one (.ptr 128 0)), (3, .one (.ptr 129 0)), (4, .one (.ptr 130 0)), (5, .one (.c (C.int .i64 x0_0))), (16, .one (.c (C.int .i64 v1))), (17, .one (.c (C.int .i64 0)))], [(128, .box 39 [.c (C.int .i64 (IntKind.i64.wrap (x0_0 + 2))), .c (C.int .i64 x0_1), .c (C.int .i64 x0_2), .c (C.row 83 x0_3), .c (C.row 66 x0_4)]), (129, .box 25 [.c (C.int .i64 x1_0), .c (C.row 25 x1_1), .c (C.row 66 x1_2)]), (130, .box 105 [.c (C.int .i64 0), .c (C.int .i64 0), .c (C.int .i64 0), .c (C.nil 83), .c (C.nil 66), .c (C.int .i64 0), .c (C.int .i64 0)])], 132, 175⟩ orielref17_add_d
noncomputable def orielref17_add_l2 (L : Lv) (k : Nat) (x0_0 x0_1 x0_2 : Int) (x0_3 x0_4 : LL) (x1_0 : Int) (x1_1 x1_2 : LL) (m0 : Nat) : Option (Int × Int × Int × LL × LL × Int × Int) := headK noEq Try.prog (orK L) kp k 52 [.v (.agg [.c (C.int .i64 x0_0), .c (C.int .i64 x0_1), .c (C.int .i64 x0_2), .c (C.row 83 x0_3), .c (C.row 66 x0_4)]), .v (.agg [.c (C.int .i64 x1_0), .c (C.row 25 x1_1), .c (C.row 66 x1_2)])] [1, 1, 1, 0, 1, 0, 1, 1, 1, 1, 1, 0, 1, 0] [m0] ⟨[(2, .one (.ptr 128 0)), (4, .one (.ptr 129 0)), (5, .one (.c (C.int .i64 x0_0))), (10, .one (.c (C.nil 3))), (13, .one (.c (C.int .i64 (IntKind.i64.wrap (x0_0 + 1))))), (14, .one (.c (C.int .i64 0)))], [(128, .box 39 [.c (C.int .i64 (IntKind.i64.wrap (IntKind.i64.wrap (x0_0 + 1) + 1))), .c (C.int .i64 x0_1), .c (C.int .i64 x0_2), .c (C.row 83 x0_3), .c (C.row 66 x0_4)]), (129, .box 105 [.c (C.int .i64 0), .c (C.int .i64 0), .c (C.int .i64 0), .c (C.nil 83), .c (C.nil 66), .c (C.int .i64 0), .c (C.int .i64 0)])], 131, 175⟩ orielref17_add_d
noncomputable def orielref17_add_l3 (L : Lv) (k : Nat) (x0_0 x0_1 x0_2 : Int) (x0_3 x0_4 : LL) (x1_0 : Int) (x1_1 x1_2 : LL) (m0 : Nat) (v0 v10 v11 v12 : Int) (v13 v14 : LL) (v15 v16 : Int) : Option (Int × Int × Int × LL × LL × Int × Int) := headK noEq Try.prog (orK L) kp k 52 [.v (.agg [.c (C.int .i64 x0_0), .c (C.int .i64 x0_1), .c (C.int .i64 x0_2), .c (C.row 83 x0_3), .c (C.row 66 x0_4)]), .v (.agg [.c (C.int .i64 x1_0), .c (C.row 25 x1_1), .c (C.row 66 x1_2)])] [1, 1, 0, 1, 0, 1, 1, 0, 1, 0] [m0] ⟨[(3, .one (.ptr 128 0)), (4, .one (.ptr 129 0)), (6, .one (.ptr 130 0)), (7, .one (.c (C.int .i64 v0))), (8, .one (.c (C.int .i64 1)))], [(128, .box 25 [.c (C.int .i64 x1_0), .c (C.row 25 x1_1), .c (C.row 66 x1_2)]), (129, .box 105 [.c (C.int .i64 0), .c (C.int .i64 0), .c (C.int .i64 0), .c (C.nil 83), .c (C.nil 66), .c (C.int .i64 0), .c (C.int .i64 0)]), (130, .box 105 [.c (C.int .i64 v10), .c (C.int .i64 v11), .c (C.int .i64 v12), .c (C.row 83 v13), .c (C.row 66 v14), .c (C.int .i64 v15), .c (C.int .i64 v16)])], 132, 175⟩ orielref17_add_d
noncomputable def orielref17_add_l4 (L : Lv) (k : Nat) (x0_0 x0_1 x0_2 : Int) (x0_3 x0_4 : LL) (x1_0 : Int) (x1_1 x1_2 : LL) (m0 : Nat) (v1 v2 v3 v4 : Int) (v5 v14 v15 : LL) : Option (Int × Int × Int × LL × LL × Int × Int) := headK noEq Try.prog (orK L) kp k 52 [.v (.agg [.c (C.int .i64 x0_0), .c (C.int .i64 x0_1), .c (C.int .i64 x0_2), .c (C.row 83 x0_3), .c (C.row 66 x0_4)]), .v (.agg [.c (C.int .i64 x1_0), .c (C.row 25 x1_1), .c (C.row 66 x1_2)])] [1, 1, 1, 0, 1, 0, 1, 1, 0, 1, 0] [m0] ⟨[(2, .one (.ptr 128 0)), (3, .one (.ptr 129 0)), (4, .one (.ptr 130 0)), (5, .one (.c (C.int .i64 x0_0))), (10, .one (.arr 131)), (11, .one (.c (C.int .i64 v1)))], [(128, .box 39 [.c (C.int .i64 v2), .c (C.int .i64 v3), .c (C.int .i64 v4), .arr 132, .c (C.row 66 v5)]), (129, .box 25 [.c (C.int .i64 x1_0), .c (C.row 25 x1_1), .c (C.row 66 x1_2)]), (130, .box 105 [.c (C.int .i64 0), .c (C.int .i64 0), .c (C.int .i64 0), .c (C.nil 83), .c (C.nil 66), .c (C.int .i64 0), .c (C.int .i64 0)]), (131, .arr 3 false v14), (132, .arr 83 false v15)], 134, 175⟩ orielref17_add_d
noncomputable def orielref17_add_l5 (L : Lv) (k : Nat) (x0_0 x0_1 x0_2 : Int) (x0_3 x0_4 : LL) (x1_0 : Int) (x1_1 x1_2 : LL) (m0 : Nat) (v0 v1 v10 v11 v12 : Int) (v13 : LL) (v14 v15 : Int) (v16 : LL) : Option (Int × Int × Int × LL × LL × Int × Int) := headK noEq Try.prog (orK L) kp k 52 [.v (.agg [.c (C.int .i64 x0_0), .c (C.int .i64 x0_1), .c (C.int .i64 x0_2), .c (C.row 83 x0_3), .c (C.row 66 x0_4)]), .v (.agg [.c (C.int .i64 x1_0), .c (C.row 25 x1_1), .c (C.row 66 x1_2)])] [1, 1, 0, 1, 0, 1, 1, 0, 1, 0] [m0] ⟨[(3, .one (.ptr 128 0)), (4, .one (.ptr 129 0)), (6, .one (.ptr 130 0)), (7, .one (.c (C.int .i64 v0))), (8, .one (.c (C.int .i64 v1)))], [(128, .box 25 [.c (C.int .i64 x1_0), .c (C.row 25 x1_1), .c (C.row 66 x1_2)]), (129, .box 105 [.c (C.int .i64 0), .c (C.int .i64 0), .c (C.int .i64 0), .c (C.nil 83), .c (C.nil 66), .c (C.int .i64 0), .c (C.int .i64 0)]), (130, .box 105 [.c (C.int .i64 v10), .c (C.int .i64 v11), .c (C.int .i64 v12), .arr 131, .c (C.row 66 v13), .c (C.int .i64 v14), .c (C.int .i64 v15)]), (131, .arr 83 false v16)], 133, 175⟩ orielref17_add_d
noncomputable def orielref17_add_l6 (L : Lv) (k : Nat) (x0_0 x0_1 x0_2 : Int) (x0_3 x0_4 : LL) (x1_0 : Int) (x1_1 x1_2 : LL) (m0 : Nat) (v1 v2 v3 v4 v5 : Int) (v6 v12 v13 : LL) : Option (Int × Int × Int × LL × LL × Int × Int) := headK noEq Try.prog (orK L) kp k 52 [.v (.agg [.c (C.int .i64 x0_0), .c (C.int .i64 x0_1), .c (C.int .i64 x0_2), .c (C.row 83 x0_3), .c (C.row 66 x0_4)]), .v (.agg [.c (C.int .i64 x1_0), .c (C.row 25 x1_1), .c (C.row 66 x1_2)])] [1, 1, 1, 0, 1, 0, 1, 1, 1, 1, 1, 0, 1, 0] [m0] ⟨[(2, .one (.ptr 128 0)), (4, .one (.ptr 129 0)), (5, .one (.c (C.int .i64 x0_0))), (10, .one (.arr 130)), (13, .one (.c (C.int .i64 v1))), (14, .one (.c (C.int .i64 v2)))], [(128, .box 39 [.c (C.int .i64 v3), .c (C.int .i64 v4), .c (C.int .i64 v5), .arr 131, .c (C.row 66 v6)]), (129, .box 105 [.c (C.int .i64 0), .c (C.int .i64 0), .c (C.int .i64 0), .c (C.nil 83), .c (C.nil 66), .c (C.int .i64 0), .c (C.int .i64 0)]), (130, .arr 3 false v12), (131, .arr 83 false v13)], 133, 175⟩ orielref17_add_d
noncomputable def orielref17_edge_b (L : Lv) (k : Nat) (x0_0 x0_1 x0_2 : Int) (x0_3 x0_4 : LL) (x1 x2 x3 x4 : Int) : Option (Int × Int × Int × LL × LL) := bodyK noEq Try.prog (orK L) kp k 69 [.v (.agg [.c (C.int .i64 x0_0), .c (C.int .i64 x0_1), .c (C.int .i64 x0_2), .c (C.row 83 x0_3), .c (C.row 66 x0_4)]), .v (.one (.c (C.int .i64 x1))), .v (.one (.c (C.int .i64 x2))), .v (.one (.c (C.int .i64 x3))), .v (.one (.c (C.int .i64 x4)))] orielref17_edge_d
noncomputable def orielref18_Inner_b (L : Lv) (k : Nat) (x0_0 : Int) (x0_1 x0_2 : LL) : Option LL := bodyK noEq Try.prog (orK L) kp k 32 [.v (.agg [.c (C.int .i64 x0_0), .c (C.row 25 x0_1), .c (C.row 66 x0_2)])] orielref18_Inner_d
noncomputable def orielref18_Inner_l0 (L : Lv) (k : Nat) (x0_0 : Int) (x0_1 x0_2 : LL) (m0 : Nat) : Option LL := headK noEq Try.prog (orK L) kp k 32 [.v (.agg [.c (C.int .i64 x0_0), .c (C.row 25 x0_1), .c (C.row 66 x0_2)])] [1, 1, 0, 1, 0] [m0] ⟨[(1, .one (.ptr 64 0)), (3, .one (.c (C.nil 25))), (4, .one (.c (C.int .i64 0)))], [(64, .box 25 [.c (C.int .i64 x0_0), .c (C.row 25 x0_1), .c (C.row 66 x0_2)])], 66, 37⟩ orielref18_Inner_d
noncomputable def orielref18_Inner_l1 (L : Lv) (k : Nat) (x0_0 : Int) (x0_1 x0_2 : LL) (m0 : Nat) : Option LL := headK noEq Try.prog (orK L) kp k 32 [.v (.agg [.c (C.int .i64 x0_0), .c (C.row 25 x0_1), .c (C.row 66 x0_2)])] [1, 1, 1, 0, 1, 0] [m0] ⟨[(1, .one (.ptr 64 0)), (3, .one (.c (C.nil 25))), (5, .one (.c (C.int .i64 0)))], [(64, .box 25 [.c (C.int .i64 x0_0), .c (C.row 25 x0_1), .c (C.row 66 x0_2)])], 66, 37⟩ orielref18_Inner_d
noncomputable def orielref18_Inner_l2 (L : Lv) (k : Nat) (x0_0 : Int) (x0_1 x0_2 : LL) (m0 : Nat) (v0 : Int) (v4 : LL) : Option LL := headK noEq Try.prog (orK L) kp k 32 [.v (.agg [.c (C.int .i64 x0_0), .c (C.row 25 x0_1), .c (C.row 66 x0_2)])] [1, 1, 0, 1, 0] [m0] ⟨[(1, .one (.ptr 64 0)), (3, .one (.arr 65)), (4, .one (.c (C.int .i64 v0)))], [(64, .box 25 [.c (C.int .i64 x0_0), .c (C.row 25 x0_1), .c (C.row 66 x0_2)]), (65, .arr 25 false v4)], 67, 37⟩ orielref18_Inner_d
noncomputable def orielref18_Inner_l3 (L : Lv) (k : Nat) (x0_0 : Int) (x0_1 x0_2 : LL) (m0 : Nat) (v0 : Int) (v4 : LL) : Option LL := headK noEq Try.prog (orK L) kp k 32 [.v (.agg [.c (C.int .i64 x0_0), .c (C.row 25 x0_1), .c (C.row 66 x0_2)])] [1, 1, 1, 0, 1, 0] [m0] ⟨[(1, .one (.ptr 64 0)), (3, .one (.arr 65)), (5, .one (.c (C.int .i64 v0)))], [(64, .box 25 [.c (C.int .i64 x0_0), .c (C.row 25 x0_1), .c (C.row 66 x0_2)]), (65, .arr 25 false v4)], 67, 37⟩ orielref18_Inner_d
noncomputable def orielref18_within_b (L : Lv) (k : Nat) (x0_0 : Int) (x0_1 x0_2 x0_3 : ByteArray) (x0_4 x0_5 : LL) : Option LL := bodyK noEq Try.prog (orK L) kp k 53 [.v (.agg [.c (C.int .i64 x0_0), .c (C.str x0_1), .c (C.str x0_2), .c (C.str x0_3), .c (C.row 66 x0_4), .c (C.row 25 x0_5)])] orielref18_within_d
noncomputable def orielref18_within_l0 (L : Lv) (k : Nat) (x0_0 : Int) (x0_1 x0_2 x0_3 : ByteArray) (x0_4 x0_5 : LL) (m0 : Nat) : Option LL := headK noEq Try.prog (orK L) kp k 53 [.v (.agg [.c (C.int .i64 x0_0), .c (C.str x0_1), .c (C.str x0_2), .c (C.str x0_3), .c (C.row 66 x0_4), .c (C.row 25 x0_5)])] [1, 1, 0, 1, 0] [m0] ⟨[(1, .one (.ptr 64 0)), (3, .one (.c (C.nil 25))), (4, .one (.c (C.int .i64 0)))], [(64, .box 66 [.c (C.int .i64 x0_0), .c (C.str x0_1), .c (C.str x0_2), .c (C.str x0_3), .c (C.row 66 x0_4), .c (C.row 25 x0_5)])], 66, 38⟩ orielref18_within_d
noncomputable def orielref18_within_l1 (L : Lv) (k : Nat) (x0_0 : Int) (x0_1 x0_2 x0_3 : ByteArray) (x0_4 x0_5 : LL) (m0 : Nat) (v0 : Int) (v7 : LL) : Option LL := headK noEq Try.prog (orK L) kp k 53 [.v (.agg [.c (C.int .i64 x0_0), .c (C.str x0_1), .c (C.str x0_2), .c (C.str x0_3), .c (C.row 66 x0_4), .c (C.row 25 x0_5)])] [1, 1, 0, 1, 0] [m0] ⟨[(1, .one (.ptr 64 0)), (3, .one (.arr 65)), (4, .one (.c (C.int .i64 v0)))], [(64, .box 66 [.c (C.int .i64 x0_0), .c (C.str x0_1), .c (C.str x0_2), .c (C.str x0_3), .c (C.row 66 x0_4), .c (C.row 25 x0_5)]), (65, .arr 25 false v7)], 67, 38⟩ orielref18_within_d
noncomputable def kind_Step_b (L : Lv) (k : Nat) (x0_0 x0_1 x0_2 : LL) (x0_3 x0_4 x0_5 : Int) (x0_6 x0_7 : LL) (x1_0 : Int) (x1_1 x1_2 : ByteArray) (x1_3 : LL) (x1_4 : ByteArray) (x2_0 x2_1 : Bool) (x2_2 : ByteArray) (x3_0 x3_1 : Bool) (x3_2 : ByteArray) : Option (Bool × Bool × ByteArray) := bodyK noEq Try.prog (orK L) kp k 13 [.v (.agg [.c (C.row 25 x0_0), .c (C.row 39 x0_1), .c (C.row 3 x0_2), .c (C.int .i64 x0_3), .c (C.int .i64 x0_4), .c (C.int .i64 x0_5), .c (C.row 83 x0_6), .c (C.row 66 x0_7)]), .v (.agg [.c (C.int .i64 x1_0), .c (C.str x1_1), .c (C.str x1_2), .c (C.row 86 x1_3), .c (C.str x1_4)]), .v (.agg [.c (C.bool x2_0), .c (C.bool x2_1), .c (C.str x2_2)]), .v (.agg [.c (C.bool x3_0), .c (C.bool x3_1), .c (C.str x3_2)])] kind_Step_d
noncomputable def kind_Step_l0 (L : Lv) (k : Nat) (x0_0 x0_1 x0_2 : LL) (x0_3 x0_4 x0_5 : Int) (x0_6 x0_7 : LL) (x1_0 : Int) (x1_1 x1_2 : ByteArray) (x1_3 : LL) (x1_4 : ByteArray) (x2_0 x2_1 : Bool) (x2_2 : ByteArray) (x3_0 x3_1 : Bool) (x3_2 : ByteArray) (m0 : Nat) (v1 : Int) (v10 v11 v12 : LL) (v13 v14 v15 : Int) (v16 v17 : LL) (v18 : Int) (v19 v20 : ByteArray) (v21 : LL) (v22 : ByteArray) (v23 v24 : Bool) (v25 : ByteArray) (v26 v27 : Bool) (v28 : ByteArray) (v29 : LL) : Option (Bool × Bool × ByteArray) := headK noEq Try.prog (orK L) kp k 13 [.v (.agg [.c (C.row 25 x0_0), .c (C.row 39 x0_1), .c (C.row 3 x0_2), .c (C.int .i64 x0_3), .c (C.int .i64 x0_4), .c (C.int .i64 x0_5), .c (C.row 83 x0_6), .c (C.row 66 x0_7)]), .v (.agg [.c (C.int .i64 x1_0), .c (C.str x1_1), .c (C.str x1_2), .c (C.row 86 x1_3), .c (C.str x1_4)]), .v (.agg [.c (C.bool x2_0), .c (C.bool x2_1), .c (C.str x2_2)]), .v (.agg [.c (C.bool x3_0), .c (C.bool x3_1), .c (C.str x3_2)])] [1, 1, 0, 1, 0] [m0] ⟨[(5, .one (.ptr 256 0)), (8, .one (.ptr 257 0)), (9, .one (.ptr 258 0)), (22, .one (.c (C.int .i64 (x0_1.length : Int)))), (23, .one (.c (C.int .i64 v1)))], [(256, .box 30 [.c (C.int .i64 x1_0), .c (C.str x1_1), .c (C.str x1_2), .c (C.row 86 x1_3), .c (C.str x1_4)]), (257, .box 44 [.c (C.bool false), .c (C.bool false), .c (C.str (⟨#[]⟩ : ByteArray))]), (258, .box 79 [.c (C.row 25 v10), .c (C.row 39 v11), .c (C.row 3 v12), .c (C.int .i64 v13), .c (C.int .i64 v14), .c (C.int .i64 v15), .c (C.row 83 v16), .c (C.row 66 v17), .c (C.int .i64 v18), .c (C.str v19), .c (C.str v20), .c (C.row 86 v21), .c (C.str v22), .c (C.bool v23), .c (C.bool v24), .c (C.str v25), .c (C.bool v26), .c (C.bool v27), .c (C.str v28), .arr 259]), (259, .arr 5 false v29)], 261, 39⟩ kind_Step_d
noncomputable def strat_Items_b (L : Lv) (k : Nat) (x0_0 x0_1 x0_2 : LL) (x0_3 x0_4 x0_5 : Int) (x0_6 x0_7 : LL) : Option Int := bodyK noEq Try.prog (orK L) kp k 35 [.v (.agg [.c (C.row 25 x0_0), .c (C.row 39 x0_1), .c (C.row 3 x0_2), .c (C.int .i64 x0_3), .c (C.int .i64 x0_4), .c (C.int .i64 x0_5), .c (C.row 83 x0_6), .c (C.row 66 x0_7)])] strat_Items_d
noncomputable def strat_Items_l0 (L : Lv) (k : Nat) (x0_0 x0_1 x0_2 : LL) (x0_3 x0_4 x0_5 : Int) (x0_6 x0_7 : LL) (m0 : Nat) (v0 v3 : Int) : Option Int := headK noEq Try.prog (orK L) kp k 35 [.v (.agg [.c (C.row 25 x0_0), .c (C.row 39 x0_1), .c (C.row 3 x0_2), .c (C.int .i64 x0_3), .c (C.int .i64 x0_4), .c (C.int .i64 x0_5), .c (C.row 83 x0_6), .c (C.row 66 x0_7)])] [1, 1, 0, 1, 0] [m0] ⟨[(3, .one (.c (C.int .i64 v0))), (7, .one (.c (C.row 39 x0_1))), (8, .one (.c (C.int .i64 (x0_1.length : Int)))), (9, .one (.c (C.int .i64 v3)))], [], 65, 19⟩ strat_Items_d
noncomputable def kind_maker_prog_b (L : Lv) (k : Nat) (x0_0 x0_1 x0_2 : LL) (x0_3 x0_4 x0_5 : Int) (x0_6 x0_7 : LL) (x0_8 : Int) (x0_9 x0_10 : ByteArray) (x0_11 : LL) (x0_12 : ByteArray) (x0_13 x0_14 : Bool) (x0_15 : ByteArray) (x0_16 x0_17 : Bool) (x0_18 : ByteArray) (x0_19 : LL) (x1 : Int) : Option (LL × LL × LL × Int × Int × Int × LL × LL × Int × ByteArray × ByteArray × LL × ByteArray × Bool × Bool × ByteArray × Bool × Bool × ByteArray × LL) := bodyK noEq Try.prog (orK L) kp k 36 [.ref 79 [.d (C.row 25 x0_0), .d (C.row 39 x0_1), .d (C.row 3 x0_2), .d (C.int .i64 x0_3), .d (C.int .i64 x0_4), .d (C.int .i64 x0_5), .d (C.row 83 x0_6), .d (C.row 66 x0_7), .d (C.int .i64 x0_8), .d (C.str x0_9), .d (C.str x0_10), .d (C.row 86 x0_11), .d (C.str x0_12), .d (C.bool x0_13), .d (C.bool x0_14), .d (C.str x0_15), .d (C.bool x0_16), .d (C.bool x0_17), .d (C.str x0_18), .own 5 x0_19] 0, .v (.one (.c (C.int .i64 x1)))] kind_maker_prog_d
noncomputable def kind_maker_prog_l0 (L : Lv) (k : Nat) (x0_0 x0_1 x0_2 : LL) (x0_3 x0_4 x0_5 : Int) (x0_6 x0_7 : LL) (x0_8 : Int) (x0_9 x0_10 : ByteArray) (x0_11 : LL) (x0_12 : ByteArray) (x0_13 x0_14 : Bool) (x0_15 : ByteArray) (x0_16 x0_17 : Bool) (x0_18 : ByteArray) (x0_19 : LL) (x1 : Int) (m0 : Nat) (v1 : Bool) (v26 : LL) : Option (LL × LL × LL × Int × Int × Int × LL × LL × Int × ByteArray × ByteArray × LL × ByteArray × Bool × Bool × ByteArray × Bool × Bool × ByteArray × LL) := headK noEq Try.prog (orK L) kp k 36 [.ref 79 [.d (C.row 25 x0_0), .d (C.row 39 x0_1), .d (C.row 3 x0_2), .d (C.int .i64 x0_3), .d (C.int .i64 x0_4), .d (C.int .i64 x0_5), .d (C.row 83 x0_6), .d (C.row 66 x0_7), .d (C.int .i64 x0_8), .d (C.str x0_9), .d (C.str x0_10), .d (C.row 86 x0_11), .d (C.str x0_12), .d (C.bool x0_13), .d (C.bool x0_14), .d (C.str x0_15), .d (C.bool x0_16), .d (C.bool x0_17), .d (C.str x0_18), .own 5 x0_19] 0, .v (.one (.c (C.int .i64 x1)))] [1, 1, 1, 1, 0] [m0] ⟨[(0, .one (.ptr 0 0)), (4, .one (.ptr 129 0)), (5, .one (.c (C.int .i64 (gi (x0_2.getD x1.toNat []) 0)))), (6, .one (.arr 130)), (7, .one (.c (C.bool v1)))], [(0, .box 79 [.c (C.row 25 x0_0), .c (C.row 39 x0_1), .c (C.row 3 x0_2), .c (C.int .i64 x0_3), .c (C.int .i64 x0_4), .c (C.int .i64 x0_5), .c (C.row 83 x0_6), .c (C.row 66 x0_7), .c (C.int .i64 x0_8), .c (C.str x0_9), .c (C.str x0_10), .c (C.row 86 x0_11), .c (C.str x0_12), .c (C.bool x0_13), .c (C.bool x0_14), .c (C.str x0_15), .c (C.bool x0_16), .c (C.bool x0_17), .c (C.str x0_18), .arr 131]), (129, .box 39 [.c (C.int .i64 (gi (x0_1.getD x1.toNat []) 0)), .c (C.int .i64 (gi (x0_1.getD x1.toNat []) 1)), .c (C.int .i64 (gi (x0_1.getD x1.toNat []) 2)), .c (C.row 83 (gr (x0_1.getD x1.toNat []) 3)), .c (C.row 66 (gr (x0_1.getD x1.toNat []) 4))]), (130, .arr 4 false v26), (131, .arr 5 false (x0_19.set ((IntKind.i64.wrap ((gi (x0_2.getD x1.toNat []) 0) + (gi (x0_1.getD x1.toNat []) 2))).toNat) ((x0_19.getD ((IntKind.i64.wrap ((gi (x0_2.getD x1.toNat []) 0) + (gi (x0_1.getD x1.toNat []) 2))).toNat) []).set 0 (C.int .u8 1))))], 133, 85⟩ kind_maker_prog_d
noncomputable def kind_maker_prog_l1 (L : Lv) (k : Nat) (x0_0 x0_1 x0_2 : LL) (x0_3 x0_4 x0_5 : Int) (x0_6 x0_7 : LL) (x0_8 : Int) (x0_9 x0_10 : ByteArray) (x0_11 : LL) (x0_12 : ByteArray) (x0_13 x0_14 : Bool) (x0_15 : ByteArray) (x0_16 x0_17 : Bool) (x0_18 : ByteArray) (x0_19 : LL) (x1 : Int) (m0 m1 : Nat) (v4 : Int) (v29 : LL) : Option (LL × LL × LL × Int × Int × Int × LL × LL × Int × ByteArray × ByteArray × LL × ByteArray × Bool × Bool × ByteArray × Bool × Bool × ByteArray × LL) := headK noEq Try.prog (orK L) kp k 36 [.ref 79 [.d (C.row 25 x0_0), .d (C.row 39 x0_1), .d (C.row 3 x0_2), .d (C.int .i64 x0_3), .d (C.int .i64 x0_4), .d (C.int .i64 x0_5), .d (C.row 83 x0_6), .d (C.row 66 x0_7), .d (C.int .i64 x0_8), .d (C.str x0_9), .d (C.str x0_10), .d (C.row 86 x0_11), .d (C.str x0_12), .d (C.bool x0_13), .d (C.bool x0_14), .d (C.str x0_15), .d (C.bool x0_16), .d (C.bool x0_17), .d (C.str x0_18), .own 5 x0_19] 0, .v (.one (.c (C.int .i64 x1)))] [1, 1, 1, 1, 0, 0, 1, 0, 1, 1, 0] [m0, m1] ⟨[(0, .one (.ptr 0 0)), (4, .one (.ptr 129 0)), (5, .one (.c (C.int .i64 (gi (x0_2.getD x1.toNat []) 0)))), (6, .one (.arr 130)), (7, .one (.c (C.bool false))), (51, .one (.c (C.row 83 (gr (x0_1.getD x1.toNat []) 3)))), (52, .one (.c (C.int .i64 ((gr (x0_1.getD x1.toNat []) 3).length : Int)))), (53, .one (.c (C.int .i64 v4)))], [(0, .box 79 [.c (C.row 25 x0_0), .c (C.row 39 x0_1), .c (C.row 3 x0_2), .c (C.int .i64 x0_3), .c (C.int .i64 x0_4), .c (C.int .i64 x0_5), .c (C.row 83 x0_6), .c (C.row 66 x0_7), .c (C.int .i64 x0_8), .c (C.str x0_9), .c (C.str x0_10), .c (C.row 86 x0_11), .c (C.str x0_12), .c (C.bool x0_13), .c (C.bool x0_14), .c (C.str x0_15), .c (C.bool x0_16), .c (C.bool x0_17), .c (C.str x0_18), .arr 131]), (129, .box 39 [.c (C.int .i64 (gi (x0_1.getD x1.toNat []) 0)), .c (C.int .i64 (gi (x0_1.getD x1.toNat []) 1)), .c (C.int .i64 (gi (x0_1.getD x1.toNat []) 2)), .c (C.row 83 (gr (x0_1.getD x1.toNat []) 3)), .c (C.row 66 (gr (x0_1.getD x1.toNat []) 4))]), (130, .arr 4 false v29), (131, .arr 5 false (x0_19.set ((IntKind.i64.wrap ((gi (x0_2.getD x1.toNat []) 0) + (gi (x0_1.getD x1.toNat []) 2))).toNat) ((x0_19.getD ((IntKind.i64.wrap ((gi (x0_2.getD x1.toNat []) 0) + (gi (x0_1.getD x1.toNat []) 2))).toNat) []).set 0 (C.int .u8 1))))], 133, 85⟩ kind_maker_prog_d
noncomputable def kind_maker_prog_l2 (L : Lv) (k : Nat) (x0_0 x0_1 x0_2 : LL) (x0_3 x0_4 x0_5 : Int) (x0_6 x0_7 : LL) (x0_8 : Int) (x0_9 x0_10 : ByteArray) (x0_11 : LL) (x0_12 : ByteArray) (x0_13 x0_14 : Bool) (x0_15 : ByteArray) (x0_16 x0_17 : Bool) (x0_18 : ByteArray) (x0_19 : LL) (x1 : Int) (m0 m1 : Nat) (v1 : Bool) (v4 : Int) (v5 v6 v7 : LL) (v8 v9 v10 : Int) (v11 v12 : LL) (v13 : Int) (v14 v15 : ByteArray) (v16 : LL) (v17 : ByteArray) (v18 v19 : Bool) (v20 : ByteArray) (v21 v22 : Bool) (v23 : ByteArray) (v29 v30 : LL) : Option (LL × LL × LL × Int × Int × Int × LL × LL × Int × ByteArray × ByteArray × LL × ByteArray × Bool × Bool × ByteArray × Bool × Bool × ByteArray × LL) := headK noEq Try.prog (orK L) kp k 36 [.ref 79 [.d (C.row 25 x0_0), .d (C.row 39 x0_1), .d (C.row 3 x0_2), .d (C.int .i64 x0_3), .d (C.int .i64 x0_4), .d (C.int .i64 x0_5), .d (C.row 83 x0_6), .d (C.row 66 x0_7), .d (C.int .i64 x0_8), .d (C.str x0_9), .d (C.str x0_10), .d (C.row 86 x0_11), .d (C.str x0_12), .d (C.bool x0_13), .d (C.bool x0_14), .d (C.str x0_15), .d (C.bool x0_16), .d (C.bool x0_17), .d (C.str x0_18), .own 5 x0_19] 0, .v (.one (.c (C.int .i64 x1)))] [1, 1, 1, 1, 0, 0, 1, 0, 1, 1, 0] [m0, m1] ⟨[(0, .one (.ptr 0 0)), (4, .one (.ptr 129 0)), (5, .one (.c (C.int .i64 (gi (x0_2.getD x1.toNat []) 0)))), (6, .one (.arr 130)), (7, .one (.c (C.bool v1))), (51, .one (.c (C.row 83 (gr (x0_1.getD x1.toNat []) 3)))), (52, .one (.c (C.int .i64 ((gr (x0_1.getD x1.toNat []) 3).length : Int)))), (53, .one (.c (C.int .i64 v4)))], [(0, .box 79 [.c (C.row 25 v5), .c (C.row 39 v6), .c (C.row 3 v7), .c (C.int .i64 v8), .c (C.int .i64 v9), .c (C.int .i64 v10), .c (C.row 83 v11), .c (C.row 66 v12), .c (C.int .i64 v13), .c (C.str v14), .c (C.str v15), .c (C.row 86 v16), .c (C.str v17), .c (C.bool v18), .c (C.bool v19), .c (C.str v20), .c (C.bool v21), .c (C.bool v22), .c (C.str v23), .arr 131]), (129, .box 39 [.c (C.int .i64 (gi (x0_1.getD x1.toNat []) 0)), .c (C.int .i64 (gi (x0_1.getD x1.toNat []) 1)), .c (C.int .i64 (gi (x0_1.getD x1.toNat []) 2)), .c (C.row 83 (gr (x0_1.getD x1.toNat []) 3)), .c (C.row 66 (gr (x0_1.getD x1.toNat []) 4))]), (130, .arr 4 true v29), (131, .arr 5 false v30)], 133, 85⟩ kind_maker_prog_d
noncomputable def kind_maker_prog_l3 (L : Lv) (k : Nat) (x0_0 x0_1 x0_2 : LL) (x0_3 x0_4 x0_5 : Int) (x0_6 x0_7 : LL) (x0_8 : Int) (x0_9 x0_10 : ByteArray) (x0_11 : LL) (x0_12 : ByteArray) (x0_13 x0_14 : Bool) (x0_15 : ByteArray) (x0_16 x0_17 : Bool) (x0_18 : ByteArray) (x0_19 : LL) (x1 : Int) (m0 : Nat) (v1 : Bool) (v2 v3 v4 : LL) (v5 v6 v7 : Int) (v8 v9 : LL) (v10 : Int) (v11 v12 : ByteArray) (v13 : LL) (v14 : ByteArray) (v15 v16 : Bool) (v17 : ByteArray) (v18 v19 : Bool) (v20 : ByteArray) (v26 v27 : LL) : Option (LL × LL × LL × Int × Int × Int × LL × LL × Int × ByteArray × ByteArray × LL × ByteArray × Bool × Bool × ByteArray × Bool × Bool × ByteArray × LL) := headK noEq Try.prog (orK L) kp k 36 [.ref 79 [.d (C.row 25 x0_0), .d (C.row 39 x0_1), .d (C.row 3 x0_2), .d (C.int .i64 x0_3), .d (C.int .i64 x0_4), .d (C.int .i64 x0_5), .d (C.row 83 x0_6), .d (C.row 66 x0_7), .d (C.int .i64 x0_8), .d (C.str x0_9), .d (C.str x0_10), .d (C.row 86 x0_11), .d (C.str x0_12), .d (C.bool x0_13), .d (C.bool x0_14), .d (C.str x0_15), .d (C.bool x0_16), .d (C.bool x0_17), .d (C.str x0_18), .own 5 x0_19] 0, .v (.one (.c (C.int .i64 x1)))] [1, 1, 1, 1, 0] [m0] ⟨[(0, .one (.ptr 0 0)), (4, .one (.ptr 129 0)), (5, .one (.c (C.int .i64 (gi (x0_2.getD x1.toNat []) 0)))), (6, .one (.arr 130)), (7, .one (.c (C.bool v1)))], [(0, .box 79 [.c (C.row 25 v2), .c (C.row 39 v3), .c (C.row 3 v4), .c (C.int .i64 v5), .c (C.int .i64 v6), .c (C.int .i64 v7), .c (C.row 83 v8), .c (C.row 66 v9), .c (C.int .i64 v10), .c (C.str v11), .c (C.str v12), .c (C.row 86 v13), .c (C.str v14), .c (C.bool v15), .c (C.bool v16), .c (C.str v17), .c (C.bool v18), .c (C.bool v19), .c (C.str v20), .arr 131]), (129, .box 39 [.c (C.int .i64 (gi (x0_1.getD x1.toNat []) 0)), .c (C.int .i64 (gi (x0_1.getD x1.toNat []) 1)), .c (C.int .i64 (gi (x0_1.getD x1.toNat []) 2)), .c (C.row 83 (gr (x0_1.getD x1.toNat []) 3)), .c (C.row 66 (gr (x0_1.getD x1.toNat []) 4))]), (130, .arr 4 true v26), (131, .arr 5 false v27)], 133, 85⟩ kind_maker_prog_d
noncomputable def strat_Tests_b (L : Lv) (k : Nat) (x0_0 x0_1 x0_2 : LL) (x0_3 x0_4 x0_5 : Int) (x0_6 x0_7 : LL) (x1_0 x1_1 x1_2 : Int) (x1_3 x1_4 : LL) (x2_0 : Int) (x2_1 x2_2 : ByteArray) (x2_3 : LL) (x2_4 : ByteArray) (x3 : LL) : Option LL := bodyK noEq Try.prog (orK L) kp k 43 [.v (.agg [.c (C.row 25 x0_0), .c (C.row 39 x0_1), .c (C.row 3 x0_2), .c (C.int .i64 x0_3), .c (C.int .i64 x0_4), .c (C.int .i64 x0_5), .c (C.row 83 x0_6), .c (C.row 66 x0_7)]), .v (.agg [.c (C.int .i64 x1_0), .c (C.int .i64 x1_1), .c (C.int .i64 x1_2), .c (C.row 83 x1_3), .c (C.row 66 x1_4)]), .v (.agg [.c (C.int .i64 x2_0), .c (C.str x2_1), .c (C.str x2_2), .c (C.row 86 x2_3), .c (C.str x2_4)]), .v (.one (.c (C.row 5 x3)))] strat_Tests_d
noncomputable def strat_Tests_l0 (L : Lv) (k : Nat) (x0_0 x0_1 x0_2 : LL) (x0_3 x0_4 x0_5 : Int) (x0_6 x0_7 : LL) (x1_0 x1_1 x1_2 : Int) (x1_3 x1_4 : LL) (x2_0 : Int) (x2_1 x2_2 : ByteArray) (x2_3 : LL) (x2_4 : ByteArray) (x3 : LL) (m0 : Nat) : Option LL := headK noEq Try.prog (orK L) kp k 43 [.v (.agg [.c (C.row 25 x0_0), .c (C.row 39 x0_1), .c (C.row 3 x0_2), .c (C.int .i64 x0_3), .c (C.int .i64 x0_4), .c (C.int .i64 x0_5), .c (C.row 83 x0_6), .c (C.row 66 x0_7)]), .v (.agg [.c (C.int .i64 x1_0), .c (C.int .i64 x1_1), .c (C.int .i64 x1_2), .c (C.row 83 x1_3), .c (C.row 66 x1_4)]), .v (.agg [.c (C.int .i64 x2_0), .c (C.str x2_1), .c (C.str x2_2), .c (C.row 86 x2_3), .c (C.str x2_4)]), .v (.one (.c (C.row 5 x3)))] [1, 1, 1, 0, 1, 0] [m0] ⟨[(9, .one (.ptr 256 0)), (10, .one (.c (C.nil 4))), (19, .one (.c (C.row 66 x1_4))), (20, .one (.c (C.int .i64 (x1_4.length : Int)))), (21, .one (.c (C.int .i64 0)))], [(256, .box 112 [.c (C.row 25 x0_0), .c (C.row 39 x0_1), .c (C.row 3 x0_2), .c (C.int .i64 x0_3), .c (C.int .i64 x0_4), .c (C.int .i64 x0_5), .c (C.row 83 x0_6), .c (C.row 66 x0_7), .c (C.int .i64 x2_0), .c (C.str x2_1), .c (C.str x2_2), .c (C.row 86 x2_3), .c (C.str x2_4), .c (C.row 5 x3)])], 258, 33⟩ strat_Tests_d
noncomputable def strat_Tests_l1 (L : Lv) (k : Nat) (x0_0 x0_1 x0_2 : LL) (x0_3 x0_4 x0_5 : Int) (x0_6 x0_7 : LL) (x1_0 x1_1 x1_2 : Int) (x1_3 x1_4 : LL) (x2_0 : Int) (x2_1 x2_2 : ByteArray) (x2_3 : LL) (x2_4 : ByteArray) (x3 : LL) (m0 : Nat) (v2 : Int) (v3 v4 v5 : LL) (v6 v7 v8 : Int) (v9 v10 : LL) (v11 : Int) (v12 v13 : ByteArray) (v14 : LL) (v15 : ByteArray) (v16 v17 : LL) : Option LL := headK noEq Try.prog (orK L) kp k 43 [.v (.agg [.c (C.row 25 x0_0), .c (C.row 39 x0_1), .c (C.row 3 x0_2), .c (C.int .i64 x0_3), .c (C.int .i64 x0_4), .c (C.int .i64 x0_5), .c (C.row 83 x0_6), .c (C.row 66 x0_7)]), .v (.agg [.c (C.int .i64 x1_0), .c (C.int .i64 x1_1), .c (C.int .i64 x1_2), .c (C.row 83 x1_3), .c (C.row 66 x1_4)]), .v (.agg [.c (C.int .i64 x2_0), .c (C.str x2_1), .c (C.str x2_2), .c (C.row 86 x2_3), .c (C.str x2_4)]), .v (.one (.c (C.row 5 x3)))] [1, 1, 1, 0, 1, 0] [m0] ⟨[(9, .one (.ptr 256 0)), (10, .one (.arr 257)), (19, .one (.c (C.row 66 x1_4))), (20, .one (.c (C.int .i64 (x1_4.length : Int)))), (21, .one (.c (C.int .i64 v2)))], [(256, .box 112 [.c (C.row 25 v3), .c (C.row 39 v4), .c (C.row 3 v5), .c (C.int .i64 v6), .c (C.int .i64 v7), .c (C.int .i64 v8), .c (C.row 83 v9), .c (C.row 66 v10), .c (C.int .i64 v11), .c (C.str v12), .c (C.str v13), .c (C.row 86 v14), .c (C.str v15), .c (C.row 5 v16)]), (257, .arr 4 false v17)], 259, 33⟩ strat_Tests_d
noncomputable def strat_node_holds_b (L : Lv) (k : Nat) (x0_0 x0_1 x0_2 : LL) (x0_3 x0_4 x0_5 : Int) (x0_6 x0_7 : LL) (x0_8 : Int) (x0_9 x0_10 : ByteArray) (x0_11 : LL) (x0_12 : ByteArray) (x0_13 : LL) (x1_0 : Int) (x1_1 x1_2 x1_3 : ByteArray) (x1_4 x1_5 : LL) : Option (Bool × LL × LL × LL × Int × Int × Int × LL × LL × Int × ByteArray × ByteArray × LL × ByteArray × LL) := bodyK noEq Try.prog (orK L) kp k 58 [.ref 112 [.d (C.row 25 x0_0), .d (C.row 39 x0_1), .d (C.row 3 x0_2), .d (C.int .i64 x0_3), .d (C.int .i64 x0_4), .d (C.int .i64 x0_5), .d (C.row 83 x0_6), .d (C.row 66 x0_7), .d (C.int .i64 x0_8), .d (C.str x0_9), .d (C.str x0_10), .d (C.row 86 x0_11), .d (C.str x0_12), .d (C.row 5 x0_13)] 0, .v (.agg [.c (C.int .i64 x1_0), .c (C.str x1_1), .c (C.str x1_2), .c (C.str x1_3), .c (C.row 66 x1_4), .c (C.row 25 x1_5)])] strat_node_holds_d
noncomputable def strat_node_attr_b (L : Lv) (k : Nat) (x0_0 x0_1 x0_2 : LL) (x0_3 x0_4 x0_5 : Int) (x0_6 x0_7 : LL) (x0_8 : Int) (x0_9 x0_10 : ByteArray) (x0_11 : LL) (x0_12 : ByteArray) (x0_13 : LL) (x1_0 x1_1 : ByteArray) : Option (ByteArray × Bool × LL × LL × LL × Int × Int × Int × LL × LL × Int × ByteArray × ByteArray × LL × ByteArray × LL) := bodyK noEq Try.prog (orK L) kp k 73 [.ref 112 [.d (C.row 25 x0_0), .d (C.row 39 x0_1), .d (C.row 3 x0_2), .d (C.int .i64 x0_3), .d (C.int .i64 x0_4), .d (C.int .i64 x0_5), .d (C.row 83 x0_6), .d (C.row 66 x0_7), .d (C.int .i64 x0_8), .d (C.str x0_9), .d (C.str x0_10), .d (C.row 86 x0_11), .d (C.str x0_12), .d (C.row 5 x0_13)] 0, .v (.agg [.c (C.str x1_0), .c (C.str x1_1)])] strat_node_attr_d
noncomputable def strat_node_attr_l0 (L : Lv) (k : Nat) (x0_0 x0_1 x0_2 : LL) (x0_3 x0_4 x0_5 : Int) (x0_6 x0_7 : LL) (x0_8 : Int) (x0_9 x0_10 : ByteArray) (x0_11 : LL) (x0_12 : ByteArray) (x0_13 : LL) (x1_0 x1_1 : ByteArray) (m0 : Nat) (v2 : Int) : Option (ByteArray × Bool × LL × LL × LL × Int × Int × Int × LL × LL × Int × ByteArray × ByteArray × LL × ByteArray × LL) := headK noEq Try.prog (orK L) kp k 73 [.ref 112 [.d (C.row 25 x0_0), .d (C.row 39 x0_1), .d (C.row 3 x0_2), .d (C.int .i64 x0_3), .d (C.int .i64 x0_4), .d (C.int .i64 x0_5), .d (C.row 83 x0_6), .d (C.row 66 x0_7), .d (C.int .i64 x0_8), .d (C.str x0_9), .d (C.str x0_10), .d (C.row 86 x0_11), .d (C.str x0_12), .d (C.row 5 x0_13)] 0, .v (.agg [.c (C.str x1_0), .c (C.str x1_1)])] [1, 0, 1, 0] [m0] ⟨[(0, .one (.ptr 0 0)), (3, .one (.ptr 129 0)), (12, .one (.c (C.row 86 x0_11))), (13, .one (.c (C.int .i64 (x0_11.length : Int)))), (14, .one (.c (C.int .i64 v2)))], [(0, .box 112 [.c (C.row 25 x0_0), .c (C.row 39 x0_1), .c (C.row 3 x0_2), .c (C.int .i64 x0_3), .c (C.int .i64 x0_4), .c (C.int .i64 x0_5), .c (C.row 83 x0_6), .c (C.row 66 x0_7), .c (C.int .i64 x0_8), .c (C.str x0_9), .c (C.str x0_10), .c (C.row 86 x0_11), .c (C.str x0_12), .c (C.row 5 x0_13)]), (129, .box 27 [.c (C.str x1_0), .c (C.str x1_1)])], 131, 31⟩ strat_node_attr_d
noncomputable def api_Filter_b (L : Lv) (k : Nat) (x0 x1_0 x1_1 x1_2 : LL) (x1_3 x1_4 x1_5 : Int) (x1_6 x1_7 : LL) (x1_8 : Int) (x1_9 x1_10 : ByteArray) (x1_11 : LL) (x1_12 : ByteArray) (x1_13 : LL) : Option Bool := bodyK noEq Try.prog (orK L) kp k 74 [.v (.one (.c (C.row 66 x0))), .fnr 75 true 112 [C.row 25 x1_0, C.row 39 x1_1, C.row 3 x1_2, C.int .i64 x1_3, C.int .i64 x1_4, C.int .i64 x1_5, C.row 83 x1_6, C.row 66 x1_7, C.int .i64 x1_8, C.str x1_9, C.str x1_10, C.row 86 x1_11, C.str x1_12, C.row 5 x1_13] 0] api_Filter_d
noncomputable def api_Filter_2_b (L : Lv) (k : Nat) (x0 x1_0 x1_1 x1_2 : LL) (x1_3 x1_4 x1_5 : Int) (x1_6 x1_7 : LL) (x1_8 : Int) (x1_9 x1_10 : ByteArray) (x1_11 : LL) (x1_12 : ByteArray) (x1_13 : LL) : Option Bool := bodyK noEq Try.prog (orK L) kp k 74 [.v (.one (.c (C.row 66 x0))), .fnr 58 true 112 [C.row 25 x1_0, C.row 39 x1_1, C.row 3 x1_2, C.int .i64 x1_3, C.int .i64 x1_4, C.int .i64 x1_5, C.row 83 x1_6, C.row 66 x1_7, C.int .i64 x1_8, C.str x1_9, C.str x1_10, C.row 86 x1_11, C.str x1_12, C.row 5 x1_13] 0] api_Filter_2_d
noncomputable def api_Path_b (L : Lv) (k : Nat) (x0 x1_0 x1_1 x1_2 : LL) (x1_3 x1_4 x1_5 : Int) (x1_6 x1_7 : LL) (x1_8 : Int) (x1_9 x1_10 : ByteArray) (x1_11 : LL) (x1_12 : ByteArray) (x1_13 : LL) : Option Bool := bodyK noEq Try.prog (orK L) kp k 76 [.v (.one (.c (C.row 25 x0))), .fnr 77 true 112 [C.row 25 x1_0, C.row 39 x1_1, C.row 3 x1_2, C.int .i64 x1_3, C.int .i64 x1_4, C.int .i64 x1_5, C.row 83 x1_6, C.row 66 x1_7, C.int .i64 x1_8, C.str x1_9, C.str x1_10, C.row 86 x1_11, C.str x1_12, C.row 5 x1_13] 0] api_Path_d
noncomputable def api_Filter_3_b (L : Lv) (k : Nat) (x0 x1_0 x1_1 x1_2 : LL) (x1_3 x1_4 x1_5 : Int) (x1_6 x1_7 : LL) (x1_8 : Int) (x1_9 x1_10 : ByteArray) (x1_11 : LL) (x1_12 : ByteArray) (x1_13 : LL) : Option Int := bodyK noEq Try.prog (orK L) kp k 90 [.v (.one (.c (C.row 66 x0))), .fnr 75 true 112 [C.row 25 x1_0, C.row 39 x1_1, C.row 3 x1_2, C.int .i64 x1_3, C.int .i64 x1_4, C.int .i64 x1_5, C.row 83 x1_6, C.row 66 x1_7, C.int .i64 x1_8, C.str x1_9, C.str x1_10, C.row 86 x1_11, C.str x1_12, C.row 5 x1_13] 0] api_Filter_3_d
noncomputable def api_Filter_3_l0 (L : Lv) (k : Nat) (x0 x1_0 x1_1 x1_2 : LL) (x1_3 x1_4 x1_5 : Int) (x1_6 x1_7 : LL) (x1_8 : Int) (x1_9 x1_10 : ByteArray) (x1_11 : LL) (x1_12 : ByteArray) (x1_13 : LL) (m0 : Nat) (v3 : Int) : Option Int := headK noEq Try.prog (orK L) kp k 90 [.v (.one (.c (C.row 66 x0))), .fnr 75 true 112 [C.row 25 x1_0, C.row 39 x1_1, C.row 3 x1_2, C.int .i64 x1_3, C.int .i64 x1_4, C.int .i64 x1_5, C.row 83 x1_6, C.row 66 x1_7, C.int .i64 x1_8, C.str x1_9, C.str x1_10, C.row 86 x1_11, C.str x1_12, C.row 5 x1_13] 0] [1, 0, 1, 0] [m0] ⟨[(0, .one (.c (C.row 66 x0))), (1, .fnr 75 true 112 [C.row 25 x1_0, C.row 39 x1_1, C.row 3 x1_2, C.int .i64 x1_3, C.int .i64 x1_4, C.int .i64 x1_5, C.row 83 x1_6, C.row 66 x1_7, C.int .i64 x1_8, C.str x1_9, C.str x1_10, C.row 86 x1_11, C.str x1_12, C.row 5 x1_13] 0), (7, .one (.c (C.int .i64 (x0.length : Int)))), (8, .one (.c (C.int .i64 v3)))], [], 129, 19⟩ api_Filter_3_d
noncomputable def api_Filter_4_b (L : Lv) (k : Nat) (x0 x1_0 x1_1 x1_2 : LL) (x1_3 x1_4 x1_5 : Int) (x1_6 x1_7 : LL) (x1_8 : Int) (x1_9 x1_10 : ByteArray) (x1_11 : LL) (x1_12 : ByteArray) (x1_13 : LL) : Option Int := bodyK noEq Try.prog (orK L) kp k 90 [.v (.one (.c (C.row 66 x0))), .fnr 58 true 112 [C.row 25 x1_0, C.row 39 x1_1, C.row 3 x1_2, C.int .i64 x1_3, C.int .i64 x1_4, C.int .i64 x1_5, C.row 83 x1_6, C.row 66 x1_7, C.int .i64 x1_8, C.str x1_9, C.str x1_10, C.row 86 x1_11, C.str x1_12, C.row 5 x1_13] 0] api_Filter_4_d
noncomputable def api_Filter_4_l0 (L : Lv) (k : Nat) (x0 x1_0 x1_1 x1_2 : LL) (x1_3 x1_4 x1_5 : Int) (x1_6 x1_7 : LL) (x1_8 : Int) (x1_9 x1_10 : ByteArray) (x1_11 : LL) (x1_12 : ByteArray) (x1_13 : LL) (m0 : Nat) (v3 : Int) : Option Int := headK noEq Try.prog (orK L) kp k 90 [.v (.one (.c (C.row 66 x0))), .fnr 58 true 112 [C.row 25 x1_0, C.row 39 x1_1, C.row 3 x1_2, C.int .i64 x1_3, C.int .i64 x1_4, C.int .i64 x1_5, C.row 83 x1_6, C.row 66 x1_7, C.int .i64 x1_8, C.str x1_9, C.str x1_10, C.row 86 x1_11, C.str x1_12, C.row 5 x1_13] 0] [1, 0, 1, 0] [m0] ⟨[(0, .one (.c (C.row 66 x0))), (1, .fnr 58 true 112 [C.row 25 x1_0, C.row 39 x1_1, C.row 3 x1_2, C.int .i64 x1_3, C.int .i64 x1_4, C.int .i64 x1_5, C.row 83 x1_6, C.row 66 x1_7, C.int .i64 x1_8, C.str x1_9, C.str x1_10, C.row 86 x1_11, C.str x1_12, C.row 5 x1_13] 0), (7, .one (.c (C.int .i64 (x0.length : Int)))), (8, .one (.c (C.int .i64 v3)))], [], 129, 19⟩ api_Filter_4_d
noncomputable def api_Path_2_b (L : Lv) (k : Nat) (x0 x1_0 x1_1 x1_2 : LL) (x1_3 x1_4 x1_5 : Int) (x1_6 x1_7 : LL) (x1_8 : Int) (x1_9 x1_10 : ByteArray) (x1_11 : LL) (x1_12 : ByteArray) (x1_13 : LL) : Option Int := bodyK noEq Try.prog (orK L) kp k 91 [.v (.one (.c (C.row 25 x0))), .fnr 77 true 112 [C.row 25 x1_0, C.row 39 x1_1, C.row 3 x1_2, C.int .i64 x1_3, C.int .i64 x1_4, C.int .i64 x1_5, C.row 83 x1_6, C.row 66 x1_7, C.int .i64 x1_8, C.str x1_9, C.str x1_10, C.row 86 x1_11, C.str x1_12, C.row 5 x1_13] 0] api_Path_2_d
noncomputable def api_Path_2_l0 (L : Lv) (k : Nat) (x0 x1_0 x1_1 x1_2 : LL) (x1_3 x1_4 x1_5 : Int) (x1_6 x1_7 : LL) (x1_8 : Int) (x1_9 x1_10 : ByteArray) (x1_11 : LL) (x1_12 : ByteArray) (x1_13 : LL) (m0 : Nat) (v3 : Int) : Option Int := headK noEq Try.prog (orK L) kp k 91 [.v (.one (.c (C.row 25 x0))), .fnr 77 true 112 [C.row 25 x1_0, C.row 39 x1_1, C.row 3 x1_2, C.int .i64 x1_3, C.int .i64 x1_4, C.int .i64 x1_5, C.row 83 x1_6, C.row 66 x1_7, C.int .i64 x1_8, C.str x1_9, C.str x1_10, C.row 86 x1_11, C.str x1_12, C.row 5 x1_13] 0] [1, 0, 1, 0] [m0] ⟨[(0, .one (.c (C.row 25 x0))), (1, .fnr 77 true 112 [C.row 25 x1_0, C.row 39 x1_1, C.row 3 x1_2, C.int .i64 x1_3, C.int .i64 x1_4, C.int .i64 x1_5, C.row 83 x1_6, C.row 66 x1_7, C.int .i64 x1_8, C.str x1_9, C.str x1_10, C.row 86 x1_11, C.str x1_12, C.row 5 x1_13] 0), (7, .one (.c (C.int .i64 (x0.length : Int)))), (8, .one (.c (C.int .i64 v3)))], [], 129, 19⟩ api_Path_2_d
noncomputable def strat_node_fails_b (L : Lv) (k : Nat) (x0_0 x0_1 x0_2 : LL) (x0_3 x0_4 x0_5 : Int) (x0_6 x0_7 : LL) (x0_8 : Int) (x0_9 x0_10 : ByteArray) (x0_11 : LL) (x0_12 : ByteArray) (x0_13 : LL) (x1_0 : Int) (x1_1 x1_2 x1_3 : ByteArray) (x1_4 x1_5 : LL) : Option Bool := bodyK noEq Try.prog (orK L) kp k 75 [.rop 112 [C.row 25 x0_0, C.row 39 x0_1, C.row 3 x0_2, C.int .i64 x0_3, C.int .i64 x0_4, C.int .i64 x0_5, C.row 83 x0_6, C.row 66 x0_7, C.int .i64 x0_8, C.str x0_9, C.str x0_10, C.row 86 x0_11, C.str x0_12, C.row 5 x0_13] 0, .v (.agg [.c (C.int .i64 x1_0), .c (C.str x1_1), .c (C.str x1_2), .c (C.str x1_3), .c (C.row 66 x1_4), .c (C.row 25 x1_5)])] strat_node_fails_d
noncomputable def strat_node_holds_2_b (L : Lv) (k : Nat) (x0_0 x0_1 x0_2 : LL) (x0_3 x0_4 x0_5 : Int) (x0_6 x0_7 : LL) (x0_8 : Int) (x0_9 x0_10 : ByteArray) (x0_11 : LL) (x0_12 : ByteArray) (x0_13 : LL) (x1_0 : Int) (x1_1 x1_2 x1_3 : ByteArray) (x1_4 x1_5 : LL) : Option Bool := bodyK noEq Try.prog (orK L) kp k 58 [.rop 112 [C.row 25 x0_0, C.row 39 x0_1, C.row 3 x0_2, C.int .i64 x0_3, C.int .i64 x0_4, C.int .i64 x0_5, C.row 83 x0_6, C.row 66 x0_7, C.int .i64 x0_8, C.str x0_9, C.str x0_10, C.row 86 x0_11, C.str x0_12, C.row 5 x0_13] 0, .v (.agg [.c (C.int .i64 x1_0), .c (C.str x1_1), .c (C.str x1_2), .c (C.str x1_3), .c (C.row 66 x1_4), .c (C.row 25 x1_5)])] strat_node_holds_2_d
noncomputable def strat_node_leads_b (L : Lv) (k : Nat) (x0_0 x0_1 x0_2 : LL) (x0_3 x0_4 x0_5 : Int) (x0_6 x0_7 : LL) (x0_8 : Int) (x0_9 x0_10 : ByteArray) (x0_11 : LL) (x0_12 : ByteArray) (x0_13 : LL) (x1_0 : Int) (x1_1 x1_2 : LL) : Option Bool := bodyK noEq Try.prog (orK L) kp k 77 [.rop 112 [C.row 25 x0_0, C.row 39 x0_1, C.row 3 x0_2, C.int .i64 x0_3, C.int .i64 x0_4, C.int .i64 x0_5, C.row 83 x0_6, C.row 66 x0_7, C.int .i64 x0_8, C.str x0_9, C.str x0_10, C.row 86 x0_11, C.str x0_12, C.row 5 x0_13] 0, .v (.agg [.c (C.int .i64 x1_0), .c (C.row 25 x1_1), .c (C.row 66 x1_2)])] strat_node_leads_d
noncomputable def strat_node_attr_2_b (L : Lv) (k : Nat) (x0_0 x0_1 x0_2 : LL) (x0_3 x0_4 x0_5 : Int) (x0_6 x0_7 : LL) (x0_8 : Int) (x0_9 x0_10 : ByteArray) (x0_11 : LL) (x0_12 : ByteArray) (x0_13 : LL) (x1_0 x1_1 : ByteArray) : Option (ByteArray × Bool) := bodyK noEq Try.prog (orK L) kp k 73 [.rop 112 [C.row 25 x0_0, C.row 39 x0_1, C.row 3 x0_2, C.int .i64 x0_3, C.int .i64 x0_4, C.int .i64 x0_5, C.row 83 x0_6, C.row 66 x0_7, C.int .i64 x0_8, C.str x0_9, C.str x0_10, C.row 86 x0_11, C.str x0_12, C.row 5 x0_13] 0, .v (.agg [.c (C.str x1_0), .c (C.str x1_1)])] strat_node_attr_2_d
noncomputable def strat_node_attr_2_l0 (L : Lv) (k : Nat) (x0_0 x0_1 x0_2 : LL) (x0_3 x0_4 x0_5 : Int) (x0_6 x0_7 : LL) (x0_8 : Int) (x0_9 x0_10 : ByteArray) (x0_11 : LL) (x0_12 : ByteArray) (x0_13 : LL) (x1_0 x1_1 : ByteArray) (m0 : Nat) (v3 : Int) : Option (ByteArray × Bool) := headK noEq Try.prog (orK L) kp k 73 [.rop 112 [C.row 25 x0_0, C.row 39 x0_1, C.row 3 x0_2, C.int .i64 x0_3, C.int .i64 x0_4, C.int .i64 x0_5, C.row 83 x0_6, C.row 66 x0_7, C.int .i64 x0_8, C.str x0_9, C.str x0_10, C.row 86 x0_11, C.str x0_12, C.row 5 x0_13] 0, .v (.agg [.c (C.str x1_0), .c (C.str x1_1)])] [1, 0, 1, 0] [m0] ⟨[(0, .one (.rop 112 [C.row 25 x0_0, C.row 39 x0_1, C.row 3 x0_2, C.int .i64 x0_3, C.int .i64 x0_4, C.int .i64 x0_5, C.row 83 x0_6, C.row 66 x0_7, C.int .i64 x0_8, C.str x0_9, C.str x0_10, C.row 86 x0_11, C.str x0_12, C.row 5 x0_13] 0)), (3, .one (.ptr 128 0)), (12, .one (.c (C.row 86 x0_11))), (13, .one (.c (C.int .i64 (x0_11.length : Int)))), (14, .one (.c (C.int .i64 v3)))], [(128, .box 27 [.c (C.str x1_0), .c (C.str x1_1)])], 130, 31⟩ strat_node_attr_2_d
noncomputable def strat_Find_b (L : Lv) (k : Nat) (x0_0 x0_1 x0_2 : LL) (x0_3 x0_4 x0_5 : Int) (x0_6 x0_7 : LL) (x1_0 : Int) (x1_1 x1_2 : LL) : Option Int := bodyK noEq Try.prog (orK L) kp k 92 [.v (.agg [.c (C.row 25 x0_0), .c (C.row 39 x0_1), .c (C.row 3 x0_2), .c (C.int .i64 x0_3), .c (C.int .i64 x0_4), .c (C.int .i64 x0_5), .c (C.row 83 x0_6), .c (C.row 66 x0_7)]), .v (.agg [.c (C.int .i64 x1_0), .c (C.row 25 x1_1), .c (C.row 66 x1_2)])] strat_Find_d
noncomputable def api_Path_3_b (L : Lv) (k : Nat) (x0 : LL) (x1_0 : Int) (x1_1 x1_2 : LL) : Option Int := bodyK noEq Try.prog (orK L) kp k 91 [.v (.one (.c (C.row 25 x0))), .fnr 101 false 25 [C.int .i64 x1_0, C.row 25 x1_1, C.row 66 x1_2] 0] api_Path_3_d
noncomputable def api_Path_3_l0 (L : Lv) (k : Nat) (x0 : LL) (x1_0 : Int) (x1_1 x1_2 : LL) (m0 : Nat) (v3 : Int) : Option Int := headK noEq Try.prog (orK L) kp k 91 [.v (.one (.c (C.row 25 x0))), .fnr 101 false 25 [C.int .i64 x1_0, C.row 25 x1_1, C.row 66 x1_2] 0] [1, 0, 1, 0] [m0] ⟨[(0, .one (.c (C.row 25 x0))), (1, .fnr 101 false 25 [C.int .i64 x1_0, C.row 25 x1_1, C.row 66 x1_2] 0), (7, .one (.c (C.int .i64 (x0.length : Int)))), (8, .one (.c (C.int .i64 v3)))], [], 129, 19⟩ api_Path_3_d
noncomputable def strat_Find_1_b (L : Lv) (k : Nat) (x0_0 : Int) (x0_1 x0_2 : LL) (x1_0 : Int) (x1_1 x1_2 : LL) : Option Bool := bodyK noEq Try.prog (orK L) kp k 101 [.v (.agg [.c (C.int .i64 x0_0), .c (C.row 25 x0_1), .c (C.row 66 x0_2)]), .rop 25 [C.int .i64 x1_0, C.row 25 x1_1, C.row 66 x1_2] 0] strat_Find_1_d
noncomputable def path_Same_b (L : Lv) (k : Nat) (x0_0 : Int) (x0_1 x0_2 : LL) (x1_0 : Int) (x1_1 x1_2 : LL) : Option Bool := bodyK noEq Try.prog (orK L) kp k 102 [.v (.agg [.c (C.int .i64 x0_0), .c (C.row 25 x0_1), .c (C.row 66 x0_2)]), .v (.agg [.c (C.int .i64 x1_0), .c (C.row 25 x1_1), .c (C.row 66 x1_2)])] path_Same_d
noncomputable def api_Path_4_b (L : Lv) (k : Nat) (x0 x1 : LL) : Option Bool := bodyK noEq Try.prog (orK L) kp k 108 [.v (.one (.c (C.row 25 x0))), .v (.one (.c (C.row 25 x1))), .fn 102] api_Path_4_d
noncomputable def api_Path_4_l0 (L : Lv) (k : Nat) (x0 x1 : LL) (m0 : Nat) (v3 : Int) : Option Bool := headK noEq Try.prog (orK L) kp k 108 [.v (.one (.c (C.row 25 x0))), .v (.one (.c (C.row 25 x1))), .fn 102] [1, 1, 0, 1, 0] [m0] ⟨[(1, .one (.c (C.row 25 x1))), (2, .fn 102), (15, .one (.c (C.row 25 x0))), (16, .one (.c (C.int .i64 (x0.length : Int)))), (17, .one (.c (C.int .i64 v3)))], [], 193, 32⟩ api_Path_4_d
noncomputable def kind_Whole_b (L : Lv) (k : Nat) (x0_0 x0_1 x0_2 : LL) (x0_3 x0_4 x0_5 : Int) (x0_6 x0_7 x1 : LL) : Option LL := bodyK noEq Try.prog (orK L) kp k 16 [.v (.agg [.c (C.row 25 x0_0), .c (C.row 39 x0_1), .c (C.row 3 x0_2), .c (C.int .i64 x0_3), .c (C.int .i64 x0_4), .c (C.int .i64 x0_5), .c (C.row 83 x0_6), .c (C.row 66 x0_7)]), .v (.one (.c (C.row 30 x1)))] kind_Whole_d
noncomputable def kind_Whole_l0 (L : Lv) (k : Nat) (x0_0 x0_1 x0_2 : LL) (x0_3 x0_4 x0_5 : Int) (x0_6 x0_7 x1 : LL) (m0 : Nat) (v1 v2 : Int) (v11 v12 : LL) : Option LL := headK noEq Try.prog (orK L) kp k 16 [.v (.agg [.c (C.row 25 x0_0), .c (C.row 39 x0_1), .c (C.row 3 x0_2), .c (C.int .i64 x0_3), .c (C.int .i64 x0_4), .c (C.int .i64 x0_5), .c (C.row 83 x0_6), .c (C.row 66 x0_7)]), .v (.one (.c (C.row 30 x1)))] [1, 1, 1, 1, 1, 0, 1, 0] [m0] ⟨[(1, .one (.c (C.row 30 x1))), (2, .one (.ptr 128 0)), (5, .one (.arr 129)), (6, .one (.c (C.int .i64 v1))), (7, .one (.arr 130)), (8, .one (.c (C.int .i64 v2)))], [(128, .box 41 [.c (C.row 25 x0_0), .c (C.row 39 x0_1), .c (C.row 3 x0_2), .c (C.int .i64 x0_3), .c (C.int .i64 x0_4), .c (C.int .i64 x0_5), .c (C.row 83 x0_6), .c (C.row 66 x0_7)]), (129, .arr 44 false v11), (130, .arr 44 false v12)], 132, 82⟩ kind_Whole_d
noncomputable def kind_Whole_l1 (L : Lv) (k : Nat) (x0_0 x0_1 x0_2 : LL) (x0_3 x0_4 x0_5 : Int) (x0_6 x0_7 x1 : LL) (m0 : Nat) (v1 : Int) (v3 : Nat) (v4 v5 : Int) (v14 v15 : LL) (v16 v17 : Bool) (v18 : ByteArray) : Option LL := headK noEq Try.prog (orK L) kp k 16 [.v (.agg [.c (C.row 25 x0_0), .c (C.row 39 x0_1), .c (C.row 3 x0_2), .c (C.int .i64 x0_3), .c (C.int .i64 x0_4), .c (C.int .i64 x0_5), .c (C.row 83 x0_6), .c (C.row 66 x0_7)]), .v (.one (.c (C.row 30 x1)))] [1, 1, 1, 1, 1, 0, 1, 0, 0, 1, 0, 0, 1, 1, 1, 1, 1, 0] [m0] ⟨[(1, .one (.c (C.row 30 x1))), (2, .one (.ptr 128 0)), (5, .one (.arr 129)), (6, .one (.c (C.int .i64 v1))), (7, .one (.sub 130 0 v3)), (8, .one (.c (C.int .i64 v4))), (9, .one (.c (C.int .i64 v5))), (10, .one (.ptr 131 0))], [(128, .box 41 [.c (C.row 25 x0_0), .c (C.row 39 x0_1), .c (C.row 3 x0_2), .c (C.int .i64 x0_3), .c (C.int .i64 x0_4), .c (C.int .i64 x0_5), .c (C.row 83 x0_6), .c (C.row 66 x0_7)]), (129, .arr 44 false v14), (130, .arr 44 false v15), (131, .box 44 [.c (C.bool v16), .c (C.bool v17), .c (C.str v18)])], 133, 82⟩ kind_Whole_d
noncomputable def kind_Whole_l2 (L : Lv) (k : Nat) (x0_0 x0_1 x0_2 : LL) (x0_3 x0_4 x0_5 : Int) (x0_6 x0_7 x1 : LL) (m0 : Nat) (v1 v2 v3 : Int) (v12 v13 : LL) : Option LL := headK noEq Try.prog (orK L) kp k 16 [.v (.agg [.c (C.row 25 x0_0), .c (C.row 39 x0_1), .c (C.row 3 x0_2), .c (C.int .i64 x0_3), .c (C.int .i64 x0_4), .c (C.int .i64 x0_5), .c (C.row 83 x0_6), .c (C.row 66 x0_7)]), .v (.one (.c (C.row 30 x1)))] [1, 1, 1, 1, 1, 0, 1, 0, 0, 1, 0, 0, 1, 1, 1, 1, 1, 0] [m0] ⟨[(1, .one (.c (C.row 30 x1))), (2, .one (.ptr 128 0)), (5, .one (.arr 129)), (6, .one (.c (C.int .i64 v1))), (7, .one (.arr 130)), (8, .one (.c (C.int .i64 v2))), (9, .one (.c (C.int .i64 v3))), (10, .one (.ptr 131 0))], [(128, .box 41 [.c (C.row 25 x0_0), .c (C.row 39 x0_1), .c (C.row 3 x0_2), .c (C.int .i64 x0_3), .c (C.int .i64 x0_4), .c (C.int .i64 x0_5), .c (C.row 83 x0_6), .c (C.row 66 x0_7)]), (129, .arr 44 false v12), (130, .arr 44 false v13), (131, .box 44 [.c (C.bool false), .c (C.bool false), .c (C.str (⟨#[]⟩ : ByteArray))])], 133, 82⟩ kind_Whole_d
noncomputable def kind_Whole_l3 (L : Lv) (k : Nat) (x0_0 x0_1 x0_2 : LL) (x0_3 x0_4 x0_5 : Int) (x0_6 x0_7 x1 : LL) (m0 : Nat) (v1 : Int) (v3 : Nat) (v4 : Int) (v13 v14 : LL) : Option LL := headK noEq Try.prog (orK L) kp k 16 [.v (.agg [.c (C.row 25 x0_0), .c (C.row 39 x0_1), .c (C.row 3 x0_2), .c (C.int .i64 x0_3), .c (C.int .i64 x0_4), .c (C.int .i64 x0_5), .c (C.row 83 x0_6), .c (C.row 66 x0_7)]), .v (.one (.c (C.row 30 x1)))] [1, 1, 1, 1, 1, 0, 1, 0] [m0] ⟨[(1, .one (.c (C.row 30 x1))), (2, .one (.ptr 128 0)), (5, .one (.arr 129)), (6, .one (.c (C.int .i64 v1))), (7, .one (.sub 130 0 v3)), (8, .one (.c (C.int .i64 v4)))], [(128, .box 41 [.c (C.row 25 x0_0), .c (C.row 39 x0_1), .c (C.row 3 x0_2), .c (C.int .i64 x0_3), .c (C.int .i64 x0_4), .c (C.int .i64 x0_5), .c (C.row 83 x0_6), .c (C.row 66 x0_7)]), (129, .arr 44 false v13), (130, .arr 44 false v14)], 132, 82⟩ kind_Whole_d
noncomputable def kind_maker_leads_b (L : Lv) (k : Nat) (x0_0 x0_1 x0_2 : LL) (x0_3 x0_4 x0_5 : Int) (x0_6 x0_7 : LL) (x0_8 : Int) (x0_9 x0_10 : ByteArray) (x0_11 : LL) (x0_12 : ByteArray) (x0_13 x0_14 : Bool) (x0_15 : ByteArray) (x0_16 x0_17 : Bool) (x0_18 : ByteArray) (x0_19 : LL) (x1 x2_0 x2_1 x2_2 x2_3 : Int) (x3 : LL) : Option (Bool × LL × LL × LL × Int × Int × Int × LL × LL × Int × ByteArray × ByteArray × LL × ByteArray × Bool × Bool × ByteArray × Bool × Bool × ByteArray × LL) := bodyK noEq Try.prog (orK L) kp k 55 [.ref 79 [.d (C.row 25 x0_0), .d (C.row 39 x0_1), .d (C.row 3 x0_2), .d (C.int .i64 x0_3), .d (C.int .i64 x0_4), .d (C.int .i64 x0_5), .d (C.row 83 x0_6), .d (C.row 66 x0_7), .d (C.int .i64 x0_8), .d (C.str x0_9), .d (C.str x0_10), .d (C.row 86 x0_11), .d (C.str x0_12), .d (C.bool x0_13), .d (C.bool x0_14), .d (C.str x0_15), .d (C.bool x0_16), .d (C.bool x0_17), .d (C.str x0_18), .own 5 x0_19] 0, .v (.one (.c (C.int .i64 x1))), .v (.agg [.c (C.int .i64 x2_0), .c (C.int .i64 x2_1), .c (C.int .i64 x2_2), .c (C.int .i64 x2_3)]), .v (.one (.c (C.row 4 x3)))] kind_maker_leads_d
noncomputable def api_Filter_5_b (L : Lv) (k : Nat) (x0 x1 : LL) : Option Bool := bodyK noEq Try.prog (orK L) kp k 109 [.v (.one (.c (C.row 66 x0))), .v (.one (.c (C.row 66 x1))), .fn 110] api_Filter_5_d
noncomputable def api_Filter_5_l0 (L : Lv) (k : Nat) (x0 x1 : LL) (m0 : Nat) (v3 : Int) : Option Bool := headK noEq Try.prog (orK L) kp k 109 [.v (.one (.c (C.row 66 x0))), .v (.one (.c (C.row 66 x1))), .fn 110] [1, 1, 0, 1, 0] [m0] ⟨[(1, .one (.c (C.row 66 x1))), (2, .fn 110), (15, .one (.c (C.row 66 x0))), (16, .one (.c (C.int .i64 (x0.length : Int)))), (17, .one (.c (C.int .i64 v3)))], [], 193, 32⟩ api_Filter_5_d
noncomputable def word_Whole_b (L : Lv) (k : Nat) (x0 : LL) : Option Bool := bodyK noEq Try.prog (orK L) kp k 39 [.v (.one (.c (C.row 30 x0)))] word_Whole_d
noncomputable def kind_good_b (L : Lv) (k : Nat) (x0_0 x0_1 : Bool) (x0_2 : ByteArray) (x1 : Int) : Option Bool := bodyK noEq Try.prog (orK L) kp k 71 [.v (.agg [.c (C.bool x0_0), .c (C.bool x0_1), .c (C.str x0_2)]), .v (.one (.c (C.int .i64 x1)))] kind_good_d
noncomputable def path_sameFilter_b (L : Lv) (k : Nat) (x0_0 : Int) (x0_1 x0_2 x0_3 : ByteArray) (x0_4 x0_5 : LL) (x1_0 : Int) (x1_1 x1_2 x1_3 : ByteArray) (x1_4 x1_5 : LL) : Option Bool := bodyK noEq Try.prog (orK L) kp k 110 [.v (.agg [.c (C.int .i64 x0_0), .c (C.str x0_1), .c (C.str x0_2), .c (C.str x0_3), .c (C.row 66 x0_4), .c (C.row 25 x0_5)]), .v (.agg [.c (C.int .i64 x1_0), .c (C.str x1_1), .c (C.str x1_2), .c (C.str x1_3), .c (C.row 66 x1_4), .c (C.row 25 x1_5)])] path_sameFilter_d
noncomputable def word_Begins_b (L : Lv) (k : Nat) (x0 : LL) : Option Bool := bodyK noEq Try.prog (orK L) kp k 56 [.v (.one (.c (C.row 30 x0)))] word_Begins_d
noncomputable def word_Begins_l0 (L : Lv) (k : Nat) (x0 : LL) (m0 : Nat) (v1 v4 : Int) : Option Bool := headK noEq Try.prog (orK L) kp k 56 [.v (.one (.c (C.row 30 x0)))] [1, 1, 0, 1, 0] [m0] ⟨[(0, .one (.c (C.row 30 x0))), (3, .one (.c (C.int .i64 v1))), (6, .one (.c (C.row 30 x0))), (7, .one (.c (C.int .i64 (x0.length : Int)))), (8, .one (.c (C.int .i64 v4)))], [], 65, 60⟩ word_Begins_d
noncomputable def word_Begins_l1 (L : Lv) (k : Nat) (x0 : LL) (m0 : Nat) (v1 v4 v5 : Int) : Option Bool := headK noEq Try.prog (orK L) kp k 56 [.v (.one (.c (C.row 30 x0)))] [1, 1, 0, 1, 0, 0, 1, 1, 0, 0, 1, 1, 0, 1, 0, 0] [m0] ⟨[(0, .one (.c (C.row 30 x0))), (3, .one (.c (C.int .i64 v1))), (6, .one (.c (C.row 30 x0))), (7, .one (.c (C.int .i64 (x0.length : Int)))), (8, .one (.c (C.int .i64 v4))), (48, .one (.c (C.int .i64 v5)))], [], 65, 60⟩ word_Begins_d
noncomputable def word_Right_b (L : Lv) (k : Nat) (x0_0 : Int) (x0_1 x0_2 : ByteArray) (x0_3 : LL) (x0_4 : ByteArray) : Option Bool := bodyK noEq Try.prog (orK L) kp k 72 [.v (.agg [.c (C.int .i64 x0_0), .c (C.str x0_1), .c (C.str x0_2), .c (C.row 86 x0_3), .c (C.str x0_4)])] word_Right_d
noncomputable def word_named_b (L : Lv) (k : Nat) (x0_0 x0_1 : ByteArray) : Option Bool := bodyK noEq Try.prog (orK L) kp k 87 [.v (.agg [.c (C.str x0_0), .c (C.str x0_1)])] word_named_d
noncomputable def word_text_b (L : Lv) (k : Nat) (x0 : ByteArray) : Option Bool := bodyK noEq Try.prog (orK L) kp k 89 [.v (.one (.c (C.str x0)))] word_text_d
noncomputable def name_Plain_b (L : Lv) (k : Nat) (x0 : ByteArray) : Option Bool := bodyK noEq Try.prog (orK L) kp k 97 [.v (.one (.c (C.str x0)))] name_Plain_d
noncomputable def name_Plain_l0 (L : Lv) (k : Nat) (x0 : ByteArray) (m0 v2 : Nat) : Option Bool := headK noEq Try.prog (orK L) kp k 97 [.v (.one (.c (C.str x0)))] [1, 0, 1, 0] [m0] ⟨[(0, .one (.c (C.str x0))), (6, .itr 64)], [(64, .iter x0 v2)], 66, 25⟩ name_Plain_d
noncomputable def utf_All_b (L : Lv) (k : Nat) (x0 : ByteArray) : Option (LL × Int × Int) := bodyK noEq Try.prog (orK L) kp k 98 [.v (.one (.c (C.str x0)))] utf_All_d
noncomputable def utf_All_l0 (L : Lv) (k : Nat) (x0 : ByteArray) (m0 : Nat) : Option (LL × Int × Int) := headK noEq Try.prog (orK L) kp k 98 [.v (.one (.c (C.str x0)))] [1, 1, 1, 0, 0] [m0] ⟨[(0, .one (.c (C.str x0))), (5, .one (.c (C.nil 21))), (6, .one (.c (C.int .i64 0)))], [], 65, 35⟩ utf_All_d
noncomputable def utf_All_l1 (L : Lv) (k : Nat) (x0 : ByteArray) (m0 : Nat) (v1 : Int) (v2 : LL) : Option (LL × Int × Int) := headK noEq Try.prog (orK L) kp k 98 [.v (.one (.c (C.str x0)))] [1, 1, 1, 0, 0] [m0] ⟨[(0, .one (.c (C.str x0))), (5, .one (.arr 64)), (6, .one (.c (C.int .i64 v1)))], [(64, .arr 21 false v2)], 66, 35⟩ utf_All_d
noncomputable def char_Start_b (L : Lv) (k : Nat) (x0 : Int) : Option Bool := bodyK noEq Try.prog (orK L) kp k 103 [.v (.one (.c (C.int .i32 x0)))] char_Start_d
noncomputable def utf_Rune_b (L : Lv) (k : Nat) (x0 : ByteArray) (x1 : Int) : Option (Int × Int × Int) := bodyK noEq Try.prog (orK L) kp k 105 [.v (.one (.c (C.str x0))), .v (.one (.c (C.int .i64 x1)))] utf_Rune_d
noncomputable def utf_Rune_l0 (L : Lv) (k : Nat) (x0 : ByteArray) (x1 : Int) (m0 : Nat) (v2 v3 v4 v5 v6 v7 v8 v9 v10 v11 v12 v13 v14 : Int) : Option (Int × Int × Int) := headK noEq Try.prog (orK L) kp k 105 [.v (.one (.c (C.str x0))), .v (.one (.c (C.int .i64 x1)))] [1, 1, 0, 1, 0] [m0] ⟨[(0, .one (.c (C.str x0))), (1, .one (.c (C.int .i64 x1))), (21, .agg [.c (C.int .u8 v2), .c (C.int .u8 v3), .c (C.int .i32 v4), .c (C.int .u8 v5), .c (C.int .u8 v6), .c (C.int .i32 v7), .c (C.int .u8 v8), .c (C.int .u8 v9), .c (C.int .i32 v10), .c (C.int .u8 v11), .c (C.int .u8 v12), .c (C.int .i32 v13)]), (22, .one (.c (C.int .i64 v14)))], [], 129, 115⟩ utf_Rune_d
noncomputable def utf_Rune_l1 (L : Lv) (k : Nat) (x0 : ByteArray) (x1 : Int) (m0 : Nat) (v2 v3 v4 v5 v6 v7 v8 v9 v10 v11 v12 v13 v14 v15 v16 v17 v18 : Int) : Option (Int × Int × Int) := headK noEq Try.prog (orK L) kp k 105 [.v (.one (.c (C.str x0))), .v (.one (.c (C.int .i64 x1)))] [1, 1, 0, 1, 0, 0, 1, 1, 0, 0, 1, 0, 0] [m0] ⟨[(0, .one (.c (C.str x0))), (1, .one (.c (C.int .i64 x1))), (7, .one (.c (C.int .i64 v2))), (8, .one (.ptr 128 0)), (21, .agg [.c (C.int .u8 v3), .c (C.int .u8 v4), .c (C.int .i32 v5), .c (C.int .u8 v6), .c (C.int .u8 v7), .c (C.int .i32 v8), .c (C.int .u8 v9), .c (C.int .u8 v10), .c (C.int .i32 v11), .c (C.int .u8 v12), .c (C.int .u8 v13), .c (C.int .i32 v14)]), (22, .one (.c (C.int .i64 v15)))], [(128, .box 158 [.c (C.int .u8 v16), .c (C.int .u8 v17), .c (C.int .i32 v18)])], 130, 115⟩ utf_Rune_d
noncomputable def utf_Rune_l2 (L : Lv) (k : Nat) (x0 : ByteArray) (x1 : Int) (m0 m1 : Nat) (v2 v3 v4 v5 v6 v7 : Int) : Option (Int × Int × Int) := headK noEq Try.prog (orK L) kp k 105 [.v (.one (.c (C.str x0))), .v (.one (.c (C.int .i64 x1)))] [1, 1, 0, 1, 0, 0, 1, 1, 0, 0, 1, 1, 1, 1, 0, 0] [m0, m1] ⟨[(0, .one (.c (C.str x0))), (1, .one (.c (C.int .i64 x1))), (7, .one (.c (C.int .i64 v2))), (8, .one (.ptr 128 0)), (9, .one (.c (C.int .i32 v3))), (10, .one (.c (C.int .i64 v4)))], [(128, .box 158 [.c (C.int .u8 v5), .c (C.int .u8 v6), .c (C.int .i32 v7)])], 130, 115⟩ utf_Rune_d
noncomputable def utf_Rune_l3 (L : Lv) (k : Nat) (x0 : ByteArray) (x1 : Int) (m0 : Nat) (v2 v3 v4 v5 v6 v7 : Int) : Option (Int × Int × Int) := headK noEq Try.prog (orK L) kp k 105 [.v (.one (.c (C.str x0))), .v (.one (.c (C.int .i64 x1)))] [1, 1, 0, 1, 0, 0, 1, 1, 0, 0, 1, 1, 1, 1, 1, 0] [m0] ⟨[(0, .one (.c (C.str x0))), (1, .one (.c (C.int .i64 x1))), (7, .one (.c (C.int .i64 v2))), (8, .one (.ptr 128 0)), (9, .one (.c (C.int .i32 v3))), (10, .one (.c (C.int .i64 v4)))], [(128, .box 158 [.c (C.int .u8 v5), .c (C.int .u8 v6), .c (C.int .i32 v7)])], 130, 115⟩ utf_Rune_d
noncomputable def char_in_b (L : Lv) (k : Nat) (x0 : Int) (x1 : LL) : Option Bool := bodyK noEq Try.prog (orK L) kp k 107 [.v (.one (.c (C.int .i32 x0))), .v (.one (.c (C.row 153 x1)))] char_in_d
noncomputable def char_in_l0 (L : Lv) (k : Nat) (x0 : Int) (x1 : LL) (m0 : Nat) (v3 : Int) : Option Bool := headK noEq Try.prog (orK L) kp k 107 [.v (.one (.c (C.int .i32 x0))), .v (.one (.c (C.row 153 x1)))] [1, 0, 1, 0] [m0] ⟨[(0, .one (.c (C.int .i32 x0))), (7, .one (.c (C.row 153 x1))), (8, .one (.c (C.int .i64 (x1.length : Int)))), (9, .one (.c (C.int .i64 v3)))], [], 129, 24⟩ char_in_d
noncomputable def utf_forms_b (L : Lv) (k : Nat) : Option (Int × Int × Int × Int × Int × Int × Int × Int × Int × Int × Int × Int) := bodyK noEq Try.prog (orK L) kp k 111 [] utf_forms_d
noncomputable def word_Nodes_b (L : Lv) (k : Nat) (x0 : LL) : Option LL := bodyK noEq Try.prog (orK L) kp k 40 [.v (.one (.c (C.row 30 x0)))] word_Nodes_d
noncomputable def word_Nodes_l0 (L : Lv) (k : Nat) (x0 : LL) (m0 : Nat) (v2 : Int) : Option LL := headK noEq Try.prog (orK L) kp k 40 [.v (.one (.c (C.row 30 x0)))] [1, 1, 1, 0, 1, 0] [m0] ⟨[(3, .one (.c (C.nil 3))), (9, .one (.c (C.row 30 x0))), (10, .one (.c (C.int .i64 (x0.length : Int)))), (11, .one (.c (C.int .i64 v2)))], [], 65, 25⟩ word_Nodes_d
noncomputable def word_Nodes_l1 (L : Lv) (k : Nat) (x0 : LL) (m0 : Nat) (v2 : Int) (v3 : LL) : Option LL := headK noEq Try.prog (orK L) kp k 40 [.v (.one (.c (C.row 30 x0)))] [1, 1, 1, 0, 1, 0] [m0] ⟨[(3, .one (.arr 64)), (9, .one (.c (C.row 30 x0))), (10, .one (.c (C.int .i64 (x0.length : Int)))), (11, .one (.c (C.int .i64 v2)))], [(64, .arr 3 false v3)], 66, 25⟩ word_Nodes_d
noncomputable def word_Depth_b (L : Lv) (k : Nat) (x0 : LL) : Option Int := bodyK noEq Try.prog (orK L) kp k 57 [.v (.one (.c (C.row 30 x0)))] word_Depth_d
noncomputable def word_Depth_l0 (L : Lv) (k : Nat) (x0 : LL) (m0 : Nat) (v0 v3 : Int) : Option Int := headK noEq Try.prog (orK L) kp k 57 [.v (.one (.c (C.row 30 x0)))] [1, 1, 1, 0, 1, 0] [m0] ⟨[(3, .one (.c (C.int .i64 v0))), (9, .one (.c (C.row 30 x0))), (10, .one (.c (C.int .i64 (x0.length : Int)))), (11, .one (.c (C.int .i64 v3)))], [], 65, 27⟩ word_Depth_d
noncomputable def char_All_b (L : Lv) (k : Nat) (x0 : ByteArray) : Option Bool := bodyK noEq Try.prog (orK L) kp k 99 [.v (.one (.c (C.str x0))), .v (.one (.c (C.row 147 [[C.fn (some 100)]])))] char_All_d
noncomputable def char_All_l0 (L : Lv) (k : Nat) (x0 : ByteArray) (m0 v1 : Nat) : Option Bool := headK noEq Try.prog (orK L) kp k 99 [.v (.one (.c (C.str x0))), .v (.one (.c (C.row 147 [[C.fn (some 100)]])))] [1, 0, 1, 0] [m0] ⟨[(1, .one (.c (C.row 147 [[C.fn (some 100)]]))), (11, .itr 128)], [(128, .iter x0 v1)], 130, 30⟩ char_All_d
noncomputable def char_All_l1 (L : Lv) (k : Nat) (x0 : ByteArray) (m0 m1 : Nat) (v0 : Int) (v1 : Bool) (v3 : Int) (v5 : Nat) : Option Bool := headK noEq Try.prog (orK L) kp k 99 [.v (.one (.c (C.str x0))), .v (.one (.c (C.row 147 [[C.fn (some 100)]])))] [1, 0, 1, 0, 0, 1, 1, 0, 1, 1, 0, 1, 0] [m0, m1] ⟨[(1, .one (.c (C.row 147 [[C.fn (some 100)]]))), (6, .one (.c (C.int .i32 v0))), (7, .one (.c (C.bool v1))), (11, .itr 128), (15, .one (.c (C.row 147 [[C.fn (some 100)]]))), (16, .one (.c (C.int .i64 1))), (17, .one (.c (C.int .i64 v3)))], [(128, .iter x0 v5)], 130, 30⟩ char_All_d
noncomputable def utf_span_b (L : Lv) (k : Nat) (x0 x1 : Int) : Option (Int × Int) := bodyK noEq Try.prog (orK L) kp k 112 [.v (.one (.c (C.int .i32 x0))), .v (.one (.c (C.int .i64 x1)))] utf_span_d
noncomputable def char_Char_b (L : Lv) (k : Nat) (x0 : Int) : Option Bool := bodyK noEq Try.prog (orK L) kp k 100 [.v (.one (.c (C.int .i32 x0)))] char_Char_d
noncomputable def char_Blank_b (L : Lv) (k : Nat) (x0 : Int) : Option Bool := bodyK noEq Try.prog (orK L) kp k 106 [.v (.one (.c (C.int .i32 x0)))] char_Blank_d
noncomputable def kind_Arrive_b (L : Lv) (k : Nat) (x0_0 x0_1 x0_2 : LL) (x0_3 x0_4 x0_5 : Int) (x0_6 x0_7 : LL) (x1_0 x1_1 x1_2 : Int) (x1_3 x1_4 : LL) (x2_0 : Int) (x2_1 x2_2 : ByteArray) (x2_3 : LL) (x2_4 : ByteArray) (x3_0 x3_1 : Bool) (x3_2 : ByteArray) (x4 : LL) : Option LL := bodyK noEq Try.prog (orK L) kp k 20 [.v (.agg [.c (C.row 25 x0_0), .c (C.row 39 x0_1), .c (C.row 3 x0_2), .c (C.int .i64 x0_3), .c (C.int .i64 x0_4), .c (C.int .i64 x0_5), .c (C.row 83 x0_6), .c (C.row 66 x0_7)]), .v (.agg [.c (C.int .i64 x1_0), .c (C.int .i64 x1_1), .c (C.int .i64 x1_2), .c (C.row 83 x1_3), .c (C.row 66 x1_4)]), .v (.agg [.c (C.int .i64 x2_0), .c (C.str x2_1), .c (C.str x2_2), .c (C.row 86 x2_3), .c (C.str x2_4)]), .v (.agg [.c (C.bool x3_0), .c (C.bool x3_1), .c (C.str x3_2)]), .v (.one (.c (C.row 4 x4)))] kind_Arrive_d
noncomputable def kind_Arrive_l0 (L : Lv) (k : Nat) (x0_0 x0_1 x0_2 : LL) (x0_3 x0_4 x0_5 : Int) (x0_6 x0_7 : LL) (x1_0 x1_1 x1_2 : Int) (x1_3 x1_4 : LL) (x2_0 : Int) (x2_1 x2_2 : ByteArray) (x2_3 : LL) (x2_4 : ByteArray) (x3_0 x3_1 : Bool) (x3_2 : ByteArray) (x4 : LL) (m0 : Nat) (v0 : Bool) (v6 v7 : LL) : Option LL := headK noEq Try.prog (orK L) kp k 20 [.v (.agg [.c (C.row 25 x0_0), .c (C.row 39 x0_1), .c (C.row 3 x0_2), .c (C.int .i64 x0_3), .c (C.int .i64 x0_4), .c (C.int .i64 x0_5), .c (C.row 83 x0_6), .c (C.row 66 x0_7)]), .v (.agg [.c (C.int .i64 x1_0), .c (C.int .i64 x1_1), .c (C.int .i64 x1_2), .c (C.row 83 x1_3), .c (C.row 66 x1_4)]), .v (.agg [.c (C.int .i64 x2_0), .c (C.str x2_1), .c (C.str x2_2), .c (C.row 86 x2_3), .c (C.str x2_4)]), .v (.agg [.c (C.bool x3_0), .c (C.bool x3_1), .c (C.str x3_2)]), .v (.one (.c (C.row 4 x4)))] [1, 1, 1, 0, 1, 0] [m0] ⟨[(6, .one (.ptr 320 0)), (11, .one (.arr 321)), (12, .one (.arr 322)), (13, .one (.c (C.bool v0)))], [(320, .box 39 [.c (C.int .i64 x1_0), .c (C.int .i64 x1_1), .c (C.int .i64 x1_2), .c (C.row 83 x1_3), .c (C.row 66 x1_4)]), (321, .arr 4 false v6), (322, .arr 4 false v7)], 324, 72⟩ kind_Arrive_d
noncomputable def kind_Arrive_l1 (L : Lv) (k : Nat) (x0_0 x0_1 x0_2 : LL) (x0_3 x0_4 x0_5 : Int) (x0_6 x0_7 : LL) (x1_0 x1_1 x1_2 : Int) (x1_3 x1_4 : LL) (x2_0 : Int) (x2_1 x2_2 : ByteArray) (x2_3 : LL) (x2_4 : ByteArray) (x3_0 x3_1 : Bool) (x3_2 : ByteArray) (x4 : LL) (m0 m1 : Nat) (v0 : Bool) (v3 : Int) (v9 v10 : LL) : Option LL := headK noEq Try.prog (orK L) kp k 20 [.v (.agg [.c (C.row 25 x0_0), .c (C.row 39 x0_1), .c (C.row 3 x0_2), .c (C.int .i64 x0_3), .c (C.int .i64 x0_4), .c (C.int .i64 x0_5), .c (C.row 83 x0_6), .c (C.row 66 x0_7)]), .v (.agg [.c (C.int .i64 x1_0), .c (C.int .i64 x1_1), .c (C.int .i64 x1_2), .c (C.row 83 x1_3), .c (C.row 66 x1_4)]), .v (.agg [.c (C.int .i64 x2_0), .c (C.str x2_1), .c (C.str x2_2), .c (C.row 86 x2_3), .c (C.str x2_4)]), .v (.agg [.c (C.bool x3_0), .c (C.bool x3_1), .c (C.str x3_2)]), .v (.one (.c (C.row 4 x4)))] [1, 1, 1, 0, 1, 0, 0, 1, 0, 1, 1, 0] [m0, m1] ⟨[(6, .one (.ptr 320 0)), (11, .one (.arr 321)), (12, .one (.arr 322)), (13, .one (.c (C.bool v0))), (29, .one (.c (C.row 83 x1_3))), (30, .one (.c (C.int .i64 (x1_3.length : Int)))), (31, .one (.c (C.int .i64 v3)))], [(320, .box 39 [.c (C.int .i64 x1_0), .c (C.int .i64 x1_1), .c (C.int .i64 x1_2), .c (C.row 83 x1_3), .c (C.row 66 x1_4)]), (321, .arr 4 false v9), (322, .arr 4 false v10)], 324, 72⟩ kind_Arrive_d
noncomputable def kind_Arrive_l2 (L : Lv) (k : Nat) (x0_0 x0_1 x0_2 : LL) (x0_3 x0_4 x0_5 : Int) (x0_6 x0_7 : LL) (x1_0 x1_1 x1_2 : Int) (x1_3 x1_4 : LL) (x2_0 : Int) (x2_1 x2_2 : ByteArray) (x2_3 : LL) (x2_4 : ByteArray) (x3_0 x3_1 : Bool) (x3_2 : ByteArray) (x4 : LL) (m0 m1 : Nat) (v0 v1 : Bool) (v4 : Int) (v10 v11 : LL) (v12 v13 v14 v15 : Int) : Option LL := headK noEq Try.prog (orK L) kp k 20 [.v (.agg [.c (C.row 25 x0_0), .c (C.row 39 x0_1), .c (C.row 3 x0_2), .c (C.int .i64 x0_3), .c (C.int .i64 x0_4), .c (C.int .i64 x0_5), .c (C.row 83 x0_6), .c (C.row 66 x0_7)]), .v (.agg [.c (C.int .i64 x1_0), .c (C.int .i64 x1_1), .c (C.int .i64 x1_2), .c (C.row 83 x1_3), .c (C.row 66 x1_4)]), .v (.agg [.c (C.int .i64 x2_0), .c (C.str x2_1), .c (C.str x2_2), .c (C.row 86 x2_3), .c (C.str x2_4)]), .v (.agg [.c (C.bool x3_0), .c (C.bool x3_1), .c (C.str x3_2)]), .v (.one (.c (C.row 4 x4)))] [1, 1, 1, 0, 1, 0, 0, 1, 0, 1, 1, 0, 0, 1, 1, 0, 0, 1, 1, 0] [m0, m1] ⟨[(6, .one (.ptr 320 0)), (11, .one (.arr 321)), (12, .one (.arr 322)), (13, .one (.c (C.bool v0))), (15, .one (.ptr 323 0)), (16, .one (.c (C.bool v1))), (29, .one (.c (C.row 83 x1_3))), (30, .one (.c (C.int .i64 (x1_3.length : Int)))), (31, .one (.c (C.int .i64 v4)))], [(320, .box 39 [.c (C.int .i64 x1_0), .c (C.int .i64 x1_1), .c (C.int .i64 x1_2), .c (C.row 83 x1_3), .c (C.row 66 x1_4)]), (321, .arr 4 false v10), (322, .arr 4 false v11), (323, .box 83 [.c (C.int .i64 v12), .c (C.int .i64 v13), .c (C.int .i64 v14), .c (C.int .i64 v15)])], 325, 72⟩ kind_Arrive_d
noncomputable def word_attrs_b (L : Lv) (k : Nat) (x0 : LL) : Option Bool := bodyK noEq Try.prog (orK L) kp k 88 [.v (.one (.c (C.row 86 x0)))] word_attrs_d
noncomputable def word_attrs_l0 (L : Lv) (k : Nat) (x0 : LL) (m0 : Nat) : Option Bool := headK noEq Try.prog (orK L) kp k 88 [.v (.one (.c (C.row 86 x0)))] [1, 1, 0, 1, 0] [m0] ⟨[(0, .one (.c (C.row 86 x0))), (3, .itr 64), (7, .one (.c (C.row 86 x0))), (8, .one (.c (C.int .i64 (x0.length : Int)))), (9, .one (.c (C.int .i64 0)))], [], 65, 36⟩ word_attrs_d
noncomputable def char_Part_b (L : Lv) (k : Nat) (x0 : Int) : Option Bool := bodyK noEq Try.prog (orK L) kp k 104 [.v (.one (.c (C.int .i32 x0)))] char_Part_d
noncomputable def orielref12_Right_b (L : Lv) (k : Nat) (x0_0 : Int) (x0_1 x0_2 : LL) : Option Bool := bodyK noEq Try.prog (orK L) kp k 9 [.v (.agg [.c (C.int .i64 x0_0), .c (C.row 25 x0_1), .c (C.row 66 x0_2)])] orielref12_Right_d
noncomputable def orielref12_Size_b (L : Lv) (k : Nat) (x0_0 : Int) (x0_1 x0_2 : LL) : Option Int := bodyK noEq Try.prog (orK L) kp k 28 [.v (.agg [.c (C.int .i64 x0_0), .c (C.row 25 x0_1), .c (C.row 66 x0_2)])] orielref12_Size_d
noncomputable def orielref12_size_b (L : Lv) (k : Nat) (x0_0 : Int) (x0_1 x0_2 : LL) (x1 : Int) : Option Int := bodyK noEq Try.prog (orK L) kp k 48 [.v (.agg [.c (C.int .i64 x0_0), .c (C.row 25 x0_1), .c (C.row 66 x0_2)]), .v (.one (.c (C.int .i64 x1)))] orielref12_size_d
noncomputable def orielref12_size_l0 (L : Lv) (k : Nat) (x0_0 : Int) (x0_1 x0_2 : LL) (x1 : Int) (m0 : Nat) (v1 v2 : Int) : Option Int := headK noEq Try.prog (orK L) kp k 48 [.v (.agg [.c (C.int .i64 x0_0), .c (C.row 25 x0_1), .c (C.row 66 x0_2)]), .v (.one (.c (C.int .i64 x1)))] [1, 1, 0, 1, 0] [m0] ⟨[(1, .one (.c (C.int .i64 x1))), (2, .one (.ptr 128 0)), (5, .one (.c (C.int .i64 v1))), (6, .one (.c (C.int .i64 v2)))], [(128, .box 25 [.c (C.int .i64 x0_0), .c (C.row 25 x0_1), .c (C.row 66 x0_2)])], 130, 55⟩ orielref12_size_d
noncomputable def orielref12_size_l1 (L : Lv) (k : Nat) (x0_0 : Int) (x0_1 x0_2 : LL) (x1 : Int) (m0 : Nat) (v1 v2 : Int) : Option Int := headK noEq Try.prog (orK L) kp k 48 [.v (.agg [.c (C.int .i64 x0_0), .c (C.row 25 x0_1), .c (C.row 66 x0_2)]), .v (.one (.c (C.int .i64 x1)))] [1, 1, 1, 0, 1, 0] [m0] ⟨[(1, .one (.c (C.int .i64 x1))), (2, .one (.ptr 128 0)), (5, .one (.c (C.int .i64 v1))), (7, .one (.c (C.int .i64 v2)))], [(128, .box 25 [.c (C.int .i64 x0_0), .c (C.row 25 x0_1), .c (C.row 66 x0_2)])], 130, 55⟩ orielref12_size_d
noncomputable def orielref12_sizeFilter_b (L : Lv) (k : Nat) (x0_0 : Int) (x0_1 x0_2 x0_3 : ByteArray) (x0_4 x0_5 : LL) (x1 : Int) : Option Int := bodyK noEq Try.prog (orK L) kp k 64 [.v (.agg [.c (C.int .i64 x0_0), .c (C.str x0_1), .c (C.str x0_2), .c (C.str x0_3), .c (C.row 66 x0_4), .c (C.row 25 x0_5)]), .v (.one (.c (C.int .i64 x1)))] orielref12_sizeFilter_d
noncomputable def orielref12_sizeFilter_l0 (L : Lv) (k : Nat) (x0_0 : Int) (x0_1 x0_2 x0_3 : ByteArray) (x0_4 x0_5 : LL) (x1 : Int) (m0 : Nat) (v1 v2 : Int) : Option Int := headK noEq Try.prog (orK L) kp k 64 [.v (.agg [.c (C.int .i64 x0_0), .c (C.str x0_1), .c (C.str x0_2), .c (C.str x0_3), .c (C.row 66 x0_4), .c (C.row 25 x0_5)]), .v (.one (.c (C.int .i64 x1)))] [1, 1, 0, 1, 0] [m0] ⟨[(1, .one (.c (C.int .i64 x1))), (2, .one (.ptr 128 0)), (5, .one (.c (C.int .i64 v1))), (6, .one (.c (C.int .i64 v2)))], [(128, .box 66 [.c (C.int .i64 x0_0), .c (C.str x0_1), .c (C.str x0_2), .c (C.str x0_3), .c (C.row 66 x0_4), .c (C.row 25 x0_5)])], 130, 55⟩ orielref12_sizeFilter_d
noncomputable def orielref12_sizeFilter_l1 (L : Lv) (k : Nat) (x0_0 : Int) (x0_1 x0_2 x0_3 : ByteArray) (x0_4 x0_5 : LL) (x1 : Int) (m0 : Nat) (v1 v2 : Int) : Option Int := headK noEq Try.prog (orK L) kp k 64 [.v (.agg [.c (C.int .i64 x0_0), .c (C.str x0_1), .c (C.str x0_2), .c (C.str x0_3), .c (C.row 66 x0_4), .c (C.row 25 x0_5)]), .v (.one (.c (C.int .i64 x1)))] [1, 1, 1, 0, 1, 0] [m0] ⟨[(1, .one (.c (C.int .i64 x1))), (2, .one (.ptr 128 0)), (5, .one (.c (C.int .i64 v1))), (7, .one (.c (C.int .i64 v2)))], [(128, .box 66 [.c (C.int .i64 x0_0), .c (C.str x0_1), .c (C.str x0_2), .c (C.str x0_3), .c (C.row 66 x0_4), .c (C.row 25 x0_5)])], 130, 55⟩ orielref12_sizeFilter_d
noncomputable def orielref12_path_b (L : Lv) (k : Nat) (x0_0 : Int) (x0_1 x0_2 : LL) (x1 : Int) : Option Bool := bodyK noEq Try.prog (orK L) kp k 29 [.v (.agg [.c (C.int .i64 x0_0), .c (C.row 25 x0_1), .c (C.row 66 x0_2)]), .v (.one (.c (C.int .i64 x1)))] orielref12_path_d
noncomputable def orielref12_path_l0 (L : Lv) (k : Nat) (x0_0 : Int) (x0_1 x0_2 : LL) (x1 v1 v2 : Int) : Option Bool := headK noEq Try.prog (orK L) kp k 29 [.v (.agg [.c (C.int .i64 x0_0), .c (C.row 25 x0_1), .c (C.row 66 x0_2)]), .v (.one (.c (C.int .i64 x1)))] [1, 1, 1, 1, 1, 1, 0, 0] [] ⟨[(1, .one (.c (C.int .i64 x1))), (2, .one (.ptr 128 0)), (5, .one (.c (C.int .i64 v1))), (6, .one (.c (C.int .i64 v2)))], [(128, .box 25 [.c (C.int .i64 x0_0), .c (C.row 25 x0_1), .c (C.row 66 x0_2)])], 130, 88⟩ orielref12_path_d
noncomputable def orielref12_path_l1 (L : Lv) (k : Nat) (x0_0 : Int) (x0_1 x0_2 : LL) (x1 : Int) (m0 : Nat) (v1 : Int) : Option Bool := headK noEq Try.prog (orK L) kp k 29 [.v (.agg [.c (C.int .i64 x0_0), .c (C.row 25 x0_1), .c (C.row 66 x0_2)]), .v (.one (.c (C.int .i64 x1)))] [1, 1, 1, 1, 1, 1, 1, 0, 1, 0] [m0] ⟨[(1, .one (.c (C.int .i64 x1))), (2, .one (.ptr 128 0)), (7, .one (.c (C.int .i64 v1)))], [(128, .box 25 [.c (C.int .i64 x0_0), .c (C.row 25 x0_1), .c (C.row 66 x0_2)])], 130, 88⟩ orielref12_path_d
noncomputable def orielref12_filter_b (L : Lv) (k : Nat) (x0_0 : Int) (x0_1 x0_2 x0_3 : ByteArray) (x0_4 x0_5 : LL) (x1 : Int) : Option Bool := bodyK noEq Try.prog (orK L) kp k 49 [.v (.agg [.c (C.int .i64 x0_0), .c (C.str x0_1), .c (C.str x0_2), .c (C.str x0_3), .c (C.row 66 x0_4), .c (C.row 25 x0_5)]), .v (.one (.c (C.int .i64 x1)))] orielref12_filter_d
noncomputable def orielref12_filter_l0 (L : Lv) (k : Nat) (x0_0 : Int) (x0_1 x0_2 x0_3 : ByteArray) (x0_4 x0_5 : LL) (x1 : Int) (v1 v2 : Bool) : Option Bool := headK noEq Try.prog (orK L) kp k 49 [.v (.agg [.c (C.int .i64 x0_0), .c (C.str x0_1), .c (C.str x0_2), .c (C.str x0_3), .c (C.row 66 x0_4), .c (C.row 25 x0_5)]), .v (.one (.c (C.int .i64 x1)))] [1, 1, 1, 1, 0, 0] [] ⟨[(1, .one (.c (C.int .i64 x1))), (2, .one (.ptr 128 0)), (5, .one (.c (C.bool v1))), (6, .one (.c (C.bool v2)))], [(128, .box 66 [.c (C.int .i64 x0_0), .c (C.str x0_1), .c (C.str x0_2), .c (C.str x0_3), .c (C.row 66 x0_4), .c (C.row 25 x0_5)])], 130, 144⟩ orielref12_filter_d
noncomputable def orielref12_filter_l1 (L : Lv) (k : Nat) (x0_0 : Int) (x0_1 x0_2 x0_3 : ByteArray) (x0_4 x0_5 : LL) (x1 : Int) (v1 : Bool) : Option Bool := headK noEq Try.prog (orK L) kp k 49 [.v (.agg [.c (C.int .i64 x0_0), .c (C.str x0_1), .c (C.str x0_2), .c (C.str x0_3), .c (C.row 66 x0_4), .c (C.row 25 x0_5)]), .v (.one (.c (C.int .i64 x1)))] [1, 1, 1, 1, 1, 0, 0] [] ⟨[(1, .one (.c (C.int .i64 x1))), (2, .one (.ptr 128 0)), (6, .one (.c (C.bool v1)))], [(128, .box 66 [.c (C.int .i64 x0_0), .c (C.str x0_1), .c (C.str x0_2), .c (C.str x0_3), .c (C.row 66 x0_4), .c (C.row 25 x0_5)])], 130, 144⟩ orielref12_filter_d
noncomputable def orielref12_filter_l2 (L : Lv) (k : Nat) (x0_0 : Int) (x0_1 x0_2 x0_3 : ByteArray) (x0_4 x0_5 : LL) (x1 v1 v2 : Int) : Option Bool := headK noEq Try.prog (orK L) kp k 49 [.v (.agg [.c (C.int .i64 x0_0), .c (C.str x0_1), .c (C.str x0_2), .c (C.str x0_3), .c (C.row 66 x0_4), .c (C.row 25 x0_5)]), .v (.one (.c (C.int .i64 x1)))] [1, 1, 1, 1, 1, 1, 1, 1, 1, 0, 0] [] ⟨[(1, .one (.c (C.int .i64 x1))), (2, .one (.ptr 128 0)), (7, .one (.c (C.int .i64 v1))), (8, .one (.c (C.int .i64 v2)))], [(128, .box 66 [.c (C.int .i64 x0_0), .c (C.str x0_1), .c (C.str x0_2), .c (C.str x0_3), .c (C.row 66 x0_4), .c (C.row 25 x0_5)])], 130, 144⟩ orielref12_filter_d
noncomputable def orielref12_filter_l3 (L : Lv) (k : Nat) (x0_0 : Int) (x0_1 x0_2 x0_3 : ByteArray) (x0_4 x0_5 : LL) (x1 v1 v2 : Int) : Option Bool := headK noEq Try.prog (orK L) kp k 49 [.v (.agg [.c (C.int .i64 x0_0), .c (C.str x0_1), .c (C.str x0_2), .c (C.str x0_3), .c (C.row 66 x0_4), .c (C.row 25 x0_5)]), .v (.one (.c (C.int .i64 x1)))] [1, 1, 1, 1, 1, 1, 1, 1, 1, 1, 0, 0] [] ⟨[(1, .one (.c (C.int .i64 x1))), (2, .one (.ptr 128 0)), (7, .one (.c (C.int .i64 v1))), (8, .one (.c (C.int .i64 v2)))], [(128, .box 66 [.c (C.int .i64 x0_0), .c (C.str x0_1), .c (C.str x0_2), .c (C.str x0_3), .c (C.row 66 x0_4), .c (C.row 25 x0_5)])], 130, 144⟩ orielref12_filter_d
noncomputable def orielref12_filter_l4 (L : Lv) (k : Nat) (x0_0 : Int) (x0_1 x0_2 x0_3 : ByteArray) (x0_4 x0_5 : LL) (x1 : Int) (m0 : Nat) (v1 : Int) : Option Bool := headK noEq Try.prog (orK L) kp k 49 [.v (.agg [.c (C.int .i64 x0_0), .c (C.str x0_1), .c (C.str x0_2), .c (C.str x0_3), .c (C.row 66 x0_4), .c (C.row 25 x0_5)]), .v (.one (.c (C.int .i64 x1)))] [1, 1, 1, 1, 1, 1, 1, 1, 1, 1, 1, 0, 1, 0] [m0] ⟨[(1, .one (.c (C.int .i64 x1))), (2, .one (.ptr 128 0)), (9, .one (.c (C.int .i64 v1)))], [(128, .box 66 [.c (C.int .i64 x0_0), .c (C.str x0_1), .c (C.str x0_2), .c (C.str x0_3), .c (C.row 66 x0_4), .c (C.row 25 x0_5)])], 130, 144⟩ orielref12_filter_d
noncomputable def orielref12_named_b (L : Lv) (k : Nat) (x0_0 x0_1 : ByteArray) : Option Bool := bodyK noEq Try.prog (orK L) kp k 65 [.v (.agg [.c (C.str x0_0), .c (C.str x0_1)])] orielref12_named_d
noncomputable def orielref04_Right_b (L : Lv) (k : Nat) (x0 : ByteArray) : Option Bool := bodyK noEq Try.prog (orK L) kp k 50 [.v (.one (.c (C.str x0)))] orielref04_Right_d
noncomputable def orielref04_Right_l0 (L : Lv) (k : Nat) (x0 : ByteArray) (m0 : Nat) (v0 v1 : Int) (v2 : LL) : Option Bool := headK noEq Try.prog (orK L) kp k 50 [.v (.one (.c (C.str x0)))] [1, 1, 0, 1, 0] [m0] ⟨[(3, .one (.arr 64)), (5, .one (.c (C.int .i64 v0))), (6, .one (.c (C.int .i64 v1)))], [(64, .arr 21 false v2)], 66, 28⟩ orielref04_Right_d
noncomputable def orielref03_Plain_b (L : Lv) (k : Nat) (x0 : ByteArray) : Option Bool := bodyK noEq Try.prog (orK L) kp k 68 [.v (.one (.c (C.str x0)))] orielref03_Plain_d
noncomputable def orielref03_Plain_l0 (L : Lv) (k : Nat) (x0 : ByteArray) (m0 : Nat) (v1 : Int) : Option Bool := headK noEq Try.prog (orK L) kp k 68 [.v (.one (.c (C.str x0)))] [1, 1, 1, 0, 1, 0] [m0] ⟨[(3, .one (.c (C.row 21 (runesRow x0)))), (4, .one (.c (C.int .i64 v1)))], [], 65, 31⟩ orielref03_Plain_d
noncomputable def orielref01_All_b (L : Lv) (k : Nat) (x0 : ByteArray) : Option (LL × Int × Int) := bodyK noEq Try.prog (orK L) kp k 66 [.v (.one (.c (C.str x0)))] orielref01_All_d
noncomputable def orielref01_All_l0 (L : Lv) (k : Nat) (x0 : ByteArray) (m0 : Nat) : Option (LL × Int × Int) := headK noEq Try.prog (orK L) kp k 66 [.v (.one (.c (C.str x0)))] [1, 1, 1, 0, 0] [m0] ⟨[(0, .one (.c (C.str x0))), (5, .one (.c (C.nil 21))), (6, .one (.c (C.int .i64 0)))], [], 65, 36⟩ orielref01_All_d
noncomputable def orielref01_All_l1 (L : Lv) (k : Nat) (x0 : ByteArray) (m0 : Nat) (v1 : Int) (v2 : LL) : Option (LL × Int × Int) := headK noEq Try.prog (orK L) kp k 66 [.v (.one (.c (C.str x0)))] [1, 1, 1, 0, 0] [m0] ⟨[(0, .one (.c (C.str x0))), (5, .one (.arr 64)), (6, .one (.c (C.int .i64 v1)))], [(64, .arr 21 false v2)], 66, 36⟩ orielref01_All_d
noncomputable def orielref02_Start_b (L : Lv) (k : Nat) (x0 : Int) : Option Bool := bodyK noEq Try.prog (orK L) kp k 85 [.v (.one (.c (C.int .i64 x0)))] orielref02_Start_d
noncomputable def orielref01_Rune_b (L : Lv) (k : Nat) (x0 : ByteArray) (x1 : Int) : Option (Int × Int × Int) := bodyK noEq Try.prog (orK L) kp k 83 [.v (.one (.c (C.str x0))), .v (.one (.c (C.int .i64 x1)))] orielref01_Rune_d
noncomputable def orielref01_Rune_l0 (L : Lv) (k : Nat) (x0 : ByteArray) (x1 : Int) (m0 : Nat) (v2 : Int) : Option (Int × Int × Int) := headK noEq Try.prog (orK L) kp k 83 [.v (.one (.c (C.str x0))), .v (.one (.c (C.int .i64 x1)))] [1, 1, 0, 1, 0] [m0] ⟨[(0, .one (.c (C.str x0))), (1, .one (.c (C.int .i64 x1))), (7, .one (.c (C.int .i64 v2)))], [], 129, 57⟩ orielref01_Rune_d
noncomputable def orielref01_Put_b (L : Lv) (k : Nat) (x0 : Int) : Option LL := bodyK noEq Try.prog (orK L) kp k 94 [.v (.one (.c (C.int .i64 x0)))] orielref01_Put_d
noncomputable def orielref01_cut_b (L : Lv) (k : Nat) (x0 : ByteArray) (x1 : Int) : Option Bool := bodyK noEq Try.prog (orK L) kp k 96 [.v (.one (.c (C.str x0))), .v (.one (.c (C.int .i64 x1)))] orielref01_cut_d
noncomputable def orielref01_cut_l0 (L : Lv) (k : Nat) (x0 : ByteArray) (x1 : Int) (m0 : Nat) (v3 : Int) : Option Bool := headK noEq Try.prog (orK L) kp k 96 [.v (.one (.c (C.str x0))), .v (.one (.c (C.int .i64 x1)))] [1, 1, 1, 0, 1, 0] [m0] ⟨[(0, .one (.c (C.str x0))), (1, .one (.c (C.int .i64 x1))), (5, .one (.c (C.int .i64 (IntKind.i64.wrap ((x0.size : Int) - x1))))), (6, .one (.c (C.int .i64 v3)))], [], 129, 156⟩ orielref01_cut_d
noncomputable def orielref01_cut_l1 (L : Lv) (k : Nat) (x0 : ByteArray) (x1 : Int) (m0 m1 : Nat) (v3 : Int) (v5 v6 : ByteArray) : Option Bool := headK noEq Try.prog (orK L) kp k 96 [.v (.one (.c (C.str x0))), .v (.one (.c (C.int .i64 x1)))] [1, 1, 1, 0, 1, 0, 0, 1, 0, 0, 1, 1, 1, 0, 0] [m0, m1] ⟨[(0, .one (.c (C.str x0))), (1, .one (.c (C.int .i64 x1))), (5, .one (.c (C.int .i64 (IntKind.i64.wrap ((x0.size : Int) - x1))))), (6, .one (.c (C.int .i64 v3))), (7, .one (.c (C.str (x0.extract x1.toNat ((x0.size : Int).toNat))))), (8, .one (.c (C.str v5))), (9, .one (.c (C.str v6)))], [], 129, 156⟩ orielref01_cut_d
noncomputable def orielref01_cut_l2 (L : Lv) (k : Nat) (x0 : ByteArray) (x1 : Int) (m0 m1 : Nat) (v3 v5 v6 : Int) (v7 : Bool) (v8 : Int) : Option Bool := headK noEq Try.prog (orK L) kp k 96 [.v (.one (.c (C.str x0))), .v (.one (.c (C.int .i64 x1)))] [1, 1, 1, 0, 1, 0, 0, 1, 0, 0, 1, 1, 1, 1, 1, 1, 1, 0, 1, 0] [m0, m1] ⟨[(0, .one (.c (C.str x0))), (1, .one (.c (C.int .i64 x1))), (5, .one (.c (C.int .i64 (IntKind.i64.wrap ((x0.size : Int) - x1))))), (6, .one (.c (C.int .i64 v3))), (7, .one (.c (C.str (x0.extract x1.toNat ((x0.size : Int).toNat))))), (10, .one (.c (C.int .i64 v5))), (11, .one (.c (C.int .i64 v6))), (12, .one (.c (C.bool v7))), (13, .one (.c (C.int .i64 v8)))], [], 129, 156⟩ orielref01_cut_d
noncomputable def orielref01_cut_l3 (L : Lv) (k : Nat) (x0 : ByteArray) (x1 : Int) (m0 : Nat) (v3 v5 v6 : Int) (v7 v8 : Bool) : Option Bool := headK noEq Try.prog (orK L) kp k 96 [.v (.one (.c (C.str x0))), .v (.one (.c (C.int .i64 x1)))] [1, 1, 1, 0, 1, 0, 0, 1, 0, 0, 1, 1, 1, 1, 1, 1, 1, 1, 1, 0, 0] [m0] ⟨[(0, .one (.c (C.str x0))), (1, .one (.c (C.int .i64 x1))), (5, .one (.c (C.int .i64 (IntKind.i64.wrap ((x0.size : Int) - x1))))), (6, .one (.c (C.int .i64 v3))), (7, .one (.c (C.str (x0.extract x1.toNat ((x0.size : Int).toNat))))), (10, .one (.c (C.int .i64 v5))), (11, .one (.c (C.int .i64 v6))), (12, .one (.c (C.bool v7))), (14, .one (.c (C.bool v8)))], [], 129, 156⟩ orielref01_cut_d
noncomputable def orielref01_cut_l4 (L : Lv) (k : Nat) (x0 : ByteArray) (x1 : Int) (m0 m1 : Nat) (v3 v5 v6 v7 : Int) : Option Bool := headK noEq Try.prog (orK L) kp k 96 [.v (.one (.c (C.str x0))), .v (.one (.c (C.int .i64 x1)))] [1, 1, 1, 0, 1, 0, 0, 1, 0, 0, 1, 1, 1, 1, 1, 1, 1, 1, 1, 1, 1, 0] [m0, m1] ⟨[(0, .one (.c (C.str x0))), (1, .one (.c (C.int .i64 x1))), (5, .one (.c (C.int .i64 (IntKind.i64.wrap ((x0.size : Int) - x1))))), (6, .one (.c (C.int .i64 v3))), (7, .one (.c (C.str (x0.extract x1.toNat ((x0.size : Int).toNat))))), (10, .one (.c (C.int .i64 v5))), (11, .one (.c (C.int .i64 v6))), (15, .one (.c (C.int .i64 v7)))], [], 129, 156⟩ orielref01_cut_d
noncomputable def orielref01_value_b (L : Lv) (k : Nat) (x0 : ByteArray) (x1 x2 : Int) : Option Int := bodyK noEq Try.prog (orK L) kp k 93 [.v (.one (.c (C.str x0))), .v (.one (.c (C.int .i64 x1))), .v (.one (.c (C.int .i64 x2)))] orielref01_value_d
noncomputable def orielref01_value_l0 (L : Lv) (k : Nat) (x0 : ByteArray) (x1 x2 : Int) (m0 : Nat) (v3 v4 : Int) : Option Int := headK noEq Try.prog (orK L) kp k 93 [.v (.one (.c (C.str x0))), .v (.one (.c (C.int .i64 x1))), .v (.one (.c (C.int .i64 x2)))] [1, 1, 0, 1, 0] [m0] ⟨[(0, .one (.c (C.str x0))), (1, .one (.c (C.int .i64 x1))), (2, .one (.c (C.int .i64 x2))), (7, .one (.c (C.int .i64 v3))), (8, .one (.c (C.int .i64 v4)))], [], 193, 54⟩ orielref01_value_d
noncomputable def orielref01_value_l1 (L : Lv) (k : Nat) (x0 : ByteArray) (x1 x2 : Int) (m0 : Nat) (v3 v4 v5 : Int) : Option Int := headK noEq Try.prog (orK L) kp k 93 [.v (.one (.c (C.str x0))), .v (.one (.c (C.int .i64 x1))), .v (.one (.c (C.int .i64 x2)))] [1, 1, 0, 1, 0, 0, 1, 0, 0, 1, 1, 1, 0, 0] [m0] ⟨[(0, .one (.c (C.str x0))), (1, .one (.c (C.int .i64 x1))), (2, .one (.c (C.int .i64 x2))), (7, .one (.c (C.int .i64 v3))), (8, .one (.c (C.int .i64 v4))), (9, .one (.c (C.int .i64 v5)))], [], 193, 54⟩ orielref01_value_d
noncomputable def oriellaw20_node_b (L : Lv) (k : Nat) (x0_0 : Int) (x0_1 x0_2 : ByteArray) (x0_3 : LL) (x0_4 : ByteArray) : Option Bool := bodyK noEq Try.prog (orK L) kp k 10 [.v (.agg [.c (C.int .i64 x0_0), .c (C.str x0_1), .c (C.str x0_2), .c (C.row 86 x0_3), .c (C.str x0_4)])] oriellaw20_node_d
noncomputable def orielref02_Char_b (L : Lv) (k : Nat) (x0 : Int) : Option Bool := bodyK noEq Try.prog (orK L) kp k 67 [.v (.one (.c (C.int .i64 x0)))] orielref02_Char_d
noncomputable def orielref02_Part_b (L : Lv) (k : Nat) (x0 : Int) : Option Bool := bodyK noEq Try.prog (orK L) kp k 86 [.v (.one (.c (C.int .i64 x0)))] orielref02_Part_d
noncomputable def orielref01_begins_b (L : Lv) (k : Nat) (x0 : ByteArray) (x1 : Int) (x2 : LL) : Option Bool := bodyK noEq Try.prog (orK L) kp k 95 [.v (.one (.c (C.str x0))), .v (.one (.c (C.int .i64 x1))), .v (.one (.c (C.row 5 x2)))] orielref01_begins_d
noncomputable def orielref01_begins_l0 (L : Lv) (k : Nat) (x0 : ByteArray) (x1 : Int) (x2 : LL) (m0 : Nat) (v3 : Int) : Option Bool := headK noEq Try.prog (orK L) kp k 95 [.v (.one (.c (C.str x0))), .v (.one (.c (C.int .i64 x1))), .v (.one (.c (C.row 5 x2)))] [1, 1, 0, 1, 0] [m0] ⟨[(0, .one (.c (C.str x0))), (1, .one (.c (C.int .i64 x1))), (2, .one (.c (C.row 5 x2))), (7, .one (.c (C.int .i64 v3)))], [], 193, 36⟩ orielref01_begins_d
noncomputable def orielref09_Right_b (L : Lv) (k : Nat) (x0_0 : Int) (x0_1 x0_2 : ByteArray) (x0_3 : LL) (x0_4 : ByteArray) : Option Bool := bodyK noEq Try.prog (orK L) kp k 30 [.v (.agg [.c (C.int .i64 x0_0), .c (C.str x0_1), .c (C.str x0_2), .c (C.row 86 x0_3), .c (C.str x0_4)])] orielref09_Right_d
noncomputable def orielref09_Right_l0 (L : Lv) (k : Nat) (x0_0 : Int) (x0_1 x0_2 : ByteArray) (x0_3 : LL) (x0_4 : ByteArray) (v0 : Bool) : Option Bool := headK noEq Try.prog (orK L) kp k 30 [.v (.agg [.c (C.int .i64 x0_0), .c (C.str x0_1), .c (C.str x0_2), .c (C.row 86 x0_3), .c (C.str x0_4)])] [1, 1, 0, 0] [] ⟨[(1, .one (.ptr 64 0)), (3, .one (.c (C.bool v0)))], [(64, .box 30 [.c (C.int .i64 x0_0), .c (C.str x0_1), .c (C.str x0_2), .c (C.row 86 x0_3), .c (C.str x0_4)])], 66, 102⟩ orielref09_Right_d
noncomputable def orielref09_Right_l1 (L : Lv) (k : Nat) (x0_0 : Int) (x0_1 x0_2 : ByteArray) (x0_3 : LL) (x0_4 : ByteArray) (m0 : Nat) (v0 : Int) : Option Bool := headK noEq Try.prog (orK L) kp k 30 [.v (.agg [.c (C.int .i64 x0_0), .c (C.str x0_1), .c (C.str x0_2), .c (C.row 86 x0_3), .c (C.str x0_4)])] [1, 1, 1, 1, 1, 0, 1, 0] [m0] ⟨[(1, .one (.ptr 64 0)), (4, .one (.c (C.int .i64 v0)))], [(64, .box 30 [.c (C.int .i64 x0_0), .c (C.str x0_1), .c (C.str x0_2), .c (C.row 86 x0_3), .c (C.str x0_4)])], 66, 102⟩ orielref09_Right_d
noncomputable def orielref09_Right_l2 (L : Lv) (k : Nat) (x0_0 : Int) (x0_1 x0_2 : ByteArray) (x0_3 : LL) (x0_4 : ByteArray) (m0 m1 : Nat) (v0 v1 : Int) : Option Bool := headK noEq Try.prog (orK L) kp k 30 [.v (.agg [.c (C.int .i64 x0_0), .c (C.str x0_1), .c (C.str x0_2), .c (C.row 86 x0_3), .c (C.str x0_4)])] [1, 1, 1, 1, 1, 0, 1, 0, 0, 1, 0, 0, 1, 1, 0] [m0, m1] ⟨[(1, .one (.ptr 64 0)), (4, .one (.c (C.int .i64 v0))), (5, .one (.c (C.int .i64 v1)))], [(64, .box 30 [.c (C.int .i64 x0_0), .c (C.str x0_1), .c (C.str x0_2), .c (C.row 86 x0_3), .c (C.str x0_4)])], 66, 102⟩ orielref09_Right_d
noncomputable def orielref02_Blank_b (L : Lv) (k : Nat) (x0 : Int) : Option Bool := bodyK noEq Try.prog (orK L) kp k 84 [.v (.one (.c (C.int .i64 x0)))] orielref02_Blank_d
noncomputable def orielref09_named_b (L : Lv) (k : Nat) (x0_0 x0_1 : ByteArray) : Option Bool := bodyK noEq Try.prog (orK L) kp k 51 [.v (.agg [.c (C.str x0_0), .c (C.str x0_1)])] orielref09_named_d
noncomputable def orielref05_Find_b (L : Lv) (k : Nat) (x0 : ByteArray) (x1 : Int) (x2 : ByteArray) : Option Int := bodyK noEq Try.prog (orK L) kp k 82 [.v (.one (.c (C.str x0))), .v (.one (.c (C.int .i64 x1))), .v (.one (.c (C.str x2)))] orielref05_Find_d
noncomputable def orielref05_Find_l0 (L : Lv) (k : Nat) (x0 : ByteArray) (x1 : Int) (x2 : ByteArray) (m0 : Nat) (v2 : Int) : Option Int := headK noEq Try.prog (orK L) kp k 82 [.v (.one (.c (C.str x0))), .v (.one (.c (C.int .i64 x1))), .v (.one (.c (C.str x2)))] [1, 0, 1, 0] [m0] ⟨[(0, .one (.c (C.str x0))), (2, .one (.c (C.str x2))), (7, .one (.c (C.int .i64 v2)))], [], 193, 28⟩ orielref05_Find_d
noncomputable def orielref09_Few_b (L : Lv) (k : Nat) (x0 : LL) : Option Bool := bodyK noEq Try.prog (orK L) kp k 15 [.v (.one (.c (C.row 30 x0)))] orielref09_Few_d
noncomputable def orielref09_Few_l0 (L : Lv) (k : Nat) (x0 : LL) (m0 : Nat) (v1 v2 : Int) : Option Bool := headK noEq Try.prog (orK L) kp k 15 [.v (.one (.c (C.row 30 x0)))] [1, 1, 0, 1, 0] [m0] ⟨[(0, .one (.c (C.row 30 x0))), (3, .one (.c (C.int .i64 v1))), (4, .one (.c (C.int .i64 v2)))], [], 65, 108⟩ orielref09_Few_d
noncomputable def orielref09_Few_l1 (L : Lv) (k : Nat) (x0 : LL) (m0 m1 : Nat) (v1 v2 v3 : Int) : Option Bool := headK noEq Try.prog (orK L) kp k 15 [.v (.one (.c (C.row 30 x0)))] [1, 1, 0, 1, 0, 0, 1, 0, 0, 1, 1, 1, 0] [m0, m1] ⟨[(0, .one (.c (C.row 30 x0))), (3, .one (.c (C.int .i64 v1))), (4, .one (.c (C.int .i64 v2))), (5, .one (.c (C.int .i64 v3)))], [], 65, 108⟩ orielref09_Few_d
noncomputable def orielref19_Like_b (L : Lv) (k : Nat) (x0_0 : Int) (x0_1 x0_2 : LL) (x1_0 : Int) (x1_1 x1_2 : ByteArray) (x1_3 : LL) (x1_4 : ByteArray) (x2_0 : Int) (x2_1 x2_2 : ByteArray) (x2_3 : LL) (x2_4 : ByteArray) : Option Bool := bodyK noEq Try.prog (orK L) kp k 27 [.v (.agg [.c (C.int .i64 x0_0), .c (C.row 25 x0_1), .c (C.row 66 x0_2)]), .v (.agg [.c (C.int .i64 x1_0), .c (C.str x1_1), .c (C.str x1_2), .c (C.row 86 x1_3), .c (C.str x1_4)]), .v (.agg [.c (C.int .i64 x2_0), .c (C.str x2_1), .c (C.str x2_2), .c (C.row 86 x2_3), .c (C.str x2_4)])] orielref19_Like_d
noncomputable def orielref19_Like_l0 (L : Lv) (k : Nat) (x0_0 : Int) (x0_1 x0_2 : LL) (x1_0 : Int) (x1_1 x1_2 : ByteArray) (x1_3 : LL) (x1_4 : ByteArray) (x2_0 : Int) (x2_1 x2_2 : ByteArray) (x2_3 : LL) (x2_4 : ByteArray) (m0 : Nat) (v0 : Int) (v11 v12 v13 v14 : LL) : Option Bool := headK noEq Try.prog (orK L) kp k 27 [.v (.agg [.c (C.int .i64 x0_0), .c (C.row 25 x0_1), .c (C.row 66 x0_2)]), .v (.agg [.c (C.int .i64 x1_0), .c (C.str x1_1), .c (C.str x1_2), .c (C.row 86 x1_3), .c (C.str x1_4)]), .v (.agg [.c (C.int .i64 x2_0), .c (C.str x2_1), .c (C.str x2_2), .c (C.row 86 x2_3), .c (C.str x2_4)])] [1, 1, 1, 0, 1, 0, 0, 1, 0] [m0] ⟨[(4, .one (.ptr 192 0)), (5, .one (.ptr 193 0)), (7, .one (.ptr 194 0)), (8, .one (.c (C.int .i64 v0)))], [(192, .box 30 [.c (C.int .i64 x1_0), .c (C.str x1_1), .c (C.str x1_2), .c (C.row 86 x1_3), .c (C.str x1_4)]), (193, .box 30 [.c (C.int .i64 x2_0), .c (C.str x2_1), .c (C.str x2_2), .c (C.row 86 x2_3), .c (C.str x2_4)]), (194, .box 97 [.arr 195, .arr 196, .arr 197, .arr 198]), (195, .arr 27 false v11), (196, .arr 27 false v12), (197, .arr 95 false v13), (198, .arr 9 false v14)], 200, 101⟩ orielref19_Like_d
noncomputable def orielref19_Like_l1 (L : Lv) (k : Nat) (x0_0 : Int) (x0_1 x0_2 : LL) (x1_0 : Int) (x1_1 x1_2 : ByteArray) (x1_3 : LL) (x1_4 : ByteArray) (x2_0 : Int) (x2_1 x2_2 : ByteArray) (x2_3 : LL) (x2_4 : ByteArray) (m0 : Nat) (v0 : Int) (v11 v12 v13 v14 : LL) : Option Bool := headK noEq Try.prog (orK L) kp k 27 [.v (.agg [.c (C.int .i64 x0_0), .c (C.row 25 x0_1), .c (C.row 66 x0_2)]), .v (.agg [.c (C.int .i64 x1_0), .c (C.str x1_1), .c (C.str x1_2), .c (C.row 86 x1_3), .c (C.str x1_4)]), .v (.agg [.c (C.int .i64 x2_0), .c (C.str x2_1), .c (C.str x2_2), .c (C.row 86 x2_3), .c (C.str x2_4)])] [1, 1, 1, 1, 0, 1, 0] [m0] ⟨[(4, .one (.ptr 192 0)), (5, .one (.ptr 193 0)), (7, .one (.ptr 194 0)), (9, .one (.c (C.int .i64 v0)))], [(192, .box 30 [.c (C.int .i64 x1_0), .c (C.str x1_1), .c (C.str x1_2), .c (C.row 86 x1_3), .c (C.str x1_4)]), (193, .box 30 [.c (C.int .i64 x2_0), .c (C.str x2_1), .c (C.str x2_2), .c (C.row 86 x2_3), .c (C.str x2_4)]), (194, .box 97 [.arr 195, .arr 196, .arr 197, .arr 198]), (195, .arr 27 false v11), (196, .arr 27 false v12), (197, .arr 95 false v13), (198, .arr 9 false v14)], 200, 101⟩ orielref19_Like_d
noncomputable def orielref19_Like_l2 (L : Lv) (k : Nat) (x0_0 : Int) (x0_1 x0_2 : LL) (x1_0 : Int) (x1_1 x1_2 : ByteArray) (x1_3 : LL) (x1_4 : ByteArray) (x2_0 : Int) (x2_1 x2_2 : ByteArray) (x2_3 : LL) (x2_4 : ByteArray) (m0 : Nat) (v0 : Int) (v11 v12 v13 v14 : LL) : Option Bool := headK noEq Try.prog (orK L) kp k 27 [.v (.agg [.c (C.int .i64 x0_0), .c (C.row 25 x0_1), .c (C.row 66 x0_2)]), .v (.agg [.c (C.int .i64 x1_0), .c (C.str x1_1), .c (C.str x1_2), .c (C.row 86 x1_3), .c (C.str x1_4)]), .v (.agg [.c (C.int .i64 x2_0), .c (C.str x2_1), .c (C.str x2_2), .c (C.row 86 x2_3), .c (C.str x2_4)])] [1, 1, 1, 1, 1, 0, 1, 0] [m0] ⟨[(4, .one (.ptr 192 0)), (5, .one (.ptr 193 0)), (7, .one (.ptr 194 0)), (10, .one (.c (C.int .i64 v0)))], [(192, .box 30 [.c (C.int .i64 x1_0), .c (C.str x1_1), .c (C.str x1_2), .c (C.row 86 x1_3), .c (C.str x1_4)]), (193, .box 30 [.c (C.int .i64 x2_0), .c (C.str x2_1), .c (C.str x2_2), .c (C.row 86 x2_3), .c (C.str x2_4)]), (194, .box 97 [.arr 195, .arr 196, .arr 197, .arr 198]), (195, .arr 27 false v11), (196, .arr 27 false v12), (197, .arr 95 false v13), (198, .arr 9 false v14)], 200, 101⟩ orielref19_Like_d
noncomputable def orielref19_Make_b (L : Lv) (k : Nat) (x0_0 : Int) (x0_1 x0_2 : LL) : Option (LL × LL × LL × LL) := bodyK noEq Try.prog (orK L) kp k 46 [.v (.agg [.c (C.int .i64 x0_0), .c (C.row 25 x0_1), .c (C.row 66 x0_2)])] orielref19_Make_d
noncomputable def orielref19_Make_l0 (L : Lv) (k : Nat) (x0_0 : Int) (x0_1 x0_2 : LL) (m0 : Nat) (v1 v2 v3 v4 : LL) : Option (LL × LL × LL × LL) := headK noEq Try.prog (orK L) kp k 46 [.v (.agg [.c (C.int .i64 x0_0), .c (C.row 25 x0_1), .c (C.row 66 x0_2)])] [1, 1, 1, 0, 1, 0] [m0] ⟨[(2, .one (.ptr 64 0)), (3, .one (.arr 65)), (4, .one (.ptr 66 0)), (5, .one (.c (C.int .i64 0)))], [(64, .box 97 [.c (C.nil 27), .c (C.nil 27), .c (C.nil 95), .c (C.nil 9)]), (65, .arr 66 false v1), (66, .box 97 [.arr 67, .arr 68, .c (C.nil 95), .arr 69]), (67, .arr 27 false v2), (68, .arr 27 false v3), (69, .arr 9 false v4)], 71, 36⟩ orielref19_Make_d
noncomputable def orielref19_Make_l1 (L : Lv) (k : Nat) (x0_0 : Int) (x0_1 x0_2 : LL) (m0 : Nat) (v0 : Int) (v1 v2 v3 v4 v5 : LL) : Option (LL × LL × LL × LL) := headK noEq Try.prog (orK L) kp k 46 [.v (.agg [.c (C.int .i64 x0_0), .c (C.row 25 x0_1), .c (C.row 66 x0_2)])] [1, 1, 1, 0, 1, 0] [m0] ⟨[(2, .one (.ptr 64 0)), (3, .one (.arr 65)), (4, .one (.ptr 66 0)), (5, .one (.c (C.int .i64 v0)))], [(64, .box 97 [.c (C.nil 27), .c (C.nil 27), .c (C.nil 95), .c (C.nil 9)]), (65, .arr 66 false v1), (66, .box 97 [.arr 67, .arr 68, .arr 69, .arr 70]), (67, .arr 27 false v2), (68, .arr 27 false v3), (69, .arr 95 false v4), (70, .arr 9 false v5)], 72, 36⟩ orielref19_Make_d
noncomputable def orielref12_Filters_b (L : Lv) (k : Nat) (x0_0 : Int) (x0_1 x0_2 : LL) : Option LL := bodyK noEq Try.prog (orK L) kp k 61 [.v (.agg [.c (C.int .i64 x0_0), .c (C.row 25 x0_1), .c (C.row 66 x0_2)])] orielref12_Filters_d
noncomputable def orielref12_Filters_l0 (L : Lv) (k : Nat) (x0_0 : Int) (x0_1 x0_2 : LL) (m0 : Nat) : Option LL := headK noEq Try.prog (orK L) kp k 61 [.v (.agg [.c (C.int .i64 x0_0), .c (C.row 25 x0_1), .c (C.row 66 x0_2)])] [1, 1, 0, 1, 0] [m0] ⟨[(1, .one (.ptr 64 0)), (3, .one (.c (C.nil 66))), (4, .one (.c (C.int .i64 0)))], [(64, .box 25 [.c (C.int .i64 x0_0), .c (C.row 25 x0_1), .c (C.row 66 x0_2)])], 66, 37⟩ orielref12_Filters_d
noncomputable def orielref12_Filters_l1 (L : Lv) (k : Nat) (x0_0 : Int) (x0_1 x0_2 : LL) (m0 : Nat) : Option LL := headK noEq Try.prog (orK L) kp k 61 [.v (.agg [.c (C.int .i64 x0_0), .c (C.row 25 x0_1), .c (C.row 66 x0_2)])] [1, 1, 1, 0, 1, 0] [m0] ⟨[(1, .one (.ptr 64 0)), (3, .one (.c (C.nil 66))), (5, .one (.c (C.int .i64 0)))], [(64, .box 25 [.c (C.int .i64 x0_0), .c (C.row 25 x0_1), .c (C.row 66 x0_2)])], 66, 37⟩ orielref12_Filters_d
noncomputable def orielref12_Filters_l2 (L : Lv) (k : Nat) (x0_0 : Int) (x0_1 x0_2 : LL) (m0 : Nat) (v0 : Int) (v4 : LL) : Option LL := headK noEq Try.prog (orK L) kp k 61 [.v (.agg [.c (C.int .i64 x0_0), .c (C.row 25 x0_1), .c (C.row 66 x0_2)])] [1, 1, 0, 1, 0] [m0] ⟨[(1, .one (.ptr 64 0)), (3, .one (.arr 65)), (4, .one (.c (C.int .i64 v0)))], [(64, .box 25 [.c (C.int .i64 x0_0), .c (C.row 25 x0_1), .c (C.row 66 x0_2)]), (65, .arr 66 false v4)], 67, 37⟩ orielref12_Filters_d
noncomputable def orielref12_Filters_l3 (L : Lv) (k : Nat) (x0_0 : Int) (x0_1 x0_2 : LL) (m0 : Nat) (v0 : Int) (v4 : LL) : Option LL := headK noEq Try.prog (orK L) kp k 61 [.v (.agg [.c (C.int .i64 x0_0), .c (C.row 25 x0_1), .c (C.row 66 x0_2)])] [1, 1, 1, 0, 1, 0] [m0] ⟨[(1, .one (.ptr 64 0)), (3, .one (.arr 65)), (5, .one (.c (C.int .i64 v0)))], [(64, .box 25 [.c (C.int .i64 x0_0), .c (C.row 25 x0_1), .c (C.row 66 x0_2)]), (65, .arr 66 false v4)], 67, 37⟩ orielref12_Filters_d
noncomputable def orielref12_within_b (L : Lv) (k : Nat) (x0_0 : Int) (x0_1 x0_2 x0_3 : ByteArray) (x0_4 x0_5 : LL) : Option LL := bodyK noEq Try.prog (orK L) kp k 79 [.v (.agg [.c (C.int .i64 x0_0), .c (C.str x0_1), .c (C.str x0_2), .c (C.str x0_3), .c (C.row 66 x0_4), .c (C.row 25 x0_5)])] orielref12_within_d
noncomputable def orielref12_within_l0 (L : Lv) (k : Nat) (x0_0 : Int) (x0_1 x0_2 x0_3 : ByteArray) (x0_4 x0_5 : LL) (m0 : Nat) (v0 : Int) (v7 : LL) : Option LL := headK noEq Try.prog (orK L) kp k 79 [.v (.agg [.c (C.int .i64 x0_0), .c (C.str x0_1), .c (C.str x0_2), .c (C.str x0_3), .c (C.row 66 x0_4), .c (C.row 25 x0_5)])] [1, 1, 0, 1, 0] [m0] ⟨[(1, .one (.ptr 64 0)), (3, .one (.arr 65)), (4, .one (.c (C.int .i64 v0)))], [(64, .box 66 [.c (C.int .i64 x0_0), .c (C.str x0_1), .c (C.str x0_2), .c (C.str x0_3), .c (C.row 66 x0_4), .c (C.row 25 x0_5)]), (65, .arr 66 false v7)], 67, 39⟩ orielref12_within_d
noncomputable def orielref12_within_l1 (L : Lv) (k : Nat) (x0_0 : Int) (x0_1 x0_2 x0_3 : ByteArray) (x0_4 x0_5 : LL) (m0 : Nat) (v0 : Int) (v7 : LL) : Option LL := headK noEq Try.prog (orK L) kp k 79 [.v (.agg [.c (C.int .i64 x0_0), .c (C.str x0_1), .c (C.str x0_2), .c (C.str x0_3), .c (C.row 66 x0_4), .c (C.row 25 x0_5)])] [1, 1, 1, 0, 1, 0] [m0] ⟨[(1, .one (.ptr 64 0)), (3, .one (.arr 65)), (5, .one (.c (C.int .i64 v0)))], [(64, .box 66 [.c (C.int .i64 x0_0), .c (C.str x0_1), .c (C.str x0_2), .c (C.str x0_3), .c (C.row 66 x0_4), .c (C.row 25 x0_5)]), (65, .arr 66 false v7)], 67, 39⟩ orielref12_within_d
noncomputable def orielref12_Names_b (L : Lv) (k : Nat) (x0 : LL) (x1 x2 : Int) : Option LL := bodyK noEq Try.prog (orK L) kp k 62 [.v (.one (.c (C.row 66 x0))), .v (.one (.c (C.int .i64 x1))), .v (.one (.c (C.int .i64 x2)))] orielref12_Names_d
noncomputable def orielref12_Names_l0 (L : Lv) (k : Nat) (x0 : LL) (x1 x2 : Int) (m0 : Nat) (v3 : Int) : Option LL := headK noEq Try.prog (orK L) kp k 62 [.v (.one (.c (C.row 66 x0))), .v (.one (.c (C.int .i64 x1))), .v (.one (.c (C.int .i64 x2)))] [1, 1, 0, 1, 0] [m0] ⟨[(0, .one (.c (C.row 66 x0))), (1, .one (.c (C.int .i64 x1))), (2, .one (.c (C.int .i64 x2))), (7, .one (.c (C.nil 27))), (8, .one (.c (C.int .i64 v3)))], [], 193, 50⟩ orielref12_Names_d
noncomputable def orielref12_Names_l1 (L : Lv) (k : Nat) (x0 : LL) (x1 x2 : Int) (m0 : Nat) (v3 : Int) (v4 : LL) : Option LL := headK noEq Try.prog (orK L) kp k 62 [.v (.one (.c (C.row 66 x0))), .v (.one (.c (C.int .i64 x1))), .v (.one (.c (C.int .i64 x2)))] [1, 1, 0, 1, 0] [m0] ⟨[(0, .one (.c (C.row 66 x0))), (1, .one (.c (C.int .i64 x1))), (2, .one (.c (C.int .i64 x2))), (7, .one (.arr 192)), (8, .one (.c (C.int .i64 v3)))], [(192, .arr 27 false v4)], 194, 50⟩ orielref12_Names_d
noncomputable def orielref12_hasName_b (L : Lv) (k : Nat) (x0 : LL) (x1_0 x1_1 : ByteArray) : Option Bool := bodyK noEq Try.prog (orK L) kp k 80 [.v (.one (.c (C.row 27 x0))), .v (.agg [.c (C.str x1_0), .c (C.str x1_1)])] orielref12_hasName_d
noncomputable def orielref12_hasName_l0 (L : Lv) (k : Nat) (x0 : LL) (x1_0 x1_1 : ByteArray) (m0 : Nat) (v1 : Int) : Option Bool := headK noEq Try.prog (orK L) kp k 80 [.v (.one (.c (C.row 27 x0))), .v (.agg [.c (C.str x1_0), .c (C.str x1_1)])] [1, 0, 1, 0] [m0] ⟨[(0, .one (.c (C.row 27 x0))), (3, .one (.ptr 128 0)), (5, .one (.c (C.int .i64 v1)))], [(128, .box 27 [.c (C.str x1_0), .c (C.str x1_1)])], 130, 18⟩ orielref12_hasName_d
noncomputable def orielref12_Values_b (L : Lv) (k : Nat) (x0 : LL) (x1 : Int) (x2_0 x2_1 : ByteArray) : Option LL := bodyK noEq Try.prog (orK L) kp k 63 [.v (.one (.c (C.row 66 x0))), .v (.one (.c (C.int .i64 x1))), .v (.agg [.c (C.str x2_0), .c (C.str x2_1)])] orielref12_Values_d
noncomputable def orielref12_Values_l0 (L : Lv) (k : Nat) (x0 : LL) (x1 : Int) (x2_0 x2_1 : ByteArray) (m0 : Nat) (v2 : Int) : Option LL := headK noEq Try.prog (orK L) kp k 63 [.v (.one (.c (C.row 66 x0))), .v (.one (.c (C.int .i64 x1))), .v (.agg [.c (C.str x2_0), .c (C.str x2_1)])] [1, 1, 0, 1, 0] [m0] ⟨[(0, .one (.c (C.row 66 x0))), (1, .one (.c (C.int .i64 x1))), (5, .one (.ptr 192 0)), (7, .one (.c (C.nil 9))), (8, .one (.c (C.int .i64 v2)))], [(192, .box 27 [.c (C.str x2_0), .c (C.str x2_1)])], 194, 50⟩ orielref12_Values_d
noncomputable def orielref12_Values_l1 (L : Lv) (k : Nat) (x0 : LL) (x1 : Int) (x2_0 x2_1 : ByteArray) (m0 : Nat) (v2 : Int) (v5 : LL) : Option LL := headK noEq Try.prog (orK L) kp k 63 [.v (.one (.c (C.row 66 x0))), .v (.one (.c (C.int .i64 x1))), .v (.agg [.c (C.str x2_0), .c (C.str x2_1)])] [1, 1, 0, 1, 0] [m0] ⟨[(0, .one (.c (C.row 66 x0))), (1, .one (.c (C.int .i64 x1))), (5, .one (.ptr 192 0)), (7, .one (.arr 193)), (8, .one (.c (C.int .i64 v2)))], [(192, .box 27 [.c (C.str x2_0), .c (C.str x2_1)]), (193, .arr 9 false v5)], 195, 50⟩ orielref12_Values_d
noncomputable def orielref12_Has_b (L : Lv) (k : Nat) (x0 : LL) (x1 : ByteArray) : Option Bool := bodyK noEq Try.prog (orK L) kp k 81 [.v (.one (.c (C.row 9 x0))), .v (.one (.c (C.str x1)))] orielref12_Has_d
noncomputable def orielref12_Has_l0 (L : Lv) (k : Nat) (x0 : LL) (x1 : ByteArray) (m0 : Nat) (v2 : Int) : Option Bool := headK noEq Try.prog (orK L) kp k 81 [.v (.one (.c (C.row 9 x0))), .v (.one (.c (C.str x1)))] [1, 0, 1, 0] [m0] ⟨[(0, .one (.c (C.row 9 x0))), (1, .one (.c (C.str x1))), (5, .one (.c (C.int .i64 v2)))], [], 129, 18⟩ orielref12_Has_d
noncomputable def orielref19_value_b (L : Lv) (k : Nat) (x0_0 : Int) (x0_1 x0_2 : ByteArray) (x0_3 : LL) (x0_4 x1_0 x1_1 : ByteArray) (x2 : LL) : Option Int := bodyK noEq Try.prog (orK L) kp k 47 [.v (.agg [.c (C.int .i64 x0_0), .c (C.str x0_1), .c (C.str x0_2), .c (C.row 86 x0_3), .c (C.str x0_4)]), .v (.agg [.c (C.str x1_0), .c (C.str x1_1)]), .v (.one (.c (C.row 9 x2)))] orielref19_value_d
noncomputable def orielref19_value_l0 (L : Lv) (k : Nat) (x0_0 : Int) (x0_1 x0_2 : ByteArray) (x0_3 : LL) (x0_4 x1_0 x1_1 : ByteArray) (x2 : LL) (m0 : Nat) (v1 : Int) : Option Int := headK noEq Try.prog (orK L) kp k 47 [.v (.agg [.c (C.int .i64 x0_0), .c (C.str x0_1), .c (C.str x0_2), .c (C.row 86 x0_3), .c (C.str x0_4)]), .v (.agg [.c (C.str x1_0), .c (C.str x1_1)]), .v (.one (.c (C.row 9 x2)))] [1, 0, 1, 0] [m0] ⟨[(2, .one (.c (C.row 9 x2))), (3, .one (.ptr 192 0)), (4, .one (.ptr 193 0)), (7, .one (.c (C.int .i64 v1)))], [(192, .box 30 [.c (C.int .i64 x0_0), .c (C.str x0_1), .c (C.str x0_2), .c (C.row 86 x0_3), .c (C.str x0_4)]), (193, .box 27 [.c (C.str x1_0), .c (C.str x1_1)])], 195, 44⟩ orielref19_value_d
noncomputable def orielref19_value_l1 (L : Lv) (k : Nat) (x0_0 : Int) (x0_1 x0_2 : ByteArray) (x0_3 : LL) (x0_4 x1_0 x1_1 : ByteArray) (x2 : LL) (m0 m1 : Nat) (v1 v2 : Int) : Option Int := headK noEq Try.prog (orK L) kp k 47 [.v (.agg [.c (C.int .i64 x0_0), .c (C.str x0_1), .c (C.str x0_2), .c (C.row 86 x0_3), .c (C.str x0_4)]), .v (.agg [.c (C.str x1_0), .c (C.str x1_1)]), .v (.one (.c (C.row 9 x2)))] [1, 0, 1, 0, 0, 1, 0, 0, 1, 0, 0, 1, 0] [m0, m1] ⟨[(2, .one (.c (C.row 9 x2))), (3, .one (.ptr 192 0)), (7, .one (.c (C.int .i64 v1))), (8, .one (.c (C.int .i64 v2)))], [(192, .box 30 [.c (C.int .i64 x0_0), .c (C.str x0_1), .c (C.str x0_2), .c (C.row 86 x0_3), .c (C.str x0_4)])], 194, 44⟩ orielref19_value_d
noncomputable def oriellaw20_sort_b (L : Lv) (k : Nat) (x0_0 x0_1 x0_2 : LL) (x0_3 x0_4 x0_5 : Int) (x0_6 x0_7 : LL) (x1 : Int) (x2 x3 : Bool) : Option (Bool × Bool × ByteArray) := bodyK noEq Try.prog (orK L) kp k 12 [.v (.agg [.c (C.row 25 x0_0), .c (C.row 39 x0_1), .c (C.row 3 x0_2), .c (C.int .i64 x0_3), .c (C.int .i64 x0_4), .c (C.int .i64 x0_5), .c (C.row 83 x0_6), .c (C.row 66 x0_7)]), .v (.one (.c (C.int .u64 x1))), .v (.one (.c (C.bool x2))), .v (.one (.c (C.bool x3)))] oriellaw20_sort_d
noncomputable def oriellaw20_sort_l0 (L : Lv) (k : Nat) (x0_0 x0_1 x0_2 : LL) (x0_3 x0_4 x0_5 : Int) (x0_6 x0_7 : LL) (x1 : Int) (x2 x3 : Bool) (m0 : Nat) : Option (Bool × Bool × ByteArray) := headK noEq Try.prog (orK L) kp k 12 [.v (.agg [.c (C.row 25 x0_0), .c (C.row 39 x0_1), .c (C.row 3 x0_2), .c (C.int .i64 x0_3), .c (C.int .i64 x0_4), .c (C.int .i64 x0_5), .c (C.row 83 x0_6), .c (C.row 66 x0_7)]), .v (.one (.c (C.int .u64 x1))), .v (.one (.c (C.bool x2))), .v (.one (.c (C.bool x3)))] [1, 1, 1, 0, 1, 0] [m0] ⟨[(1, .one (.c (C.int .u64 x1))), (3, .one (.c (C.bool x3))), (4, .one (.ptr 256 0)), (8, .one (.ptr 257 0)), (9, .one (.c (C.nil 5))), (10, .one (.c (C.int .i64 0)))], [(256, .box 41 [.c (C.row 25 x0_0), .c (C.row 39 x0_1), .c (C.row 3 x0_2), .c (C.int .i64 x0_3), .c (C.int .i64 x0_4), .c (C.int .i64 x0_5), .c (C.row 83 x0_6), .c (C.row 66 x0_7)]), (257, .box 44 [.c (C.bool false), .c (C.bool false), .c (C.str (⟨#[]⟩ : ByteArray))])], 259, 34⟩ oriellaw20_sort_d
noncomputable def oriellaw20_sort_l1 (L : Lv) (k : Nat) (x0_0 x0_1 x0_2 : LL) (x0_3 x0_4 x0_5 : Int) (x0_6 x0_7 : LL) (x1 : Int) (x2 x3 : Bool) (m0 : Nat) (v2 : Int) (v14 : LL) : Option (Bool × Bool × ByteArray) := headK noEq Try.prog (orK L) kp k 12 [.v (.agg [.c (C.row 25 x0_0), .c (C.row 39 x0_1), .c (C.row 3 x0_2), .c (C.int .i64 x0_3), .c (C.int .i64 x0_4), .c (C.int .i64 x0_5), .c (C.row 83 x0_6), .c (C.row 66 x0_7)]), .v (.one (.c (C.int .u64 x1))), .v (.one (.c (C.bool x2))), .v (.one (.c (C.bool x3)))] [1, 1, 1, 0, 1, 0] [m0] ⟨[(1, .one (.c (C.int .u64 x1))), (3, .one (.c (C.bool x3))), (4, .one (.ptr 256 0)), (8, .one (.ptr 257 0)), (9, .one (.arr 258)), (10, .one (.c (C.int .i64 v2)))], [(256, .box 41 [.c (C.row 25 x0_0), .c (C.row 39 x0_1), .c (C.row 3 x0_2), .c (C.int .i64 x0_3), .c (C.int .i64 x0_4), .c (C.int .i64 x0_5), .c (C.row 83 x0_6), .c (C.row 66 x0_7)]), (257, .box 44 [.c (C.bool false), .c (C.bool false), .c (C.str (⟨#[]⟩ : ByteArray))]), (258, .arr 5 false v14)], 260, 34⟩ oriellaw20_sort_d
noncomputable def orielref18_Items_b (L : Lv) (k : Nat) (x0_0 x0_1 x0_2 : LL) (x0_3 x0_4 x0_5 : Int) (x0_6 x0_7 : LL) : Option Int := bodyK noEq Try.prog (orK L) kp k 34 [.v (.agg [.c (C.row 25 x0_0), .c (C.row 39 x0_1), .c (C.row 3 x0_2), .c (C.int .i64 x0_3), .c (C.int .i64 x0_4), .c (C.int .i64 x0_5), .c (C.row 83 x0_6), .c (C.row 66 x0_7)])] orielref18_Items_d
noncomputable def orielref18_Items_l0 (L : Lv) (k : Nat) (x0_0 x0_1 x0_2 : LL) (x0_3 x0_4 x0_5 : Int) (x0_6 x0_7 : LL) (m0 : Nat) (v0 v1 : Int) : Option Int := headK noEq Try.prog (orK L) kp k 34 [.v (.agg [.c (C.row 25 x0_0), .c (C.row 39 x0_1), .c (C.row 3 x0_2), .c (C.int .i64 x0_3), .c (C.int .i64 x0_4), .c (C.int .i64 x0_5), .c (C.row 83 x0_6), .c (C.row 66 x0_7)])] [1, 1, 0, 1, 0] [m0] ⟨[(1, .one (.ptr 64 0)), (3, .one (.c (C.int .i64 v0))), (4, .one (.c (C.int .i64 v1)))], [(64, .box 41 [.c (C.row 25 x0_0), .c (C.row 39 x0_1), .c (C.row 3 x0_2), .c (C.int .i64 x0_3), .c (C.int .i64 x0_4), .c (C.int .i64 x0_5), .c (C.row 83 x0_6), .c (C.row 66 x0_7)])], 66, 21⟩ orielref18_Items_d
end Go.Vm.T
