/- The functions, as the machine tells them: definitions. -/
import Derived.Test.YtjobiohbddlfcaaVmThree
import Derived.Test.YtjobiohbddlfcaaProg
set_option linter.unusedVariables false
set_option maxHeartbeats 4000000
set_option maxRecDepth 100000
namespace Go.Vm.T
open Go Go.Vm Go.Proofs
noncomputable def kl : List (Nat × List (Nat × List Nat)) := [(5, [(8, [1, 3, 7, 8, 9, 10, 11]), (14, [1, 7, 8, 9, 10, 12, 13])]), (9, [(9, [1, 4]), (14, [1, 4, 5]), (2000002, [1, 3, 999999])]), (10, [(3, [0, 3, 4]), (9, [0, 3, 4, 5])]), (13, [(3, [1, 3, 4]), (7, [1, 3, 5])]), (15, [(7, [3, 4, 5, 6, 9, 10, 11]), (25, [5, 6, 14])]), (16, [(4, [9, 10, 19, 20, 21])]), (17, [(6, [2, 4, 5, 17, 18, 19])]), (20, [(3, [3, 7, 8, 9])]), (22, [(3, [0, 2, 3, 4])]), (23, [(4, [3, 7, 8, 9])]), (24, [(13, [4, 7, 8, 9]), (25, [2, 3, 4, 10])]), (27, [(14, [1, 2, 7]), (2000011, [1, 2, 5, 6, 999999])]), (28, [(3, [3, 5, 6])]), (31, [(2, [2, 3, 5])]), (32, [(3, [1, 3, 4]), (7, [1, 3, 5])]), (34, [(2, [0, 3, 9, 10, 11]), (7, [0, 20, 21, 22])]), (36, [(2, [0, 1, 7, 8])]), (40, [(3, [0, 3, 4]), (2000007, [0, 3, 4, 999999]), (2000009, [0, 3, 4, 999999])]), (41, [(5, [2, 3, 4, 7]), (13, [3, 4, 8, 9]), (17, [3, 4, 8, 9, 10, 11]), (23, [2, 3, 4, 8, 12]), (32, [2, 3, 4, 8, 13]), (36, [2, 3, 4, 8, 13, 14, 15]), (2000027, [2, 3, 4, 8, 12, 999999]), (2000029, [2, 3, 4, 8, 12, 999999]), (1000000, [3])]), (42, [(2, [0, 1, 5])]), (43, [(3, [1, 2, 5, 6]), (7, [1, 2, 5, 7])]), (44, [(20, [1, 2, 9]), (2000005, [1, 2, 5, 6, 999999]), (2000007, [1, 2, 6, 999999]), (2000014, [1, 2, 7, 8, 999999]), (2000017, [1, 2, 7, 8, 999999])]), (45, [(3, [0, 5, 6])]), (47, [(5, [3, 4])]), (49, [(4, [2, 3, 5]), (9, [2, 3, 6])]), (50, [(2, [0, 3, 12, 13, 14])]), (55, [(2, [0, 3, 9, 10, 11]), (7, [0, 20, 21, 22])]), (57, [(4, [1, 2, 15, 16, 17])]), (58, [(4, [1, 2, 15, 16, 17])]), (62, [(3, [1, 2, 5, 6]), (7, [1, 2, 5, 7])]), (64, [(4, [0, 1, 7])]), (69, [(4, [2, 3, 5]), (9, [2, 3, 6])]), (70, [(2, [0, 1, 7, 8])]), (73, [(3, [0, 6, 7, 21, 22, 23])]), (74, [(4, [0, 6, 7, 17, 18, 19]), (12, [0, 6, 12, 40, 41, 42])]), (77, [(2, [1, 2, 5])]), (78, [(3, [0, 5, 6])]), (79, [(2, [0, 2, 7])]), (80, [(3, [0, 1, 2, 7, 8]), (2000010, [0, 1, 2, 7, 8, 9, 999999])]), (82, [(4, [0, 1, 2, 7])]), (83, [(5, [0, 1, 5, 6]), (10, [0, 1, 5, 6, 7, 8, 9]), (17, [0, 1, 5, 6, 7, 10, 11, 12, 13]), (23, [0, 1, 5, 6, 7, 10, 11, 15]), (2000021, [0, 1, 5, 6, 7, 10, 11, 12, 14, 999999])])]
noncomputable def kp := tabKeep2 kl
structure Lv where
  oriellaw18_StratJudges : Int → LL → LL → LL → Int → Option Bool
  orielref18_Holds : LL → LL → LL → Int → Int → Int → LL → LL → Int → ByteArray → ByteArray → ByteArray → LL → LL → Int → ByteArray → ByteArray → LL → ByteArray → LL → Option Bool
  oriellaw18_awake : Option Bool
  orielref18_Find : LL → LL → LL → Int → Int → Int → LL → LL → Int → LL → LL → Option Int
  strat_Make : Int → LL → LL → Option (LL × LL × LL × Int × Int × Int × LL × LL)
  orielref12_Same : Int → LL → LL → Int → LL → LL → Option Bool
  strat_maker_path : LL → Int → LL → LL → Option LL
  orielref12_SameFilter : Int → ByteArray → ByteArray → ByteArray → LL → LL → Int → ByteArray → ByteArray → ByteArray → LL → LL → Option Bool
  strat_maker_filter : LL → Int → ByteArray → ByteArray → ByteArray → LL → LL → Option LL
  api_Path : LL → Int → LL → LL → Option Bool
  api_Path_2 : LL → Int → LL → LL → Option Int
  strat_maker_filter_1 : Int → LL → LL → Int → LL → LL → Option Bool
  path_Same : Int → LL → LL → Int → LL → LL → Option Bool
  api_Path_3 : LL → LL → Option Bool
  prog_Compile : Int → LL → LL → Option (Int × Int × Int × LL × LL)
  api_Filter : LL → LL → Option Bool
  prog_maker_path : Int → Int → Int → LL → LL → Int → LL → LL → Option (Int × Int × Int × Int × Int × LL × LL)
  path_sameFilter : Int → ByteArray → ByteArray → ByteArray → LL → LL → Int → ByteArray → ByteArray → ByteArray → LL → LL → Option Bool
  prog_maker_step : Int → Int → Int → LL → LL → Int → Int → Option (Int × Int × Int × Int × Int × LL × LL)
  prog_maker_seq : Int → Int → Int → LL → LL → LL → Option (Int × Int × Int × Int × Int × LL × LL)
  prog_maker_alt : Int → Int → Int → LL → LL → LL → Option (Int × Int × Int × Int × Int × LL × LL)
  prog_maker_state : Int → Int → Int → LL → LL → Option (Int × Int × Int × Int × LL × LL)
  prog_maker_lay : Int → Int → Int → LL → LL → LL → Option (Int × Int × Int × LL × LL)
  prog_maker_free : Int → Int → Int → LL → LL → Int → Int → Option (Int × Int × Int × LL × LL)
  strat_Items : LL → LL → LL → Int → Int → Int → LL → LL → Option Int
  orielref12_Right : Int → LL → LL → Option Bool
  strat_Find : LL → LL → LL → Int → Int → Int → LL → LL → Int → LL → LL → Option Int
  orielref12_Size : Int → LL → LL → Option Int
  api_Path_4 : LL → Int → LL → LL → Option Int
  orielref12_size : Int → LL → LL → Int → Option Int
  strat_Find_1 : Int → LL → LL → Int → LL → LL → Option Bool
  orielref12_sizeFilter : Int → ByteArray → ByteArray → ByteArray → LL → LL → Int → Option Int
  strat_Holds : LL → LL → LL → Int → Int → Int → LL → LL → Int → ByteArray → ByteArray → ByteArray → LL → LL → Int → ByteArray → ByteArray → LL → ByteArray → LL → Option Bool
  orielref12_path : Int → LL → LL → Int → Option Bool
  strat_node_holds : LL → LL → LL → Int → Int → Int → LL → LL → Int → ByteArray → ByteArray → LL → ByteArray → LL → Int → ByteArray → ByteArray → ByteArray → LL → LL → Option (Bool × LL × LL × LL × Int × Int × Int × LL × LL × Int × ByteArray × ByteArray × LL × ByteArray × LL)
  orielref12_filter : Int → ByteArray → ByteArray → ByteArray → LL → LL → Int → Option Bool
  strat_node_attr : LL → LL → LL → Int → Int → Int → LL → LL → Int → ByteArray → ByteArray → LL → ByteArray → LL → ByteArray → ByteArray → Option (ByteArray × Bool × LL × LL × LL × Int × Int × Int × LL × LL × Int × ByteArray × ByteArray × LL × ByteArray × LL)
  api_Filter_2 : LL → LL → LL → LL → Int → Int → Int → LL → LL → Int → ByteArray → ByteArray → LL → ByteArray → LL → Option Bool
  api_Filter_3 : LL → LL → LL → LL → Int → Int → Int → LL → LL → Int → ByteArray → ByteArray → LL → ByteArray → LL → Option Bool
  api_Path_5 : LL → LL → LL → LL → Int → Int → Int → LL → LL → Int → ByteArray → ByteArray → LL → ByteArray → LL → Option Bool
  orielref12_named : ByteArray → ByteArray → Option Bool
  orielref04_Right : ByteArray → Option Bool
  api_Filter_4 : LL → LL → LL → LL → Int → Int → Int → LL → LL → Int → ByteArray → ByteArray → LL → ByteArray → LL → Option Int
  api_Filter_5 : LL → LL → LL → LL → Int → Int → Int → LL → LL → Int → ByteArray → ByteArray → LL → ByteArray → LL → Option Int
  api_Path_6 : LL → LL → LL → LL → Int → Int → Int → LL → LL → Int → ByteArray → ByteArray → LL → ByteArray → LL → Option Int
  orielref03_Plain : ByteArray → Option Bool
  orielref01_All : ByteArray → Option (LL × Int × Int)
  strat_node_fails : LL → LL → LL → Int → Int → Int → LL → LL → Int → ByteArray → ByteArray → LL → ByteArray → LL → Int → ByteArray → ByteArray → ByteArray → LL → LL → Option Bool
  strat_node_holds_2 : LL → LL → LL → Int → Int → Int → LL → LL → Int → ByteArray → ByteArray → LL → ByteArray → LL → Int → ByteArray → ByteArray → ByteArray → LL → LL → Option Bool
  strat_node_leads : LL → LL → LL → Int → Int → Int → LL → LL → Int → ByteArray → ByteArray → LL → ByteArray → LL → Int → LL → LL → Option Bool
  orielref02_Start : Int → Option Bool
  orielref01_Rune : ByteArray → Int → Option (Int × Int × Int)
  strat_node_attr_2 : LL → LL → LL → Int → Int → Int → LL → LL → Int → ByteArray → ByteArray → LL → ByteArray → LL → ByteArray → ByteArray → Option (ByteArray × Bool)
  orielref01_Put : Int → Option LL
  orielref01_cut : ByteArray → Int → Option Bool
  orielref01_value : ByteArray → Int → Int → Option Int
  orielref09_Few : LL → Option Bool
  orielref02_Char : Int → Option Bool
  orielref02_Part : Int → Option Bool
  orielref01_begins : ByteArray → Int → LL → Option Bool
  orielref02_Blank : Int → Option Bool
  orielref10_Whole : LL → Option Bool
  strat_Tests : LL → LL → LL → Int → Int → Int → LL → LL → Int → Int → Int → LL → LL → Int → ByteArray → ByteArray → LL → ByteArray → LL → Option LL
  orielref05_Find : ByteArray → Int → ByteArray → Option Int
  orielref09_Depth : LL → Option Int
  orielref09_Right : Int → ByteArray → ByteArray → LL → ByteArray → Option Bool
  orielref09_named : ByteArray → ByteArray → Option Bool
  orielref16_Make : LL → Option (LL × LL)
  orielref16_From : LL → LL → Int → LL → LL → Int → Option LL
  orielref12_Filters : Int → LL → LL → Option LL
  orielref16_leads : LL → LL → Int → LL → LL → LL → Option LL
  orielref12_within : Int → ByteArray → ByteArray → ByteArray → LL → LL → Option LL
  orielref16_first : LL → LL → Int → Option Int
  orielref16_has : LL → Int → Option Bool
  orielref16_next : LL → LL → Int → Option Int
  orielref16_Holds : LL → LL → Int → ByteArray → ByteArray → ByteArray → LL → LL → Int → Option Bool
  orielref16_number : LL → LL → Int → Option Int
  orielref10_End : LL → Int → Option Int
noncomputable def oriellaw18_StratJudges_a : List Arg → Option (Int × LL × LL × LL × Int)
  | [.v (.agg [.c (.int .i64 x0_0), .c (.row 25 x0_1), .c (.row 50 x0_2)]), .v (.one (.c (.row 30 x1))), .v (.one (.c (.int .u8 x2)))] => some (x0_0, x0_1, x0_2, x1, x2)
  | _ => none
noncomputable def oriellaw18_StratJudges_e (a : Int × LL × LL × LL × Int) : List Arg := [.v (.agg [.c (C.int .i64 a.1), .c (C.row 25 a.2.1), .c (C.row 50 a.2.2.1)]), .v (.one (.c (C.row 30 a.2.2.2.1))), .v (.one (.c (C.int .u8 a.2.2.2.2)))]
theorem oriellaw18_StratJudges_ae {l : List Arg} {a : Int × LL × LL × LL × Int} (h : oriellaw18_StratJudges_a l = some a) : l = oriellaw18_StratJudges_e a := by
  unfold oriellaw18_StratJudges_a at h
  split at h
  · cases h; rfl
  · cases h
noncomputable def oriellaw18_StratJudges_d : Res → Option Bool
  | ⟨.one (.d (.bool y0)), []⟩ => some y0
  | _ => none
noncomputable def oriellaw18_StratJudges_r (r : Bool) : Res := ⟨.one (.d (.bool r)), []⟩
theorem oriellaw18_StratJudges_dr {R : Res} {r : Bool} (h : oriellaw18_StratJudges_d R = some r) : R = oriellaw18_StratJudges_r r := by
  unfold oriellaw18_StratJudges_d at h
  split at h
  · cases h; rfl
  · cases h
noncomputable def oriellaw18_StratJudges_o (L : Lv) {Ω : Type} (f : FuncId) (l : List Arg) (K : Res → Option Ω) (next : Option Ω) : Option Ω := rowO 5 oriellaw18_StratJudges_a (fun a => L.oriellaw18_StratJudges a.1 a.2.1 a.2.2.1 a.2.2.2.1 a.2.2.2.2) oriellaw18_StratJudges_r f l K next
noncomputable def orielref18_Holds_a : List Arg → Option (LL × LL × LL × Int × Int × Int × LL × LL × Int × ByteArray × ByteArray × ByteArray × LL × LL × Int × ByteArray × ByteArray × LL × ByteArray × LL)
  | [.v (.agg [.c (.row 25 x0_0), .c (.row 41 x0_1), .c (.row 3 x0_2), .c (.int .i64 x0_3), .c (.int .i64 x0_4), .c (.int .i64 x0_5), .c (.row 125 x0_6), .c (.row 50 x0_7)]), .v (.agg [.c (.int .i64 x1_0), .c (.str x1_1), .c (.str x1_2), .c (.str x1_3), .c (.row 50 x1_4), .c (.row 25 x1_5)]), .v (.agg [.c (.int .i64 x2_0), .c (.str x2_1), .c (.str x2_2), .c (.row 68 x2_3), .c (.str x2_4)]), .v (.one (.c (.row 5 x3)))] => some (x0_0, x0_1, x0_2, x0_3, x0_4, x0_5, x0_6, x0_7, x1_0, x1_1, x1_2, x1_3, x1_4, x1_5, x2_0, x2_1, x2_2, x2_3, x2_4, x3)
  | _ => none
noncomputable def orielref18_Holds_e (a : LL × LL × LL × Int × Int × Int × LL × LL × Int × ByteArray × ByteArray × ByteArray × LL × LL × Int × ByteArray × ByteArray × LL × ByteArray × LL) : List Arg := [.v (.agg [.c (C.row 25 a.1), .c (C.row 41 a.2.1), .c (C.row 3 a.2.2.1), .c (C.int .i64 a.2.2.2.1), .c (C.int .i64 a.2.2.2.2.1), .c (C.int .i64 a.2.2.2.2.2.1), .c (C.row 125 a.2.2.2.2.2.2.1), .c (C.row 50 a.2.2.2.2.2.2.2.1)]), .v (.agg [.c (C.int .i64 a.2.2.2.2.2.2.2.2.1), .c (C.str a.2.2.2.2.2.2.2.2.2.1), .c (C.str a.2.2.2.2.2.2.2.2.2.2.1), .c (C.str a.2.2.2.2.2.2.2.2.2.2.2.1), .c (C.row 50 a.2.2.2.2.2.2.2.2.2.2.2.2.1), .c (C.row 25 a.2.2.2.2.2.2.2.2.2.2.2.2.2.1)]), .v (.agg [.c (C.int .i64 a.2.2.2.2.2.2.2.2.2.2.2.2.2.2.1), .c (C.str a.2.2.2.2.2.2.2.2.2.2.2.2.2.2.2.1), .c (C.str a.2.2.2.2.2.2.2.2.2.2.2.2.2.2.2.2.1), .c (C.row 68 a.2.2.2.2.2.2.2.2.2.2.2.2.2.2.2.2.2.1), .c (C.str a.2.2.2.2.2.2.2.2.2.2.2.2.2.2.2.2.2.2.1)]), .v (.one (.c (C.row 5 a.2.2.2.2.2.2.2.2.2.2.2.2.2.2.2.2.2.2.2)))]
theorem orielref18_Holds_ae {l : List Arg} {a : LL × LL × LL × Int × Int × Int × LL × LL × Int × ByteArray × ByteArray × ByteArray × LL × LL × Int × ByteArray × ByteArray × LL × ByteArray × LL} (h : orielref18_Holds_a l = some a) : l = orielref18_Holds_e a := by
  unfold orielref18_Holds_a at h
  split at h
  · cases h; rfl
  · cases h
noncomputable def orielref18_Holds_d : Res → Option Bool
  | ⟨.one (.d (.bool y0)), []⟩ => some y0
  | _ => none
noncomputable def orielref18_Holds_r (r : Bool) : Res := ⟨.one (.d (.bool r)), []⟩
theorem orielref18_Holds_dr {R : Res} {r : Bool} (h : orielref18_Holds_d R = some r) : R = orielref18_Holds_r r := by
  unfold orielref18_Holds_d at h
  split at h
  · cases h; rfl
  · cases h
noncomputable def orielref18_Holds_o (L : Lv) {Ω : Type} (f : FuncId) (l : List Arg) (K : Res → Option Ω) (next : Option Ω) : Option Ω := rowO 15 orielref18_Holds_a (fun a => L.orielref18_Holds a.1 a.2.1 a.2.2.1 a.2.2.2.1 a.2.2.2.2.1 a.2.2.2.2.2.1 a.2.2.2.2.2.2.1 a.2.2.2.2.2.2.2.1 a.2.2.2.2.2.2.2.2.1 a.2.2.2.2.2.2.2.2.2.1 a.2.2.2.2.2.2.2.2.2.2.1 a.2.2.2.2.2.2.2.2.2.2.2.1 a.2.2.2.2.2.2.2.2.2.2.2.2.1 a.2.2.2.2.2.2.2.2.2.2.2.2.2.1 a.2.2.2.2.2.2.2.2.2.2.2.2.2.2.1 a.2.2.2.2.2.2.2.2.2.2.2.2.2.2.2.1 a.2.2.2.2.2.2.2.2.2.2.2.2.2.2.2.2.1 a.2.2.2.2.2.2.2.2.2.2.2.2.2.2.2.2.2.1 a.2.2.2.2.2.2.2.2.2.2.2.2.2.2.2.2.2.2.1 a.2.2.2.2.2.2.2.2.2.2.2.2.2.2.2.2.2.2.2) orielref18_Holds_r f l K next
noncomputable def oriellaw18_awake_a : List Arg → Option Unit
  | [] => some ()
  | _ => none
noncomputable def oriellaw18_awake_e (a : Unit) : List Arg := []
theorem oriellaw18_awake_ae {l : List Arg} {a : Unit} (h : oriellaw18_awake_a l = some a) : l = oriellaw18_awake_e a := by
  unfold oriellaw18_awake_a at h
  split at h
  · cases h; rfl
  · cases h
noncomputable def oriellaw18_awake_d : Res → Option Bool
  | ⟨.one (.d (.bool y0)), []⟩ => some y0
  | _ => none
noncomputable def oriellaw18_awake_r (r : Bool) : Res := ⟨.one (.d (.bool r)), []⟩
theorem oriellaw18_awake_dr {R : Res} {r : Bool} (h : oriellaw18_awake_d R = some r) : R = oriellaw18_awake_r r := by
  unfold oriellaw18_awake_d at h
  split at h
  · cases h; rfl
  · cases h
noncomputable def oriellaw18_awake_o (L : Lv) {Ω : Type} (f : FuncId) (l : List Arg) (K : Res → Option Ω) (next : Option Ω) : Option Ω := rowO 7 oriellaw18_awake_a (fun a => L.oriellaw18_awake) oriellaw18_awake_r f l K next
noncomputable def orielref18_Find_a : List Arg → Option (LL × LL × LL × Int × Int × Int × LL × LL × Int × LL × LL)
  | [.v (.agg [.c (.row 25 x0_0), .c (.row 41 x0_1), .c (.row 3 x0_2), .c (.int .i64 x0_3), .c (.int .i64 x0_4), .c (.int .i64 x0_5), .c (.row 125 x0_6), .c (.row 50 x0_7)]), .v (.agg [.c (.int .i64 x1_0), .c (.row 25 x1_1), .c (.row 50 x1_2)])] => some (x0_0, x0_1, x0_2, x0_3, x0_4, x0_5, x0_6, x0_7, x1_0, x1_1, x1_2)
  | _ => none
noncomputable def orielref18_Find_e (a : LL × LL × LL × Int × Int × Int × LL × LL × Int × LL × LL) : List Arg := [.v (.agg [.c (C.row 25 a.1), .c (C.row 41 a.2.1), .c (C.row 3 a.2.2.1), .c (C.int .i64 a.2.2.2.1), .c (C.int .i64 a.2.2.2.2.1), .c (C.int .i64 a.2.2.2.2.2.1), .c (C.row 125 a.2.2.2.2.2.2.1), .c (C.row 50 a.2.2.2.2.2.2.2.1)]), .v (.agg [.c (C.int .i64 a.2.2.2.2.2.2.2.2.1), .c (C.row 25 a.2.2.2.2.2.2.2.2.2.1), .c (C.row 50 a.2.2.2.2.2.2.2.2.2.2)])]
theorem orielref18_Find_ae {l : List Arg} {a : LL × LL × LL × Int × Int × Int × LL × LL × Int × LL × LL} (h : orielref18_Find_a l = some a) : l = orielref18_Find_e a := by
  unfold orielref18_Find_a at h
  split at h
  · cases h; rfl
  · cases h
noncomputable def orielref18_Find_d : Res → Option Int
  | ⟨.one (.d (.int .i64 y0)), []⟩ => some y0
  | _ => none
noncomputable def orielref18_Find_r (r : Int) : Res := ⟨.one (.d (.int .i64 r)), []⟩
theorem orielref18_Find_dr {R : Res} {r : Int} (h : orielref18_Find_d R = some r) : R = orielref18_Find_r r := by
  unfold orielref18_Find_d at h
  split at h
  · cases h; rfl
  · cases h
noncomputable def orielref18_Find_o (L : Lv) {Ω : Type} (f : FuncId) (l : List Arg) (K : Res → Option Ω) (next : Option Ω) : Option Ω := rowO 31 orielref18_Find_a (fun a => L.orielref18_Find a.1 a.2.1 a.2.2.1 a.2.2.2.1 a.2.2.2.2.1 a.2.2.2.2.2.1 a.2.2.2.2.2.2.1 a.2.2.2.2.2.2.2.1 a.2.2.2.2.2.2.2.2.1 a.2.2.2.2.2.2.2.2.2.1 a.2.2.2.2.2.2.2.2.2.2) orielref18_Find_r f l K next
noncomputable def strat_Make_a : List Arg → Option (Int × LL × LL)
  | [.v (.agg [.c (.int .i64 x0_0), .c (.row 25 x0_1), .c (.row 50 x0_2)])] => some (x0_0, x0_1, x0_2)
  | _ => none
noncomputable def strat_Make_e (a : Int × LL × LL) : List Arg := [.v (.agg [.c (C.int .i64 a.1), .c (C.row 25 a.2.1), .c (C.row 50 a.2.2)])]
theorem strat_Make_ae {l : List Arg} {a : Int × LL × LL} (h : strat_Make_a l = some a) : l = strat_Make_e a := by
  unfold strat_Make_a at h
  split at h
  · cases h; rfl
  · cases h
noncomputable def strat_Make_d : Res → Option (LL × LL × LL × Int × Int × Int × LL × LL)
  | ⟨.agg [.own 25 y0, .own 41 y1, .own 3 y2, .d (.int .i64 y3), .d (.int .i64 y4), .d (.int .i64 y5), .own 125 y6, .own 50 y7], []⟩ => some (y0, y1, y2, y3, y4, y5, y6, y7)
  | _ => none
noncomputable def strat_Make_r (r : LL × LL × LL × Int × Int × Int × LL × LL) : Res := ⟨.agg [.own 25 r.1, .own 41 r.2.1, .own 3 r.2.2.1, .d (.int .i64 r.2.2.2.1), .d (.int .i64 r.2.2.2.2.1), .d (.int .i64 r.2.2.2.2.2.1), .own 125 r.2.2.2.2.2.2.1, .own 50 r.2.2.2.2.2.2.2], []⟩
theorem strat_Make_dr {R : Res} {r : LL × LL × LL × Int × Int × Int × LL × LL} (h : strat_Make_d R = some r) : R = strat_Make_r r := by
  unfold strat_Make_d at h
  split at h
  · cases h; rfl
  · cases h
noncomputable def strat_Make_o (L : Lv) {Ω : Type} (f : FuncId) (l : List Arg) (K : Res → Option Ω) (next : Option Ω) : Option Ω := rowO 17 strat_Make_a (fun a => L.strat_Make a.1 a.2.1 a.2.2) strat_Make_r f l K next
noncomputable def orielref12_Same_a : List Arg → Option (Int × LL × LL × Int × LL × LL)
  | [.v (.agg [.c (.int .i64 x0_0), .c (.row 25 x0_1), .c (.row 50 x0_2)]), .v (.agg [.c (.int .i64 x1_0), .c (.row 25 x1_1), .c (.row 50 x1_2)])] => some (x0_0, x0_1, x0_2, x1_0, x1_1, x1_2)
  | _ => none
noncomputable def orielref12_Same_e (a : Int × LL × LL × Int × LL × LL) : List Arg := [.v (.agg [.c (C.int .i64 a.1), .c (C.row 25 a.2.1), .c (C.row 50 a.2.2.1)]), .v (.agg [.c (C.int .i64 a.2.2.2.1), .c (C.row 25 a.2.2.2.2.1), .c (C.row 50 a.2.2.2.2.2)])]
theorem orielref12_Same_ae {l : List Arg} {a : Int × LL × LL × Int × LL × LL} (h : orielref12_Same_a l = some a) : l = orielref12_Same_e a := by
  unfold orielref12_Same_a at h
  split at h
  · cases h; rfl
  · cases h
noncomputable def orielref12_Same_d : Res → Option Bool
  | ⟨.one (.d (.bool y0)), []⟩ => some y0
  | _ => none
noncomputable def orielref12_Same_r (r : Bool) : Res := ⟨.one (.d (.bool r)), []⟩
theorem orielref12_Same_dr {R : Res} {r : Bool} (h : orielref12_Same_d R = some r) : R = orielref12_Same_r r := by
  unfold orielref12_Same_d at h
  split at h
  · cases h; rfl
  · cases h
noncomputable def orielref12_Same_o (L : Lv) {Ω : Type} (f : FuncId) (l : List Arg) (K : Res → Option Ω) (next : Option Ω) : Option Ω := rowO 49 orielref12_Same_a (fun a => L.orielref12_Same a.1 a.2.1 a.2.2.1 a.2.2.2.1 a.2.2.2.2.1 a.2.2.2.2.2) orielref12_Same_r f l K next
noncomputable def strat_maker_path_a : List Arg → Option (LL × Int × LL × LL)
  | [.ref 77 [.own 25 x0] 0, .v (.agg [.c (.int .i64 x1_0), .c (.row 25 x1_1), .c (.row 50 x1_2)])] => some (x0, x1_0, x1_1, x1_2)
  | _ => none
noncomputable def strat_maker_path_e (a : LL × Int × LL × LL) : List Arg := [.ref 77 [.own 25 a.1] 0, .v (.agg [.c (C.int .i64 a.2.1), .c (C.row 25 a.2.2.1), .c (C.row 50 a.2.2.2)])]
theorem strat_maker_path_ae {l : List Arg} {a : LL × Int × LL × LL} (h : strat_maker_path_a l = some a) : l = strat_maker_path_e a := by
  unfold strat_maker_path_a at h
  split at h
  · cases h; rfl
  · cases h
noncomputable def strat_maker_path_d : Res → Option LL
  | ⟨.tup [], [[.own 25 y0]]⟩ => some y0
  | _ => none
noncomputable def strat_maker_path_r (r : LL) : Res := ⟨.tup [], [[.own 25 r]]⟩
theorem strat_maker_path_dr {R : Res} {r : LL} (h : strat_maker_path_d R = some r) : R = strat_maker_path_r r := by
  unfold strat_maker_path_d at h
  split at h
  · cases h; rfl
  · cases h
noncomputable def strat_maker_path_o (L : Lv) {Ω : Type} (f : FuncId) (l : List Arg) (K : Res → Option Ω) (next : Option Ω) : Option Ω := rowO 34 strat_maker_path_a (fun a => L.strat_maker_path a.1 a.2.1 a.2.2.1 a.2.2.2) strat_maker_path_r f l K next
noncomputable def orielref12_SameFilter_a : List Arg → Option (Int × ByteArray × ByteArray × ByteArray × LL × LL × Int × ByteArray × ByteArray × ByteArray × LL × LL)
  | [.v (.agg [.c (.int .i64 x0_0), .c (.str x0_1), .c (.str x0_2), .c (.str x0_3), .c (.row 50 x0_4), .c (.row 25 x0_5)]), .v (.agg [.c (.int .i64 x1_0), .c (.str x1_1), .c (.str x1_2), .c (.str x1_3), .c (.row 50 x1_4), .c (.row 25 x1_5)])] => some (x0_0, x0_1, x0_2, x0_3, x0_4, x0_5, x1_0, x1_1, x1_2, x1_3, x1_4, x1_5)
  | _ => none
noncomputable def orielref12_SameFilter_e (a : Int × ByteArray × ByteArray × ByteArray × LL × LL × Int × ByteArray × ByteArray × ByteArray × LL × LL) : List Arg := [.v (.agg [.c (C.int .i64 a.1), .c (C.str a.2.1), .c (C.str a.2.2.1), .c (C.str a.2.2.2.1), .c (C.row 50 a.2.2.2.2.1), .c (C.row 25 a.2.2.2.2.2.1)]), .v (.agg [.c (C.int .i64 a.2.2.2.2.2.2.1), .c (C.str a.2.2.2.2.2.2.2.1), .c (C.str a.2.2.2.2.2.2.2.2.1), .c (C.str a.2.2.2.2.2.2.2.2.2.1), .c (C.row 50 a.2.2.2.2.2.2.2.2.2.2.1), .c (C.row 25 a.2.2.2.2.2.2.2.2.2.2.2)])]
theorem orielref12_SameFilter_ae {l : List Arg} {a : Int × ByteArray × ByteArray × ByteArray × LL × LL × Int × ByteArray × ByteArray × ByteArray × LL × LL} (h : orielref12_SameFilter_a l = some a) : l = orielref12_SameFilter_e a := by
  unfold orielref12_SameFilter_a at h
  split at h
  · cases h; rfl
  · cases h
noncomputable def orielref12_SameFilter_d : Res → Option Bool
  | ⟨.one (.d (.bool y0)), []⟩ => some y0
  | _ => none
noncomputable def orielref12_SameFilter_r (r : Bool) : Res := ⟨.one (.d (.bool r)), []⟩
theorem orielref12_SameFilter_dr {R : Res} {r : Bool} (h : orielref12_SameFilter_d R = some r) : R = orielref12_SameFilter_r r := by
  unfold orielref12_SameFilter_d at h
  split at h
  · cases h; rfl
  · cases h
noncomputable def orielref12_SameFilter_o (L : Lv) {Ω : Type} (f : FuncId) (l : List Arg) (K : Res → Option Ω) (next : Option Ω) : Option Ω := rowO 69 orielref12_SameFilter_a (fun a => L.orielref12_SameFilter a.1 a.2.1 a.2.2.1 a.2.2.2.1 a.2.2.2.2.1 a.2.2.2.2.2.1 a.2.2.2.2.2.2.1 a.2.2.2.2.2.2.2.1 a.2.2.2.2.2.2.2.2.1 a.2.2.2.2.2.2.2.2.2.1 a.2.2.2.2.2.2.2.2.2.2.1 a.2.2.2.2.2.2.2.2.2.2.2) orielref12_SameFilter_r f l K next
noncomputable def strat_maker_filter_a : List Arg → Option (LL × Int × ByteArray × ByteArray × ByteArray × LL × LL)
  | [.ref 77 [.own 25 x0] 0, .v (.agg [.c (.int .i64 x1_0), .c (.str x1_1), .c (.str x1_2), .c (.str x1_3), .c (.row 50 x1_4), .c (.row 25 x1_5)])] => some (x0, x1_0, x1_1, x1_2, x1_3, x1_4, x1_5)
  | _ => none
noncomputable def strat_maker_filter_e (a : LL × Int × ByteArray × ByteArray × ByteArray × LL × LL) : List Arg := [.ref 77 [.own 25 a.1] 0, .v (.agg [.c (C.int .i64 a.2.1), .c (C.str a.2.2.1), .c (C.str a.2.2.2.1), .c (C.str a.2.2.2.2.1), .c (C.row 50 a.2.2.2.2.2.1), .c (C.row 25 a.2.2.2.2.2.2)])]
theorem strat_maker_filter_ae {l : List Arg} {a : LL × Int × ByteArray × ByteArray × ByteArray × LL × LL} (h : strat_maker_filter_a l = some a) : l = strat_maker_filter_e a := by
  unfold strat_maker_filter_a at h
  split at h
  · cases h; rfl
  · cases h
noncomputable def strat_maker_filter_d : Res → Option LL
  | ⟨.tup [], [[.own 25 y0]]⟩ => some y0
  | _ => none
noncomputable def strat_maker_filter_r (r : LL) : Res := ⟨.tup [], [[.own 25 r]]⟩
theorem strat_maker_filter_dr {R : Res} {r : LL} (h : strat_maker_filter_d R = some r) : R = strat_maker_filter_r r := by
  unfold strat_maker_filter_d at h
  split at h
  · cases h; rfl
  · cases h
noncomputable def strat_maker_filter_o (L : Lv) {Ω : Type} (f : FuncId) (l : List Arg) (K : Res → Option Ω) (next : Option Ω) : Option Ω := rowO 55 strat_maker_filter_a (fun a => L.strat_maker_filter a.1 a.2.1 a.2.2.1 a.2.2.2.1 a.2.2.2.2.1 a.2.2.2.2.2.1 a.2.2.2.2.2.2) strat_maker_filter_r f l K next
noncomputable def api_Path_a : List Arg → Option (LL × Int × LL × LL)
  | [.v (.one (.c (.row 25 x0))), .fnr 71 false 25 [.int .i64 x1_0, .row 25 x1_1, .row 50 x1_2] 0] => some (x0, x1_0, x1_1, x1_2)
  | _ => none
noncomputable def api_Path_e (a : LL × Int × LL × LL) : List Arg := [.v (.one (.c (C.row 25 a.1))), .fnr 71 false 25 [C.int .i64 a.2.1, C.row 25 a.2.2.1, C.row 50 a.2.2.2] 0]
theorem api_Path_ae {l : List Arg} {a : LL × Int × LL × LL} (h : api_Path_a l = some a) : l = api_Path_e a := by
  unfold api_Path_a at h
  split at h
  · cases h; rfl
  · cases h
noncomputable def api_Path_d : Res → Option Bool
  | ⟨.one (.d (.bool y0)), []⟩ => some y0
  | _ => none
noncomputable def api_Path_r (r : Bool) : Res := ⟨.one (.d (.bool r)), []⟩
theorem api_Path_dr {R : Res} {r : Bool} (h : api_Path_d R = some r) : R = api_Path_r r := by
  unfold api_Path_d at h
  split at h
  · cases h; rfl
  · cases h
noncomputable def api_Path_o (L : Lv) {Ω : Type} (f : FuncId) (l : List Arg) (K : Res → Option Ω) (next : Option Ω) : Option Ω := rowO 53 api_Path_a (fun a => L.api_Path a.1 a.2.1 a.2.2.1 a.2.2.2) api_Path_r f l K next
noncomputable def api_Path_2_a : List Arg → Option (LL × Int × LL × LL)
  | [.v (.one (.c (.row 25 x0))), .fnr 71 false 25 [.int .i64 x1_0, .row 25 x1_1, .row 50 x1_2] 0] => some (x0, x1_0, x1_1, x1_2)
  | _ => none
noncomputable def api_Path_2_e (a : LL × Int × LL × LL) : List Arg := [.v (.one (.c (C.row 25 a.1))), .fnr 71 false 25 [C.int .i64 a.2.1, C.row 25 a.2.2.1, C.row 50 a.2.2.2] 0]
theorem api_Path_2_ae {l : List Arg} {a : LL × Int × LL × LL} (h : api_Path_2_a l = some a) : l = api_Path_2_e a := by
  unfold api_Path_2_a at h
  split at h
  · cases h; rfl
  · cases h
noncomputable def api_Path_2_d : Res → Option Int
  | ⟨.one (.d (.int .i64 y0)), []⟩ => some y0
  | _ => none
noncomputable def api_Path_2_r (r : Int) : Res := ⟨.one (.d (.int .i64 r)), []⟩
theorem api_Path_2_dr {R : Res} {r : Int} (h : api_Path_2_d R = some r) : R = api_Path_2_r r := by
  unfold api_Path_2_d at h
  split at h
  · cases h; rfl
  · cases h
noncomputable def api_Path_2_o (L : Lv) {Ω : Type} (f : FuncId) (l : List Arg) (K : Res → Option Ω) (next : Option Ω) : Option Ω := rowO 36 api_Path_2_a (fun a => L.api_Path_2 a.1 a.2.1 a.2.2.1 a.2.2.2) api_Path_2_r f l K next
noncomputable def strat_maker_filter_1_a : List Arg → Option (Int × LL × LL × Int × LL × LL)
  | [.v (.agg [.c (.int .i64 x0_0), .c (.row 25 x0_1), .c (.row 50 x0_2)]), .rop 25 [.int .i64 x1_0, .row 25 x1_1, .row 50 x1_2] 0] => some (x0_0, x0_1, x0_2, x1_0, x1_1, x1_2)
  | _ => none
noncomputable def strat_maker_filter_1_e (a : Int × LL × LL × Int × LL × LL) : List Arg := [.v (.agg [.c (C.int .i64 a.1), .c (C.row 25 a.2.1), .c (C.row 50 a.2.2.1)]), .rop 25 [C.int .i64 a.2.2.2.1, C.row 25 a.2.2.2.2.1, C.row 50 a.2.2.2.2.2] 0]
theorem strat_maker_filter_1_ae {l : List Arg} {a : Int × LL × LL × Int × LL × LL} (h : strat_maker_filter_1_a l = some a) : l = strat_maker_filter_1_e a := by
  unfold strat_maker_filter_1_a at h
  split at h
  · cases h; rfl
  · cases h
noncomputable def strat_maker_filter_1_d : Res → Option Bool
  | ⟨.one (.d (.bool y0)), []⟩ => some y0
  | _ => none
noncomputable def strat_maker_filter_1_r (r : Bool) : Res := ⟨.one (.d (.bool r)), []⟩
theorem strat_maker_filter_1_dr {R : Res} {r : Bool} (h : strat_maker_filter_1_d R = some r) : R = strat_maker_filter_1_r r := by
  unfold strat_maker_filter_1_d at h
  split at h
  · cases h; rfl
  · cases h
noncomputable def strat_maker_filter_1_o (L : Lv) {Ω : Type} (f : FuncId) (l : List Arg) (K : Res → Option Ω) (next : Option Ω) : Option Ω := rowO 71 strat_maker_filter_1_a (fun a => L.strat_maker_filter_1 a.1 a.2.1 a.2.2.1 a.2.2.2.1 a.2.2.2.2.1 a.2.2.2.2.2) strat_maker_filter_1_r f l K next
noncomputable def path_Same_a : List Arg → Option (Int × LL × LL × Int × LL × LL)
  | [.v (.agg [.c (.int .i64 x0_0), .c (.row 25 x0_1), .c (.row 50 x0_2)]), .v (.agg [.c (.int .i64 x1_0), .c (.row 25 x1_1), .c (.row 50 x1_2)])] => some (x0_0, x0_1, x0_2, x1_0, x1_1, x1_2)
  | _ => none
noncomputable def path_Same_e (a : Int × LL × LL × Int × LL × LL) : List Arg := [.v (.agg [.c (C.int .i64 a.1), .c (C.row 25 a.2.1), .c (C.row 50 a.2.2.1)]), .v (.agg [.c (C.int .i64 a.2.2.2.1), .c (C.row 25 a.2.2.2.2.1), .c (C.row 50 a.2.2.2.2.2)])]
theorem path_Same_ae {l : List Arg} {a : Int × LL × LL × Int × LL × LL} (h : path_Same_a l = some a) : l = path_Same_e a := by
  unfold path_Same_a at h
  split at h
  · cases h; rfl
  · cases h
noncomputable def path_Same_d : Res → Option Bool
  | ⟨.one (.d (.bool y0)), []⟩ => some y0
  | _ => none
noncomputable def path_Same_r (r : Bool) : Res := ⟨.one (.d (.bool r)), []⟩
theorem path_Same_dr {R : Res} {r : Bool} (h : path_Same_d R = some r) : R = path_Same_r r := by
  unfold path_Same_d at h
  split at h
  · cases h; rfl
  · cases h
noncomputable def path_Same_o (L : Lv) {Ω : Type} (f : FuncId) (l : List Arg) (K : Res → Option Ω) (next : Option Ω) : Option Ω := rowO 38 path_Same_a (fun a => L.path_Same a.1 a.2.1 a.2.2.1 a.2.2.2.1 a.2.2.2.2.1 a.2.2.2.2.2) path_Same_r f l K next
noncomputable def api_Path_3_a : List Arg → Option (LL × LL)
  | [.v (.one (.c (.row 25 x0))), .v (.one (.c (.row 25 x1))), .fn 38] => some (x0, x1)
  | _ => none
noncomputable def api_Path_3_e (a : LL × LL) : List Arg := [.v (.one (.c (C.row 25 a.1))), .v (.one (.c (C.row 25 a.2))), .fn 38]
theorem api_Path_3_ae {l : List Arg} {a : LL × LL} (h : api_Path_3_a l = some a) : l = api_Path_3_e a := by
  unfold api_Path_3_a at h
  split at h
  · cases h; rfl
  · cases h
noncomputable def api_Path_3_d : Res → Option Bool
  | ⟨.one (.d (.bool y0)), []⟩ => some y0
  | _ => none
noncomputable def api_Path_3_r (r : Bool) : Res := ⟨.one (.d (.bool r)), []⟩
theorem api_Path_3_dr {R : Res} {r : Bool} (h : api_Path_3_d R = some r) : R = api_Path_3_r r := by
  unfold api_Path_3_d at h
  split at h
  · cases h; rfl
  · cases h
noncomputable def api_Path_3_o (L : Lv) {Ω : Type} (f : FuncId) (l : List Arg) (K : Res → Option Ω) (next : Option Ω) : Option Ω := rowO 57 api_Path_3_a (fun a => L.api_Path_3 a.1 a.2) api_Path_3_r f l K next
noncomputable def prog_Compile_a : List Arg → Option (Int × LL × LL)
  | [.v (.agg [.c (.int .i64 x0_0), .c (.row 25 x0_1), .c (.row 50 x0_2)])] => some (x0_0, x0_1, x0_2)
  | _ => none
noncomputable def prog_Compile_e (a : Int × LL × LL) : List Arg := [.v (.agg [.c (C.int .i64 a.1), .c (C.row 25 a.2.1), .c (C.row 50 a.2.2)])]
theorem prog_Compile_ae {l : List Arg} {a : Int × LL × LL} (h : prog_Compile_a l = some a) : l = prog_Compile_e a := by
  unfold prog_Compile_a at h
  split at h
  · cases h; rfl
  · cases h
noncomputable def prog_Compile_d : Res → Option (Int × Int × Int × LL × LL)
  | ⟨.agg [.d (.int .i64 y0), .d (.int .i64 y1), .d (.int .i64 y2), .own 125 y3, .own 50 y4], []⟩ => some (y0, y1, y2, y3, y4)
  | _ => none
noncomputable def prog_Compile_r (r : Int × Int × Int × LL × LL) : Res := ⟨.agg [.d (.int .i64 r.1), .d (.int .i64 r.2.1), .d (.int .i64 r.2.2.1), .own 125 r.2.2.2.1, .own 50 r.2.2.2.2], []⟩
theorem prog_Compile_dr {R : Res} {r : Int × Int × Int × LL × LL} (h : prog_Compile_d R = some r) : R = prog_Compile_r r := by
  unfold prog_Compile_d at h
  split at h
  · cases h; rfl
  · cases h
noncomputable def prog_Compile_o (L : Lv) {Ω : Type} (f : FuncId) (l : List Arg) (K : Res → Option Ω) (next : Option Ω) : Option Ω := rowO 35 prog_Compile_a (fun a => L.prog_Compile a.1 a.2.1 a.2.2) prog_Compile_r f l K next
noncomputable def api_Filter_a : List Arg → Option (LL × LL)
  | [.v (.one (.c (.row 50 x0))), .v (.one (.c (.row 50 x1))), .fn 59] => some (x0, x1)
  | _ => none
noncomputable def api_Filter_e (a : LL × LL) : List Arg := [.v (.one (.c (C.row 50 a.1))), .v (.one (.c (C.row 50 a.2))), .fn 59]
theorem api_Filter_ae {l : List Arg} {a : LL × LL} (h : api_Filter_a l = some a) : l = api_Filter_e a := by
  unfold api_Filter_a at h
  split at h
  · cases h; rfl
  · cases h
noncomputable def api_Filter_d : Res → Option Bool
  | ⟨.one (.d (.bool y0)), []⟩ => some y0
  | _ => none
noncomputable def api_Filter_r (r : Bool) : Res := ⟨.one (.d (.bool r)), []⟩
theorem api_Filter_dr {R : Res} {r : Bool} (h : api_Filter_d R = some r) : R = api_Filter_r r := by
  unfold api_Filter_d at h
  split at h
  · cases h; rfl
  · cases h
noncomputable def api_Filter_o (L : Lv) {Ω : Type} (f : FuncId) (l : List Arg) (K : Res → Option Ω) (next : Option Ω) : Option Ω := rowO 58 api_Filter_a (fun a => L.api_Filter a.1 a.2) api_Filter_r f l K next
noncomputable def prog_maker_path_a : List Arg → Option (Int × Int × Int × LL × LL × Int × LL × LL)
  | [.ref 101 [.d (.int .i64 x0_0), .d (.int .i64 x0_1), .d (.int .i64 x0_2), .own 125 x0_3, .own 50 x0_4] 0, .v (.agg [.c (.int .i64 x1_0), .c (.row 25 x1_1), .c (.row 50 x1_2)])] => some (x0_0, x0_1, x0_2, x0_3, x0_4, x1_0, x1_1, x1_2)
  | _ => none
noncomputable def prog_maker_path_e (a : Int × Int × Int × LL × LL × Int × LL × LL) : List Arg := [.ref 101 [.d (C.int .i64 a.1), .d (C.int .i64 a.2.1), .d (C.int .i64 a.2.2.1), .own 125 a.2.2.2.1, .own 50 a.2.2.2.2.1] 0, .v (.agg [.c (C.int .i64 a.2.2.2.2.2.1), .c (C.row 25 a.2.2.2.2.2.2.1), .c (C.row 50 a.2.2.2.2.2.2.2)])]
theorem prog_maker_path_ae {l : List Arg} {a : Int × Int × Int × LL × LL × Int × LL × LL} (h : prog_maker_path_a l = some a) : l = prog_maker_path_e a := by
  unfold prog_maker_path_a at h
  split at h
  · cases h; rfl
  · cases h
noncomputable def prog_maker_path_d : Res → Option (Int × Int × Int × Int × Int × LL × LL)
  | ⟨.tup [.one (.d (.int .i64 y0)), .one (.d (.int .i64 y1))], [[.d (.int .i64 y2), .d (.int .i64 y3), .d (.int .i64 y4), .own 125 y5, .own 50 y6]]⟩ => some (y0, y1, y2, y3, y4, y5, y6)
  | _ => none
noncomputable def prog_maker_path_r (r : Int × Int × Int × Int × Int × LL × LL) : Res := ⟨.tup [.one (.d (.int .i64 r.1)), .one (.d (.int .i64 r.2.1))], [[.d (.int .i64 r.2.2.1), .d (.int .i64 r.2.2.2.1), .d (.int .i64 r.2.2.2.2.1), .own 125 r.2.2.2.2.2.1, .own 50 r.2.2.2.2.2.2]]⟩
theorem prog_maker_path_dr {R : Res} {r : Int × Int × Int × Int × Int × LL × LL} (h : prog_maker_path_d R = some r) : R = prog_maker_path_r r := by
  unfold prog_maker_path_d at h
  split at h
  · cases h; rfl
  · cases h
noncomputable def prog_maker_path_o (L : Lv) {Ω : Type} (f : FuncId) (l : List Arg) (K : Res → Option Ω) (next : Option Ω) : Option Ω := rowO 56 prog_maker_path_a (fun a => L.prog_maker_path a.1 a.2.1 a.2.2.1 a.2.2.2.1 a.2.2.2.2.1 a.2.2.2.2.2.1 a.2.2.2.2.2.2.1 a.2.2.2.2.2.2.2) prog_maker_path_r f l K next
noncomputable def path_sameFilter_a : List Arg → Option (Int × ByteArray × ByteArray × ByteArray × LL × LL × Int × ByteArray × ByteArray × ByteArray × LL × LL)
  | [.v (.agg [.c (.int .i64 x0_0), .c (.str x0_1), .c (.str x0_2), .c (.str x0_3), .c (.row 50 x0_4), .c (.row 25 x0_5)]), .v (.agg [.c (.int .i64 x1_0), .c (.str x1_1), .c (.str x1_2), .c (.str x1_3), .c (.row 50 x1_4), .c (.row 25 x1_5)])] => some (x0_0, x0_1, x0_2, x0_3, x0_4, x0_5, x1_0, x1_1, x1_2, x1_3, x1_4, x1_5)
  | _ => none
noncomputable def path_sameFilter_e (a : Int × ByteArray × ByteArray × ByteArray × LL × LL × Int × ByteArray × ByteArray × ByteArray × LL × LL) : List Arg := [.v (.agg [.c (C.int .i64 a.1), .c (C.str a.2.1), .c (C.str a.2.2.1), .c (C.str a.2.2.2.1), .c (C.row 50 a.2.2.2.2.1), .c (C.row 25 a.2.2.2.2.2.1)]), .v (.agg [.c (C.int .i64 a.2.2.2.2.2.2.1), .c (C.str a.2.2.2.2.2.2.2.1), .c (C.str a.2.2.2.2.2.2.2.2.1), .c (C.str a.2.2.2.2.2.2.2.2.2.1), .c (C.row 50 a.2.2.2.2.2.2.2.2.2.2.1), .c (C.row 25 a.2.2.2.2.2.2.2.2.2.2.2)])]
theorem path_sameFilter_ae {l : List Arg} {a : Int × ByteArray × ByteArray × ByteArray × LL × LL × Int × ByteArray × ByteArray × ByteArray × LL × LL} (h : path_sameFilter_a l = some a) : l = path_sameFilter_e a := by
  unfold path_sameFilter_a at h
  split at h
  · cases h; rfl
  · cases h
noncomputable def path_sameFilter_d : Res → Option Bool
  | ⟨.one (.d (.bool y0)), []⟩ => some y0
  | _ => none
noncomputable def path_sameFilter_r (r : Bool) : Res := ⟨.one (.d (.bool r)), []⟩
theorem path_sameFilter_dr {R : Res} {r : Bool} (h : path_sameFilter_d R = some r) : R = path_sameFilter_r r := by
  unfold path_sameFilter_d at h
  split at h
  · cases h; rfl
  · cases h
noncomputable def path_sameFilter_o (L : Lv) {Ω : Type} (f : FuncId) (l : List Arg) (K : Res → Option Ω) (next : Option Ω) : Option Ω := rowO 59 path_sameFilter_a (fun a => L.path_sameFilter a.1 a.2.1 a.2.2.1 a.2.2.2.1 a.2.2.2.2.1 a.2.2.2.2.2.1 a.2.2.2.2.2.2.1 a.2.2.2.2.2.2.2.1 a.2.2.2.2.2.2.2.2.1 a.2.2.2.2.2.2.2.2.2.1 a.2.2.2.2.2.2.2.2.2.2.1 a.2.2.2.2.2.2.2.2.2.2.2) path_sameFilter_r f l K next
noncomputable def prog_maker_step_a : List Arg → Option (Int × Int × Int × LL × LL × Int × Int)
  | [.ref 101 [.d (.int .i64 x0_0), .d (.int .i64 x0_1), .d (.int .i64 x0_2), .own 125 x0_3, .own 50 x0_4] 0, .v (.one (.c (.int .i64 x1))), .v (.one (.c (.int .i64 x2)))] => some (x0_0, x0_1, x0_2, x0_3, x0_4, x1, x2)
  | _ => none
noncomputable def prog_maker_step_e (a : Int × Int × Int × LL × LL × Int × Int) : List Arg := [.ref 101 [.d (C.int .i64 a.1), .d (C.int .i64 a.2.1), .d (C.int .i64 a.2.2.1), .own 125 a.2.2.2.1, .own 50 a.2.2.2.2.1] 0, .v (.one (.c (C.int .i64 a.2.2.2.2.2.1))), .v (.one (.c (C.int .i64 a.2.2.2.2.2.2)))]
theorem prog_maker_step_ae {l : List Arg} {a : Int × Int × Int × LL × LL × Int × Int} (h : prog_maker_step_a l = some a) : l = prog_maker_step_e a := by
  unfold prog_maker_step_a at h
  split at h
  · cases h; rfl
  · cases h
noncomputable def prog_maker_step_d : Res → Option (Int × Int × Int × Int × Int × LL × LL)
  | ⟨.tup [.one (.d (.int .i64 y0)), .one (.d (.int .i64 y1))], [[.d (.int .i64 y2), .d (.int .i64 y3), .d (.int .i64 y4), .own 125 y5, .own 50 y6]]⟩ => some (y0, y1, y2, y3, y4, y5, y6)
  | _ => none
noncomputable def prog_maker_step_r (r : Int × Int × Int × Int × Int × LL × LL) : Res := ⟨.tup [.one (.d (.int .i64 r.1)), .one (.d (.int .i64 r.2.1))], [[.d (.int .i64 r.2.2.1), .d (.int .i64 r.2.2.2.1), .d (.int .i64 r.2.2.2.2.1), .own 125 r.2.2.2.2.2.1, .own 50 r.2.2.2.2.2.2]]⟩
theorem prog_maker_step_dr {R : Res} {r : Int × Int × Int × Int × Int × LL × LL} (h : prog_maker_step_d R = some r) : R = prog_maker_step_r r := by
  unfold prog_maker_step_d at h
  split at h
  · cases h; rfl
  · cases h
noncomputable def prog_maker_step_o (L : Lv) {Ω : Type} (f : FuncId) (l : List Arg) (K : Res → Option Ω) (next : Option Ω) : Option Ω := rowO 72 prog_maker_step_a (fun a => L.prog_maker_step a.1 a.2.1 a.2.2.1 a.2.2.2.1 a.2.2.2.2.1 a.2.2.2.2.2.1 a.2.2.2.2.2.2) prog_maker_step_r f l K next
noncomputable def prog_maker_seq_a : List Arg → Option (Int × Int × Int × LL × LL × LL)
  | [.ref 101 [.d (.int .i64 x0_0), .d (.int .i64 x0_1), .d (.int .i64 x0_2), .own 125 x0_3, .own 50 x0_4] 0, .v (.one (.c (.row 25 x1)))] => some (x0_0, x0_1, x0_2, x0_3, x0_4, x1)
  | _ => none
noncomputable def prog_maker_seq_e (a : Int × Int × Int × LL × LL × LL) : List Arg := [.ref 101 [.d (C.int .i64 a.1), .d (C.int .i64 a.2.1), .d (C.int .i64 a.2.2.1), .own 125 a.2.2.2.1, .own 50 a.2.2.2.2.1] 0, .v (.one (.c (C.row 25 a.2.2.2.2.2)))]
theorem prog_maker_seq_ae {l : List Arg} {a : Int × Int × Int × LL × LL × LL} (h : prog_maker_seq_a l = some a) : l = prog_maker_seq_e a := by
  unfold prog_maker_seq_a at h
  split at h
  · cases h; rfl
  · cases h
noncomputable def prog_maker_seq_d : Res → Option (Int × Int × Int × Int × Int × LL × LL)
  | ⟨.tup [.one (.d (.int .i64 y0)), .one (.d (.int .i64 y1))], [[.d (.int .i64 y2), .d (.int .i64 y3), .d (.int .i64 y4), .own 125 y5, .own 50 y6]]⟩ => some (y0, y1, y2, y3, y4, y5, y6)
  | _ => none
noncomputable def prog_maker_seq_r (r : Int × Int × Int × Int × Int × LL × LL) : Res := ⟨.tup [.one (.d (.int .i64 r.1)), .one (.d (.int .i64 r.2.1))], [[.d (.int .i64 r.2.2.1), .d (.int .i64 r.2.2.2.1), .d (.int .i64 r.2.2.2.2.1), .own 125 r.2.2.2.2.2.1, .own 50 r.2.2.2.2.2.2]]⟩
theorem prog_maker_seq_dr {R : Res} {r : Int × Int × Int × Int × Int × LL × LL} (h : prog_maker_seq_d R = some r) : R = prog_maker_seq_r r := by
  unfold prog_maker_seq_d at h
  split at h
  · cases h; rfl
  · cases h
noncomputable def prog_maker_seq_o (L : Lv) {Ω : Type} (f : FuncId) (l : List Arg) (K : Res → Option Ω) (next : Option Ω) : Option Ω := rowO 73 prog_maker_seq_a (fun a => L.prog_maker_seq a.1 a.2.1 a.2.2.1 a.2.2.2.1 a.2.2.2.2.1 a.2.2.2.2.2) prog_maker_seq_r f l K next
noncomputable def prog_maker_alt_a : List Arg → Option (Int × Int × Int × LL × LL × LL)
  | [.ref 101 [.d (.int .i64 x0_0), .d (.int .i64 x0_1), .d (.int .i64 x0_2), .own 125 x0_3, .own 50 x0_4] 0, .v (.one (.c (.row 25 x1)))] => some (x0_0, x0_1, x0_2, x0_3, x0_4, x1)
  | _ => none
noncomputable def prog_maker_alt_e (a : Int × Int × Int × LL × LL × LL) : List Arg := [.ref 101 [.d (C.int .i64 a.1), .d (C.int .i64 a.2.1), .d (C.int .i64 a.2.2.1), .own 125 a.2.2.2.1, .own 50 a.2.2.2.2.1] 0, .v (.one (.c (C.row 25 a.2.2.2.2.2)))]
theorem prog_maker_alt_ae {l : List Arg} {a : Int × Int × Int × LL × LL × LL} (h : prog_maker_alt_a l = some a) : l = prog_maker_alt_e a := by
  unfold prog_maker_alt_a at h
  split at h
  · cases h; rfl
  · cases h
noncomputable def prog_maker_alt_d : Res → Option (Int × Int × Int × Int × Int × LL × LL)
  | ⟨.tup [.one (.d (.int .i64 y0)), .one (.d (.int .i64 y1))], [[.d (.int .i64 y2), .d (.int .i64 y3), .d (.int .i64 y4), .own 125 y5, .own 50 y6]]⟩ => some (y0, y1, y2, y3, y4, y5, y6)
  | _ => none
noncomputable def prog_maker_alt_r (r : Int × Int × Int × Int × Int × LL × LL) : Res := ⟨.tup [.one (.d (.int .i64 r.1)), .one (.d (.int .i64 r.2.1))], [[.d (.int .i64 r.2.2.1), .d (.int .i64 r.2.2.2.1), .d (.int .i64 r.2.2.2.2.1), .own 125 r.2.2.2.2.2.1, .own 50 r.2.2.2.2.2.2]]⟩
theorem prog_maker_alt_dr {R : Res} {r : Int × Int × Int × Int × Int × LL × LL} (h : prog_maker_alt_d R = some r) : R = prog_maker_alt_r r := by
  unfold prog_maker_alt_d at h
  split at h
  · cases h; rfl
  · cases h
noncomputable def prog_maker_alt_o (L : Lv) {Ω : Type} (f : FuncId) (l : List Arg) (K : Res → Option Ω) (next : Option Ω) : Option Ω := rowO 74 prog_maker_alt_a (fun a => L.prog_maker_alt a.1 a.2.1 a.2.2.1 a.2.2.2.1 a.2.2.2.2.1 a.2.2.2.2.2) prog_maker_alt_r f l K next
noncomputable def prog_maker_state_a : List Arg → Option (Int × Int × Int × LL × LL)
  | [.ref 101 [.d (.int .i64 x0_0), .d (.int .i64 x0_1), .d (.int .i64 x0_2), .own 125 x0_3, .own 50 x0_4] 0] => some (x0_0, x0_1, x0_2, x0_3, x0_4)
  | _ => none
noncomputable def prog_maker_state_e (a : Int × Int × Int × LL × LL) : List Arg := [.ref 101 [.d (C.int .i64 a.1), .d (C.int .i64 a.2.1), .d (C.int .i64 a.2.2.1), .own 125 a.2.2.2.1, .own 50 a.2.2.2.2] 0]
theorem prog_maker_state_ae {l : List Arg} {a : Int × Int × Int × LL × LL} (h : prog_maker_state_a l = some a) : l = prog_maker_state_e a := by
  unfold prog_maker_state_a at h
  split at h
  · cases h; rfl
  · cases h
noncomputable def prog_maker_state_d : Res → Option (Int × Int × Int × Int × LL × LL)
  | ⟨.one (.d (.int .i64 y0)), [[.d (.int .i64 y1), .d (.int .i64 y2), .d (.int .i64 y3), .own 125 y4, .own 50 y5]]⟩ => some (y0, y1, y2, y3, y4, y5)
  | _ => none
noncomputable def prog_maker_state_r (r : Int × Int × Int × Int × LL × LL) : Res := ⟨.one (.d (.int .i64 r.1)), [[.d (.int .i64 r.2.1), .d (.int .i64 r.2.2.1), .d (.int .i64 r.2.2.2.1), .own 125 r.2.2.2.2.1, .own 50 r.2.2.2.2.2]]⟩
theorem prog_maker_state_dr {R : Res} {r : Int × Int × Int × Int × LL × LL} (h : prog_maker_state_d R = some r) : R = prog_maker_state_r r := by
  unfold prog_maker_state_d at h
  split at h
  · cases h; rfl
  · cases h
noncomputable def prog_maker_state_o (L : Lv) {Ω : Type} (f : FuncId) (l : List Arg) (K : Res → Option Ω) (next : Option Ω) : Option Ω := rowO 75 prog_maker_state_a (fun a => L.prog_maker_state a.1 a.2.1 a.2.2.1 a.2.2.2.1 a.2.2.2.2) prog_maker_state_r f l K next
noncomputable def prog_maker_lay_a : List Arg → Option (Int × Int × Int × LL × LL × LL)
  | [.ref 101 [.d (.int .i64 x0_0), .d (.int .i64 x0_1), .d (.int .i64 x0_2), .own 125 x0_3, .own 50 x0_4] 0, .v (.one (.c (.row 125 x1)))] => some (x0_0, x0_1, x0_2, x0_3, x0_4, x1)
  | _ => none
noncomputable def prog_maker_lay_e (a : Int × Int × Int × LL × LL × LL) : List Arg := [.ref 101 [.d (C.int .i64 a.1), .d (C.int .i64 a.2.1), .d (C.int .i64 a.2.2.1), .own 125 a.2.2.2.1, .own 50 a.2.2.2.2.1] 0, .v (.one (.c (C.row 125 a.2.2.2.2.2)))]
theorem prog_maker_lay_ae {l : List Arg} {a : Int × Int × Int × LL × LL × LL} (h : prog_maker_lay_a l = some a) : l = prog_maker_lay_e a := by
  unfold prog_maker_lay_a at h
  split at h
  · cases h; rfl
  · cases h
noncomputable def prog_maker_lay_d : Res → Option (Int × Int × Int × LL × LL)
  | ⟨.tup [], [[.d (.int .i64 y0), .d (.int .i64 y1), .d (.int .i64 y2), .own 125 y3, .own 50 y4]]⟩ => some (y0, y1, y2, y3, y4)
  | _ => none
noncomputable def prog_maker_lay_r (r : Int × Int × Int × LL × LL) : Res := ⟨.tup [], [[.d (.int .i64 r.1), .d (.int .i64 r.2.1), .d (.int .i64 r.2.2.1), .own 125 r.2.2.2.1, .own 50 r.2.2.2.2]]⟩
theorem prog_maker_lay_dr {R : Res} {r : Int × Int × Int × LL × LL} (h : prog_maker_lay_d R = some r) : R = prog_maker_lay_r r := by
  unfold prog_maker_lay_d at h
  split at h
  · cases h; rfl
  · cases h
noncomputable def prog_maker_lay_o (L : Lv) {Ω : Type} (f : FuncId) (l : List Arg) (K : Res → Option Ω) (next : Option Ω) : Option Ω := rowO 84 prog_maker_lay_a (fun a => L.prog_maker_lay a.1 a.2.1 a.2.2.1 a.2.2.2.1 a.2.2.2.2.1 a.2.2.2.2.2) prog_maker_lay_r f l K next
noncomputable def prog_maker_free_a : List Arg → Option (Int × Int × Int × LL × LL × Int × Int)
  | [.ref 101 [.d (.int .i64 x0_0), .d (.int .i64 x0_1), .d (.int .i64 x0_2), .own 125 x0_3, .own 50 x0_4] 0, .v (.one (.c (.int .i64 x1))), .v (.one (.c (.int .i64 x2)))] => some (x0_0, x0_1, x0_2, x0_3, x0_4, x1, x2)
  | _ => none
noncomputable def prog_maker_free_e (a : Int × Int × Int × LL × LL × Int × Int) : List Arg := [.ref 101 [.d (C.int .i64 a.1), .d (C.int .i64 a.2.1), .d (C.int .i64 a.2.2.1), .own 125 a.2.2.2.1, .own 50 a.2.2.2.2.1] 0, .v (.one (.c (C.int .i64 a.2.2.2.2.2.1))), .v (.one (.c (C.int .i64 a.2.2.2.2.2.2)))]
theorem prog_maker_free_ae {l : List Arg} {a : Int × Int × Int × LL × LL × Int × Int} (h : prog_maker_free_a l = some a) : l = prog_maker_free_e a := by
  unfold prog_maker_free_a at h
  split at h
  · cases h; rfl
  · cases h
noncomputable def prog_maker_free_d : Res → Option (Int × Int × Int × LL × LL)
  | ⟨.tup [], [[.d (.int .i64 y0), .d (.int .i64 y1), .d (.int .i64 y2), .own 125 y3, .own 50 y4]]⟩ => some (y0, y1, y2, y3, y4)
  | _ => none
noncomputable def prog_maker_free_r (r : Int × Int × Int × LL × LL) : Res := ⟨.tup [], [[.d (.int .i64 r.1), .d (.int .i64 r.2.1), .d (.int .i64 r.2.2.1), .own 125 r.2.2.2.1, .own 50 r.2.2.2.2]]⟩
theorem prog_maker_free_dr {R : Res} {r : Int × Int × Int × LL × LL} (h : prog_maker_free_d R = some r) : R = prog_maker_free_r r := by
  unfold prog_maker_free_d at h
  split at h
  · cases h; rfl
  · cases h
noncomputable def prog_maker_free_o (L : Lv) {Ω : Type} (f : FuncId) (l : List Arg) (K : Res → Option Ω) (next : Option Ω) : Option Ω := rowO 76 prog_maker_free_a (fun a => L.prog_maker_free a.1 a.2.1 a.2.2.1 a.2.2.2.1 a.2.2.2.2.1 a.2.2.2.2.2.1 a.2.2.2.2.2.2) prog_maker_free_r f l K next
noncomputable def strat_Items_a : List Arg → Option (LL × LL × LL × Int × Int × Int × LL × LL)
  | [.v (.agg [.c (.row 25 x0_0), .c (.row 41 x0_1), .c (.row 3 x0_2), .c (.int .i64 x0_3), .c (.int .i64 x0_4), .c (.int .i64 x0_5), .c (.row 125 x0_6), .c (.row 50 x0_7)])] => some (x0_0, x0_1, x0_2, x0_3, x0_4, x0_5, x0_6, x0_7)
  | _ => none
noncomputable def strat_Items_e (a : LL × LL × LL × Int × Int × Int × LL × LL) : List Arg := [.v (.agg [.c (C.row 25 a.1), .c (C.row 41 a.2.1), .c (C.row 3 a.2.2.1), .c (C.int .i64 a.2.2.2.1), .c (C.int .i64 a.2.2.2.2.1), .c (C.int .i64 a.2.2.2.2.2.1), .c (C.row 125 a.2.2.2.2.2.2.1), .c (C.row 50 a.2.2.2.2.2.2.2)])]
theorem strat_Items_ae {l : List Arg} {a : LL × LL × LL × Int × Int × Int × LL × LL} (h : strat_Items_a l = some a) : l = strat_Items_e a := by
  unfold strat_Items_a at h
  split at h
  · cases h; rfl
  · cases h
noncomputable def strat_Items_d : Res → Option Int
  | ⟨.one (.d (.int .i64 y0)), []⟩ => some y0
  | _ => none
noncomputable def strat_Items_r (r : Int) : Res := ⟨.one (.d (.int .i64 r)), []⟩
theorem strat_Items_dr {R : Res} {r : Int} (h : strat_Items_d R = some r) : R = strat_Items_r r := by
  unfold strat_Items_d at h
  split at h
  · cases h; rfl
  · cases h
noncomputable def strat_Items_o (L : Lv) {Ω : Type} (f : FuncId) (l : List Arg) (K : Res → Option Ω) (next : Option Ω) : Option Ω := rowO 20 strat_Items_a (fun a => L.strat_Items a.1 a.2.1 a.2.2.1 a.2.2.2.1 a.2.2.2.2.1 a.2.2.2.2.2.1 a.2.2.2.2.2.2.1 a.2.2.2.2.2.2.2) strat_Items_r f l K next
noncomputable def orielref12_Right_a : List Arg → Option (Int × LL × LL)
  | [.v (.agg [.c (.int .i64 x0_0), .c (.row 25 x0_1), .c (.row 50 x0_2)])] => some (x0_0, x0_1, x0_2)
  | _ => none
noncomputable def orielref12_Right_e (a : Int × LL × LL) : List Arg := [.v (.agg [.c (C.int .i64 a.1), .c (C.row 25 a.2.1), .c (C.row 50 a.2.2)])]
theorem orielref12_Right_ae {l : List Arg} {a : Int × LL × LL} (h : orielref12_Right_a l = some a) : l = orielref12_Right_e a := by
  unfold orielref12_Right_a at h
  split at h
  · cases h; rfl
  · cases h
noncomputable def orielref12_Right_d : Res → Option Bool
  | ⟨.one (.d (.bool y0)), []⟩ => some y0
  | _ => none
noncomputable def orielref12_Right_r (r : Bool) : Res := ⟨.one (.d (.bool r)), []⟩
theorem orielref12_Right_dr {R : Res} {r : Bool} (h : orielref12_Right_d R = some r) : R = orielref12_Right_r r := by
  unfold orielref12_Right_d at h
  split at h
  · cases h; rfl
  · cases h
noncomputable def orielref12_Right_o (L : Lv) {Ω : Type} (f : FuncId) (l : List Arg) (K : Res → Option Ω) (next : Option Ω) : Option Ω := rowO 8 orielref12_Right_a (fun a => L.orielref12_Right a.1 a.2.1 a.2.2) orielref12_Right_r f l K next
noncomputable def strat_Find_a : List Arg → Option (LL × LL × LL × Int × Int × Int × LL × LL × Int × LL × LL)
  | [.v (.agg [.c (.row 25 x0_0), .c (.row 41 x0_1), .c (.row 3 x0_2), .c (.int .i64 x0_3), .c (.int .i64 x0_4), .c (.int .i64 x0_5), .c (.row 125 x0_6), .c (.row 50 x0_7)]), .v (.agg [.c (.int .i64 x1_0), .c (.row 25 x1_1), .c (.row 50 x1_2)])] => some (x0_0, x0_1, x0_2, x0_3, x0_4, x0_5, x0_6, x0_7, x1_0, x1_1, x1_2)
  | _ => none
noncomputable def strat_Find_e (a : LL × LL × LL × Int × Int × Int × LL × LL × Int × LL × LL) : List Arg := [.v (.agg [.c (C.row 25 a.1), .c (C.row 41 a.2.1), .c (C.row 3 a.2.2.1), .c (C.int .i64 a.2.2.2.1), .c (C.int .i64 a.2.2.2.2.1), .c (C.int .i64 a.2.2.2.2.2.1), .c (C.row 125 a.2.2.2.2.2.2.1), .c (C.row 50 a.2.2.2.2.2.2.2.1)]), .v (.agg [.c (C.int .i64 a.2.2.2.2.2.2.2.2.1), .c (C.row 25 a.2.2.2.2.2.2.2.2.2.1), .c (C.row 50 a.2.2.2.2.2.2.2.2.2.2)])]
theorem strat_Find_ae {l : List Arg} {a : LL × LL × LL × Int × Int × Int × LL × LL × Int × LL × LL} (h : strat_Find_a l = some a) : l = strat_Find_e a := by
  unfold strat_Find_a at h
  split at h
  · cases h; rfl
  · cases h
noncomputable def strat_Find_d : Res → Option Int
  | ⟨.one (.d (.int .i64 y0)), []⟩ => some y0
  | _ => none
noncomputable def strat_Find_r (r : Int) : Res := ⟨.one (.d (.int .i64 r)), []⟩
theorem strat_Find_dr {R : Res} {r : Int} (h : strat_Find_d R = some r) : R = strat_Find_r r := by
  unfold strat_Find_d at h
  split at h
  · cases h; rfl
  · cases h
noncomputable def strat_Find_o (L : Lv) {Ω : Type} (f : FuncId) (l : List Arg) (K : Res → Option Ω) (next : Option Ω) : Option Ω := rowO 18 strat_Find_a (fun a => L.strat_Find a.1 a.2.1 a.2.2.1 a.2.2.2.1 a.2.2.2.2.1 a.2.2.2.2.2.1 a.2.2.2.2.2.2.1 a.2.2.2.2.2.2.2.1 a.2.2.2.2.2.2.2.2.1 a.2.2.2.2.2.2.2.2.2.1 a.2.2.2.2.2.2.2.2.2.2) strat_Find_r f l K next
noncomputable def orielref12_Size_a : List Arg → Option (Int × LL × LL)
  | [.v (.agg [.c (.int .i64 x0_0), .c (.row 25 x0_1), .c (.row 50 x0_2)])] => some (x0_0, x0_1, x0_2)
  | _ => none
noncomputable def orielref12_Size_e (a : Int × LL × LL) : List Arg := [.v (.agg [.c (C.int .i64 a.1), .c (C.row 25 a.2.1), .c (C.row 50 a.2.2)])]
theorem orielref12_Size_ae {l : List Arg} {a : Int × LL × LL} (h : orielref12_Size_a l = some a) : l = orielref12_Size_e a := by
  unfold orielref12_Size_a at h
  split at h
  · cases h; rfl
  · cases h
noncomputable def orielref12_Size_d : Res → Option Int
  | ⟨.one (.d (.int .i64 y0)), []⟩ => some y0
  | _ => none
noncomputable def orielref12_Size_r (r : Int) : Res := ⟨.one (.d (.int .i64 r)), []⟩
theorem orielref12_Size_dr {R : Res} {r : Int} (h : orielref12_Size_d R = some r) : R = orielref12_Size_r r := by
  unfold orielref12_Size_d at h
  split at h
  · cases h; rfl
  · cases h
noncomputable def orielref12_Size_o (L : Lv) {Ω : Type} (f : FuncId) (l : List Arg) (K : Res → Option Ω) (next : Option Ω) : Option Ω := rowO 26 orielref12_Size_a (fun a => L.orielref12_Size a.1 a.2.1 a.2.2) orielref12_Size_r f l K next
noncomputable def api_Path_4_a : List Arg → Option (LL × Int × LL × LL)
  | [.v (.one (.c (.row 25 x0))), .fnr 37 false 25 [.int .i64 x1_0, .row 25 x1_1, .row 50 x1_2] 0] => some (x0, x1_0, x1_1, x1_2)
  | _ => none
noncomputable def api_Path_4_e (a : LL × Int × LL × LL) : List Arg := [.v (.one (.c (C.row 25 a.1))), .fnr 37 false 25 [C.int .i64 a.2.1, C.row 25 a.2.2.1, C.row 50 a.2.2.2] 0]
theorem api_Path_4_ae {l : List Arg} {a : LL × Int × LL × LL} (h : api_Path_4_a l = some a) : l = api_Path_4_e a := by
  unfold api_Path_4_a at h
  split at h
  · cases h; rfl
  · cases h
noncomputable def api_Path_4_d : Res → Option Int
  | ⟨.one (.d (.int .i64 y0)), []⟩ => some y0
  | _ => none
noncomputable def api_Path_4_r (r : Int) : Res := ⟨.one (.d (.int .i64 r)), []⟩
theorem api_Path_4_dr {R : Res} {r : Int} (h : api_Path_4_d R = some r) : R = api_Path_4_r r := by
  unfold api_Path_4_d at h
  split at h
  · cases h; rfl
  · cases h
noncomputable def api_Path_4_o (L : Lv) {Ω : Type} (f : FuncId) (l : List Arg) (K : Res → Option Ω) (next : Option Ω) : Option Ω := rowO 36 api_Path_4_a (fun a => L.api_Path_4 a.1 a.2.1 a.2.2.1 a.2.2.2) api_Path_4_r f l K next
noncomputable def orielref12_size_a : List Arg → Option (Int × LL × LL × Int)
  | [.v (.agg [.c (.int .i64 x0_0), .c (.row 25 x0_1), .c (.row 50 x0_2)]), .v (.one (.c (.int .i64 x1)))] => some (x0_0, x0_1, x0_2, x1)
  | _ => none
noncomputable def orielref12_size_e (a : Int × LL × LL × Int) : List Arg := [.v (.agg [.c (C.int .i64 a.1), .c (C.row 25 a.2.1), .c (C.row 50 a.2.2.1)]), .v (.one (.c (C.int .i64 a.2.2.2)))]
theorem orielref12_size_ae {l : List Arg} {a : Int × LL × LL × Int} (h : orielref12_size_a l = some a) : l = orielref12_size_e a := by
  unfold orielref12_size_a at h
  split at h
  · cases h; rfl
  · cases h
noncomputable def orielref12_size_d : Res → Option Int
  | ⟨.one (.d (.int .i64 y0)), []⟩ => some y0
  | _ => none
noncomputable def orielref12_size_r (r : Int) : Res := ⟨.one (.d (.int .i64 r)), []⟩
theorem orielref12_size_dr {R : Res} {r : Int} (h : orielref12_size_d R = some r) : R = orielref12_size_r r := by
  unfold orielref12_size_d at h
  split at h
  · cases h; rfl
  · cases h
noncomputable def orielref12_size_o (L : Lv) {Ω : Type} (f : FuncId) (l : List Arg) (K : Res → Option Ω) (next : Option Ω) : Option Ω := rowO 43 orielref12_size_a (fun a => L.orielref12_size a.1 a.2.1 a.2.2.1 a.2.2.2) orielref12_size_r f l K next
noncomputable def strat_Find_1_a : List Arg → Option (Int × LL × LL × Int × LL × LL)
  | [.v (.agg [.c (.int .i64 x0_0), .c (.row 25 x0_1), .c (.row 50 x0_2)]), .rop 25 [.int .i64 x1_0, .row 25 x1_1, .row 50 x1_2] 0] => some (x0_0, x0_1, x0_2, x1_0, x1_1, x1_2)
  | _ => none
noncomputable def strat_Find_1_e (a : Int × LL × LL × Int × LL × LL) : List Arg := [.v (.agg [.c (C.int .i64 a.1), .c (C.row 25 a.2.1), .c (C.row 50 a.2.2.1)]), .rop 25 [C.int .i64 a.2.2.2.1, C.row 25 a.2.2.2.2.1, C.row 50 a.2.2.2.2.2] 0]
theorem strat_Find_1_ae {l : List Arg} {a : Int × LL × LL × Int × LL × LL} (h : strat_Find_1_a l = some a) : l = strat_Find_1_e a := by
  unfold strat_Find_1_a at h
  split at h
  · cases h; rfl
  · cases h
noncomputable def strat_Find_1_d : Res → Option Bool
  | ⟨.one (.d (.bool y0)), []⟩ => some y0
  | _ => none
noncomputable def strat_Find_1_r (r : Bool) : Res := ⟨.one (.d (.bool r)), []⟩
theorem strat_Find_1_dr {R : Res} {r : Bool} (h : strat_Find_1_d R = some r) : R = strat_Find_1_r r := by
  unfold strat_Find_1_d at h
  split at h
  · cases h; rfl
  · cases h
noncomputable def strat_Find_1_o (L : Lv) {Ω : Type} (f : FuncId) (l : List Arg) (K : Res → Option Ω) (next : Option Ω) : Option Ω := rowO 37 strat_Find_1_a (fun a => L.strat_Find_1 a.1 a.2.1 a.2.2.1 a.2.2.2.1 a.2.2.2.2.1 a.2.2.2.2.2) strat_Find_1_r f l K next
noncomputable def orielref12_sizeFilter_a : List Arg → Option (Int × ByteArray × ByteArray × ByteArray × LL × LL × Int)
  | [.v (.agg [.c (.int .i64 x0_0), .c (.str x0_1), .c (.str x0_2), .c (.str x0_3), .c (.row 50 x0_4), .c (.row 25 x0_5)]), .v (.one (.c (.int .i64 x1)))] => some (x0_0, x0_1, x0_2, x0_3, x0_4, x0_5, x1)
  | _ => none
noncomputable def orielref12_sizeFilter_e (a : Int × ByteArray × ByteArray × ByteArray × LL × LL × Int) : List Arg := [.v (.agg [.c (C.int .i64 a.1), .c (C.str a.2.1), .c (C.str a.2.2.1), .c (C.str a.2.2.2.1), .c (C.row 50 a.2.2.2.2.1), .c (C.row 25 a.2.2.2.2.2.1)]), .v (.one (.c (C.int .i64 a.2.2.2.2.2.2)))]
theorem orielref12_sizeFilter_ae {l : List Arg} {a : Int × ByteArray × ByteArray × ByteArray × LL × LL × Int} (h : orielref12_sizeFilter_a l = some a) : l = orielref12_sizeFilter_e a := by
  unfold orielref12_sizeFilter_a at h
  split at h
  · cases h; rfl
  · cases h
noncomputable def orielref12_sizeFilter_d : Res → Option Int
  | ⟨.one (.d (.int .i64 y0)), []⟩ => some y0
  | _ => none
noncomputable def orielref12_sizeFilter_r (r : Int) : Res := ⟨.one (.d (.int .i64 r)), []⟩
theorem orielref12_sizeFilter_dr {R : Res} {r : Int} (h : orielref12_sizeFilter_d R = some r) : R = orielref12_sizeFilter_r r := by
  unfold orielref12_sizeFilter_d at h
  split at h
  · cases h; rfl
  · cases h
noncomputable def orielref12_sizeFilter_o (L : Lv) {Ω : Type} (f : FuncId) (l : List Arg) (K : Res → Option Ω) (next : Option Ω) : Option Ω := rowO 62 orielref12_sizeFilter_a (fun a => L.orielref12_sizeFilter a.1 a.2.1 a.2.2.1 a.2.2.2.1 a.2.2.2.2.1 a.2.2.2.2.2.1 a.2.2.2.2.2.2) orielref12_sizeFilter_r f l K next
noncomputable def strat_Holds_a : List Arg → Option (LL × LL × LL × Int × Int × Int × LL × LL × Int × ByteArray × ByteArray × ByteArray × LL × LL × Int × ByteArray × ByteArray × LL × ByteArray × LL)
  | [.v (.agg [.c (.row 25 x0_0), .c (.row 41 x0_1), .c (.row 3 x0_2), .c (.int .i64 x0_3), .c (.int .i64 x0_4), .c (.int .i64 x0_5), .c (.row 125 x0_6), .c (.row 50 x0_7)]), .v (.agg [.c (.int .i64 x1_0), .c (.str x1_1), .c (.str x1_2), .c (.str x1_3), .c (.row 50 x1_4), .c (.row 25 x1_5)]), .v (.agg [.c (.int .i64 x2_0), .c (.str x2_1), .c (.str x2_2), .c (.row 68 x2_3), .c (.str x2_4)]), .v (.one (.c (.row 5 x3)))] => some (x0_0, x0_1, x0_2, x0_3, x0_4, x0_5, x0_6, x0_7, x1_0, x1_1, x1_2, x1_3, x1_4, x1_5, x2_0, x2_1, x2_2, x2_3, x2_4, x3)
  | _ => none
noncomputable def strat_Holds_e (a : LL × LL × LL × Int × Int × Int × LL × LL × Int × ByteArray × ByteArray × ByteArray × LL × LL × Int × ByteArray × ByteArray × LL × ByteArray × LL) : List Arg := [.v (.agg [.c (C.row 25 a.1), .c (C.row 41 a.2.1), .c (C.row 3 a.2.2.1), .c (C.int .i64 a.2.2.2.1), .c (C.int .i64 a.2.2.2.2.1), .c (C.int .i64 a.2.2.2.2.2.1), .c (C.row 125 a.2.2.2.2.2.2.1), .c (C.row 50 a.2.2.2.2.2.2.2.1)]), .v (.agg [.c (C.int .i64 a.2.2.2.2.2.2.2.2.1), .c (C.str a.2.2.2.2.2.2.2.2.2.1), .c (C.str a.2.2.2.2.2.2.2.2.2.2.1), .c (C.str a.2.2.2.2.2.2.2.2.2.2.2.1), .c (C.row 50 a.2.2.2.2.2.2.2.2.2.2.2.2.1), .c (C.row 25 a.2.2.2.2.2.2.2.2.2.2.2.2.2.1)]), .v (.agg [.c (C.int .i64 a.2.2.2.2.2.2.2.2.2.2.2.2.2.2.1), .c (C.str a.2.2.2.2.2.2.2.2.2.2.2.2.2.2.2.1), .c (C.str a.2.2.2.2.2.2.2.2.2.2.2.2.2.2.2.2.1), .c (C.row 68 a.2.2.2.2.2.2.2.2.2.2.2.2.2.2.2.2.2.1), .c (C.str a.2.2.2.2.2.2.2.2.2.2.2.2.2.2.2.2.2.2.1)]), .v (.one (.c (C.row 5 a.2.2.2.2.2.2.2.2.2.2.2.2.2.2.2.2.2.2.2)))]
theorem strat_Holds_ae {l : List Arg} {a : LL × LL × LL × Int × Int × Int × LL × LL × Int × ByteArray × ByteArray × ByteArray × LL × LL × Int × ByteArray × ByteArray × LL × ByteArray × LL} (h : strat_Holds_a l = some a) : l = strat_Holds_e a := by
  unfold strat_Holds_a at h
  split at h
  · cases h; rfl
  · cases h
noncomputable def strat_Holds_d : Res → Option Bool
  | ⟨.one (.d (.bool y0)), []⟩ => some y0
  | _ => none
noncomputable def strat_Holds_r (r : Bool) : Res := ⟨.one (.d (.bool r)), []⟩
theorem strat_Holds_dr {R : Res} {r : Bool} (h : strat_Holds_d R = some r) : R = strat_Holds_r r := by
  unfold strat_Holds_d at h
  split at h
  · cases h; rfl
  · cases h
noncomputable def strat_Holds_o (L : Lv) {Ω : Type} (f : FuncId) (l : List Arg) (K : Res → Option Ω) (next : Option Ω) : Option Ω := rowO 14 strat_Holds_a (fun a => L.strat_Holds a.1 a.2.1 a.2.2.1 a.2.2.2.1 a.2.2.2.2.1 a.2.2.2.2.2.1 a.2.2.2.2.2.2.1 a.2.2.2.2.2.2.2.1 a.2.2.2.2.2.2.2.2.1 a.2.2.2.2.2.2.2.2.2.1 a.2.2.2.2.2.2.2.2.2.2.1 a.2.2.2.2.2.2.2.2.2.2.2.1 a.2.2.2.2.2.2.2.2.2.2.2.2.1 a.2.2.2.2.2.2.2.2.2.2.2.2.2.1 a.2.2.2.2.2.2.2.2.2.2.2.2.2.2.1 a.2.2.2.2.2.2.2.2.2.2.2.2.2.2.2.1 a.2.2.2.2.2.2.2.2.2.2.2.2.2.2.2.2.1 a.2.2.2.2.2.2.2.2.2.2.2.2.2.2.2.2.2.1 a.2.2.2.2.2.2.2.2.2.2.2.2.2.2.2.2.2.2.1 a.2.2.2.2.2.2.2.2.2.2.2.2.2.2.2.2.2.2.2) strat_Holds_r f l K next
noncomputable def orielref12_path_a : List Arg → Option (Int × LL × LL × Int)
  | [.v (.agg [.c (.int .i64 x0_0), .c (.row 25 x0_1), .c (.row 50 x0_2)]), .v (.one (.c (.int .i64 x1)))] => some (x0_0, x0_1, x0_2, x1)
  | _ => none
noncomputable def orielref12_path_e (a : Int × LL × LL × Int) : List Arg := [.v (.agg [.c (C.int .i64 a.1), .c (C.row 25 a.2.1), .c (C.row 50 a.2.2.1)]), .v (.one (.c (C.int .i64 a.2.2.2)))]
theorem orielref12_path_ae {l : List Arg} {a : Int × LL × LL × Int} (h : orielref12_path_a l = some a) : l = orielref12_path_e a := by
  unfold orielref12_path_a at h
  split at h
  · cases h; rfl
  · cases h
noncomputable def orielref12_path_d : Res → Option Bool
  | ⟨.one (.d (.bool y0)), []⟩ => some y0
  | _ => none
noncomputable def orielref12_path_r (r : Bool) : Res := ⟨.one (.d (.bool r)), []⟩
theorem orielref12_path_dr {R : Res} {r : Bool} (h : orielref12_path_d R = some r) : R = orielref12_path_r r := by
  unfold orielref12_path_d at h
  split at h
  · cases h; rfl
  · cases h
noncomputable def orielref12_path_o (L : Lv) {Ω : Type} (f : FuncId) (l : List Arg) (K : Res → Option Ω) (next : Option Ω) : Option Ω := rowO 27 orielref12_path_a (fun a => L.orielref12_path a.1 a.2.1 a.2.2.1 a.2.2.2) orielref12_path_r f l K next
noncomputable def strat_node_holds_a : List Arg → Option (LL × LL × LL × Int × Int × Int × LL × LL × Int × ByteArray × ByteArray × LL × ByteArray × LL × Int × ByteArray × ByteArray × ByteArray × LL × LL)
  | [.ref 74 [.d (.row 25 x0_0), .d (.row 41 x0_1), .d (.row 3 x0_2), .d (.int .i64 x0_3), .d (.int .i64 x0_4), .d (.int .i64 x0_5), .d (.row 125 x0_6), .d (.row 50 x0_7), .d (.int .i64 x0_8), .d (.str x0_9), .d (.str x0_10), .d (.row 68 x0_11), .d (.str x0_12), .d (.row 5 x0_13)] 0, .v (.agg [.c (.int .i64 x1_0), .c (.str x1_1), .c (.str x1_2), .c (.str x1_3), .c (.row 50 x1_4), .c (.row 25 x1_5)])] => some (x0_0, x0_1, x0_2, x0_3, x0_4, x0_5, x0_6, x0_7, x0_8, x0_9, x0_10, x0_11, x0_12, x0_13, x1_0, x1_1, x1_2, x1_3, x1_4, x1_5)
  | _ => none
noncomputable def strat_node_holds_e (a : LL × LL × LL × Int × Int × Int × LL × LL × Int × ByteArray × ByteArray × LL × ByteArray × LL × Int × ByteArray × ByteArray × ByteArray × LL × LL) : List Arg := [.ref 74 [.d (C.row 25 a.1), .d (C.row 41 a.2.1), .d (C.row 3 a.2.2.1), .d (C.int .i64 a.2.2.2.1), .d (C.int .i64 a.2.2.2.2.1), .d (C.int .i64 a.2.2.2.2.2.1), .d (C.row 125 a.2.2.2.2.2.2.1), .d (C.row 50 a.2.2.2.2.2.2.2.1), .d (C.int .i64 a.2.2.2.2.2.2.2.2.1), .d (C.str a.2.2.2.2.2.2.2.2.2.1), .d (C.str a.2.2.2.2.2.2.2.2.2.2.1), .d (C.row 68 a.2.2.2.2.2.2.2.2.2.2.2.1), .d (C.str a.2.2.2.2.2.2.2.2.2.2.2.2.1), .d (C.row 5 a.2.2.2.2.2.2.2.2.2.2.2.2.2.1)] 0, .v (.agg [.c (C.int .i64 a.2.2.2.2.2.2.2.2.2.2.2.2.2.2.1), .c (C.str a.2.2.2.2.2.2.2.2.2.2.2.2.2.2.2.1), .c (C.str a.2.2.2.2.2.2.2.2.2.2.2.2.2.2.2.2.1), .c (C.str a.2.2.2.2.2.2.2.2.2.2.2.2.2.2.2.2.2.1), .c (C.row 50 a.2.2.2.2.2.2.2.2.2.2.2.2.2.2.2.2.2.2.1), .c (C.row 25 a.2.2.2.2.2.2.2.2.2.2.2.2.2.2.2.2.2.2.2)])]
theorem strat_node_holds_ae {l : List Arg} {a : LL × LL × LL × Int × Int × Int × LL × LL × Int × ByteArray × ByteArray × LL × ByteArray × LL × Int × ByteArray × ByteArray × ByteArray × LL × LL} (h : strat_node_holds_a l = some a) : l = strat_node_holds_e a := by
  unfold strat_node_holds_a at h
  split at h
  · cases h; rfl
  · cases h
noncomputable def strat_node_holds_d : Res → Option (Bool × LL × LL × LL × Int × Int × Int × LL × LL × Int × ByteArray × ByteArray × LL × ByteArray × LL)
  | ⟨.one (.d (.bool y0)), [[.d (.row 25 y1), .d (.row 41 y2), .d (.row 3 y3), .d (.int .i64 y4), .d (.int .i64 y5), .d (.int .i64 y6), .d (.row 125 y7), .d (.row 50 y8), .d (.int .i64 y9), .d (.str y10), .d (.str y11), .d (.row 68 y12), .d (.str y13), .d (.row 5 y14)]]⟩ => some (y0, y1, y2, y3, y4, y5, y6, y7, y8, y9, y10, y11, y12, y13, y14)
  | _ => none
noncomputable def strat_node_holds_r (r : Bool × LL × LL × LL × Int × Int × Int × LL × LL × Int × ByteArray × ByteArray × LL × ByteArray × LL) : Res := ⟨.one (.d (.bool r.1)), [[.d (.row 25 r.2.1), .d (.row 41 r.2.2.1), .d (.row 3 r.2.2.2.1), .d (.int .i64 r.2.2.2.2.1), .d (.int .i64 r.2.2.2.2.2.1), .d (.int .i64 r.2.2.2.2.2.2.1), .d (.row 125 r.2.2.2.2.2.2.2.1), .d (.row 50 r.2.2.2.2.2.2.2.2.1), .d (.int .i64 r.2.2.2.2.2.2.2.2.2.1), .d (.str r.2.2.2.2.2.2.2.2.2.2.1), .d (.str r.2.2.2.2.2.2.2.2.2.2.2.1), .d (.row 68 r.2.2.2.2.2.2.2.2.2.2.2.2.1), .d (.str r.2.2.2.2.2.2.2.2.2.2.2.2.2.1), .d (.row 5 r.2.2.2.2.2.2.2.2.2.2.2.2.2.2)]]⟩
theorem strat_node_holds_dr {R : Res} {r : Bool × LL × LL × LL × Int × Int × Int × LL × LL × Int × ByteArray × ByteArray × LL × ByteArray × LL} (h : strat_node_holds_d R = some r) : R = strat_node_holds_r r := by
  unfold strat_node_holds_d at h
  split at h
  · cases h; rfl
  · cases h
noncomputable def strat_node_holds_o (L : Lv) {Ω : Type} (f : FuncId) (l : List Arg) (K : Res → Option Ω) (next : Option Ω) : Option Ω := rowO 33 strat_node_holds_a (fun a => L.strat_node_holds a.1 a.2.1 a.2.2.1 a.2.2.2.1 a.2.2.2.2.1 a.2.2.2.2.2.1 a.2.2.2.2.2.2.1 a.2.2.2.2.2.2.2.1 a.2.2.2.2.2.2.2.2.1 a.2.2.2.2.2.2.2.2.2.1 a.2.2.2.2.2.2.2.2.2.2.1 a.2.2.2.2.2.2.2.2.2.2.2.1 a.2.2.2.2.2.2.2.2.2.2.2.2.1 a.2.2.2.2.2.2.2.2.2.2.2.2.2.1 a.2.2.2.2.2.2.2.2.2.2.2.2.2.2.1 a.2.2.2.2.2.2.2.2.2.2.2.2.2.2.2.1 a.2.2.2.2.2.2.2.2.2.2.2.2.2.2.2.2.1 a.2.2.2.2.2.2.2.2.2.2.2.2.2.2.2.2.2.1 a.2.2.2.2.2.2.2.2.2.2.2.2.2.2.2.2.2.2.1 a.2.2.2.2.2.2.2.2.2.2.2.2.2.2.2.2.2.2.2) strat_node_holds_r f l K next
noncomputable def orielref12_filter_a : List Arg → Option (Int × ByteArray × ByteArray × ByteArray × LL × LL × Int)
  | [.v (.agg [.c (.int .i64 x0_0), .c (.str x0_1), .c (.str x0_2), .c (.str x0_3), .c (.row 50 x0_4), .c (.row 25 x0_5)]), .v (.one (.c (.int .i64 x1)))] => some (x0_0, x0_1, x0_2, x0_3, x0_4, x0_5, x1)
  | _ => none
noncomputable def orielref12_filter_e (a : Int × ByteArray × ByteArray × ByteArray × LL × LL × Int) : List Arg := [.v (.agg [.c (C.int .i64 a.1), .c (C.str a.2.1), .c (C.str a.2.2.1), .c (C.str a.2.2.2.1), .c (C.row 50 a.2.2.2.2.1), .c (C.row 25 a.2.2.2.2.2.1)]), .v (.one (.c (C.int .i64 a.2.2.2.2.2.2)))]
theorem orielref12_filter_ae {l : List Arg} {a : Int × ByteArray × ByteArray × ByteArray × LL × LL × Int} (h : orielref12_filter_a l = some a) : l = orielref12_filter_e a := by
  unfold orielref12_filter_a at h
  split at h
  · cases h; rfl
  · cases h
noncomputable def orielref12_filter_d : Res → Option Bool
  | ⟨.one (.d (.bool y0)), []⟩ => some y0
  | _ => none
noncomputable def orielref12_filter_r (r : Bool) : Res := ⟨.one (.d (.bool r)), []⟩
theorem orielref12_filter_dr {R : Res} {r : Bool} (h : orielref12_filter_d R = some r) : R = orielref12_filter_r r := by
  unfold orielref12_filter_d at h
  split at h
  · cases h; rfl
  · cases h
noncomputable def orielref12_filter_o (L : Lv) {Ω : Type} (f : FuncId) (l : List Arg) (K : Res → Option Ω) (next : Option Ω) : Option Ω := rowO 44 orielref12_filter_a (fun a => L.orielref12_filter a.1 a.2.1 a.2.2.1 a.2.2.2.1 a.2.2.2.2.1 a.2.2.2.2.2.1 a.2.2.2.2.2.2) orielref12_filter_r f l K next
noncomputable def strat_node_attr_a : List Arg → Option (LL × LL × LL × Int × Int × Int × LL × LL × Int × ByteArray × ByteArray × LL × ByteArray × LL × ByteArray × ByteArray)
  | [.ref 74 [.d (.row 25 x0_0), .d (.row 41 x0_1), .d (.row 3 x0_2), .d (.int .i64 x0_3), .d (.int .i64 x0_4), .d (.int .i64 x0_5), .d (.row 125 x0_6), .d (.row 50 x0_7), .d (.int .i64 x0_8), .d (.str x0_9), .d (.str x0_10), .d (.row 68 x0_11), .d (.str x0_12), .d (.row 5 x0_13)] 0, .v (.agg [.c (.str x1_0), .c (.str x1_1)])] => some (x0_0, x0_1, x0_2, x0_3, x0_4, x0_5, x0_6, x0_7, x0_8, x0_9, x0_10, x0_11, x0_12, x0_13, x1_0, x1_1)
  | _ => none
noncomputable def strat_node_attr_e (a : LL × LL × LL × Int × Int × Int × LL × LL × Int × ByteArray × ByteArray × LL × ByteArray × LL × ByteArray × ByteArray) : List Arg := [.ref 74 [.d (C.row 25 a.1), .d (C.row 41 a.2.1), .d (C.row 3 a.2.2.1), .d (C.int .i64 a.2.2.2.1), .d (C.int .i64 a.2.2.2.2.1), .d (C.int .i64 a.2.2.2.2.2.1), .d (C.row 125 a.2.2.2.2.2.2.1), .d (C.row 50 a.2.2.2.2.2.2.2.1), .d (C.int .i64 a.2.2.2.2.2.2.2.2.1), .d (C.str a.2.2.2.2.2.2.2.2.2.1), .d (C.str a.2.2.2.2.2.2.2.2.2.2.1), .d (C.row 68 a.2.2.2.2.2.2.2.2.2.2.2.1), .d (C.str a.2.2.2.2.2.2.2.2.2.2.2.2.1), .d (C.row 5 a.2.2.2.2.2.2.2.2.2.2.2.2.2.1)] 0, .v (.agg [.c (C.str a.2.2.2.2.2.2.2.2.2.2.2.2.2.2.1), .c (C.str a.2.2.2.2.2.2.2.2.2.2.2.2.2.2.2)])]
theorem strat_node_attr_ae {l : List Arg} {a : LL × LL × LL × Int × Int × Int × LL × LL × Int × ByteArray × ByteArray × LL × ByteArray × LL × ByteArray × ByteArray} (h : strat_node_attr_a l = some a) : l = strat_node_attr_e a := by
  unfold strat_node_attr_a at h
  split at h
  · cases h; rfl
  · cases h
noncomputable def strat_node_attr_d : Res → Option (ByteArray × Bool × LL × LL × LL × Int × Int × Int × LL × LL × Int × ByteArray × ByteArray × LL × ByteArray × LL)
  | ⟨.tup [.one (.d (.str y0)), .one (.d (.bool y1))], [[.d (.row 25 y2), .d (.row 41 y3), .d (.row 3 y4), .d (.int .i64 y5), .d (.int .i64 y6), .d (.int .i64 y7), .d (.row 125 y8), .d (.row 50 y9), .d (.int .i64 y10), .d (.str y11), .d (.str y12), .d (.row 68 y13), .d (.str y14), .d (.row 5 y15)]]⟩ => some (y0, y1, y2, y3, y4, y5, y6, y7, y8, y9, y10, y11, y12, y13, y14, y15)
  | _ => none
noncomputable def strat_node_attr_r (r : ByteArray × Bool × LL × LL × LL × Int × Int × Int × LL × LL × Int × ByteArray × ByteArray × LL × ByteArray × LL) : Res := ⟨.tup [.one (.d (.str r.1)), .one (.d (.bool r.2.1))], [[.d (.row 25 r.2.2.1), .d (.row 41 r.2.2.2.1), .d (.row 3 r.2.2.2.2.1), .d (.int .i64 r.2.2.2.2.2.1), .d (.int .i64 r.2.2.2.2.2.2.1), .d (.int .i64 r.2.2.2.2.2.2.2.1), .d (.row 125 r.2.2.2.2.2.2.2.2.1), .d (.row 50 r.2.2.2.2.2.2.2.2.2.1), .d (.int .i64 r.2.2.2.2.2.2.2.2.2.2.1), .d (.str r.2.2.2.2.2.2.2.2.2.2.2.1), .d (.str r.2.2.2.2.2.2.2.2.2.2.2.2.1), .d (.row 68 r.2.2.2.2.2.2.2.2.2.2.2.2.2.1), .d (.str r.2.2.2.2.2.2.2.2.2.2.2.2.2.2.1), .d (.row 5 r.2.2.2.2.2.2.2.2.2.2.2.2.2.2.2)]]⟩
theorem strat_node_attr_dr {R : Res} {r : ByteArray × Bool × LL × LL × LL × Int × Int × Int × LL × LL × Int × ByteArray × ByteArray × LL × ByteArray × LL} (h : strat_node_attr_d R = some r) : R = strat_node_attr_r r := by
  unfold strat_node_attr_d at h
  split at h
  · cases h; rfl
  · cases h
noncomputable def strat_node_attr_o (L : Lv) {Ω : Type} (f : FuncId) (l : List Arg) (K : Res → Option Ω) (next : Option Ω) : Option Ω := rowO 50 strat_node_attr_a (fun a => L.strat_node_attr a.1 a.2.1 a.2.2.1 a.2.2.2.1 a.2.2.2.2.1 a.2.2.2.2.2.1 a.2.2.2.2.2.2.1 a.2.2.2.2.2.2.2.1 a.2.2.2.2.2.2.2.2.1 a.2.2.2.2.2.2.2.2.2.1 a.2.2.2.2.2.2.2.2.2.2.1 a.2.2.2.2.2.2.2.2.2.2.2.1 a.2.2.2.2.2.2.2.2.2.2.2.2.1 a.2.2.2.2.2.2.2.2.2.2.2.2.2.1 a.2.2.2.2.2.2.2.2.2.2.2.2.2.2.1 a.2.2.2.2.2.2.2.2.2.2.2.2.2.2.2) strat_node_attr_r f l K next
noncomputable def api_Filter_2_a : List Arg → Option (LL × LL × LL × LL × Int × Int × Int × LL × LL × Int × ByteArray × ByteArray × LL × ByteArray × LL)
  | [.v (.one (.c (.row 50 x0))), .fnr 52 true 74 [.row 25 x1_0, .row 41 x1_1, .row 3 x1_2, .int .i64 x1_3, .int .i64 x1_4, .int .i64 x1_5, .row 125 x1_6, .row 50 x1_7, .int .i64 x1_8, .str x1_9, .str x1_10, .row 68 x1_11, .str x1_12, .row 5 x1_13] 0] => some (x0, x1_0, x1_1, x1_2, x1_3, x1_4, x1_5, x1_6, x1_7, x1_8, x1_9, x1_10, x1_11, x1_12, x1_13)
  | _ => none
noncomputable def api_Filter_2_e (a : LL × LL × LL × LL × Int × Int × Int × LL × LL × Int × ByteArray × ByteArray × LL × ByteArray × LL) : List Arg := [.v (.one (.c (C.row 50 a.1))), .fnr 52 true 74 [C.row 25 a.2.1, C.row 41 a.2.2.1, C.row 3 a.2.2.2.1, C.int .i64 a.2.2.2.2.1, C.int .i64 a.2.2.2.2.2.1, C.int .i64 a.2.2.2.2.2.2.1, C.row 125 a.2.2.2.2.2.2.2.1, C.row 50 a.2.2.2.2.2.2.2.2.1, C.int .i64 a.2.2.2.2.2.2.2.2.2.1, C.str a.2.2.2.2.2.2.2.2.2.2.1, C.str a.2.2.2.2.2.2.2.2.2.2.2.1, C.row 68 a.2.2.2.2.2.2.2.2.2.2.2.2.1, C.str a.2.2.2.2.2.2.2.2.2.2.2.2.2.1, C.row 5 a.2.2.2.2.2.2.2.2.2.2.2.2.2.2] 0]
theorem api_Filter_2_ae {l : List Arg} {a : LL × LL × LL × LL × Int × Int × Int × LL × LL × Int × ByteArray × ByteArray × LL × ByteArray × LL} (h : api_Filter_2_a l = some a) : l = api_Filter_2_e a := by
  unfold api_Filter_2_a at h
  split at h
  · cases h; rfl
  · cases h
noncomputable def api_Filter_2_d : Res → Option Bool
  | ⟨.one (.d (.bool y0)), []⟩ => some y0
  | _ => none
noncomputable def api_Filter_2_r (r : Bool) : Res := ⟨.one (.d (.bool r)), []⟩
theorem api_Filter_2_dr {R : Res} {r : Bool} (h : api_Filter_2_d R = some r) : R = api_Filter_2_r r := by
  unfold api_Filter_2_d at h
  split at h
  · cases h; rfl
  · cases h
noncomputable def api_Filter_2_o (L : Lv) {Ω : Type} (f : FuncId) (l : List Arg) (K : Res → Option Ω) (next : Option Ω) : Option Ω := rowO 51 api_Filter_2_a (fun a => L.api_Filter_2 a.1 a.2.1 a.2.2.1 a.2.2.2.1 a.2.2.2.2.1 a.2.2.2.2.2.1 a.2.2.2.2.2.2.1 a.2.2.2.2.2.2.2.1 a.2.2.2.2.2.2.2.2.1 a.2.2.2.2.2.2.2.2.2.1 a.2.2.2.2.2.2.2.2.2.2.1 a.2.2.2.2.2.2.2.2.2.2.2.1 a.2.2.2.2.2.2.2.2.2.2.2.2.1 a.2.2.2.2.2.2.2.2.2.2.2.2.2.1 a.2.2.2.2.2.2.2.2.2.2.2.2.2.2) api_Filter_2_r f l K next
noncomputable def api_Filter_3_a : List Arg → Option (LL × LL × LL × LL × Int × Int × Int × LL × LL × Int × ByteArray × ByteArray × LL × ByteArray × LL)
  | [.v (.one (.c (.row 50 x0))), .fnr 33 true 74 [.row 25 x1_0, .row 41 x1_1, .row 3 x1_2, .int .i64 x1_3, .int .i64 x1_4, .int .i64 x1_5, .row 125 x1_6, .row 50 x1_7, .int .i64 x1_8, .str x1_9, .str x1_10, .row 68 x1_11, .str x1_12, .row 5 x1_13] 0] => some (x0, x1_0, x1_1, x1_2, x1_3, x1_4, x1_5, x1_6, x1_7, x1_8, x1_9, x1_10, x1_11, x1_12, x1_13)
  | _ => none
noncomputable def api_Filter_3_e (a : LL × LL × LL × LL × Int × Int × Int × LL × LL × Int × ByteArray × ByteArray × LL × ByteArray × LL) : List Arg := [.v (.one (.c (C.row 50 a.1))), .fnr 33 true 74 [C.row 25 a.2.1, C.row 41 a.2.2.1, C.row 3 a.2.2.2.1, C.int .i64 a.2.2.2.2.1, C.int .i64 a.2.2.2.2.2.1, C.int .i64 a.2.2.2.2.2.2.1, C.row 125 a.2.2.2.2.2.2.2.1, C.row 50 a.2.2.2.2.2.2.2.2.1, C.int .i64 a.2.2.2.2.2.2.2.2.2.1, C.str a.2.2.2.2.2.2.2.2.2.2.1, C.str a.2.2.2.2.2.2.2.2.2.2.2.1, C.row 68 a.2.2.2.2.2.2.2.2.2.2.2.2.1, C.str a.2.2.2.2.2.2.2.2.2.2.2.2.2.1, C.row 5 a.2.2.2.2.2.2.2.2.2.2.2.2.2.2] 0]
theorem api_Filter_3_ae {l : List Arg} {a : LL × LL × LL × LL × Int × Int × Int × LL × LL × Int × ByteArray × ByteArray × LL × ByteArray × LL} (h : api_Filter_3_a l = some a) : l = api_Filter_3_e a := by
  unfold api_Filter_3_a at h
  split at h
  · cases h; rfl
  · cases h
noncomputable def api_Filter_3_d : Res → Option Bool
  | ⟨.one (.d (.bool y0)), []⟩ => some y0
  | _ => none
noncomputable def api_Filter_3_r (r : Bool) : Res := ⟨.one (.d (.bool r)), []⟩
theorem api_Filter_3_dr {R : Res} {r : Bool} (h : api_Filter_3_d R = some r) : R = api_Filter_3_r r := by
  unfold api_Filter_3_d at h
  split at h
  · cases h; rfl
  · cases h
noncomputable def api_Filter_3_o (L : Lv) {Ω : Type} (f : FuncId) (l : List Arg) (K : Res → Option Ω) (next : Option Ω) : Option Ω := rowO 51 api_Filter_3_a (fun a => L.api_Filter_3 a.1 a.2.1 a.2.2.1 a.2.2.2.1 a.2.2.2.2.1 a.2.2.2.2.2.1 a.2.2.2.2.2.2.1 a.2.2.2.2.2.2.2.1 a.2.2.2.2.2.2.2.2.1 a.2.2.2.2.2.2.2.2.2.1 a.2.2.2.2.2.2.2.2.2.2.1 a.2.2.2.2.2.2.2.2.2.2.2.1 a.2.2.2.2.2.2.2.2.2.2.2.2.1 a.2.2.2.2.2.2.2.2.2.2.2.2.2.1 a.2.2.2.2.2.2.2.2.2.2.2.2.2.2) api_Filter_3_r f l K next
noncomputable def api_Path_5_a : List Arg → Option (LL × LL × LL × LL × Int × Int × Int × LL × LL × Int × ByteArray × ByteArray × LL × ByteArray × LL)
  | [.v (.one (.c (.row 25 x0))), .fnr 54 true 74 [.row 25 x1_0, .row 41 x1_1, .row 3 x1_2, .int .i64 x1_3, .int .i64 x1_4, .int .i64 x1_5, .row 125 x1_6, .row 50 x1_7, .int .i64 x1_8, .str x1_9, .str x1_10, .row 68 x1_11, .str x1_12, .row 5 x1_13] 0] => some (x0, x1_0, x1_1, x1_2, x1_3, x1_4, x1_5, x1_6, x1_7, x1_8, x1_9, x1_10, x1_11, x1_12, x1_13)
  | _ => none
noncomputable def api_Path_5_e (a : LL × LL × LL × LL × Int × Int × Int × LL × LL × Int × ByteArray × ByteArray × LL × ByteArray × LL) : List Arg := [.v (.one (.c (C.row 25 a.1))), .fnr 54 true 74 [C.row 25 a.2.1, C.row 41 a.2.2.1, C.row 3 a.2.2.2.1, C.int .i64 a.2.2.2.2.1, C.int .i64 a.2.2.2.2.2.1, C.int .i64 a.2.2.2.2.2.2.1, C.row 125 a.2.2.2.2.2.2.2.1, C.row 50 a.2.2.2.2.2.2.2.2.1, C.int .i64 a.2.2.2.2.2.2.2.2.2.1, C.str a.2.2.2.2.2.2.2.2.2.2.1, C.str a.2.2.2.2.2.2.2.2.2.2.2.1, C.row 68 a.2.2.2.2.2.2.2.2.2.2.2.2.1, C.str a.2.2.2.2.2.2.2.2.2.2.2.2.2.1, C.row 5 a.2.2.2.2.2.2.2.2.2.2.2.2.2.2] 0]
theorem api_Path_5_ae {l : List Arg} {a : LL × LL × LL × LL × Int × Int × Int × LL × LL × Int × ByteArray × ByteArray × LL × ByteArray × LL} (h : api_Path_5_a l = some a) : l = api_Path_5_e a := by
  unfold api_Path_5_a at h
  split at h
  · cases h; rfl
  · cases h
noncomputable def api_Path_5_d : Res → Option Bool
  | ⟨.one (.d (.bool y0)), []⟩ => some y0
  | _ => none
noncomputable def api_Path_5_r (r : Bool) : Res := ⟨.one (.d (.bool r)), []⟩
theorem api_Path_5_dr {R : Res} {r : Bool} (h : api_Path_5_d R = some r) : R = api_Path_5_r r := by
  unfold api_Path_5_d at h
  split at h
  · cases h; rfl
  · cases h
noncomputable def api_Path_5_o (L : Lv) {Ω : Type} (f : FuncId) (l : List Arg) (K : Res → Option Ω) (next : Option Ω) : Option Ω := rowO 53 api_Path_5_a (fun a => L.api_Path_5 a.1 a.2.1 a.2.2.1 a.2.2.2.1 a.2.2.2.2.1 a.2.2.2.2.2.1 a.2.2.2.2.2.2.1 a.2.2.2.2.2.2.2.1 a.2.2.2.2.2.2.2.2.1 a.2.2.2.2.2.2.2.2.2.1 a.2.2.2.2.2.2.2.2.2.2.1 a.2.2.2.2.2.2.2.2.2.2.2.1 a.2.2.2.2.2.2.2.2.2.2.2.2.1 a.2.2.2.2.2.2.2.2.2.2.2.2.2.1 a.2.2.2.2.2.2.2.2.2.2.2.2.2.2) api_Path_5_r f l K next
noncomputable def orielref12_named_a : List Arg → Option (ByteArray × ByteArray)
  | [.v (.agg [.c (.str x0_0), .c (.str x0_1)])] => some (x0_0, x0_1)
  | _ => none
noncomputable def orielref12_named_e (a : ByteArray × ByteArray) : List Arg := [.v (.agg [.c (C.str a.1), .c (C.str a.2)])]
theorem orielref12_named_ae {l : List Arg} {a : ByteArray × ByteArray} (h : orielref12_named_a l = some a) : l = orielref12_named_e a := by
  unfold orielref12_named_a at h
  split at h
  · cases h; rfl
  · cases h
noncomputable def orielref12_named_d : Res → Option Bool
  | ⟨.one (.d (.bool y0)), []⟩ => some y0
  | _ => none
noncomputable def orielref12_named_r (r : Bool) : Res := ⟨.one (.d (.bool r)), []⟩
theorem orielref12_named_dr {R : Res} {r : Bool} (h : orielref12_named_d R = some r) : R = orielref12_named_r r := by
  unfold orielref12_named_d at h
  split at h
  · cases h; rfl
  · cases h
noncomputable def orielref12_named_o (L : Lv) {Ω : Type} (f : FuncId) (l : List Arg) (K : Res → Option Ω) (next : Option Ω) : Option Ω := rowO 63 orielref12_named_a (fun a => L.orielref12_named a.1 a.2) orielref12_named_r f l K next
noncomputable def orielref04_Right_a : List Arg → Option ByteArray
  | [.v (.one (.c (.str x0)))] => some x0
  | _ => none
noncomputable def orielref04_Right_e (a : ByteArray) : List Arg := [.v (.one (.c (C.str a)))]
theorem orielref04_Right_ae {l : List Arg} {a : ByteArray} (h : orielref04_Right_a l = some a) : l = orielref04_Right_e a := by
  unfold orielref04_Right_a at h
  split at h
  · cases h; rfl
  · cases h
noncomputable def orielref04_Right_d : Res → Option Bool
  | ⟨.one (.d (.bool y0)), []⟩ => some y0
  | _ => none
noncomputable def orielref04_Right_r (r : Bool) : Res := ⟨.one (.d (.bool r)), []⟩
theorem orielref04_Right_dr {R : Res} {r : Bool} (h : orielref04_Right_d R = some r) : R = orielref04_Right_r r := by
  unfold orielref04_Right_d at h
  split at h
  · cases h; rfl
  · cases h
noncomputable def orielref04_Right_o (L : Lv) {Ω : Type} (f : FuncId) (l : List Arg) (K : Res → Option Ω) (next : Option Ω) : Option Ω := rowO 28 orielref04_Right_a (fun a => L.orielref04_Right a) orielref04_Right_r f l K next
noncomputable def api_Filter_4_a : List Arg → Option (LL × LL × LL × LL × Int × Int × Int × LL × LL × Int × ByteArray × ByteArray × LL × ByteArray × LL)
  | [.v (.one (.c (.row 50 x0))), .fnr 52 true 74 [.row 25 x1_0, .row 41 x1_1, .row 3 x1_2, .int .i64 x1_3, .int .i64 x1_4, .int .i64 x1_5, .row 125 x1_6, .row 50 x1_7, .int .i64 x1_8, .str x1_9, .str x1_10, .row 68 x1_11, .str x1_12, .row 5 x1_13] 0] => some (x0, x1_0, x1_1, x1_2, x1_3, x1_4, x1_5, x1_6, x1_7, x1_8, x1_9, x1_10, x1_11, x1_12, x1_13)
  | _ => none
noncomputable def api_Filter_4_e (a : LL × LL × LL × LL × Int × Int × Int × LL × LL × Int × ByteArray × ByteArray × LL × ByteArray × LL) : List Arg := [.v (.one (.c (C.row 50 a.1))), .fnr 52 true 74 [C.row 25 a.2.1, C.row 41 a.2.2.1, C.row 3 a.2.2.2.1, C.int .i64 a.2.2.2.2.1, C.int .i64 a.2.2.2.2.2.1, C.int .i64 a.2.2.2.2.2.2.1, C.row 125 a.2.2.2.2.2.2.2.1, C.row 50 a.2.2.2.2.2.2.2.2.1, C.int .i64 a.2.2.2.2.2.2.2.2.2.1, C.str a.2.2.2.2.2.2.2.2.2.2.1, C.str a.2.2.2.2.2.2.2.2.2.2.2.1, C.row 68 a.2.2.2.2.2.2.2.2.2.2.2.2.1, C.str a.2.2.2.2.2.2.2.2.2.2.2.2.2.1, C.row 5 a.2.2.2.2.2.2.2.2.2.2.2.2.2.2] 0]
theorem api_Filter_4_ae {l : List Arg} {a : LL × LL × LL × LL × Int × Int × Int × LL × LL × Int × ByteArray × ByteArray × LL × ByteArray × LL} (h : api_Filter_4_a l = some a) : l = api_Filter_4_e a := by
  unfold api_Filter_4_a at h
  split at h
  · cases h; rfl
  · cases h
noncomputable def api_Filter_4_d : Res → Option Int
  | ⟨.one (.d (.int .i64 y0)), []⟩ => some y0
  | _ => none
noncomputable def api_Filter_4_r (r : Int) : Res := ⟨.one (.d (.int .i64 r)), []⟩
theorem api_Filter_4_dr {R : Res} {r : Int} (h : api_Filter_4_d R = some r) : R = api_Filter_4_r r := by
  unfold api_Filter_4_d at h
  split at h
  · cases h; rfl
  · cases h
noncomputable def api_Filter_4_o (L : Lv) {Ω : Type} (f : FuncId) (l : List Arg) (K : Res → Option Ω) (next : Option Ω) : Option Ω := rowO 70 api_Filter_4_a (fun a => L.api_Filter_4 a.1 a.2.1 a.2.2.1 a.2.2.2.1 a.2.2.2.2.1 a.2.2.2.2.2.1 a.2.2.2.2.2.2.1 a.2.2.2.2.2.2.2.1 a.2.2.2.2.2.2.2.2.1 a.2.2.2.2.2.2.2.2.2.1 a.2.2.2.2.2.2.2.2.2.2.1 a.2.2.2.2.2.2.2.2.2.2.2.1 a.2.2.2.2.2.2.2.2.2.2.2.2.1 a.2.2.2.2.2.2.2.2.2.2.2.2.2.1 a.2.2.2.2.2.2.2.2.2.2.2.2.2.2) api_Filter_4_r f l K next
noncomputable def api_Filter_5_a : List Arg → Option (LL × LL × LL × LL × Int × Int × Int × LL × LL × Int × ByteArray × ByteArray × LL × ByteArray × LL)
  | [.v (.one (.c (.row 50 x0))), .fnr 33 true 74 [.row 25 x1_0, .row 41 x1_1, .row 3 x1_2, .int .i64 x1_3, .int .i64 x1_4, .int .i64 x1_5, .row 125 x1_6, .row 50 x1_7, .int .i64 x1_8, .str x1_9, .str x1_10, .row 68 x1_11, .str x1_12, .row 5 x1_13] 0] => some (x0, x1_0, x1_1, x1_2, x1_3, x1_4, x1_5, x1_6, x1_7, x1_8, x1_9, x1_10, x1_11, x1_12, x1_13)
  | _ => none
noncomputable def api_Filter_5_e (a : LL × LL × LL × LL × Int × Int × Int × LL × LL × Int × ByteArray × ByteArray × LL × ByteArray × LL) : List Arg := [.v (.one (.c (C.row 50 a.1))), .fnr 33 true 74 [C.row 25 a.2.1, C.row 41 a.2.2.1, C.row 3 a.2.2.2.1, C.int .i64 a.2.2.2.2.1, C.int .i64 a.2.2.2.2.2.1, C.int .i64 a.2.2.2.2.2.2.1, C.row 125 a.2.2.2.2.2.2.2.1, C.row 50 a.2.2.2.2.2.2.2.2.1, C.int .i64 a.2.2.2.2.2.2.2.2.2.1, C.str a.2.2.2.2.2.2.2.2.2.2.1, C.str a.2.2.2.2.2.2.2.2.2.2.2.1, C.row 68 a.2.2.2.2.2.2.2.2.2.2.2.2.1, C.str a.2.2.2.2.2.2.2.2.2.2.2.2.2.1, C.row 5 a.2.2.2.2.2.2.2.2.2.2.2.2.2.2] 0]
theorem api_Filter_5_ae {l : List Arg} {a : LL × LL × LL × LL × Int × Int × Int × LL × LL × Int × ByteArray × ByteArray × LL × ByteArray × LL} (h : api_Filter_5_a l = some a) : l = api_Filter_5_e a := by
  unfold api_Filter_5_a at h
  split at h
  · cases h; rfl
  · cases h
noncomputable def api_Filter_5_d : Res → Option Int
  | ⟨.one (.d (.int .i64 y0)), []⟩ => some y0
  | _ => none
noncomputable def api_Filter_5_r (r : Int) : Res := ⟨.one (.d (.int .i64 r)), []⟩
theorem api_Filter_5_dr {R : Res} {r : Int} (h : api_Filter_5_d R = some r) : R = api_Filter_5_r r := by
  unfold api_Filter_5_d at h
  split at h
  · cases h; rfl
  · cases h
noncomputable def api_Filter_5_o (L : Lv) {Ω : Type} (f : FuncId) (l : List Arg) (K : Res → Option Ω) (next : Option Ω) : Option Ω := rowO 70 api_Filter_5_a (fun a => L.api_Filter_5 a.1 a.2.1 a.2.2.1 a.2.2.2.1 a.2.2.2.2.1 a.2.2.2.2.2.1 a.2.2.2.2.2.2.1 a.2.2.2.2.2.2.2.1 a.2.2.2.2.2.2.2.2.1 a.2.2.2.2.2.2.2.2.2.1 a.2.2.2.2.2.2.2.2.2.2.1 a.2.2.2.2.2.2.2.2.2.2.2.1 a.2.2.2.2.2.2.2.2.2.2.2.2.1 a.2.2.2.2.2.2.2.2.2.2.2.2.2.1 a.2.2.2.2.2.2.2.2.2.2.2.2.2.2) api_Filter_5_r f l K next
noncomputable def api_Path_6_a : List Arg → Option (LL × LL × LL × LL × Int × Int × Int × LL × LL × Int × ByteArray × ByteArray × LL × ByteArray × LL)
  | [.v (.one (.c (.row 25 x0))), .fnr 54 true 74 [.row 25 x1_0, .row 41 x1_1, .row 3 x1_2, .int .i64 x1_3, .int .i64 x1_4, .int .i64 x1_5, .row 125 x1_6, .row 50 x1_7, .int .i64 x1_8, .str x1_9, .str x1_10, .row 68 x1_11, .str x1_12, .row 5 x1_13] 0] => some (x0, x1_0, x1_1, x1_2, x1_3, x1_4, x1_5, x1_6, x1_7, x1_8, x1_9, x1_10, x1_11, x1_12, x1_13)
  | _ => none
noncomputable def api_Path_6_e (a : LL × LL × LL × LL × Int × Int × Int × LL × LL × Int × ByteArray × ByteArray × LL × ByteArray × LL) : List Arg := [.v (.one (.c (C.row 25 a.1))), .fnr 54 true 74 [C.row 25 a.2.1, C.row 41 a.2.2.1, C.row 3 a.2.2.2.1, C.int .i64 a.2.2.2.2.1, C.int .i64 a.2.2.2.2.2.1, C.int .i64 a.2.2.2.2.2.2.1, C.row 125 a.2.2.2.2.2.2.2.1, C.row 50 a.2.2.2.2.2.2.2.2.1, C.int .i64 a.2.2.2.2.2.2.2.2.2.1, C.str a.2.2.2.2.2.2.2.2.2.2.1, C.str a.2.2.2.2.2.2.2.2.2.2.2.1, C.row 68 a.2.2.2.2.2.2.2.2.2.2.2.2.1, C.str a.2.2.2.2.2.2.2.2.2.2.2.2.2.1, C.row 5 a.2.2.2.2.2.2.2.2.2.2.2.2.2.2] 0]
theorem api_Path_6_ae {l : List Arg} {a : LL × LL × LL × LL × Int × Int × Int × LL × LL × Int × ByteArray × ByteArray × LL × ByteArray × LL} (h : api_Path_6_a l = some a) : l = api_Path_6_e a := by
  unfold api_Path_6_a at h
  split at h
  · cases h; rfl
  · cases h
noncomputable def api_Path_6_d : Res → Option Int
  | ⟨.one (.d (.int .i64 y0)), []⟩ => some y0
  | _ => none
noncomputable def api_Path_6_r (r : Int) : Res := ⟨.one (.d (.int .i64 r)), []⟩
theorem api_Path_6_dr {R : Res} {r : Int} (h : api_Path_6_d R = some r) : R = api_Path_6_r r := by
  unfold api_Path_6_d at h
  split at h
  · cases h; rfl
  · cases h
noncomputable def api_Path_6_o (L : Lv) {Ω : Type} (f : FuncId) (l : List Arg) (K : Res → Option Ω) (next : Option Ω) : Option Ω := rowO 36 api_Path_6_a (fun a => L.api_Path_6 a.1 a.2.1 a.2.2.1 a.2.2.2.1 a.2.2.2.2.1 a.2.2.2.2.2.1 a.2.2.2.2.2.2.1 a.2.2.2.2.2.2.2.1 a.2.2.2.2.2.2.2.2.1 a.2.2.2.2.2.2.2.2.2.1 a.2.2.2.2.2.2.2.2.2.2.1 a.2.2.2.2.2.2.2.2.2.2.2.1 a.2.2.2.2.2.2.2.2.2.2.2.2.1 a.2.2.2.2.2.2.2.2.2.2.2.2.2.1 a.2.2.2.2.2.2.2.2.2.2.2.2.2.2) api_Path_6_r f l K next
noncomputable def orielref03_Plain_a : List Arg → Option ByteArray
  | [.v (.one (.c (.str x0)))] => some x0
  | _ => none
noncomputable def orielref03_Plain_e (a : ByteArray) : List Arg := [.v (.one (.c (C.str a)))]
theorem orielref03_Plain_ae {l : List Arg} {a : ByteArray} (h : orielref03_Plain_a l = some a) : l = orielref03_Plain_e a := by
  unfold orielref03_Plain_a at h
  split at h
  · cases h; rfl
  · cases h
noncomputable def orielref03_Plain_d : Res → Option Bool
  | ⟨.one (.d (.bool y0)), []⟩ => some y0
  | _ => none
noncomputable def orielref03_Plain_r (r : Bool) : Res := ⟨.one (.d (.bool r)), []⟩
theorem orielref03_Plain_dr {R : Res} {r : Bool} (h : orielref03_Plain_d R = some r) : R = orielref03_Plain_r r := by
  unfold orielref03_Plain_d at h
  split at h
  · cases h; rfl
  · cases h
noncomputable def orielref03_Plain_o (L : Lv) {Ω : Type} (f : FuncId) (l : List Arg) (K : Res → Option Ω) (next : Option Ω) : Option Ω := rowO 47 orielref03_Plain_a (fun a => L.orielref03_Plain a) orielref03_Plain_r f l K next
noncomputable def orielref01_All_a : List Arg → Option ByteArray
  | [.v (.one (.c (.str x0)))] => some x0
  | _ => none
noncomputable def orielref01_All_e (a : ByteArray) : List Arg := [.v (.one (.c (C.str a)))]
theorem orielref01_All_ae {l : List Arg} {a : ByteArray} (h : orielref01_All_a l = some a) : l = orielref01_All_e a := by
  unfold orielref01_All_a at h
  split at h
  · cases h; rfl
  · cases h
noncomputable def orielref01_All_d : Res → Option (LL × Int × Int)
  | ⟨.tup [.one (.own 21 y0), .one (.d (.int .i64 y1)), .one (.d (.int .i64 y2))], []⟩ => some (y0, y1, y2)
  | _ => none
noncomputable def orielref01_All_r (r : LL × Int × Int) : Res := ⟨.tup [.one (.own 21 r.1), .one (.d (.int .i64 r.2.1)), .one (.d (.int .i64 r.2.2))], []⟩
theorem orielref01_All_dr {R : Res} {r : LL × Int × Int} (h : orielref01_All_d R = some r) : R = orielref01_All_r r := by
  unfold orielref01_All_d at h
  split at h
  · cases h; rfl
  · cases h
noncomputable def orielref01_All_o (L : Lv) {Ω : Type} (f : FuncId) (l : List Arg) (K : Res → Option Ω) (next : Option Ω) : Option Ω := rowO 45 orielref01_All_a (fun a => L.orielref01_All a) orielref01_All_r f l K next
noncomputable def strat_node_fails_a : List Arg → Option (LL × LL × LL × Int × Int × Int × LL × LL × Int × ByteArray × ByteArray × LL × ByteArray × LL × Int × ByteArray × ByteArray × ByteArray × LL × LL)
  | [.rop 74 [.row 25 x0_0, .row 41 x0_1, .row 3 x0_2, .int .i64 x0_3, .int .i64 x0_4, .int .i64 x0_5, .row 125 x0_6, .row 50 x0_7, .int .i64 x0_8, .str x0_9, .str x0_10, .row 68 x0_11, .str x0_12, .row 5 x0_13] 0, .v (.agg [.c (.int .i64 x1_0), .c (.str x1_1), .c (.str x1_2), .c (.str x1_3), .c (.row 50 x1_4), .c (.row 25 x1_5)])] => some (x0_0, x0_1, x0_2, x0_3, x0_4, x0_5, x0_6, x0_7, x0_8, x0_9, x0_10, x0_11, x0_12, x0_13, x1_0, x1_1, x1_2, x1_3, x1_4, x1_5)
  | _ => none
noncomputable def strat_node_fails_e (a : LL × LL × LL × Int × Int × Int × LL × LL × Int × ByteArray × ByteArray × LL × ByteArray × LL × Int × ByteArray × ByteArray × ByteArray × LL × LL) : List Arg := [.rop 74 [C.row 25 a.1, C.row 41 a.2.1, C.row 3 a.2.2.1, C.int .i64 a.2.2.2.1, C.int .i64 a.2.2.2.2.1, C.int .i64 a.2.2.2.2.2.1, C.row 125 a.2.2.2.2.2.2.1, C.row 50 a.2.2.2.2.2.2.2.1, C.int .i64 a.2.2.2.2.2.2.2.2.1, C.str a.2.2.2.2.2.2.2.2.2.1, C.str a.2.2.2.2.2.2.2.2.2.2.1, C.row 68 a.2.2.2.2.2.2.2.2.2.2.2.1, C.str a.2.2.2.2.2.2.2.2.2.2.2.2.1, C.row 5 a.2.2.2.2.2.2.2.2.2.2.2.2.2.1] 0, .v (.agg [.c (C.int .i64 a.2.2.2.2.2.2.2.2.2.2.2.2.2.2.1), .c (C.str a.2.2.2.2.2.2.2.2.2.2.2.2.2.2.2.1), .c (C.str a.2.2.2.2.2.2.2.2.2.2.2.2.2.2.2.2.1), .c (C.str a.2.2.2.2.2.2.2.2.2.2.2.2.2.2.2.2.2.1), .c (C.row 50 a.2.2.2.2.2.2.2.2.2.2.2.2.2.2.2.2.2.2.1), .c (C.row 25 a.2.2.2.2.2.2.2.2.2.2.2.2.2.2.2.2.2.2.2)])]
theorem strat_node_fails_ae {l : List Arg} {a : LL × LL × LL × Int × Int × Int × LL × LL × Int × ByteArray × ByteArray × LL × ByteArray × LL × Int × ByteArray × ByteArray × ByteArray × LL × LL} (h : strat_node_fails_a l = some a) : l = strat_node_fails_e a := by
  unfold strat_node_fails_a at h
  split at h
  · cases h; rfl
  · cases h
noncomputable def strat_node_fails_d : Res → Option Bool
  | ⟨.one (.d (.bool y0)), []⟩ => some y0
  | _ => none
noncomputable def strat_node_fails_r (r : Bool) : Res := ⟨.one (.d (.bool r)), []⟩
theorem strat_node_fails_dr {R : Res} {r : Bool} (h : strat_node_fails_d R = some r) : R = strat_node_fails_r r := by
  unfold strat_node_fails_d at h
  split at h
  · cases h; rfl
  · cases h
noncomputable def strat_node_fails_o (L : Lv) {Ω : Type} (f : FuncId) (l : List Arg) (K : Res → Option Ω) (next : Option Ω) : Option Ω := rowO 52 strat_node_fails_a (fun a => L.strat_node_fails a.1 a.2.1 a.2.2.1 a.2.2.2.1 a.2.2.2.2.1 a.2.2.2.2.2.1 a.2.2.2.2.2.2.1 a.2.2.2.2.2.2.2.1 a.2.2.2.2.2.2.2.2.1 a.2.2.2.2.2.2.2.2.2.1 a.2.2.2.2.2.2.2.2.2.2.1 a.2.2.2.2.2.2.2.2.2.2.2.1 a.2.2.2.2.2.2.2.2.2.2.2.2.1 a.2.2.2.2.2.2.2.2.2.2.2.2.2.1 a.2.2.2.2.2.2.2.2.2.2.2.2.2.2.1 a.2.2.2.2.2.2.2.2.2.2.2.2.2.2.2.1 a.2.2.2.2.2.2.2.2.2.2.2.2.2.2.2.2.1 a.2.2.2.2.2.2.2.2.2.2.2.2.2.2.2.2.2.1 a.2.2.2.2.2.2.2.2.2.2.2.2.2.2.2.2.2.2.1 a.2.2.2.2.2.2.2.2.2.2.2.2.2.2.2.2.2.2.2) strat_node_fails_r f l K next
noncomputable def strat_node_holds_2_a : List Arg → Option (LL × LL × LL × Int × Int × Int × LL × LL × Int × ByteArray × ByteArray × LL × ByteArray × LL × Int × ByteArray × ByteArray × ByteArray × LL × LL)
  | [.rop 74 [.row 25 x0_0, .row 41 x0_1, .row 3 x0_2, .int .i64 x0_3, .int .i64 x0_4, .int .i64 x0_5, .row 125 x0_6, .row 50 x0_7, .int .i64 x0_8, .str x0_9, .str x0_10, .row 68 x0_11, .str x0_12, .row 5 x0_13] 0, .v (.agg [.c (.int .i64 x1_0), .c (.str x1_1), .c (.str x1_2), .c (.str x1_3), .c (.row 50 x1_4), .c (.row 25 x1_5)])] => some (x0_0, x0_1, x0_2, x0_3, x0_4, x0_5, x0_6, x0_7, x0_8, x0_9, x0_10, x0_11, x0_12, x0_13, x1_0, x1_1, x1_2, x1_3, x1_4, x1_5)
  | _ => none
noncomputable def strat_node_holds_2_e (a : LL × LL × LL × Int × Int × Int × LL × LL × Int × ByteArray × ByteArray × LL × ByteArray × LL × Int × ByteArray × ByteArray × ByteArray × LL × LL) : List Arg := [.rop 74 [C.row 25 a.1, C.row 41 a.2.1, C.row 3 a.2.2.1, C.int .i64 a.2.2.2.1, C.int .i64 a.2.2.2.2.1, C.int .i64 a.2.2.2.2.2.1, C.row 125 a.2.2.2.2.2.2.1, C.row 50 a.2.2.2.2.2.2.2.1, C.int .i64 a.2.2.2.2.2.2.2.2.1, C.str a.2.2.2.2.2.2.2.2.2.1, C.str a.2.2.2.2.2.2.2.2.2.2.1, C.row 68 a.2.2.2.2.2.2.2.2.2.2.2.1, C.str a.2.2.2.2.2.2.2.2.2.2.2.2.1, C.row 5 a.2.2.2.2.2.2.2.2.2.2.2.2.2.1] 0, .v (.agg [.c (C.int .i64 a.2.2.2.2.2.2.2.2.2.2.2.2.2.2.1), .c (C.str a.2.2.2.2.2.2.2.2.2.2.2.2.2.2.2.1), .c (C.str a.2.2.2.2.2.2.2.2.2.2.2.2.2.2.2.2.1), .c (C.str a.2.2.2.2.2.2.2.2.2.2.2.2.2.2.2.2.2.1), .c (C.row 50 a.2.2.2.2.2.2.2.2.2.2.2.2.2.2.2.2.2.2.1), .c (C.row 25 a.2.2.2.2.2.2.2.2.2.2.2.2.2.2.2.2.2.2.2)])]
theorem strat_node_holds_2_ae {l : List Arg} {a : LL × LL × LL × Int × Int × Int × LL × LL × Int × ByteArray × ByteArray × LL × ByteArray × LL × Int × ByteArray × ByteArray × ByteArray × LL × LL} (h : strat_node_holds_2_a l = some a) : l = strat_node_holds_2_e a := by
  unfold strat_node_holds_2_a at h
  split at h
  · cases h; rfl
  · cases h
noncomputable def strat_node_holds_2_d : Res → Option Bool
  | ⟨.one (.d (.bool y0)), []⟩ => some y0
  | _ => none
noncomputable def strat_node_holds_2_r (r : Bool) : Res := ⟨.one (.d (.bool r)), []⟩
theorem strat_node_holds_2_dr {R : Res} {r : Bool} (h : strat_node_holds_2_d R = some r) : R = strat_node_holds_2_r r := by
  unfold strat_node_holds_2_d at h
  split at h
  · cases h; rfl
  · cases h
noncomputable def strat_node_holds_2_o (L : Lv) {Ω : Type} (f : FuncId) (l : List Arg) (K : Res → Option Ω) (next : Option Ω) : Option Ω := rowO 33 strat_node_holds_2_a (fun a => L.strat_node_holds_2 a.1 a.2.1 a.2.2.1 a.2.2.2.1 a.2.2.2.2.1 a.2.2.2.2.2.1 a.2.2.2.2.2.2.1 a.2.2.2.2.2.2.2.1 a.2.2.2.2.2.2.2.2.1 a.2.2.2.2.2.2.2.2.2.1 a.2.2.2.2.2.2.2.2.2.2.1 a.2.2.2.2.2.2.2.2.2.2.2.1 a.2.2.2.2.2.2.2.2.2.2.2.2.1 a.2.2.2.2.2.2.2.2.2.2.2.2.2.1 a.2.2.2.2.2.2.2.2.2.2.2.2.2.2.1 a.2.2.2.2.2.2.2.2.2.2.2.2.2.2.2.1 a.2.2.2.2.2.2.2.2.2.2.2.2.2.2.2.2.1 a.2.2.2.2.2.2.2.2.2.2.2.2.2.2.2.2.2.1 a.2.2.2.2.2.2.2.2.2.2.2.2.2.2.2.2.2.2.1 a.2.2.2.2.2.2.2.2.2.2.2.2.2.2.2.2.2.2.2) strat_node_holds_2_r f l K next
noncomputable def strat_node_leads_a : List Arg → Option (LL × LL × LL × Int × Int × Int × LL × LL × Int × ByteArray × ByteArray × LL × ByteArray × LL × Int × LL × LL)
  | [.rop 74 [.row 25 x0_0, .row 41 x0_1, .row 3 x0_2, .int .i64 x0_3, .int .i64 x0_4, .int .i64 x0_5, .row 125 x0_6, .row 50 x0_7, .int .i64 x0_8, .str x0_9, .str x0_10, .row 68 x0_11, .str x0_12, .row 5 x0_13] 0, .v (.agg [.c (.int .i64 x1_0), .c (.row 25 x1_1), .c (.row 50 x1_2)])] => some (x0_0, x0_1, x0_2, x0_3, x0_4, x0_5, x0_6, x0_7, x0_8, x0_9, x0_10, x0_11, x0_12, x0_13, x1_0, x1_1, x1_2)
  | _ => none
noncomputable def strat_node_leads_e (a : LL × LL × LL × Int × Int × Int × LL × LL × Int × ByteArray × ByteArray × LL × ByteArray × LL × Int × LL × LL) : List Arg := [.rop 74 [C.row 25 a.1, C.row 41 a.2.1, C.row 3 a.2.2.1, C.int .i64 a.2.2.2.1, C.int .i64 a.2.2.2.2.1, C.int .i64 a.2.2.2.2.2.1, C.row 125 a.2.2.2.2.2.2.1, C.row 50 a.2.2.2.2.2.2.2.1, C.int .i64 a.2.2.2.2.2.2.2.2.1, C.str a.2.2.2.2.2.2.2.2.2.1, C.str a.2.2.2.2.2.2.2.2.2.2.1, C.row 68 a.2.2.2.2.2.2.2.2.2.2.2.1, C.str a.2.2.2.2.2.2.2.2.2.2.2.2.1, C.row 5 a.2.2.2.2.2.2.2.2.2.2.2.2.2.1] 0, .v (.agg [.c (C.int .i64 a.2.2.2.2.2.2.2.2.2.2.2.2.2.2.1), .c (C.row 25 a.2.2.2.2.2.2.2.2.2.2.2.2.2.2.2.1), .c (C.row 50 a.2.2.2.2.2.2.2.2.2.2.2.2.2.2.2.2)])]
theorem strat_node_leads_ae {l : List Arg} {a : LL × LL × LL × Int × Int × Int × LL × LL × Int × ByteArray × ByteArray × LL × ByteArray × LL × Int × LL × LL} (h : strat_node_leads_a l = some a) : l = strat_node_leads_e a := by
  unfold strat_node_leads_a at h
  split at h
  · cases h; rfl
  · cases h
noncomputable def strat_node_leads_d : Res → Option Bool
  | ⟨.one (.d (.bool y0)), []⟩ => some y0
  | _ => none
noncomputable def strat_node_leads_r (r : Bool) : Res := ⟨.one (.d (.bool r)), []⟩
theorem strat_node_leads_dr {R : Res} {r : Bool} (h : strat_node_leads_d R = some r) : R = strat_node_leads_r r := by
  unfold strat_node_leads_d at h
  split at h
  · cases h; rfl
  · cases h
noncomputable def strat_node_leads_o (L : Lv) {Ω : Type} (f : FuncId) (l : List Arg) (K : Res → Option Ω) (next : Option Ω) : Option Ω := rowO 54 strat_node_leads_a (fun a => L.strat_node_leads a.1 a.2.1 a.2.2.1 a.2.2.2.1 a.2.2.2.2.1 a.2.2.2.2.2.1 a.2.2.2.2.2.2.1 a.2.2.2.2.2.2.2.1 a.2.2.2.2.2.2.2.2.1 a.2.2.2.2.2.2.2.2.2.1 a.2.2.2.2.2.2.2.2.2.2.1 a.2.2.2.2.2.2.2.2.2.2.2.1 a.2.2.2.2.2.2.2.2.2.2.2.2.1 a.2.2.2.2.2.2.2.2.2.2.2.2.2.1 a.2.2.2.2.2.2.2.2.2.2.2.2.2.2.1 a.2.2.2.2.2.2.2.2.2.2.2.2.2.2.2.1 a.2.2.2.2.2.2.2.2.2.2.2.2.2.2.2.2) strat_node_leads_r f l K next
noncomputable def orielref02_Start_a : List Arg → Option Int
  | [.v (.one (.c (.int .i64 x0)))] => some x0
  | _ => none
noncomputable def orielref02_Start_e (a : Int) : List Arg := [.v (.one (.c (C.int .i64 a)))]
theorem orielref02_Start_ae {l : List Arg} {a : Int} (h : orielref02_Start_a l = some a) : l = orielref02_Start_e a := by
  unfold orielref02_Start_a at h
  split at h
  · cases h; rfl
  · cases h
noncomputable def orielref02_Start_d : Res → Option Bool
  | ⟨.one (.d (.bool y0)), []⟩ => some y0
  | _ => none
noncomputable def orielref02_Start_r (r : Bool) : Res := ⟨.one (.d (.bool r)), []⟩
theorem orielref02_Start_dr {R : Res} {r : Bool} (h : orielref02_Start_d R = some r) : R = orielref02_Start_r r := by
  unfold orielref02_Start_d at h
  split at h
  · cases h; rfl
  · cases h
noncomputable def orielref02_Start_o (L : Lv) {Ω : Type} (f : FuncId) (l : List Arg) (K : Res → Option Ω) (next : Option Ω) : Option Ω := rowO 66 orielref02_Start_a (fun a => L.orielref02_Start a) orielref02_Start_r f l K next
noncomputable def orielref01_Rune_a : List Arg → Option (ByteArray × Int)
  | [.v (.one (.c (.str x0))), .v (.one (.c (.int .i64 x1)))] => some (x0, x1)
  | _ => none
noncomputable def orielref01_Rune_e (a : ByteArray × Int) : List Arg := [.v (.one (.c (C.str a.1))), .v (.one (.c (C.int .i64 a.2)))]
theorem orielref01_Rune_ae {l : List Arg} {a : ByteArray × Int} (h : orielref01_Rune_a l = some a) : l = orielref01_Rune_e a := by
  unfold orielref01_Rune_a at h
  split at h
  · cases h; rfl
  · cases h
noncomputable def orielref01_Rune_d : Res → Option (Int × Int × Int)
  | ⟨.tup [.one (.d (.int .i64 y0)), .one (.d (.int .i64 y1)), .one (.d (.int .i64 y2))], []⟩ => some (y0, y1, y2)
  | _ => none
noncomputable def orielref01_Rune_r (r : Int × Int × Int) : Res := ⟨.tup [.one (.d (.int .i64 r.1)), .one (.d (.int .i64 r.2.1)), .one (.d (.int .i64 r.2.2))], []⟩
theorem orielref01_Rune_dr {R : Res} {r : Int × Int × Int} (h : orielref01_Rune_d R = some r) : R = orielref01_Rune_r r := by
  unfold orielref01_Rune_d at h
  split at h
  · cases h; rfl
  · cases h
noncomputable def orielref01_Rune_o (L : Lv) {Ω : Type} (f : FuncId) (l : List Arg) (K : Res → Option Ω) (next : Option Ω) : Option Ω := rowO 64 orielref01_Rune_a (fun a => L.orielref01_Rune a.1 a.2) orielref01_Rune_r f l K next
noncomputable def strat_node_attr_2_a : List Arg → Option (LL × LL × LL × Int × Int × Int × LL × LL × Int × ByteArray × ByteArray × LL × ByteArray × LL × ByteArray × ByteArray)
  | [.rop 74 [.row 25 x0_0, .row 41 x0_1, .row 3 x0_2, .int .i64 x0_3, .int .i64 x0_4, .int .i64 x0_5, .row 125 x0_6, .row 50 x0_7, .int .i64 x0_8, .str x0_9, .str x0_10, .row 68 x0_11, .str x0_12, .row 5 x0_13] 0, .v (.agg [.c (.str x1_0), .c (.str x1_1)])] => some (x0_0, x0_1, x0_2, x0_3, x0_4, x0_5, x0_6, x0_7, x0_8, x0_9, x0_10, x0_11, x0_12, x0_13, x1_0, x1_1)
  | _ => none
noncomputable def strat_node_attr_2_e (a : LL × LL × LL × Int × Int × Int × LL × LL × Int × ByteArray × ByteArray × LL × ByteArray × LL × ByteArray × ByteArray) : List Arg := [.rop 74 [C.row 25 a.1, C.row 41 a.2.1, C.row 3 a.2.2.1, C.int .i64 a.2.2.2.1, C.int .i64 a.2.2.2.2.1, C.int .i64 a.2.2.2.2.2.1, C.row 125 a.2.2.2.2.2.2.1, C.row 50 a.2.2.2.2.2.2.2.1, C.int .i64 a.2.2.2.2.2.2.2.2.1, C.str a.2.2.2.2.2.2.2.2.2.1, C.str a.2.2.2.2.2.2.2.2.2.2.1, C.row 68 a.2.2.2.2.2.2.2.2.2.2.2.1, C.str a.2.2.2.2.2.2.2.2.2.2.2.2.1, C.row 5 a.2.2.2.2.2.2.2.2.2.2.2.2.2.1] 0, .v (.agg [.c (C.str a.2.2.2.2.2.2.2.2.2.2.2.2.2.2.1), .c (C.str a.2.2.2.2.2.2.2.2.2.2.2.2.2.2.2)])]
theorem strat_node_attr_2_ae {l : List Arg} {a : LL × LL × LL × Int × Int × Int × LL × LL × Int × ByteArray × ByteArray × LL × ByteArray × LL × ByteArray × ByteArray} (h : strat_node_attr_2_a l = some a) : l = strat_node_attr_2_e a := by
  unfold strat_node_attr_2_a at h
  split at h
  · cases h; rfl
  · cases h
noncomputable def strat_node_attr_2_d : Res → Option (ByteArray × Bool)
  | ⟨.tup [.one (.d (.str y0)), .one (.d (.bool y1))], []⟩ => some (y0, y1)
  | _ => none
noncomputable def strat_node_attr_2_r (r : ByteArray × Bool) : Res := ⟨.tup [.one (.d (.str r.1)), .one (.d (.bool r.2))], []⟩
theorem strat_node_attr_2_dr {R : Res} {r : ByteArray × Bool} (h : strat_node_attr_2_d R = some r) : R = strat_node_attr_2_r r := by
  unfold strat_node_attr_2_d at h
  split at h
  · cases h; rfl
  · cases h
noncomputable def strat_node_attr_2_o (L : Lv) {Ω : Type} (f : FuncId) (l : List Arg) (K : Res → Option Ω) (next : Option Ω) : Option Ω := rowO 50 strat_node_attr_2_a (fun a => L.strat_node_attr_2 a.1 a.2.1 a.2.2.1 a.2.2.2.1 a.2.2.2.2.1 a.2.2.2.2.2.1 a.2.2.2.2.2.2.1 a.2.2.2.2.2.2.2.1 a.2.2.2.2.2.2.2.2.1 a.2.2.2.2.2.2.2.2.2.1 a.2.2.2.2.2.2.2.2.2.2.1 a.2.2.2.2.2.2.2.2.2.2.2.1 a.2.2.2.2.2.2.2.2.2.2.2.2.1 a.2.2.2.2.2.2.2.2.2.2.2.2.2.1 a.2.2.2.2.2.2.2.2.2.2.2.2.2.2.1 a.2.2.2.2.2.2.2.2.2.2.2.2.2.2.2) strat_node_attr_2_r f l K next
noncomputable def orielref01_Put_a : List Arg → Option Int
  | [.v (.one (.c (.int .i64 x0)))] => some x0
  | _ => none
noncomputable def orielref01_Put_e (a : Int) : List Arg := [.v (.one (.c (C.int .i64 a)))]
theorem orielref01_Put_ae {l : List Arg} {a : Int} (h : orielref01_Put_a l = some a) : l = orielref01_Put_e a := by
  unfold orielref01_Put_a at h
  split at h
  · cases h; rfl
  · cases h
noncomputable def orielref01_Put_d : Res → Option LL
  | ⟨.one (.own 5 y0), []⟩ => some y0
  | _ => none
noncomputable def orielref01_Put_r (r : LL) : Res := ⟨.one (.own 5 r), []⟩
theorem orielref01_Put_dr {R : Res} {r : LL} (h : orielref01_Put_d R = some r) : R = orielref01_Put_r r := by
  unfold orielref01_Put_d at h
  split at h
  · cases h; rfl
  · cases h
noncomputable def orielref01_Put_o (L : Lv) {Ω : Type} (f : FuncId) (l : List Arg) (K : Res → Option Ω) (next : Option Ω) : Option Ω := rowO 81 orielref01_Put_a (fun a => L.orielref01_Put a) orielref01_Put_r f l K next
noncomputable def orielref01_cut_a : List Arg → Option (ByteArray × Int)
  | [.v (.one (.c (.str x0))), .v (.one (.c (.int .i64 x1)))] => some (x0, x1)
  | _ => none
noncomputable def orielref01_cut_e (a : ByteArray × Int) : List Arg := [.v (.one (.c (C.str a.1))), .v (.one (.c (C.int .i64 a.2)))]
theorem orielref01_cut_ae {l : List Arg} {a : ByteArray × Int} (h : orielref01_cut_a l = some a) : l = orielref01_cut_e a := by
  unfold orielref01_cut_a at h
  split at h
  · cases h; rfl
  · cases h
noncomputable def orielref01_cut_d : Res → Option Bool
  | ⟨.one (.d (.bool y0)), []⟩ => some y0
  | _ => none
noncomputable def orielref01_cut_r (r : Bool) : Res := ⟨.one (.d (.bool r)), []⟩
theorem orielref01_cut_dr {R : Res} {r : Bool} (h : orielref01_cut_d R = some r) : R = orielref01_cut_r r := by
  unfold orielref01_cut_d at h
  split at h
  · cases h; rfl
  · cases h
noncomputable def orielref01_cut_o (L : Lv) {Ω : Type} (f : FuncId) (l : List Arg) (K : Res → Option Ω) (next : Option Ω) : Option Ω := rowO 83 orielref01_cut_a (fun a => L.orielref01_cut a.1 a.2) orielref01_cut_r f l K next
noncomputable def orielref01_value_a : List Arg → Option (ByteArray × Int × Int)
  | [.v (.one (.c (.str x0))), .v (.one (.c (.int .i64 x1))), .v (.one (.c (.int .i64 x2)))] => some (x0, x1, x2)
  | _ => none
noncomputable def orielref01_value_e (a : ByteArray × Int × Int) : List Arg := [.v (.one (.c (C.str a.1))), .v (.one (.c (C.int .i64 a.2.1))), .v (.one (.c (C.int .i64 a.2.2)))]
theorem orielref01_value_ae {l : List Arg} {a : ByteArray × Int × Int} (h : orielref01_value_a l = some a) : l = orielref01_value_e a := by
  unfold orielref01_value_a at h
  split at h
  · cases h; rfl
  · cases h
noncomputable def orielref01_value_d : Res → Option Int
  | ⟨.one (.d (.int .i64 y0)), []⟩ => some y0
  | _ => none
noncomputable def orielref01_value_r (r : Int) : Res := ⟨.one (.d (.int .i64 r)), []⟩
theorem orielref01_value_dr {R : Res} {r : Int} (h : orielref01_value_d R = some r) : R = orielref01_value_r r := by
  unfold orielref01_value_d at h
  split at h
  · cases h; rfl
  · cases h
noncomputable def orielref01_value_o (L : Lv) {Ω : Type} (f : FuncId) (l : List Arg) (K : Res → Option Ω) (next : Option Ω) : Option Ω := rowO 80 orielref01_value_a (fun a => L.orielref01_value a.1 a.2.1 a.2.2) orielref01_value_r f l K next
noncomputable def orielref09_Few_a : List Arg → Option LL
  | [.v (.one (.c (.row 30 x0)))] => some x0
  | _ => none
noncomputable def orielref09_Few_e (a : LL) : List Arg := [.v (.one (.c (C.row 30 a)))]
theorem orielref09_Few_ae {l : List Arg} {a : LL} (h : orielref09_Few_a l = some a) : l = orielref09_Few_e a := by
  unfold orielref09_Few_a at h
  split at h
  · cases h; rfl
  · cases h
noncomputable def orielref09_Few_d : Res → Option Bool
  | ⟨.one (.d (.bool y0)), []⟩ => some y0
  | _ => none
noncomputable def orielref09_Few_r (r : Bool) : Res := ⟨.one (.d (.bool r)), []⟩
theorem orielref09_Few_dr {R : Res} {r : Bool} (h : orielref09_Few_d R = some r) : R = orielref09_Few_r r := by
  unfold orielref09_Few_d at h
  split at h
  · cases h; rfl
  · cases h
noncomputable def orielref09_Few_o (L : Lv) {Ω : Type} (f : FuncId) (l : List Arg) (K : Res → Option Ω) (next : Option Ω) : Option Ω := rowO 10 orielref09_Few_a (fun a => L.orielref09_Few a) orielref09_Few_r f l K next
noncomputable def orielref02_Char_a : List Arg → Option Int
  | [.v (.one (.c (.int .i64 x0)))] => some x0
  | _ => none
noncomputable def orielref02_Char_e (a : Int) : List Arg := [.v (.one (.c (C.int .i64 a)))]
theorem orielref02_Char_ae {l : List Arg} {a : Int} (h : orielref02_Char_a l = some a) : l = orielref02_Char_e a := by
  unfold orielref02_Char_a at h
  split at h
  · cases h; rfl
  · cases h
noncomputable def orielref02_Char_d : Res → Option Bool
  | ⟨.one (.d (.bool y0)), []⟩ => some y0
  | _ => none
noncomputable def orielref02_Char_r (r : Bool) : Res := ⟨.one (.d (.bool r)), []⟩
theorem orielref02_Char_dr {R : Res} {r : Bool} (h : orielref02_Char_d R = some r) : R = orielref02_Char_r r := by
  unfold orielref02_Char_d at h
  split at h
  · cases h; rfl
  · cases h
noncomputable def orielref02_Char_o (L : Lv) {Ω : Type} (f : FuncId) (l : List Arg) (K : Res → Option Ω) (next : Option Ω) : Option Ω := rowO 46 orielref02_Char_a (fun a => L.orielref02_Char a) orielref02_Char_r f l K next
noncomputable def orielref02_Part_a : List Arg → Option Int
  | [.v (.one (.c (.int .i64 x0)))] => some x0
  | _ => none
noncomputable def orielref02_Part_e (a : Int) : List Arg := [.v (.one (.c (C.int .i64 a)))]
theorem orielref02_Part_ae {l : List Arg} {a : Int} (h : orielref02_Part_a l = some a) : l = orielref02_Part_e a := by
  unfold orielref02_Part_a at h
  split at h
  · cases h; rfl
  · cases h
noncomputable def orielref02_Part_d : Res → Option Bool
  | ⟨.one (.d (.bool y0)), []⟩ => some y0
  | _ => none
noncomputable def orielref02_Part_r (r : Bool) : Res := ⟨.one (.d (.bool r)), []⟩
theorem orielref02_Part_dr {R : Res} {r : Bool} (h : orielref02_Part_d R = some r) : R = orielref02_Part_r r := by
  unfold orielref02_Part_d at h
  split at h
  · cases h; rfl
  · cases h
noncomputable def orielref02_Part_o (L : Lv) {Ω : Type} (f : FuncId) (l : List Arg) (K : Res → Option Ω) (next : Option Ω) : Option Ω := rowO 67 orielref02_Part_a (fun a => L.orielref02_Part a) orielref02_Part_r f l K next
noncomputable def orielref01_begins_a : List Arg → Option (ByteArray × Int × LL)
  | [.v (.one (.c (.str x0))), .v (.one (.c (.int .i64 x1))), .v (.one (.c (.row 5 x2)))] => some (x0, x1, x2)
  | _ => none
noncomputable def orielref01_begins_e (a : ByteArray × Int × LL) : List Arg := [.v (.one (.c (C.str a.1))), .v (.one (.c (C.int .i64 a.2.1))), .v (.one (.c (C.row 5 a.2.2)))]
theorem orielref01_begins_ae {l : List Arg} {a : ByteArray × Int × LL} (h : orielref01_begins_a l = some a) : l = orielref01_begins_e a := by
  unfold orielref01_begins_a at h
  split at h
  · cases h; rfl
  · cases h
noncomputable def orielref01_begins_d : Res → Option Bool
  | ⟨.one (.d (.bool y0)), []⟩ => some y0
  | _ => none
noncomputable def orielref01_begins_r (r : Bool) : Res := ⟨.one (.d (.bool r)), []⟩
theorem orielref01_begins_dr {R : Res} {r : Bool} (h : orielref01_begins_d R = some r) : R = orielref01_begins_r r := by
  unfold orielref01_begins_d at h
  split at h
  · cases h; rfl
  · cases h
noncomputable def orielref01_begins_o (L : Lv) {Ω : Type} (f : FuncId) (l : List Arg) (K : Res → Option Ω) (next : Option Ω) : Option Ω := rowO 82 orielref01_begins_a (fun a => L.orielref01_begins a.1 a.2.1 a.2.2) orielref01_begins_r f l K next
noncomputable def orielref02_Blank_a : List Arg → Option Int
  | [.v (.one (.c (.int .i64 x0)))] => some x0
  | _ => none
noncomputable def orielref02_Blank_e (a : Int) : List Arg := [.v (.one (.c (C.int .i64 a)))]
theorem orielref02_Blank_ae {l : List Arg} {a : Int} (h : orielref02_Blank_a l = some a) : l = orielref02_Blank_e a := by
  unfold orielref02_Blank_a at h
  split at h
  · cases h; rfl
  · cases h
noncomputable def orielref02_Blank_d : Res → Option Bool
  | ⟨.one (.d (.bool y0)), []⟩ => some y0
  | _ => none
noncomputable def orielref02_Blank_r (r : Bool) : Res := ⟨.one (.d (.bool r)), []⟩
theorem orielref02_Blank_dr {R : Res} {r : Bool} (h : orielref02_Blank_d R = some r) : R = orielref02_Blank_r r := by
  unfold orielref02_Blank_d at h
  split at h
  · cases h; rfl
  · cases h
noncomputable def orielref02_Blank_o (L : Lv) {Ω : Type} (f : FuncId) (l : List Arg) (K : Res → Option Ω) (next : Option Ω) : Option Ω := rowO 65 orielref02_Blank_a (fun a => L.orielref02_Blank a) orielref02_Blank_r f l K next
noncomputable def orielref10_Whole_a : List Arg → Option LL
  | [.v (.one (.c (.row 30 x0)))] => some x0
  | _ => none
noncomputable def orielref10_Whole_e (a : LL) : List Arg := [.v (.one (.c (C.row 30 a)))]
theorem orielref10_Whole_ae {l : List Arg} {a : LL} (h : orielref10_Whole_a l = some a) : l = orielref10_Whole_e a := by
  unfold orielref10_Whole_a at h
  split at h
  · cases h; rfl
  · cases h
noncomputable def orielref10_Whole_d : Res → Option Bool
  | ⟨.one (.d (.bool y0)), []⟩ => some y0
  | _ => none
noncomputable def orielref10_Whole_r (r : Bool) : Res := ⟨.one (.d (.bool r)), []⟩
theorem orielref10_Whole_dr {R : Res} {r : Bool} (h : orielref10_Whole_d R = some r) : R = orielref10_Whole_r r := by
  unfold orielref10_Whole_d at h
  split at h
  · cases h; rfl
  · cases h
noncomputable def orielref10_Whole_o (L : Lv) {Ω : Type} (f : FuncId) (l : List Arg) (K : Res → Option Ω) (next : Option Ω) : Option Ω := rowO 21 orielref10_Whole_a (fun a => L.orielref10_Whole a) orielref10_Whole_r f l K next
noncomputable def strat_Tests_a : List Arg → Option (LL × LL × LL × Int × Int × Int × LL × LL × Int × Int × Int × LL × LL × Int × ByteArray × ByteArray × LL × ByteArray × LL)
  | [.v (.agg [.c (.row 25 x0_0), .c (.row 41 x0_1), .c (.row 3 x0_2), .c (.int .i64 x0_3), .c (.int .i64 x0_4), .c (.int .i64 x0_5), .c (.row 125 x0_6), .c (.row 50 x0_7)]), .v (.agg [.c (.int .i64 x1_0), .c (.int .i64 x1_1), .c (.int .i64 x1_2), .c (.row 125 x1_3), .c (.row 50 x1_4)]), .v (.agg [.c (.int .i64 x2_0), .c (.str x2_1), .c (.str x2_2), .c (.row 68 x2_3), .c (.str x2_4)]), .v (.one (.c (.row 5 x3)))] => some (x0_0, x0_1, x0_2, x0_3, x0_4, x0_5, x0_6, x0_7, x1_0, x1_1, x1_2, x1_3, x1_4, x2_0, x2_1, x2_2, x2_3, x2_4, x3)
  | _ => none
noncomputable def strat_Tests_e (a : LL × LL × LL × Int × Int × Int × LL × LL × Int × Int × Int × LL × LL × Int × ByteArray × ByteArray × LL × ByteArray × LL) : List Arg := [.v (.agg [.c (C.row 25 a.1), .c (C.row 41 a.2.1), .c (C.row 3 a.2.2.1), .c (C.int .i64 a.2.2.2.1), .c (C.int .i64 a.2.2.2.2.1), .c (C.int .i64 a.2.2.2.2.2.1), .c (C.row 125 a.2.2.2.2.2.2.1), .c (C.row 50 a.2.2.2.2.2.2.2.1)]), .v (.agg [.c (C.int .i64 a.2.2.2.2.2.2.2.2.1), .c (C.int .i64 a.2.2.2.2.2.2.2.2.2.1), .c (C.int .i64 a.2.2.2.2.2.2.2.2.2.2.1), .c (C.row 125 a.2.2.2.2.2.2.2.2.2.2.2.1), .c (C.row 50 a.2.2.2.2.2.2.2.2.2.2.2.2.1)]), .v (.agg [.c (C.int .i64 a.2.2.2.2.2.2.2.2.2.2.2.2.2.1), .c (C.str a.2.2.2.2.2.2.2.2.2.2.2.2.2.2.1), .c (C.str a.2.2.2.2.2.2.2.2.2.2.2.2.2.2.2.1), .c (C.row 68 a.2.2.2.2.2.2.2.2.2.2.2.2.2.2.2.2.1), .c (C.str a.2.2.2.2.2.2.2.2.2.2.2.2.2.2.2.2.2.1)]), .v (.one (.c (C.row 5 a.2.2.2.2.2.2.2.2.2.2.2.2.2.2.2.2.2.2)))]
theorem strat_Tests_ae {l : List Arg} {a : LL × LL × LL × Int × Int × Int × LL × LL × Int × Int × Int × LL × LL × Int × ByteArray × ByteArray × LL × ByteArray × LL} (h : strat_Tests_a l = some a) : l = strat_Tests_e a := by
  unfold strat_Tests_a at h
  split at h
  · cases h; rfl
  · cases h
noncomputable def strat_Tests_d : Res → Option LL
  | ⟨.one (.own 4 y0), []⟩ => some y0
  | _ => none
noncomputable def strat_Tests_r (r : LL) : Res := ⟨.one (.own 4 r), []⟩
theorem strat_Tests_dr {R : Res} {r : LL} (h : strat_Tests_d R = some r) : R = strat_Tests_r r := by
  unfold strat_Tests_d at h
  split at h
  · cases h; rfl
  · cases h
noncomputable def strat_Tests_o (L : Lv) {Ω : Type} (f : FuncId) (l : List Arg) (K : Res → Option Ω) (next : Option Ω) : Option Ω := rowO 16 strat_Tests_a (fun a => L.strat_Tests a.1 a.2.1 a.2.2.1 a.2.2.2.1 a.2.2.2.2.1 a.2.2.2.2.2.1 a.2.2.2.2.2.2.1 a.2.2.2.2.2.2.2.1 a.2.2.2.2.2.2.2.2.1 a.2.2.2.2.2.2.2.2.2.1 a.2.2.2.2.2.2.2.2.2.2.1 a.2.2.2.2.2.2.2.2.2.2.2.1 a.2.2.2.2.2.2.2.2.2.2.2.2.1 a.2.2.2.2.2.2.2.2.2.2.2.2.2.1 a.2.2.2.2.2.2.2.2.2.2.2.2.2.2.1 a.2.2.2.2.2.2.2.2.2.2.2.2.2.2.2.1 a.2.2.2.2.2.2.2.2.2.2.2.2.2.2.2.2.1 a.2.2.2.2.2.2.2.2.2.2.2.2.2.2.2.2.2.1 a.2.2.2.2.2.2.2.2.2.2.2.2.2.2.2.2.2.2) strat_Tests_r f l K next
noncomputable def orielref05_Find_a : List Arg → Option (ByteArray × Int × ByteArray)
  | [.v (.one (.c (.str x0))), .v (.one (.c (.int .i64 x1))), .v (.one (.c (.str x2)))] => some (x0, x1, x2)
  | _ => none
noncomputable def orielref05_Find_e (a : ByteArray × Int × ByteArray) : List Arg := [.v (.one (.c (C.str a.1))), .v (.one (.c (C.int .i64 a.2.1))), .v (.one (.c (C.str a.2.2)))]
theorem orielref05_Find_ae {l : List Arg} {a : ByteArray × Int × ByteArray} (h : orielref05_Find_a l = some a) : l = orielref05_Find_e a := by
  unfold orielref05_Find_a at h
  split at h
  · cases h; rfl
  · cases h
noncomputable def orielref05_Find_d : Res → Option Int
  | ⟨.one (.d (.int .i64 y0)), []⟩ => some y0
  | _ => none
noncomputable def orielref05_Find_r (r : Int) : Res := ⟨.one (.d (.int .i64 r)), []⟩
theorem orielref05_Find_dr {R : Res} {r : Int} (h : orielref05_Find_d R = some r) : R = orielref05_Find_r r := by
  unfold orielref05_Find_d at h
  split at h
  · cases h; rfl
  · cases h
noncomputable def orielref05_Find_o (L : Lv) {Ω : Type} (f : FuncId) (l : List Arg) (K : Res → Option Ω) (next : Option Ω) : Option Ω := rowO 79 orielref05_Find_a (fun a => L.orielref05_Find a.1 a.2.1 a.2.2) orielref05_Find_r f l K next
noncomputable def orielref09_Depth_a : List Arg → Option LL
  | [.v (.one (.c (.row 30 x0)))] => some x0
  | _ => none
noncomputable def orielref09_Depth_e (a : LL) : List Arg := [.v (.one (.c (C.row 30 a)))]
theorem orielref09_Depth_ae {l : List Arg} {a : LL} (h : orielref09_Depth_a l = some a) : l = orielref09_Depth_e a := by
  unfold orielref09_Depth_a at h
  split at h
  · cases h; rfl
  · cases h
noncomputable def orielref09_Depth_d : Res → Option Int
  | ⟨.one (.d (.int .i64 y0)), []⟩ => some y0
  | _ => none
noncomputable def orielref09_Depth_r (r : Int) : Res := ⟨.one (.d (.int .i64 r)), []⟩
theorem orielref09_Depth_dr {R : Res} {r : Int} (h : orielref09_Depth_d R = some r) : R = orielref09_Depth_r r := by
  unfold orielref09_Depth_d at h
  split at h
  · cases h; rfl
  · cases h
noncomputable def orielref09_Depth_o (L : Lv) {Ω : Type} (f : FuncId) (l : List Arg) (K : Res → Option Ω) (next : Option Ω) : Option Ω := rowO 40 orielref09_Depth_a (fun a => L.orielref09_Depth a) orielref09_Depth_r f l K next
noncomputable def orielref09_Right_a : List Arg → Option (Int × ByteArray × ByteArray × LL × ByteArray)
  | [.v (.agg [.c (.int .i64 x0_0), .c (.str x0_1), .c (.str x0_2), .c (.row 68 x0_3), .c (.str x0_4)])] => some (x0_0, x0_1, x0_2, x0_3, x0_4)
  | _ => none
noncomputable def orielref09_Right_e (a : Int × ByteArray × ByteArray × LL × ByteArray) : List Arg := [.v (.agg [.c (C.int .i64 a.1), .c (C.str a.2.1), .c (C.str a.2.2.1), .c (C.row 68 a.2.2.2.1), .c (C.str a.2.2.2.2)])]
theorem orielref09_Right_ae {l : List Arg} {a : Int × ByteArray × ByteArray × LL × ByteArray} (h : orielref09_Right_a l = some a) : l = orielref09_Right_e a := by
  unfold orielref09_Right_a at h
  split at h
  · cases h; rfl
  · cases h
noncomputable def orielref09_Right_d : Res → Option Bool
  | ⟨.one (.d (.bool y0)), []⟩ => some y0
  | _ => none
noncomputable def orielref09_Right_r (r : Bool) : Res := ⟨.one (.d (.bool r)), []⟩
theorem orielref09_Right_dr {R : Res} {r : Bool} (h : orielref09_Right_d R = some r) : R = orielref09_Right_r r := by
  unfold orielref09_Right_d at h
  split at h
  · cases h; rfl
  · cases h
noncomputable def orielref09_Right_o (L : Lv) {Ω : Type} (f : FuncId) (l : List Arg) (K : Res → Option Ω) (next : Option Ω) : Option Ω := rowO 9 orielref09_Right_a (fun a => L.orielref09_Right a.1 a.2.1 a.2.2.1 a.2.2.2.1 a.2.2.2.2) orielref09_Right_r f l K next
noncomputable def orielref09_named_a : List Arg → Option (ByteArray × ByteArray)
  | [.v (.agg [.c (.str x0_0), .c (.str x0_1)])] => some (x0_0, x0_1)
  | _ => none
noncomputable def orielref09_named_e (a : ByteArray × ByteArray) : List Arg := [.v (.agg [.c (C.str a.1), .c (C.str a.2)])]
theorem orielref09_named_ae {l : List Arg} {a : ByteArray × ByteArray} (h : orielref09_named_a l = some a) : l = orielref09_named_e a := by
  unfold orielref09_named_a at h
  split at h
  · cases h; rfl
  · cases h
noncomputable def orielref09_named_d : Res → Option Bool
  | ⟨.one (.d (.bool y0)), []⟩ => some y0
  | _ => none
noncomputable def orielref09_named_r (r : Bool) : Res := ⟨.one (.d (.bool r)), []⟩
theorem orielref09_named_dr {R : Res} {r : Bool} (h : orielref09_named_d R = some r) : R = orielref09_named_r r := by
  unfold orielref09_named_d at h
  split at h
  · cases h; rfl
  · cases h
noncomputable def orielref09_named_o (L : Lv) {Ω : Type} (f : FuncId) (l : List Arg) (K : Res → Option Ω) (next : Option Ω) : Option Ω := rowO 29 orielref09_named_a (fun a => L.orielref09_named a.1 a.2) orielref09_named_r f l K next
noncomputable def orielref16_Make_a : List Arg → Option LL
  | [.v (.one (.c (.row 30 x0)))] => some x0
  | _ => none
noncomputable def orielref16_Make_e (a : LL) : List Arg := [.v (.one (.c (C.row 30 a)))]
theorem orielref16_Make_ae {l : List Arg} {a : LL} (h : orielref16_Make_a l = some a) : l = orielref16_Make_e a := by
  unfold orielref16_Make_a at h
  split at h
  · cases h; rfl
  · cases h
noncomputable def orielref16_Make_d : Res → Option (LL × LL)
  | ⟨.agg [.d (.row 30 y0), .own 3 y1], []⟩ => some (y0, y1)
  | _ => none
noncomputable def orielref16_Make_r (r : LL × LL) : Res := ⟨.agg [.d (.row 30 r.1), .own 3 r.2], []⟩
theorem orielref16_Make_dr {R : Res} {r : LL × LL} (h : orielref16_Make_d R = some r) : R = orielref16_Make_r r := by
  unfold orielref16_Make_d at h
  split at h
  · cases h; rfl
  · cases h
noncomputable def orielref16_Make_o (L : Lv) {Ω : Type} (f : FuncId) (l : List Arg) (K : Res → Option Ω) (next : Option Ω) : Option Ω := rowO 22 orielref16_Make_a (fun a => L.orielref16_Make a) orielref16_Make_r f l K next
noncomputable def orielref16_From_a : List Arg → Option (LL × LL × Int × LL × LL × Int)
  | [.v (.agg [.c (.row 30 x0_0), .c (.row 3 x0_1)]), .v (.agg [.c (.int .i64 x1_0), .c (.row 25 x1_1), .c (.row 50 x1_2)]), .v (.one (.c (.int .i64 x2)))] => some (x0_0, x0_1, x1_0, x1_1, x1_2, x2)
  | _ => none
noncomputable def orielref16_From_e (a : LL × LL × Int × LL × LL × Int) : List Arg := [.v (.agg [.c (C.row 30 a.1), .c (C.row 3 a.2.1)]), .v (.agg [.c (C.int .i64 a.2.2.1), .c (C.row 25 a.2.2.2.1), .c (C.row 50 a.2.2.2.2.1)]), .v (.one (.c (C.int .i64 a.2.2.2.2.2)))]
theorem orielref16_From_ae {l : List Arg} {a : LL × LL × Int × LL × LL × Int} (h : orielref16_From_a l = some a) : l = orielref16_From_e a := by
  unfold orielref16_From_a at h
  split at h
  · cases h; rfl
  · cases h
noncomputable def orielref16_From_d : Res → Option LL
  | ⟨.one (.own 3 y0), []⟩ => some y0
  | _ => none
noncomputable def orielref16_From_r (r : LL) : Res := ⟨.one (.own 3 r), []⟩
theorem orielref16_From_dr {R : Res} {r : LL} (h : orielref16_From_d R = some r) : R = orielref16_From_r r := by
  unfold orielref16_From_d at h
  split at h
  · cases h; rfl
  · cases h
noncomputable def orielref16_From_o (L : Lv) {Ω : Type} (f : FuncId) (l : List Arg) (K : Res → Option Ω) (next : Option Ω) : Option Ω := rowO 23 orielref16_From_a (fun a => L.orielref16_From a.1 a.2.1 a.2.2.1 a.2.2.2.1 a.2.2.2.2.1 a.2.2.2.2.2) orielref16_From_r f l K next
noncomputable def orielref12_Filters_a : List Arg → Option (Int × LL × LL)
  | [.v (.agg [.c (.int .i64 x0_0), .c (.row 25 x0_1), .c (.row 50 x0_2)])] => some (x0_0, x0_1, x0_2)
  | _ => none
noncomputable def orielref12_Filters_e (a : Int × LL × LL) : List Arg := [.v (.agg [.c (C.int .i64 a.1), .c (C.row 25 a.2.1), .c (C.row 50 a.2.2)])]
theorem orielref12_Filters_ae {l : List Arg} {a : Int × LL × LL} (h : orielref12_Filters_a l = some a) : l = orielref12_Filters_e a := by
  unfold orielref12_Filters_a at h
  split at h
  · cases h; rfl
  · cases h
noncomputable def orielref12_Filters_d : Res → Option LL
  | ⟨.one (.own 50 y0), []⟩ => some y0
  | _ => none
noncomputable def orielref12_Filters_r (r : LL) : Res := ⟨.one (.own 50 r), []⟩
theorem orielref12_Filters_dr {R : Res} {r : LL} (h : orielref12_Filters_d R = some r) : R = orielref12_Filters_r r := by
  unfold orielref12_Filters_d at h
  split at h
  · cases h; rfl
  · cases h
noncomputable def orielref12_Filters_o (L : Lv) {Ω : Type} (f : FuncId) (l : List Arg) (K : Res → Option Ω) (next : Option Ω) : Option Ω := rowO 13 orielref12_Filters_a (fun a => L.orielref12_Filters a.1 a.2.1 a.2.2) orielref12_Filters_r f l K next
noncomputable def orielref16_leads_a : List Arg → Option (LL × LL × Int × LL × LL × LL)
  | [.v (.agg [.c (.row 30 x0_0), .c (.row 3 x0_1)]), .v (.agg [.c (.int .i64 x1_0), .c (.row 25 x1_1), .c (.row 50 x1_2)]), .v (.one (.c (.row 3 x2)))] => some (x0_0, x0_1, x1_0, x1_1, x1_2, x2)
  | _ => none
noncomputable def orielref16_leads_e (a : LL × LL × Int × LL × LL × LL) : List Arg := [.v (.agg [.c (C.row 30 a.1), .c (C.row 3 a.2.1)]), .v (.agg [.c (C.int .i64 a.2.2.1), .c (C.row 25 a.2.2.2.1), .c (C.row 50 a.2.2.2.2.1)]), .v (.one (.c (C.row 3 a.2.2.2.2.2)))]
theorem orielref16_leads_ae {l : List Arg} {a : LL × LL × Int × LL × LL × LL} (h : orielref16_leads_a l = some a) : l = orielref16_leads_e a := by
  unfold orielref16_leads_a at h
  split at h
  · cases h; rfl
  · cases h
noncomputable def orielref16_leads_d : Res → Option LL
  | ⟨.one (.d (.row 3 y0)), []⟩ => some y0
  | _ => none
noncomputable def orielref16_leads_r (r : LL) : Res := ⟨.one (.d (.row 3 r)), []⟩
theorem orielref16_leads_dr {R : Res} {r : LL} (h : orielref16_leads_d R = some r) : R = orielref16_leads_r r := by
  unfold orielref16_leads_d at h
  split at h
  · cases h; rfl
  · cases h
noncomputable def orielref16_leads_o (L : Lv) {Ω : Type} (f : FuncId) (l : List Arg) (K : Res → Option Ω) (next : Option Ω) : Option Ω := rowO 41 orielref16_leads_a (fun a => L.orielref16_leads a.1 a.2.1 a.2.2.1 a.2.2.2.1 a.2.2.2.2.1 a.2.2.2.2.2) orielref16_leads_r f l K next
noncomputable def orielref12_within_a : List Arg → Option (Int × ByteArray × ByteArray × ByteArray × LL × LL)
  | [.v (.agg [.c (.int .i64 x0_0), .c (.str x0_1), .c (.str x0_2), .c (.str x0_3), .c (.row 50 x0_4), .c (.row 25 x0_5)])] => some (x0_0, x0_1, x0_2, x0_3, x0_4, x0_5)
  | _ => none
noncomputable def orielref12_within_e (a : Int × ByteArray × ByteArray × ByteArray × LL × LL) : List Arg := [.v (.agg [.c (C.int .i64 a.1), .c (C.str a.2.1), .c (C.str a.2.2.1), .c (C.str a.2.2.2.1), .c (C.row 50 a.2.2.2.2.1), .c (C.row 25 a.2.2.2.2.2)])]
theorem orielref12_within_ae {l : List Arg} {a : Int × ByteArray × ByteArray × ByteArray × LL × LL} (h : orielref12_within_a l = some a) : l = orielref12_within_e a := by
  unfold orielref12_within_a at h
  split at h
  · cases h; rfl
  · cases h
noncomputable def orielref12_within_d : Res → Option LL
  | ⟨.one (.own 50 y0), []⟩ => some y0
  | _ => none
noncomputable def orielref12_within_r (r : LL) : Res := ⟨.one (.own 50 r), []⟩
theorem orielref12_within_dr {R : Res} {r : LL} (h : orielref12_within_d R = some r) : R = orielref12_within_r r := by
  unfold orielref12_within_d at h
  split at h
  · cases h; rfl
  · cases h
noncomputable def orielref12_within_o (L : Lv) {Ω : Type} (f : FuncId) (l : List Arg) (K : Res → Option Ω) (next : Option Ω) : Option Ω := rowO 32 orielref12_within_a (fun a => L.orielref12_within a.1 a.2.1 a.2.2.1 a.2.2.2.1 a.2.2.2.2.1 a.2.2.2.2.2) orielref12_within_r f l K next
noncomputable def orielref16_first_a : List Arg → Option (LL × LL × Int)
  | [.v (.agg [.c (.row 30 x0_0), .c (.row 3 x0_1)]), .v (.one (.c (.int .i64 x1)))] => some (x0_0, x0_1, x1)
  | _ => none
noncomputable def orielref16_first_e (a : LL × LL × Int) : List Arg := [.v (.agg [.c (C.row 30 a.1), .c (C.row 3 a.2.1)]), .v (.one (.c (C.int .i64 a.2.2)))]
theorem orielref16_first_ae {l : List Arg} {a : LL × LL × Int} (h : orielref16_first_a l = some a) : l = orielref16_first_e a := by
  unfold orielref16_first_a at h
  split at h
  · cases h; rfl
  · cases h
noncomputable def orielref16_first_d : Res → Option Int
  | ⟨.one (.d (.int .i64 y0)), []⟩ => some y0
  | _ => none
noncomputable def orielref16_first_r (r : Int) : Res := ⟨.one (.d (.int .i64 r)), []⟩
theorem orielref16_first_dr {R : Res} {r : Int} (h : orielref16_first_d R = some r) : R = orielref16_first_r r := by
  unfold orielref16_first_d at h
  split at h
  · cases h; rfl
  · cases h
noncomputable def orielref16_first_o (L : Lv) {Ω : Type} (f : FuncId) (l : List Arg) (K : Res → Option Ω) (next : Option Ω) : Option Ω := rowO 60 orielref16_first_a (fun a => L.orielref16_first a.1 a.2.1 a.2.2) orielref16_first_r f l K next
noncomputable def orielref16_has_a : List Arg → Option (LL × Int)
  | [.v (.one (.c (.row 3 x0))), .v (.one (.c (.int .i64 x1)))] => some (x0, x1)
  | _ => none
noncomputable def orielref16_has_e (a : LL × Int) : List Arg := [.v (.one (.c (C.row 3 a.1))), .v (.one (.c (C.int .i64 a.2)))]
theorem orielref16_has_ae {l : List Arg} {a : LL × Int} (h : orielref16_has_a l = some a) : l = orielref16_has_e a := by
  unfold orielref16_has_a at h
  split at h
  · cases h; rfl
  · cases h
noncomputable def orielref16_has_d : Res → Option Bool
  | ⟨.one (.d (.bool y0)), []⟩ => some y0
  | _ => none
noncomputable def orielref16_has_r (r : Bool) : Res := ⟨.one (.d (.bool r)), []⟩
theorem orielref16_has_dr {R : Res} {r : Bool} (h : orielref16_has_d R = some r) : R = orielref16_has_r r := by
  unfold orielref16_has_d at h
  split at h
  · cases h; rfl
  · cases h
noncomputable def orielref16_has_o (L : Lv) {Ω : Type} (f : FuncId) (l : List Arg) (K : Res → Option Ω) (next : Option Ω) : Option Ω := rowO 42 orielref16_has_a (fun a => L.orielref16_has a.1 a.2) orielref16_has_r f l K next
noncomputable def orielref16_next_a : List Arg → Option (LL × LL × Int)
  | [.v (.agg [.c (.row 30 x0_0), .c (.row 3 x0_1)]), .v (.one (.c (.int .i64 x1)))] => some (x0_0, x0_1, x1)
  | _ => none
noncomputable def orielref16_next_e (a : LL × LL × Int) : List Arg := [.v (.agg [.c (C.row 30 a.1), .c (C.row 3 a.2.1)]), .v (.one (.c (C.int .i64 a.2.2)))]
theorem orielref16_next_ae {l : List Arg} {a : LL × LL × Int} (h : orielref16_next_a l = some a) : l = orielref16_next_e a := by
  unfold orielref16_next_a at h
  split at h
  · cases h; rfl
  · cases h
noncomputable def orielref16_next_d : Res → Option Int
  | ⟨.one (.d (.int .i64 y0)), []⟩ => some y0
  | _ => none
noncomputable def orielref16_next_r (r : Int) : Res := ⟨.one (.d (.int .i64 r)), []⟩
theorem orielref16_next_dr {R : Res} {r : Int} (h : orielref16_next_d R = some r) : R = orielref16_next_r r := by
  unfold orielref16_next_d at h
  split at h
  · cases h; rfl
  · cases h
noncomputable def orielref16_next_o (L : Lv) {Ω : Type} (f : FuncId) (l : List Arg) (K : Res → Option Ω) (next : Option Ω) : Option Ω := rowO 61 orielref16_next_a (fun a => L.orielref16_next a.1 a.2.1 a.2.2) orielref16_next_r f l K next
noncomputable def orielref16_Holds_a : List Arg → Option (LL × LL × Int × ByteArray × ByteArray × ByteArray × LL × LL × Int)
  | [.v (.agg [.c (.row 30 x0_0), .c (.row 3 x0_1)]), .v (.agg [.c (.int .i64 x1_0), .c (.str x1_1), .c (.str x1_2), .c (.str x1_3), .c (.row 50 x1_4), .c (.row 25 x1_5)]), .v (.one (.c (.int .i64 x2)))] => some (x0_0, x0_1, x1_0, x1_1, x1_2, x1_3, x1_4, x1_5, x2)
  | _ => none
noncomputable def orielref16_Holds_e (a : LL × LL × Int × ByteArray × ByteArray × ByteArray × LL × LL × Int) : List Arg := [.v (.agg [.c (C.row 30 a.1), .c (C.row 3 a.2.1)]), .v (.agg [.c (C.int .i64 a.2.2.1), .c (C.str a.2.2.2.1), .c (C.str a.2.2.2.2.1), .c (C.str a.2.2.2.2.2.1), .c (C.row 50 a.2.2.2.2.2.2.1), .c (C.row 25 a.2.2.2.2.2.2.2.1)]), .v (.one (.c (C.int .i64 a.2.2.2.2.2.2.2.2)))]
theorem orielref16_Holds_ae {l : List Arg} {a : LL × LL × Int × ByteArray × ByteArray × ByteArray × LL × LL × Int} (h : orielref16_Holds_a l = some a) : l = orielref16_Holds_e a := by
  unfold orielref16_Holds_a at h
  split at h
  · cases h; rfl
  · cases h
noncomputable def orielref16_Holds_d : Res → Option Bool
  | ⟨.one (.d (.bool y0)), []⟩ => some y0
  | _ => none
noncomputable def orielref16_Holds_r (r : Bool) : Res := ⟨.one (.d (.bool r)), []⟩
theorem orielref16_Holds_dr {R : Res} {r : Bool} (h : orielref16_Holds_d R = some r) : R = orielref16_Holds_r r := by
  unfold orielref16_Holds_d at h
  split at h
  · cases h; rfl
  · cases h
noncomputable def orielref16_Holds_o (L : Lv) {Ω : Type} (f : FuncId) (l : List Arg) (K : Res → Option Ω) (next : Option Ω) : Option Ω := rowO 24 orielref16_Holds_a (fun a => L.orielref16_Holds a.1 a.2.1 a.2.2.1 a.2.2.2.1 a.2.2.2.2.1 a.2.2.2.2.2.1 a.2.2.2.2.2.2.1 a.2.2.2.2.2.2.2.1 a.2.2.2.2.2.2.2.2) orielref16_Holds_r f l K next
noncomputable def orielref16_number_a : List Arg → Option (LL × LL × Int)
  | [.v (.agg [.c (.row 30 x0_0), .c (.row 3 x0_1)]), .v (.one (.c (.int .i64 x1)))] => some (x0_0, x0_1, x1)
  | _ => none
noncomputable def orielref16_number_e (a : LL × LL × Int) : List Arg := [.v (.agg [.c (C.row 30 a.1), .c (C.row 3 a.2.1)]), .v (.one (.c (C.int .i64 a.2.2)))]
theorem orielref16_number_ae {l : List Arg} {a : LL × LL × Int} (h : orielref16_number_a l = some a) : l = orielref16_number_e a := by
  unfold orielref16_number_a at h
  split at h
  · cases h; rfl
  · cases h
noncomputable def orielref16_number_d : Res → Option Int
  | ⟨.one (.d (.int .i64 y0)), []⟩ => some y0
  | _ => none
noncomputable def orielref16_number_r (r : Int) : Res := ⟨.one (.d (.int .i64 r)), []⟩
theorem orielref16_number_dr {R : Res} {r : Int} (h : orielref16_number_d R = some r) : R = orielref16_number_r r := by
  unfold orielref16_number_d at h
  split at h
  · cases h; rfl
  · cases h
noncomputable def orielref16_number_o (L : Lv) {Ω : Type} (f : FuncId) (l : List Arg) (K : Res → Option Ω) (next : Option Ω) : Option Ω := rowO 77 orielref16_number_a (fun a => L.orielref16_number a.1 a.2.1 a.2.2) orielref16_number_r f l K next
noncomputable def orielref10_End_a : List Arg → Option (LL × Int)
  | [.v (.one (.c (.row 30 x0))), .v (.one (.c (.int .i64 x1)))] => some (x0, x1)
  | _ => none
noncomputable def orielref10_End_e (a : LL × Int) : List Arg := [.v (.one (.c (C.row 30 a.1))), .v (.one (.c (C.int .i64 a.2)))]
theorem orielref10_End_ae {l : List Arg} {a : LL × Int} (h : orielref10_End_a l = some a) : l = orielref10_End_e a := by
  unfold orielref10_End_a at h
  split at h
  · cases h; rfl
  · cases h
noncomputable def orielref10_End_d : Res → Option Int
  | ⟨.one (.d (.int .i64 y0)), []⟩ => some y0
  | _ => none
noncomputable def orielref10_End_r (r : Int) : Res := ⟨.one (.d (.int .i64 r)), []⟩
theorem orielref10_End_dr {R : Res} {r : Int} (h : orielref10_End_d R = some r) : R = orielref10_End_r r := by
  unfold orielref10_End_d at h
  split at h
  · cases h; rfl
  · cases h
noncomputable def orielref10_End_o (L : Lv) {Ω : Type} (f : FuncId) (l : List Arg) (K : Res → Option Ω) (next : Option Ω) : Option Ω := rowO 78 orielref10_End_a (fun a => L.orielref10_End a.1 a.2) orielref10_End_r f l K next
noncomputable def orK (L : Lv) {Ω : Type} (f : FuncId) (l : List Arg) (K : Res → Option Ω) : Option Ω := oriellaw18_StratJudges_o L f l K (orielref18_Holds_o L f l K (oriellaw18_awake_o L f l K (orielref18_Find_o L f l K (strat_Make_o L f l K (orielref12_Same_o L f l K (strat_maker_path_o L f l K (orielref12_SameFilter_o L f l K (strat_maker_filter_o L f l K (api_Path_o L f l K (api_Path_2_o L f l K (strat_maker_filter_1_o L f l K (path_Same_o L f l K (api_Path_3_o L f l K (prog_Compile_o L f l K (api_Filter_o L f l K (prog_maker_path_o L f l K (path_sameFilter_o L f l K (prog_maker_step_o L f l K (prog_maker_seq_o L f l K (prog_maker_alt_o L f l K (prog_maker_state_o L f l K (prog_maker_lay_o L f l K (prog_maker_free_o L f l K (strat_Items_o L f l K (orielref12_Right_o L f l K (strat_Find_o L f l K (orielref12_Size_o L f l K (api_Path_4_o L f l K (orielref12_size_o L f l K (strat_Find_1_o L f l K (orielref12_sizeFilter_o L f l K (strat_Holds_o L f l K (orielref12_path_o L f l K (strat_node_holds_o L f l K (orielref12_filter_o L f l K (strat_node_attr_o L f l K (api_Filter_2_o L f l K (api_Filter_3_o L f l K (api_Path_5_o L f l K (orielref12_named_o L f l K (orielref04_Right_o L f l K (api_Filter_4_o L f l K (api_Filter_5_o L f l K (api_Path_6_o L f l K (orielref03_Plain_o L f l K (orielref01_All_o L f l K (strat_node_fails_o L f l K (strat_node_holds_2_o L f l K (strat_node_leads_o L f l K (orielref02_Start_o L f l K (orielref01_Rune_o L f l K (strat_node_attr_2_o L f l K (orielref01_Put_o L f l K (orielref01_cut_o L f l K (orielref01_value_o L f l K (orielref09_Few_o L f l K (orielref02_Char_o L f l K (orielref02_Part_o L f l K (orielref01_begins_o L f l K (orielref02_Blank_o L f l K (orielref10_Whole_o L f l K (strat_Tests_o L f l K (orielref05_Find_o L f l K (orielref09_Depth_o L f l K (orielref09_Right_o L f l K (orielref09_named_o L f l K (orielref16_Make_o L f l K (orielref16_From_o L f l K (orielref12_Filters_o L f l K (orielref16_leads_o L f l K (orielref12_within_o L f l K (orielref16_first_o L f l K (orielref16_has_o L f l K (orielref16_next_o L f l K (orielref16_Holds_o L f l K (orielref16_number_o L f l K (orielref10_End_o L f l K (none))))))))))))))))))))))))))))))))))))))))))))))))))))))))))))))))))))))))))))))
noncomputable def oriellaw18_StratJudges_b (L : Lv) (k : Nat) (x0_0 : Int) (x0_1 x0_2 x1 : LL) (x2 : Int) : Option Bool := bodyK noEq Try.prog (orK L) kp k 5 [.v (.agg [.c (C.int .i64 x0_0), .c (C.row 25 x0_1), .c (C.row 50 x0_2)]), .v (.one (.c (C.row 30 x1))), .v (.one (.c (C.int .u8 x2)))] oriellaw18_StratJudges_d
noncomputable def oriellaw18_StratJudges_l0 (L : Lv) (k : Nat) (x0_0 : Int) (x0_1 x0_2 x1 : LL) (x2 : Int) (m0 : Nat) (v1 v2 : Int) (v6 : LL) (v7 v8 v9 : Int) (v10 v11 v12 v13 v14 v15 v16 : LL) : Option Bool := headK noEq Try.prog (orK L) kp k 5 [.v (.agg [.c (C.int .i64 x0_0), .c (C.row 25 x0_1), .c (C.row 50 x0_2)]), .v (.one (.c (C.row 30 x1))), .v (.one (.c (C.int .u8 x2)))] [1, 1, 1, 1, 1, 1, 0, 1, 0] [m0] ⟨[(1, .one (.c (C.row 30 x1))), (3, .one (.ptr 192 0)), (7, .one (.ptr 193 0)), (8, .one (.c (C.int .i64 v1))), (9, .one (.ptr 194 0)), (10, .one (.arr 195)), (11, .one (.c (C.int .i64 v2)))], [(192, .box 25 [.c (C.int .i64 x0_0), .c (C.row 25 x0_1), .c (C.row 50 x0_2)]), (193, .box 58 [.c (C.row 30 v6), .arr 196]), (194, .box 43 [.arr 197, .arr 198, .arr 199, .c (C.int .i64 v7), .c (C.int .i64 v8), .c (C.int .i64 v9), .arr 200, .arr 201]), (195, .arr 5 false v10), (196, .arr 3 false v11), (197, .arr 25 false v12), (198, .arr 41 false v13), (199, .arr 3 false v14), (200, .arr 125 false v15), (201, .arr 50 false v16)], 203, 112⟩ oriellaw18_StratJudges_d
noncomputable def oriellaw18_StratJudges_l1 (L : Lv) (k : Nat) (x0_0 : Int) (x0_1 x0_2 x1 : LL) (x2 : Int) (m0 : Nat) (v1 v2 : Int) (v3 : LL) (v4 v5 v6 : Int) (v7 v8 v9 v10 v11 v12 v13 v14 : LL) : Option Bool := headK noEq Try.prog (orK L) kp k 5 [.v (.agg [.c (C.int .i64 x0_0), .c (C.row 25 x0_1), .c (C.row 50 x0_2)]), .v (.one (.c (C.row 30 x1))), .v (.one (.c (C.int .u8 x2)))] [1, 1, 1, 1, 1, 1, 1, 1, 0, 1, 0] [m0] ⟨[(1, .one (.c (C.row 30 x1))), (7, .one (.ptr 192 0)), (8, .one (.c (C.int .i64 v1))), (9, .one (.ptr 193 0)), (10, .one (.arr 194)), (12, .one (.arr 195)), (13, .one (.c (C.int .i64 v2)))], [(192, .box 58 [.c (C.row 30 v3), .arr 196]), (193, .box 43 [.arr 197, .arr 198, .arr 199, .c (C.int .i64 v4), .c (C.int .i64 v5), .c (C.int .i64 v6), .arr 200, .arr 201]), (194, .arr 5 false v7), (195, .arr 50 false v8), (196, .arr 3 false v9), (197, .arr 25 false v10), (198, .arr 41 false v11), (199, .arr 3 false v12), (200, .arr 125 false v13), (201, .arr 50 false v14)], 203, 112⟩ oriellaw18_StratJudges_d
noncomputable def orielref18_Holds_b (L : Lv) (k : Nat) (x0_0 x0_1 x0_2 : LL) (x0_3 x0_4 x0_5 : Int) (x0_6 x0_7 : LL) (x1_0 : Int) (x1_1 x1_2 x1_3 : ByteArray) (x1_4 x1_5 : LL) (x2_0 : Int) (x2_1 x2_2 : ByteArray) (x2_3 : LL) (x2_4 : ByteArray) (x3 : LL) : Option Bool := bodyK noEq Try.prog (orK L) kp k 15 [.v (.agg [.c (C.row 25 x0_0), .c (C.row 41 x0_1), .c (C.row 3 x0_2), .c (C.int .i64 x0_3), .c (C.int .i64 x0_4), .c (C.int .i64 x0_5), .c (C.row 125 x0_6), .c (C.row 50 x0_7)]), .v (.agg [.c (C.int .i64 x1_0), .c (C.str x1_1), .c (C.str x1_2), .c (C.str x1_3), .c (C.row 50 x1_4), .c (C.row 25 x1_5)]), .v (.agg [.c (C.int .i64 x2_0), .c (C.str x2_1), .c (C.str x2_2), .c (C.row 68 x2_3), .c (C.str x2_4)]), .v (.one (.c (C.row 5 x3)))] orielref18_Holds_d
noncomputable def orielref18_Holds_l0 (L : Lv) (k : Nat) (x0_0 x0_1 x0_2 : LL) (x0_3 x0_4 x0_5 : Int) (x0_6 x0_7 : LL) (x1_0 : Int) (x1_1 x1_2 x1_3 : ByteArray) (x1_4 x1_5 : LL) (x2_0 : Int) (x2_1 x2_2 : ByteArray) (x2_3 : LL) (x2_4 : ByteArray) (x3 : LL) (m0 : Nat) (v1 v2 : Bool) (v3 : Int) : Option Bool := headK noEq Try.prog (orK L) kp k 15 [.v (.agg [.c (C.row 25 x0_0), .c (C.row 41 x0_1), .c (C.row 3 x0_2), .c (C.int .i64 x0_3), .c (C.int .i64 x0_4), .c (C.int .i64 x0_5), .c (C.row 125 x0_6), .c (C.row 50 x0_7)]), .v (.agg [.c (C.int .i64 x1_0), .c (C.str x1_1), .c (C.str x1_2), .c (C.str x1_3), .c (C.row 50 x1_4), .c (C.row 25 x1_5)]), .v (.agg [.c (C.int .i64 x2_0), .c (C.str x2_1), .c (C.str x2_2), .c (C.row 68 x2_3), .c (C.str x2_4)]), .v (.one (.c (C.row 5 x3)))] [1, 1, 0, 1, 0, 1, 1, 0, 1, 0] [m0] ⟨[(3, .one (.c (C.row 5 x3))), (4, .one (.ptr 256 0)), (5, .one (.ptr 257 0)), (6, .one (.ptr 258 0)), (9, .one (.c (C.bool v1))), (10, .one (.c (C.bool v2))), (11, .one (.c (C.int .i64 v3)))], [(256, .box 43 [.c (C.row 25 x0_0), .c (C.row 41 x0_1), .c (C.row 3 x0_2), .c (C.int .i64 x0_3), .c (C.int .i64 x0_4), .c (C.int .i64 x0_5), .c (C.row 125 x0_6), .c (C.row 50 x0_7)]), (257, .box 50 [.c (C.int .i64 x1_0), .c (C.str x1_1), .c (C.str x1_2), .c (C.str x1_3), .c (C.row 50 x1_4), .c (C.row 25 x1_5)]), (258, .box 30 [.c (C.int .i64 x2_0), .c (C.str x2_1), .c (C.str x2_2), .c (C.row 68 x2_3), .c (C.str x2_4)])], 260, 177⟩ orielref18_Holds_d
noncomputable def orielref18_Holds_l1 (L : Lv) (k : Nat) (x0_0 x0_1 x0_2 : LL) (x0_3 x0_4 x0_5 : Int) (x0_6 x0_7 : LL) (x1_0 : Int) (x1_1 x1_2 x1_3 : ByteArray) (x1_4 x1_5 : LL) (x2_0 : Int) (x2_1 x2_2 : ByteArray) (x2_3 : LL) (x2_4 : ByteArray) (x3 : LL) (m0 : Nat) (v0 : Int) : Option Bool := headK noEq Try.prog (orK L) kp k 15 [.v (.agg [.c (C.row 25 x0_0), .c (C.row 41 x0_1), .c (C.row 3 x0_2), .c (C.int .i64 x0_3), .c (C.int .i64 x0_4), .c (C.int .i64 x0_5), .c (C.row 125 x0_6), .c (C.row 50 x0_7)]), .v (.agg [.c (C.int .i64 x1_0), .c (C.str x1_1), .c (C.str x1_2), .c (C.str x1_3), .c (C.row 50 x1_4), .c (C.row 25 x1_5)]), .v (.agg [.c (C.int .i64 x2_0), .c (C.str x2_1), .c (C.str x2_2), .c (C.row 68 x2_3), .c (C.str x2_4)]), .v (.one (.c (C.row 5 x3)))] [1, 1, 1, 1, 1, 1, 1, 1, 0, 1, 0] [m0] ⟨[(5, .one (.ptr 256 0)), (6, .one (.ptr 257 0)), (14, .one (.c (C.int .i64 v0)))], [(256, .box 50 [.c (C.int .i64 x1_0), .c (C.str x1_1), .c (C.str x1_2), .c (C.str x1_3), .c (C.row 50 x1_4), .c (C.row 25 x1_5)]), (257, .box 30 [.c (C.int .i64 x2_0), .c (C.str x2_1), .c (C.str x2_2), .c (C.row 68 x2_3), .c (C.str x2_4)])], 259, 177⟩ orielref18_Holds_d
noncomputable def oriellaw18_awake_b (L : Lv) (k : Nat) : Option Bool := bodyK noEq Try.prog (orK L) kp k 7 [] oriellaw18_awake_d
noncomputable def orielref18_Find_b (L : Lv) (k : Nat) (x0_0 x0_1 x0_2 : LL) (x0_3 x0_4 x0_5 : Int) (x0_6 x0_7 : LL) (x1_0 : Int) (x1_1 x1_2 : LL) : Option Int := bodyK noEq Try.prog (orK L) kp k 31 [.v (.agg [.c (C.row 25 x0_0), .c (C.row 41 x0_1), .c (C.row 3 x0_2), .c (C.int .i64 x0_3), .c (C.int .i64 x0_4), .c (C.int .i64 x0_5), .c (C.row 125 x0_6), .c (C.row 50 x0_7)]), .v (.agg [.c (C.int .i64 x1_0), .c (C.row 25 x1_1), .c (C.row 50 x1_2)])] orielref18_Find_d
noncomputable def orielref18_Find_l0 (L : Lv) (k : Nat) (x0_0 x0_1 x0_2 : LL) (x0_3 x0_4 x0_5 : Int) (x0_6 x0_7 : LL) (x1_0 : Int) (x1_1 x1_2 : LL) (m0 : Nat) (v0 : Int) : Option Int := headK noEq Try.prog (orK L) kp k 31 [.v (.agg [.c (C.row 25 x0_0), .c (C.row 41 x0_1), .c (C.row 3 x0_2), .c (C.int .i64 x0_3), .c (C.int .i64 x0_4), .c (C.int .i64 x0_5), .c (C.row 125 x0_6), .c (C.row 50 x0_7)]), .v (.agg [.c (C.int .i64 x1_0), .c (C.row 25 x1_1), .c (C.row 50 x1_2)])] [1, 0, 1, 0] [m0] ⟨[(2, .one (.ptr 128 0)), (3, .one (.ptr 129 0)), (5, .one (.c (C.int .i64 v0)))], [(128, .box 43 [.c (C.row 25 x0_0), .c (C.row 41 x0_1), .c (C.row 3 x0_2), .c (C.int .i64 x0_3), .c (C.int .i64 x0_4), .c (C.int .i64 x0_5), .c (C.row 125 x0_6), .c (C.row 50 x0_7)]), (129, .box 25 [.c (C.int .i64 x1_0), .c (C.row 25 x1_1), .c (C.row 50 x1_2)])], 131, 21⟩ orielref18_Find_d
noncomputable def strat_Make_b (L : Lv) (k : Nat) (x0_0 : Int) (x0_1 x0_2 : LL) : Option (LL × LL × LL × Int × Int × Int × LL × LL) := bodyK noEq Try.prog (orK L) kp k 17 [.v (.agg [.c (C.int .i64 x0_0), .c (C.row 25 x0_1), .c (C.row 50 x0_2)])] strat_Make_d
noncomputable def strat_Make_l0 (L : Lv) (k : Nat) (x0_0 : Int) (x0_1 x0_2 : LL) (m0 : Nat) (v1 v6 v7 v8 : Int) (v9 v10 v11 : LL) : Option (LL × LL × LL × Int × Int × Int × LL × LL) := headK noEq Try.prog (orK L) kp k 17 [.v (.agg [.c (C.int .i64 x0_0), .c (C.row 25 x0_1), .c (C.row 50 x0_2)])] [1, 1, 1, 1, 1, 0, 1, 0] [m0] ⟨[(2, .one (.ptr 64 0)), (4, .one (.ptr 65 0)), (5, .one (.c (C.int .i64 0))), (17, .one (.arr 66)), (18, .one (.c (C.int .i64 v1))), (19, .one (.c (C.int .i64 0)))], [(64, .box 43 [.c (C.nil 25), .c (C.nil 41), .c (C.nil 3), .c (C.int .i64 0), .c (C.int .i64 0), .c (C.int .i64 0), .c (C.nil 125), .c (C.nil 50)]), (65, .box 43 [.arr 66, .c (C.nil 41), .c (C.nil 3), .c (C.int .i64 v6), .c (C.int .i64 v7), .c (C.int .i64 v8), .arr 67, .arr 68]), (66, .arr 25 false v9), (67, .arr 125 false v10), (68, .arr 50 false v11)], 70, 43⟩ strat_Make_d
noncomputable def strat_Make_l1 (L : Lv) (k : Nat) (x0_0 : Int) (x0_1 x0_2 : LL) (m0 : Nat) (v0 v1 v2 v6 v7 v8 : Int) (v9 v10 v11 v12 v13 : LL) : Option (LL × LL × LL × Int × Int × Int × LL × LL) := headK noEq Try.prog (orK L) kp k 17 [.v (.agg [.c (C.int .i64 x0_0), .c (C.row 25 x0_1), .c (C.row 50 x0_2)])] [1, 1, 1, 1, 1, 0, 1, 0] [m0] ⟨[(2, .one (.ptr 64 0)), (4, .one (.ptr 65 0)), (5, .one (.c (C.int .i64 v0))), (17, .one (.arr 66)), (18, .one (.c (C.int .i64 v1))), (19, .one (.c (C.int .i64 v2)))], [(64, .box 43 [.c (C.nil 25), .c (C.nil 41), .c (C.nil 3), .c (C.int .i64 0), .c (C.int .i64 0), .c (C.int .i64 0), .c (C.nil 125), .c (C.nil 50)]), (65, .box 43 [.arr 66, .arr 67, .arr 68, .c (C.int .i64 v6), .c (C.int .i64 v7), .c (C.int .i64 v8), .arr 69, .arr 70]), (66, .arr 25 false v9), (67, .arr 41 false v10), (68, .arr 3 false v11), (69, .arr 125 false v12), (70, .arr 50 false v13)], 72, 43⟩ strat_Make_d
noncomputable def orielref12_Same_b (L : Lv) (k : Nat) (x0_0 : Int) (x0_1 x0_2 : LL) (x1_0 : Int) (x1_1 x1_2 : LL) : Option Bool := bodyK noEq Try.prog (orK L) kp k 49 [.v (.agg [.c (C.int .i64 x0_0), .c (C.row 25 x0_1), .c (C.row 50 x0_2)]), .v (.agg [.c (C.int .i64 x1_0), .c (C.row 25 x1_1), .c (C.row 50 x1_2)])] orielref12_Same_d
noncomputable def orielref12_Same_l0 (L : Lv) (k : Nat) (x0_0 : Int) (x0_1 x0_2 : LL) (x1_0 : Int) (x1_1 x1_2 : LL) (m0 : Nat) (v0 : Int) : Option Bool := headK noEq Try.prog (orK L) kp k 49 [.v (.agg [.c (C.int .i64 x0_0), .c (C.row 25 x0_1), .c (C.row 50 x0_2)]), .v (.agg [.c (C.int .i64 x1_0), .c (C.row 25 x1_1), .c (C.row 50 x1_2)])] [1, 1, 0, 1, 0] [m0] ⟨[(2, .one (.ptr 128 0)), (3, .one (.ptr 129 0)), (5, .one (.c (C.int .i64 v0)))], [(128, .box 25 [.c (C.int .i64 x0_0), .c (C.row 25 x0_1), .c (C.row 50 x0_2)]), (129, .box 25 [.c (C.int .i64 x1_0), .c (C.row 25 x1_1), .c (C.row 50 x1_2)])], 131, 68⟩ orielref12_Same_d
noncomputable def orielref12_Same_l1 (L : Lv) (k : Nat) (x0_0 : Int) (x0_1 x0_2 : LL) (x1_0 : Int) (x1_1 x1_2 : LL) (m0 : Nat) (v0 : Int) : Option Bool := headK noEq Try.prog (orK L) kp k 49 [.v (.agg [.c (C.int .i64 x0_0), .c (C.row 25 x0_1), .c (C.row 50 x0_2)]), .v (.agg [.c (C.int .i64 x1_0), .c (C.row 25 x1_1), .c (C.row 50 x1_2)])] [1, 1, 1, 0, 1, 0] [m0] ⟨[(2, .one (.ptr 128 0)), (3, .one (.ptr 129 0)), (6, .one (.c (C.int .i64 v0)))], [(128, .box 25 [.c (C.int .i64 x0_0), .c (C.row 25 x0_1), .c (C.row 50 x0_2)]), (129, .box 25 [.c (C.int .i64 x1_0), .c (C.row 25 x1_1), .c (C.row 50 x1_2)])], 131, 68⟩ orielref12_Same_d
noncomputable def strat_maker_path_b (L : Lv) (k : Nat) (x0 : LL) (x1_0 : Int) (x1_1 x1_2 : LL) : Option LL := bodyK noEq Try.prog (orK L) kp k 34 [.ref 77 [.own 25 x0] 0, .v (.agg [.c (C.int .i64 x1_0), .c (C.row 25 x1_1), .c (C.row 50 x1_2)])] strat_maker_path_d
noncomputable def strat_maker_path_l0 (L : Lv) (k : Nat) (x0 : LL) (x1_0 : Int) (x1_1 x1_2 : LL) (m0 : Nat) (v2 : Int) (v6 : LL) : Option LL := headK noEq Try.prog (orK L) kp k 34 [.ref 77 [.own 25 x0] 0, .v (.agg [.c (C.int .i64 x1_0), .c (C.row 25 x1_1), .c (C.row 50 x1_2)])] [1, 0, 1, 0] [m0] ⟨[(0, .one (.ptr 0 0)), (3, .one (.ptr 129 0)), (9, .one (.c (C.row 25 x1_1))), (10, .one (.c (C.int .i64 (x1_1.length : Int)))), (11, .one (.c (C.int .i64 v2)))], [(0, .box 77 [.arr 130]), (129, .box 25 [.c (C.int .i64 x1_0), .c (C.row 25 x1_1), .c (C.row 50 x1_2)]), (130, .arr 25 false v6)], 132, 30⟩ strat_maker_path_d
noncomputable def strat_maker_path_l1 (L : Lv) (k : Nat) (x0 : LL) (x1_0 : Int) (x1_1 x1_2 : LL) (m0 : Nat) (v2 : Int) (v3 : LL) : Option LL := headK noEq Try.prog (orK L) kp k 34 [.ref 77 [.own 25 x0] 0, .v (.agg [.c (C.int .i64 x1_0), .c (C.row 25 x1_1), .c (C.row 50 x1_2)])] [1, 1, 1, 0] [m0] ⟨[(0, .one (.ptr 0 0)), (20, .one (.c (C.row 50 x1_2))), (21, .one (.c (C.int .i64 (x1_2.length : Int)))), (22, .one (.c (C.int .i64 v2)))], [(0, .box 77 [.arr 129]), (129, .arr 25 false v3)], 131, 30⟩ strat_maker_path_d
noncomputable def orielref12_SameFilter_b (L : Lv) (k : Nat) (x0_0 : Int) (x0_1 x0_2 x0_3 : ByteArray) (x0_4 x0_5 : LL) (x1_0 : Int) (x1_1 x1_2 x1_3 : ByteArray) (x1_4 x1_5 : LL) : Option Bool := bodyK noEq Try.prog (orK L) kp k 69 [.v (.agg [.c (C.int .i64 x0_0), .c (C.str x0_1), .c (C.str x0_2), .c (C.str x0_3), .c (C.row 50 x0_4), .c (C.row 25 x0_5)]), .v (.agg [.c (C.int .i64 x1_0), .c (C.str x1_1), .c (C.str x1_2), .c (C.str x1_3), .c (C.row 50 x1_4), .c (C.row 25 x1_5)])] orielref12_SameFilter_d
noncomputable def orielref12_SameFilter_l0 (L : Lv) (k : Nat) (x0_0 : Int) (x0_1 x0_2 x0_3 : ByteArray) (x0_4 x0_5 : LL) (x1_0 : Int) (x1_1 x1_2 x1_3 : ByteArray) (x1_4 x1_5 : LL) (m0 : Nat) (v0 : Int) : Option Bool := headK noEq Try.prog (orK L) kp k 69 [.v (.agg [.c (C.int .i64 x0_0), .c (C.str x0_1), .c (C.str x0_2), .c (C.str x0_3), .c (C.row 50 x0_4), .c (C.row 25 x0_5)]), .v (.agg [.c (C.int .i64 x1_0), .c (C.str x1_1), .c (C.str x1_2), .c (C.str x1_3), .c (C.row 50 x1_4), .c (C.row 25 x1_5)])] [1, 1, 0, 1, 0] [m0] ⟨[(2, .one (.ptr 128 0)), (3, .one (.ptr 129 0)), (5, .one (.c (C.int .i64 v0)))], [(128, .box 50 [.c (C.int .i64 x0_0), .c (C.str x0_1), .c (C.str x0_2), .c (C.str x0_3), .c (C.row 50 x0_4), .c (C.row 25 x0_5)]), (129, .box 50 [.c (C.int .i64 x1_0), .c (C.str x1_1), .c (C.str x1_2), .c (C.str x1_3), .c (C.row 50 x1_4), .c (C.row 25 x1_5)])], 131, 82⟩ orielref12_SameFilter_d
noncomputable def orielref12_SameFilter_l1 (L : Lv) (k : Nat) (x0_0 : Int) (x0_1 x0_2 x0_3 : ByteArray) (x0_4 x0_5 : LL) (x1_0 : Int) (x1_1 x1_2 x1_3 : ByteArray) (x1_4 x1_5 : LL) (m0 : Nat) (v0 : Int) : Option Bool := headK noEq Try.prog (orK L) kp k 69 [.v (.agg [.c (C.int .i64 x0_0), .c (C.str x0_1), .c (C.str x0_2), .c (C.str x0_3), .c (C.row 50 x0_4), .c (C.row 25 x0_5)]), .v (.agg [.c (C.int .i64 x1_0), .c (C.str x1_1), .c (C.str x1_2), .c (C.str x1_3), .c (C.row 50 x1_4), .c (C.row 25 x1_5)])] [1, 1, 1, 0, 1, 0] [m0] ⟨[(2, .one (.ptr 128 0)), (3, .one (.ptr 129 0)), (6, .one (.c (C.int .i64 v0)))], [(128, .box 50 [.c (C.int .i64 x0_0), .c (C.str x0_1), .c (C.str x0_2), .c (C.str x0_3), .c (C.row 50 x0_4), .c (C.row 25 x0_5)]), (129, .box 50 [.c (C.int .i64 x1_0), .c (C.str x1_1), .c (C.str x1_2), .c (C.str x1_3), .c (C.row 50 x1_4), .c (C.row 25 x1_5)])], 131, 82⟩ orielref12_SameFilter_d
noncomputable def strat_maker_filter_b (L : Lv) (k : Nat) (x0 : LL) (x1_0 : Int) (x1_1 x1_2 x1_3 : ByteArray) (x1_4 x1_5 : LL) : Option LL := bodyK eqLL Try.prog (orK L) kp k 55 [.ref 77 [.own 25 x0] 0, .v (.agg [.c (C.int .i64 x1_0), .c (C.str x1_1), .c (C.str x1_2), .c (C.str x1_3), .c (C.row 50 x1_4), .c (C.row 25 x1_5)])] strat_maker_filter_d
noncomputable def strat_maker_filter_l0 (L : Lv) (k : Nat) (x0 : LL) (x1_0 : Int) (x1_1 x1_2 x1_3 : ByteArray) (x1_4 x1_5 : LL) (m0 : Nat) (v2 : Int) (v9 : LL) : Option LL := headK eqLL Try.prog (orK L) kp k 55 [.ref 77 [.own 25 x0] 0, .v (.agg [.c (C.int .i64 x1_0), .c (C.str x1_1), .c (C.str x1_2), .c (C.str x1_3), .c (C.row 50 x1_4), .c (C.row 25 x1_5)])] [1, 0, 1, 0] [m0] ⟨[(0, .one (.ptr 0 0)), (3, .one (.ptr 129 0)), (9, .one (.c (C.row 50 x1_4))), (10, .one (.c (C.int .i64 (x1_4.length : Int)))), (11, .one (.c (C.int .i64 v2)))], [(0, .box 77 [.arr 130]), (129, .box 50 [.c (C.int .i64 x1_0), .c (C.str x1_1), .c (C.str x1_2), .c (C.str x1_3), .c (C.row 50 x1_4), .c (C.row 25 x1_5)]), (130, .arr 25 false v9)], 132, 60⟩ strat_maker_filter_d
noncomputable def strat_maker_filter_l1 (L : Lv) (k : Nat) (x0 : LL) (x1_0 : Int) (x1_1 x1_2 x1_3 : ByteArray) (x1_4 x1_5 : LL) (m0 : Nat) (v2 : Int) (v3 : LL) : Option LL := headK eqLL Try.prog (orK L) kp k 55 [.ref 77 [.own 25 x0] 0, .v (.agg [.c (C.int .i64 x1_0), .c (C.str x1_1), .c (C.str x1_2), .c (C.str x1_3), .c (C.row 50 x1_4), .c (C.row 25 x1_5)])] [1, 1, 1, 0] [m0] ⟨[(0, .one (.ptr 0 0)), (20, .one (.c (C.row 25 x1_5))), (21, .one (.c (C.int .i64 (x1_5.length : Int)))), (22, .one (.c (C.int .i64 v2)))], [(0, .box 77 [.arr 129]), (129, .arr 25 false v3)], 131, 60⟩ strat_maker_filter_d
noncomputable def api_Path_b (L : Lv) (k : Nat) (x0 : LL) (x1_0 : Int) (x1_1 x1_2 : LL) : Option Bool := bodyK noEq Try.prog (orK L) kp k 53 [.v (.one (.c (C.row 25 x0))), .fnr 71 false 25 [C.int .i64 x1_0, C.row 25 x1_1, C.row 50 x1_2] 0] api_Path_d
noncomputable def api_Path_2_b (L : Lv) (k : Nat) (x0 : LL) (x1_0 : Int) (x1_1 x1_2 : LL) : Option Int := bodyK noEq Try.prog (orK L) kp k 36 [.v (.one (.c (C.row 25 x0))), .fnr 71 false 25 [C.int .i64 x1_0, C.row 25 x1_1, C.row 50 x1_2] 0] api_Path_2_d
noncomputable def api_Path_2_l0 (L : Lv) (k : Nat) (x0 : LL) (x1_0 : Int) (x1_1 x1_2 : LL) (m0 : Nat) (v3 : Int) : Option Int := headK noEq Try.prog (orK L) kp k 36 [.v (.one (.c (C.row 25 x0))), .fnr 71 false 25 [C.int .i64 x1_0, C.row 25 x1_1, C.row 50 x1_2] 0] [1, 0, 1, 0] [m0] ⟨[(0, .one (.c (C.row 25 x0))), (1, .fnr 71 false 25 [C.int .i64 x1_0, C.row 25 x1_1, C.row 50 x1_2] 0), (7, .one (.c (C.int .i64 (x0.length : Int)))), (8, .one (.c (C.int .i64 v3)))], [], 129, 19⟩ api_Path_2_d
noncomputable def strat_maker_filter_1_b (L : Lv) (k : Nat) (x0_0 : Int) (x0_1 x0_2 : LL) (x1_0 : Int) (x1_1 x1_2 : LL) : Option Bool := bodyK noEq Try.prog (orK L) kp k 71 [.v (.agg [.c (C.int .i64 x0_0), .c (C.row 25 x0_1), .c (C.row 50 x0_2)]), .rop 25 [C.int .i64 x1_0, C.row 25 x1_1, C.row 50 x1_2] 0] strat_maker_filter_1_d
noncomputable def path_Same_b (L : Lv) (k : Nat) (x0_0 : Int) (x0_1 x0_2 : LL) (x1_0 : Int) (x1_1 x1_2 : LL) : Option Bool := bodyK noEq Try.prog (orK L) kp k 38 [.v (.agg [.c (C.int .i64 x0_0), .c (C.row 25 x0_1), .c (C.row 50 x0_2)]), .v (.agg [.c (C.int .i64 x1_0), .c (C.row 25 x1_1), .c (C.row 50 x1_2)])] path_Same_d
noncomputable def api_Path_3_b (L : Lv) (k : Nat) (x0 x1 : LL) : Option Bool := bodyK noEq Try.prog (orK L) kp k 57 [.v (.one (.c (C.row 25 x0))), .v (.one (.c (C.row 25 x1))), .fn 38] api_Path_3_d
noncomputable def api_Path_3_l0 (L : Lv) (k : Nat) (x0 x1 : LL) (m0 : Nat) (v3 : Int) : Option Bool := headK noEq Try.prog (orK L) kp k 57 [.v (.one (.c (C.row 25 x0))), .v (.one (.c (C.row 25 x1))), .fn 38] [1, 1, 0, 1, 0] [m0] ⟨[(1, .one (.c (C.row 25 x1))), (2, .fn 38), (15, .one (.c (C.row 25 x0))), (16, .one (.c (C.int .i64 (x0.length : Int)))), (17, .one (.c (C.int .i64 v3)))], [], 193, 32⟩ api_Path_3_d
noncomputable def prog_Compile_b (L : Lv) (k : Nat) (x0_0 : Int) (x0_1 x0_2 : LL) : Option (Int × Int × Int × LL × LL) := bodyK noEq Try.prog (orK L) kp k 35 [.v (.agg [.c (C.int .i64 x0_0), .c (C.row 25 x0_1), .c (C.row 50 x0_2)])] prog_Compile_d
noncomputable def api_Filter_b (L : Lv) (k : Nat) (x0 x1 : LL) : Option Bool := bodyK noEq Try.prog (orK L) kp k 58 [.v (.one (.c (C.row 50 x0))), .v (.one (.c (C.row 50 x1))), .fn 59] api_Filter_d
noncomputable def api_Filter_l0 (L : Lv) (k : Nat) (x0 x1 : LL) (m0 : Nat) (v3 : Int) : Option Bool := headK noEq Try.prog (orK L) kp k 58 [.v (.one (.c (C.row 50 x0))), .v (.one (.c (C.row 50 x1))), .fn 59] [1, 1, 0, 1, 0] [m0] ⟨[(1, .one (.c (C.row 50 x1))), (2, .fn 59), (15, .one (.c (C.row 50 x0))), (16, .one (.c (C.int .i64 (x0.length : Int)))), (17, .one (.c (C.int .i64 v3)))], [], 193, 32⟩ api_Filter_d
noncomputable def prog_maker_path_b (L : Lv) (k : Nat) (x0_0 x0_1 x0_2 : Int) (x0_3 x0_4 : LL) (x1_0 : Int) (x1_1 x1_2 : LL) : Option (Int × Int × Int × Int × Int × LL × LL) := bodyK noEq Try.prog (orK L) kp k 56 [.ref 101 [.d (C.int .i64 x0_0), .d (C.int .i64 x0_1), .d (C.int .i64 x0_2), .own 125 x0_3, .own 50 x0_4] 0, .v (.agg [.c (C.int .i64 x1_0), .c (C.row 25 x1_1), .c (C.row 50 x1_2)])] prog_maker_path_d
noncomputable def path_sameFilter_b (L : Lv) (k : Nat) (x0_0 : Int) (x0_1 x0_2 x0_3 : ByteArray) (x0_4 x0_5 : LL) (x1_0 : Int) (x1_1 x1_2 x1_3 : ByteArray) (x1_4 x1_5 : LL) : Option Bool := bodyK noEq Try.prog (orK L) kp k 59 [.v (.agg [.c (C.int .i64 x0_0), .c (C.str x0_1), .c (C.str x0_2), .c (C.str x0_3), .c (C.row 50 x0_4), .c (C.row 25 x0_5)]), .v (.agg [.c (C.int .i64 x1_0), .c (C.str x1_1), .c (C.str x1_2), .c (C.str x1_3), .c (C.row 50 x1_4), .c (C.row 25 x1_5)])] path_sameFilter_d
noncomputable def prog_maker_step_b (L : Lv) (k : Nat) (x0_0 x0_1 x0_2 : Int) (x0_3 x0_4 : LL) (x1 x2 : Int) : Option (Int × Int × Int × Int × Int × LL × LL) := bodyK noEq Try.prog (orK L) kp k 72 [.ref 101 [.d (C.int .i64 x0_0), .d (C.int .i64 x0_1), .d (C.int .i64 x0_2), .own 125 x0_3, .own 50 x0_4] 0, .v (.one (.c (C.int .i64 x1))), .v (.one (.c (C.int .i64 x2)))] prog_maker_step_d
noncomputable def prog_maker_seq_b (L : Lv) (k : Nat) (x0_0 x0_1 x0_2 : Int) (x0_3 x0_4 x1 : LL) : Option (Int × Int × Int × Int × Int × LL × LL) := bodyK noEq Try.prog (orK L) kp k 73 [.ref 101 [.d (C.int .i64 x0_0), .d (C.int .i64 x0_1), .d (C.int .i64 x0_2), .own 125 x0_3, .own 50 x0_4] 0, .v (.one (.c (C.row 25 x1)))] prog_maker_seq_d
noncomputable def prog_maker_seq_l0 (L : Lv) (k : Nat) (x0_0 x0_1 x0_2 : Int) (x0_3 x0_4 x1 : LL) (m0 : Nat) (v0 v1 v4 v5 v6 v7 : Int) (v8 v9 : LL) : Option (Int × Int × Int × Int × Int × LL × LL) := headK noEq Try.prog (orK L) kp k 73 [.ref 101 [.d (C.int .i64 x0_0), .d (C.int .i64 x0_1), .d (C.int .i64 x0_2), .own 125 x0_3, .own 50 x0_4] 0, .v (.one (.c (C.row 25 x1)))] [1, 1, 0, 1, 0] [m0] ⟨[(0, .one (.ptr 0 0)), (6, .one (.c (C.int .i64 v0))), (7, .one (.c (C.int .i64 v1))), (21, .one (.c (C.row 25 ((x1.take ((x1.length : Int).toNat)).drop 1)))), (22, .one (.c (C.int .i64 (((x1.take ((x1.length : Int).toNat)).drop 1).length : Int)))), (23, .one (.c (C.int .i64 v4)))], [(0, .box 101 [.c (C.int .i64 v5), .c (C.int .i64 v6), .c (C.int .i64 v7), .arr 129, .arr 130]), (129, .arr 125 false v8), (130, .arr 50 false v9)], 132, 41⟩ prog_maker_seq_d
noncomputable def prog_maker_alt_b (L : Lv) (k : Nat) (x0_0 x0_1 x0_2 : Int) (x0_3 x0_4 x1 : LL) : Option (Int × Int × Int × Int × Int × LL × LL) := bodyK noEq Try.prog (orK L) kp k 74 [.ref 101 [.d (C.int .i64 x0_0), .d (C.int .i64 x0_1), .d (C.int .i64 x0_2), .own 125 x0_3, .own 50 x0_4] 0, .v (.one (.c (C.row 25 x1)))] prog_maker_alt_d
noncomputable def prog_maker_alt_l0 (L : Lv) (k : Nat) (x0_0 x0_1 x0_2 : Int) (x0_3 x0_4 x1 : LL) (m0 : Nat) (v0 v4 v5 v6 : Int) (v7 v8 : LL) : Option (Int × Int × Int × Int × Int × LL × LL) := headK noEq Try.prog (orK L) kp k 74 [.ref 101 [.d (C.int .i64 x0_0), .d (C.int .i64 x0_1), .d (C.int .i64 x0_2), .own 125 x0_3, .own 50 x0_4] 0, .v (.one (.c (C.row 25 x1)))] [1, 1, 1, 0, 1, 0] [m0] ⟨[(0, .one (.ptr 0 0)), (6, .one (.c (C.int .i64 v0))), (7, .one (.c (C.nil 3))), (17, .one (.c (C.row 25 x1))), (18, .one (.c (C.int .i64 (x1.length : Int)))), (19, .one (.c (C.int .i64 0)))], [(0, .box 101 [.c (C.int .i64 v4), .c (C.int .i64 v5), .c (C.int .i64 v6), .arr 129, .arr 130]), (129, .arr 125 false v7), (130, .arr 50 false v8)], 132, 53⟩ prog_maker_alt_d
noncomputable def prog_maker_alt_l1 (L : Lv) (k : Nat) (x0_0 x0_1 x0_2 : Int) (x0_3 x0_4 x1 : LL) (m0 : Nat) (v0 v1 v4 v5 v6 : Int) (v7 v8 : LL) : Option (Int × Int × Int × Int × Int × LL × LL) := headK noEq Try.prog (orK L) kp k 74 [.ref 101 [.d (C.int .i64 x0_0), .d (C.int .i64 x0_1), .d (C.int .i64 x0_2), .own 125 x0_3, .own 50 x0_4] 0, .v (.one (.c (C.row 25 x1)))] [1, 1, 1, 1, 1, 0, 1, 0] [m0] ⟨[(0, .one (.ptr 0 0)), (6, .one (.c (C.int .i64 v0))), (12, .one (.c (C.int .i64 v1))), (40, .one (.c (C.nil 3))), (41, .one (.c (C.int .i64 0))), (42, .one (.c (C.int .i64 0)))], [(0, .box 101 [.c (C.int .i64 v4), .c (C.int .i64 v5), .c (C.int .i64 v6), .arr 129, .arr 130]), (129, .arr 125 false v7), (130, .arr 50 false v8)], 132, 53⟩ prog_maker_alt_d
noncomputable def prog_maker_alt_l2 (L : Lv) (k : Nat) (x0_0 x0_1 x0_2 : Int) (x0_3 x0_4 x1 : LL) (m0 : Nat) (v0 v3 v4 v5 v6 : Int) (v7 v8 v9 : LL) : Option (Int × Int × Int × Int × Int × LL × LL) := headK noEq Try.prog (orK L) kp k 74 [.ref 101 [.d (C.int .i64 x0_0), .d (C.int .i64 x0_1), .d (C.int .i64 x0_2), .own 125 x0_3, .own 50 x0_4] 0, .v (.one (.c (C.row 25 x1)))] [1, 1, 1, 0, 1, 0] [m0] ⟨[(0, .one (.ptr 0 0)), (6, .one (.c (C.int .i64 v0))), (7, .one (.arr 129)), (17, .one (.c (C.row 25 x1))), (18, .one (.c (C.int .i64 (x1.length : Int)))), (19, .one (.c (C.int .i64 v3)))], [(0, .box 101 [.c (C.int .i64 v4), .c (C.int .i64 v5), .c (C.int .i64 v6), .arr 130, .arr 131]), (129, .arr 3 false v7), (130, .arr 125 false v8), (131, .arr 50 false v9)], 133, 53⟩ prog_maker_alt_d
noncomputable def prog_maker_alt_l3 (L : Lv) (k : Nat) (x0_0 x0_1 x0_2 : Int) (x0_3 x0_4 x1 : LL) (m0 : Nat) (v0 v1 v2 v3 v4 v5 v6 : Int) (v7 v8 v9 : LL) : Option (Int × Int × Int × Int × Int × LL × LL) := headK noEq Try.prog (orK L) kp k 74 [.ref 101 [.d (C.int .i64 x0_0), .d (C.int .i64 x0_1), .d (C.int .i64 x0_2), .own 125 x0_3, .own 50 x0_4] 0, .v (.one (.c (C.row 25 x1)))] [1, 1, 1, 1, 1, 0, 1, 0] [m0] ⟨[(0, .one (.ptr 0 0)), (6, .one (.c (C.int .i64 v0))), (12, .one (.c (C.int .i64 v1))), (40, .one (.arr 129)), (41, .one (.c (C.int .i64 v2))), (42, .one (.c (C.int .i64 v3)))], [(0, .box 101 [.c (C.int .i64 v4), .c (C.int .i64 v5), .c (C.int .i64 v6), .arr 130, .arr 131]), (129, .arr 3 false v7), (130, .arr 125 false v8), (131, .arr 50 false v9)], 133, 53⟩ prog_maker_alt_d
noncomputable def prog_maker_state_b (L : Lv) (k : Nat) (x0_0 x0_1 x0_2 : Int) (x0_3 x0_4 : LL) : Option (Int × Int × Int × Int × LL × LL) := bodyK noEq Try.prog (orK L) kp k 75 [.ref 101 [.d (C.int .i64 x0_0), .d (C.int .i64 x0_1), .d (C.int .i64 x0_2), .own 125 x0_3, .own 50 x0_4] 0] prog_maker_state_d
noncomputable def prog_maker_lay_b (L : Lv) (k : Nat) (x0_0 x0_1 x0_2 : Int) (x0_3 x0_4 x1 : LL) : Option (Int × Int × Int × LL × LL) := bodyK noEq Try.prog (orK L) kp k 84 [.ref 101 [.d (C.int .i64 x0_0), .d (C.int .i64 x0_1), .d (C.int .i64 x0_2), .own 125 x0_3, .own 50 x0_4] 0, .v (.one (.c (C.row 125 x1)))] prog_maker_lay_d
noncomputable def prog_maker_free_b (L : Lv) (k : Nat) (x0_0 x0_1 x0_2 : Int) (x0_3 x0_4 : LL) (x1 x2 : Int) : Option (Int × Int × Int × LL × LL) := bodyK noEq Try.prog (orK L) kp k 76 [.ref 101 [.d (C.int .i64 x0_0), .d (C.int .i64 x0_1), .d (C.int .i64 x0_2), .own 125 x0_3, .own 50 x0_4] 0, .v (.one (.c (C.int .i64 x1))), .v (.one (.c (C.int .i64 x2)))] prog_maker_free_d
noncomputable def strat_Items_b (L : Lv) (k : Nat) (x0_0 x0_1 x0_2 : LL) (x0_3 x0_4 x0_5 : Int) (x0_6 x0_7 : LL) : Option Int := bodyK noEq Try.prog (orK L) kp k 20 [.v (.agg [.c (C.row 25 x0_0), .c (C.row 41 x0_1), .c (C.row 3 x0_2), .c (C.int .i64 x0_3), .c (C.int .i64 x0_4), .c (C.int .i64 x0_5), .c (C.row 125 x0_6), .c (C.row 50 x0_7)])] strat_Items_d
noncomputable def strat_Items_l0 (L : Lv) (k : Nat) (x0_0 x0_1 x0_2 : LL) (x0_3 x0_4 x0_5 : Int) (x0_6 x0_7 : LL) (m0 : Nat) (v0 v3 : Int) : Option Int := headK noEq Try.prog (orK L) kp k 20 [.v (.agg [.c (C.row 25 x0_0), .c (C.row 41 x0_1), .c (C.row 3 x0_2), .c (C.int .i64 x0_3), .c (C.int .i64 x0_4), .c (C.int .i64 x0_5), .c (C.row 125 x0_6), .c (C.row 50 x0_7)])] [1, 1, 0, 1, 0] [m0] ⟨[(3, .one (.c (C.int .i64 v0))), (7, .one (.c (C.row 41 x0_1))), (8, .one (.c (C.int .i64 (x0_1.length : Int)))), (9, .one (.c (C.int .i64 v3)))], [], 65, 19⟩ strat_Items_d
noncomputable def orielref12_Right_b (L : Lv) (k : Nat) (x0_0 : Int) (x0_1 x0_2 : LL) : Option Bool := bodyK noEq Try.prog (orK L) kp k 8 [.v (.agg [.c (C.int .i64 x0_0), .c (C.row 25 x0_1), .c (C.row 50 x0_2)])] orielref12_Right_d
noncomputable def strat_Find_b (L : Lv) (k : Nat) (x0_0 x0_1 x0_2 : LL) (x0_3 x0_4 x0_5 : Int) (x0_6 x0_7 : LL) (x1_0 : Int) (x1_1 x1_2 : LL) : Option Int := bodyK noEq Try.prog (orK L) kp k 18 [.v (.agg [.c (C.row 25 x0_0), .c (C.row 41 x0_1), .c (C.row 3 x0_2), .c (C.int .i64 x0_3), .c (C.int .i64 x0_4), .c (C.int .i64 x0_5), .c (C.row 125 x0_6), .c (C.row 50 x0_7)]), .v (.agg [.c (C.int .i64 x1_0), .c (C.row 25 x1_1), .c (C.row 50 x1_2)])] strat_Find_d
noncomputable def orielref12_Size_b (L : Lv) (k : Nat) (x0_0 : Int) (x0_1 x0_2 : LL) : Option Int := bodyK noEq Try.prog (orK L) kp k 26 [.v (.agg [.c (C.int .i64 x0_0), .c (C.row 25 x0_1), .c (C.row 50 x0_2)])] orielref12_Size_d
noncomputable def api_Path_4_b (L : Lv) (k : Nat) (x0 : LL) (x1_0 : Int) (x1_1 x1_2 : LL) : Option Int := bodyK noEq Try.prog (orK L) kp k 36 [.v (.one (.c (C.row 25 x0))), .fnr 37 false 25 [C.int .i64 x1_0, C.row 25 x1_1, C.row 50 x1_2] 0] api_Path_4_d
noncomputable def api_Path_4_l0 (L : Lv) (k : Nat) (x0 : LL) (x1_0 : Int) (x1_1 x1_2 : LL) (m0 : Nat) (v3 : Int) : Option Int := headK noEq Try.prog (orK L) kp k 36 [.v (.one (.c (C.row 25 x0))), .fnr 37 false 25 [C.int .i64 x1_0, C.row 25 x1_1, C.row 50 x1_2] 0] [1, 0, 1, 0] [m0] ⟨[(0, .one (.c (C.row 25 x0))), (1, .fnr 37 false 25 [C.int .i64 x1_0, C.row 25 x1_1, C.row 50 x1_2] 0), (7, .one (.c (C.int .i64 (x0.length : Int)))), (8, .one (.c (C.int .i64 v3)))], [], 129, 19⟩ api_Path_4_d
noncomputable def orielref12_size_b (L : Lv) (k : Nat) (x0_0 : Int) (x0_1 x0_2 : LL) (x1 : Int) : Option Int := bodyK noEq Try.prog (orK L) kp k 43 [.v (.agg [.c (C.int .i64 x0_0), .c (C.row 25 x0_1), .c (C.row 50 x0_2)]), .v (.one (.c (C.int .i64 x1)))] orielref12_size_d
noncomputable def orielref12_size_l0 (L : Lv) (k : Nat) (x0_0 : Int) (x0_1 x0_2 : LL) (x1 : Int) (m0 : Nat) (v1 v2 : Int) : Option Int := headK noEq Try.prog (orK L) kp k 43 [.v (.agg [.c (C.int .i64 x0_0), .c (C.row 25 x0_1), .c (C.row 50 x0_2)]), .v (.one (.c (C.int .i64 x1)))] [1, 1, 0, 1, 0] [m0] ⟨[(1, .one (.c (C.int .i64 x1))), (2, .one (.ptr 128 0)), (5, .one (.c (C.int .i64 v1))), (6, .one (.c (C.int .i64 v2)))], [(128, .box 25 [.c (C.int .i64 x0_0), .c (C.row 25 x0_1), .c (C.row 50 x0_2)])], 130, 55⟩ orielref12_size_d
noncomputable def orielref12_size_l1 (L : Lv) (k : Nat) (x0_0 : Int) (x0_1 x0_2 : LL) (x1 : Int) (m0 : Nat) (v1 v2 : Int) : Option Int := headK noEq Try.prog (orK L) kp k 43 [.v (.agg [.c (C.int .i64 x0_0), .c (C.row 25 x0_1), .c (C.row 50 x0_2)]), .v (.one (.c (C.int .i64 x1)))] [1, 1, 1, 0, 1, 0] [m0] ⟨[(1, .one (.c (C.int .i64 x1))), (2, .one (.ptr 128 0)), (5, .one (.c (C.int .i64 v1))), (7, .one (.c (C.int .i64 v2)))], [(128, .box 25 [.c (C.int .i64 x0_0), .c (C.row 25 x0_1), .c (C.row 50 x0_2)])], 130, 55⟩ orielref12_size_d
noncomputable def strat_Find_1_b (L : Lv) (k : Nat) (x0_0 : Int) (x0_1 x0_2 : LL) (x1_0 : Int) (x1_1 x1_2 : LL) : Option Bool := bodyK noEq Try.prog (orK L) kp k 37 [.v (.agg [.c (C.int .i64 x0_0), .c (C.row 25 x0_1), .c (C.row 50 x0_2)]), .rop 25 [C.int .i64 x1_0, C.row 25 x1_1, C.row 50 x1_2] 0] strat_Find_1_d
noncomputable def orielref12_sizeFilter_b (L : Lv) (k : Nat) (x0_0 : Int) (x0_1 x0_2 x0_3 : ByteArray) (x0_4 x0_5 : LL) (x1 : Int) : Option Int := bodyK noEq Try.prog (orK L) kp k 62 [.v (.agg [.c (C.int .i64 x0_0), .c (C.str x0_1), .c (C.str x0_2), .c (C.str x0_3), .c (C.row 50 x0_4), .c (C.row 25 x0_5)]), .v (.one (.c (C.int .i64 x1)))] orielref12_sizeFilter_d
noncomputable def orielref12_sizeFilter_l0 (L : Lv) (k : Nat) (x0_0 : Int) (x0_1 x0_2 x0_3 : ByteArray) (x0_4 x0_5 : LL) (x1 : Int) (m0 : Nat) (v1 v2 : Int) : Option Int := headK noEq Try.prog (orK L) kp k 62 [.v (.agg [.c (C.int .i64 x0_0), .c (C.str x0_1), .c (C.str x0_2), .c (C.str x0_3), .c (C.row 50 x0_4), .c (C.row 25 x0_5)]), .v (.one (.c (C.int .i64 x1)))] [1, 1, 0, 1, 0] [m0] ⟨[(1, .one (.c (C.int .i64 x1))), (2, .one (.ptr 128 0)), (5, .one (.c (C.int .i64 v1))), (6, .one (.c (C.int .i64 v2)))], [(128, .box 50 [.c (C.int .i64 x0_0), .c (C.str x0_1), .c (C.str x0_2), .c (C.str x0_3), .c (C.row 50 x0_4), .c (C.row 25 x0_5)])], 130, 55⟩ orielref12_sizeFilter_d
noncomputable def orielref12_sizeFilter_l1 (L : Lv) (k : Nat) (x0_0 : Int) (x0_1 x0_2 x0_3 : ByteArray) (x0_4 x0_5 : LL) (x1 : Int) (m0 : Nat) (v1 v2 : Int) : Option Int := headK noEq Try.prog (orK L) kp k 62 [.v (.agg [.c (C.int .i64 x0_0), .c (C.str x0_1), .c (C.str x0_2), .c (C.str x0_3), .c (C.row 50 x0_4), .c (C.row 25 x0_5)]), .v (.one (.c (C.int .i64 x1)))] [1, 1, 1, 0, 1, 0] [m0] ⟨[(1, .one (.c (C.int .i64 x1))), (2, .one (.ptr 128 0)), (5, .one (.c (C.int .i64 v1))), (7, .one (.c (C.int .i64 v2)))], [(128, .box 50 [.c (C.int .i64 x0_0), .c (C.str x0_1), .c (C.str x0_2), .c (C.str x0_3), .c (C.row 50 x0_4), .c (C.row 25 x0_5)])], 130, 55⟩ orielref12_sizeFilter_d
noncomputable def strat_Holds_b (L : Lv) (k : Nat) (x0_0 x0_1 x0_2 : LL) (x0_3 x0_4 x0_5 : Int) (x0_6 x0_7 : LL) (x1_0 : Int) (x1_1 x1_2 x1_3 : ByteArray) (x1_4 x1_5 : LL) (x2_0 : Int) (x2_1 x2_2 : ByteArray) (x2_3 : LL) (x2_4 : ByteArray) (x3 : LL) : Option Bool := bodyK noEq Try.prog (orK L) kp k 14 [.v (.agg [.c (C.row 25 x0_0), .c (C.row 41 x0_1), .c (C.row 3 x0_2), .c (C.int .i64 x0_3), .c (C.int .i64 x0_4), .c (C.int .i64 x0_5), .c (C.row 125 x0_6), .c (C.row 50 x0_7)]), .v (.agg [.c (C.int .i64 x1_0), .c (C.str x1_1), .c (C.str x1_2), .c (C.str x1_3), .c (C.row 50 x1_4), .c (C.row 25 x1_5)]), .v (.agg [.c (C.int .i64 x2_0), .c (C.str x2_1), .c (C.str x2_2), .c (C.row 68 x2_3), .c (C.str x2_4)]), .v (.one (.c (C.row 5 x3)))] strat_Holds_d
noncomputable def orielref12_path_b (L : Lv) (k : Nat) (x0_0 : Int) (x0_1 x0_2 : LL) (x1 : Int) : Option Bool := bodyK noEq Try.prog (orK L) kp k 27 [.v (.agg [.c (C.int .i64 x0_0), .c (C.row 25 x0_1), .c (C.row 50 x0_2)]), .v (.one (.c (C.int .i64 x1)))] orielref12_path_d
noncomputable def orielref12_path_l0 (L : Lv) (k : Nat) (x0_0 : Int) (x0_1 x0_2 : LL) (x1 v1 v2 : Int) : Option Bool := headK noEq Try.prog (orK L) kp k 27 [.v (.agg [.c (C.int .i64 x0_0), .c (C.row 25 x0_1), .c (C.row 50 x0_2)]), .v (.one (.c (C.int .i64 x1)))] [1, 1, 1, 1, 1, 1, 0, 0] [] ⟨[(1, .one (.c (C.int .i64 x1))), (2, .one (.ptr 128 0)), (5, .one (.c (C.int .i64 v1))), (6, .one (.c (C.int .i64 v2)))], [(128, .box 25 [.c (C.int .i64 x0_0), .c (C.row 25 x0_1), .c (C.row 50 x0_2)])], 130, 88⟩ orielref12_path_d
noncomputable def orielref12_path_l1 (L : Lv) (k : Nat) (x0_0 : Int) (x0_1 x0_2 : LL) (x1 : Int) (m0 : Nat) (v1 : Int) : Option Bool := headK noEq Try.prog (orK L) kp k 27 [.v (.agg [.c (C.int .i64 x0_0), .c (C.row 25 x0_1), .c (C.row 50 x0_2)]), .v (.one (.c (C.int .i64 x1)))] [1, 1, 1, 1, 1, 1, 1, 0, 1, 0] [m0] ⟨[(1, .one (.c (C.int .i64 x1))), (2, .one (.ptr 128 0)), (7, .one (.c (C.int .i64 v1)))], [(128, .box 25 [.c (C.int .i64 x0_0), .c (C.row 25 x0_1), .c (C.row 50 x0_2)])], 130, 88⟩ orielref12_path_d
noncomputable def strat_node_holds_b (L : Lv) (k : Nat) (x0_0 x0_1 x0_2 : LL) (x0_3 x0_4 x0_5 : Int) (x0_6 x0_7 : LL) (x0_8 : Int) (x0_9 x0_10 : ByteArray) (x0_11 : LL) (x0_12 : ByteArray) (x0_13 : LL) (x1_0 : Int) (x1_1 x1_2 x1_3 : ByteArray) (x1_4 x1_5 : LL) : Option (Bool × LL × LL × LL × Int × Int × Int × LL × LL × Int × ByteArray × ByteArray × LL × ByteArray × LL) := bodyK noEq Try.prog (orK L) kp k 33 [.ref 74 [.d (C.row 25 x0_0), .d (C.row 41 x0_1), .d (C.row 3 x0_2), .d (C.int .i64 x0_3), .d (C.int .i64 x0_4), .d (C.int .i64 x0_5), .d (C.row 125 x0_6), .d (C.row 50 x0_7), .d (C.int .i64 x0_8), .d (C.str x0_9), .d (C.str x0_10), .d (C.row 68 x0_11), .d (C.str x0_12), .d (C.row 5 x0_13)] 0, .v (.agg [.c (C.int .i64 x1_0), .c (C.str x1_1), .c (C.str x1_2), .c (C.str x1_3), .c (C.row 50 x1_4), .c (C.row 25 x1_5)])] strat_node_holds_d
noncomputable def orielref12_filter_b (L : Lv) (k : Nat) (x0_0 : Int) (x0_1 x0_2 x0_3 : ByteArray) (x0_4 x0_5 : LL) (x1 : Int) : Option Bool := bodyK noEq Try.prog (orK L) kp k 44 [.v (.agg [.c (C.int .i64 x0_0), .c (C.str x0_1), .c (C.str x0_2), .c (C.str x0_3), .c (C.row 50 x0_4), .c (C.row 25 x0_5)]), .v (.one (.c (C.int .i64 x1)))] orielref12_filter_d
noncomputable def orielref12_filter_l0 (L : Lv) (k : Nat) (x0_0 : Int) (x0_1 x0_2 x0_3 : ByteArray) (x0_4 x0_5 : LL) (x1 : Int) (v1 v2 : Bool) : Option Bool := headK noEq Try.prog (orK L) kp k 44 [.v (.agg [.c (C.int .i64 x0_0), .c (C.str x0_1), .c (C.str x0_2), .c (C.str x0_3), .c (C.row 50 x0_4), .c (C.row 25 x0_5)]), .v (.one (.c (C.int .i64 x1)))] [1, 1, 1, 1, 0, 0] [] ⟨[(1, .one (.c (C.int .i64 x1))), (2, .one (.ptr 128 0)), (5, .one (.c (C.bool v1))), (6, .one (.c (C.bool v2)))], [(128, .box 50 [.c (C.int .i64 x0_0), .c (C.str x0_1), .c (C.str x0_2), .c (C.str x0_3), .c (C.row 50 x0_4), .c (C.row 25 x0_5)])], 130, 144⟩ orielref12_filter_d
noncomputable def orielref12_filter_l1 (L : Lv) (k : Nat) (x0_0 : Int) (x0_1 x0_2 x0_3 : ByteArray) (x0_4 x0_5 : LL) (x1 : Int) (v1 : Bool) : Option Bool := headK noEq Try.prog (orK L) kp k 44 [.v (.agg [.c (C.int .i64 x0_0), .c (C.str x0_1), .c (C.str x0_2), .c (C.str x0_3), .c (C.row 50 x0_4), .c (C.row 25 x0_5)]), .v (.one (.c (C.int .i64 x1)))] [1, 1, 1, 1, 1, 0, 0] [] ⟨[(1, .one (.c (C.int .i64 x1))), (2, .one (.ptr 128 0)), (6, .one (.c (C.bool v1)))], [(128, .box 50 [.c (C.int .i64 x0_0), .c (C.str x0_1), .c (C.str x0_2), .c (C.str x0_3), .c (C.row 50 x0_4), .c (C.row 25 x0_5)])], 130, 144⟩ orielref12_filter_d
noncomputable def orielref12_filter_l2 (L : Lv) (k : Nat) (x0_0 : Int) (x0_1 x0_2 x0_3 : ByteArray) (x0_4 x0_5 : LL) (x1 v1 v2 : Int) : Option Bool := headK noEq Try.prog (orK L) kp k 44 [.v (.agg [.c (C.int .i64 x0_0), .c (C.str x0_1), .c (C.str x0_2), .c (C.str x0_3), .c (C.row 50 x0_4), .c (C.row 25 x0_5)]), .v (.one (.c (C.int .i64 x1)))] [1, 1, 1, 1, 1, 1, 1, 1, 1, 0, 0] [] ⟨[(1, .one (.c (C.int .i64 x1))), (2, .one (.ptr 128 0)), (7, .one (.c (C.int .i64 v1))), (8, .one (.c (C.int .i64 v2)))], [(128, .box 50 [.c (C.int .i64 x0_0), .c (C.str x0_1), .c (C.str x0_2), .c (C.str x0_3), .c (C.row 50 x0_4), .c (C.row 25 x0_5)])], 130, 144⟩ orielref12_filter_d
noncomputable def orielref12_filter_l3 (L : Lv) (k : Nat) (x0_0 : Int) (x0_1 x0_2 x0_3 : ByteArray) (x0_4 x0_5 : LL) (x1 v1 v2 : Int) : Option Bool := headK noEq Try.prog (orK L) kp k 44 [.v (.agg [.c (C.int .i64 x0_0), .c (C.str x0_1), .c (C.str x0_2), .c (C.str x0_3), .c (C.row 50 x0_4), .c (C.row 25 x0_5)]), .v (.one (.c (C.int .i64 x1)))] [1, 1, 1, 1, 1, 1, 1, 1, 1, 1, 0, 0] [] ⟨[(1, .one (.c (C.int .i64 x1))), (2, .one (.ptr 128 0)), (7, .one (.c (C.int .i64 v1))), (8, .one (.c (C.int .i64 v2)))], [(128, .box 50 [.c (C.int .i64 x0_0), .c (C.str x0_1), .c (C.str x0_2), .c (C.str x0_3), .c (C.row 50 x0_4), .c (C.row 25 x0_5)])], 130, 144⟩ orielref12_filter_d
noncomputable def orielref12_filter_l4 (L : Lv) (k : Nat) (x0_0 : Int) (x0_1 x0_2 x0_3 : ByteArray) (x0_4 x0_5 : LL) (x1 : Int) (m0 : Nat) (v1 : Int) : Option Bool := headK noEq Try.prog (orK L) kp k 44 [.v (.agg [.c (C.int .i64 x0_0), .c (C.str x0_1), .c (C.str x0_2), .c (C.str x0_3), .c (C.row 50 x0_4), .c (C.row 25 x0_5)]), .v (.one (.c (C.int .i64 x1)))] [1, 1, 1, 1, 1, 1, 1, 1, 1, 1, 1, 0, 1, 0] [m0] ⟨[(1, .one (.c (C.int .i64 x1))), (2, .one (.ptr 128 0)), (9, .one (.c (C.int .i64 v1)))], [(128, .box 50 [.c (C.int .i64 x0_0), .c (C.str x0_1), .c (C.str x0_2), .c (C.str x0_3), .c (C.row 50 x0_4), .c (C.row 25 x0_5)])], 130, 144⟩ orielref12_filter_d
noncomputable def strat_node_attr_b (L : Lv) (k : Nat) (x0_0 x0_1 x0_2 : LL) (x0_3 x0_4 x0_5 : Int) (x0_6 x0_7 : LL) (x0_8 : Int) (x0_9 x0_10 : ByteArray) (x0_11 : LL) (x0_12 : ByteArray) (x0_13 : LL) (x1_0 x1_1 : ByteArray) : Option (ByteArray × Bool × LL × LL × LL × Int × Int × Int × LL × LL × Int × ByteArray × ByteArray × LL × ByteArray × LL) := bodyK noEq Try.prog (orK L) kp k 50 [.ref 74 [.d (C.row 25 x0_0), .d (C.row 41 x0_1), .d (C.row 3 x0_2), .d (C.int .i64 x0_3), .d (C.int .i64 x0_4), .d (C.int .i64 x0_5), .d (C.row 125 x0_6), .d (C.row 50 x0_7), .d (C.int .i64 x0_8), .d (C.str x0_9), .d (C.str x0_10), .d (C.row 68 x0_11), .d (C.str x0_12), .d (C.row 5 x0_13)] 0, .v (.agg [.c (C.str x1_0), .c (C.str x1_1)])] strat_node_attr_d
noncomputable def strat_node_attr_l0 (L : Lv) (k : Nat) (x0_0 x0_1 x0_2 : LL) (x0_3 x0_4 x0_5 : Int) (x0_6 x0_7 : LL) (x0_8 : Int) (x0_9 x0_10 : ByteArray) (x0_11 : LL) (x0_12 : ByteArray) (x0_13 : LL) (x1_0 x1_1 : ByteArray) (m0 : Nat) (v2 : Int) : Option (ByteArray × Bool × LL × LL × LL × Int × Int × Int × LL × LL × Int × ByteArray × ByteArray × LL × ByteArray × LL) := headK noEq Try.prog (orK L) kp k 50 [.ref 74 [.d (C.row 25 x0_0), .d (C.row 41 x0_1), .d (C.row 3 x0_2), .d (C.int .i64 x0_3), .d (C.int .i64 x0_4), .d (C.int .i64 x0_5), .d (C.row 125 x0_6), .d (C.row 50 x0_7), .d (C.int .i64 x0_8), .d (C.str x0_9), .d (C.str x0_10), .d (C.row 68 x0_11), .d (C.str x0_12), .d (C.row 5 x0_13)] 0, .v (.agg [.c (C.str x1_0), .c (C.str x1_1)])] [1, 0, 1, 0] [m0] ⟨[(0, .one (.ptr 0 0)), (3, .one (.ptr 129 0)), (12, .one (.c (C.row 68 x0_11))), (13, .one (.c (C.int .i64 (x0_11.length : Int)))), (14, .one (.c (C.int .i64 v2)))], [(0, .box 74 [.c (C.row 25 x0_0), .c (C.row 41 x0_1), .c (C.row 3 x0_2), .c (C.int .i64 x0_3), .c (C.int .i64 x0_4), .c (C.int .i64 x0_5), .c (C.row 125 x0_6), .c (C.row 50 x0_7), .c (C.int .i64 x0_8), .c (C.str x0_9), .c (C.str x0_10), .c (C.row 68 x0_11), .c (C.str x0_12), .c (C.row 5 x0_13)]), (129, .box 27 [.c (C.str x1_0), .c (C.str x1_1)])], 131, 31⟩ strat_node_attr_d
noncomputable def api_Filter_2_b (L : Lv) (k : Nat) (x0 x1_0 x1_1 x1_2 : LL) (x1_3 x1_4 x1_5 : Int) (x1_6 x1_7 : LL) (x1_8 : Int) (x1_9 x1_10 : ByteArray) (x1_11 : LL) (x1_12 : ByteArray) (x1_13 : LL) : Option Bool := bodyK noEq Try.prog (orK L) kp k 51 [.v (.one (.c (C.row 50 x0))), .fnr 52 true 74 [C.row 25 x1_0, C.row 41 x1_1, C.row 3 x1_2, C.int .i64 x1_3, C.int .i64 x1_4, C.int .i64 x1_5, C.row 125 x1_6, C.row 50 x1_7, C.int .i64 x1_8, C.str x1_9, C.str x1_10, C.row 68 x1_11, C.str x1_12, C.row 5 x1_13] 0] api_Filter_2_d
noncomputable def api_Filter_3_b (L : Lv) (k : Nat) (x0 x1_0 x1_1 x1_2 : LL) (x1_3 x1_4 x1_5 : Int) (x1_6 x1_7 : LL) (x1_8 : Int) (x1_9 x1_10 : ByteArray) (x1_11 : LL) (x1_12 : ByteArray) (x1_13 : LL) : Option Bool := bodyK noEq Try.prog (orK L) kp k 51 [.v (.one (.c (C.row 50 x0))), .fnr 33 true 74 [C.row 25 x1_0, C.row 41 x1_1, C.row 3 x1_2, C.int .i64 x1_3, C.int .i64 x1_4, C.int .i64 x1_5, C.row 125 x1_6, C.row 50 x1_7, C.int .i64 x1_8, C.str x1_9, C.str x1_10, C.row 68 x1_11, C.str x1_12, C.row 5 x1_13] 0] api_Filter_3_d
noncomputable def api_Path_5_b (L : Lv) (k : Nat) (x0 x1_0 x1_1 x1_2 : LL) (x1_3 x1_4 x1_5 : Int) (x1_6 x1_7 : LL) (x1_8 : Int) (x1_9 x1_10 : ByteArray) (x1_11 : LL) (x1_12 : ByteArray) (x1_13 : LL) : Option Bool := bodyK noEq Try.prog (orK L) kp k 53 [.v (.one (.c (C.row 25 x0))), .fnr 54 true 74 [C.row 25 x1_0, C.row 41 x1_1, C.row 3 x1_2, C.int .i64 x1_3, C.int .i64 x1_4, C.int .i64 x1_5, C.row 125 x1_6, C.row 50 x1_7, C.int .i64 x1_8, C.str x1_9, C.str x1_10, C.row 68 x1_11, C.str x1_12, C.row 5 x1_13] 0] api_Path_5_d
noncomputable def orielref12_named_b (L : Lv) (k : Nat) (x0_0 x0_1 : ByteArray) : Option Bool := bodyK noEq Try.prog (orK L) kp k 63 [.v (.agg [.c (C.str x0_0), .c (C.str x0_1)])] orielref12_named_d
noncomputable def orielref04_Right_b (L : Lv) (k : Nat) (x0 : ByteArray) : Option Bool := bodyK noEq Try.prog (orK L) kp k 28 [.v (.one (.c (C.str x0)))] orielref04_Right_d
noncomputable def orielref04_Right_l0 (L : Lv) (k : Nat) (x0 : ByteArray) (m0 : Nat) (v0 v1 : Int) (v2 : LL) : Option Bool := headK noEq Try.prog (orK L) kp k 28 [.v (.one (.c (C.str x0)))] [1, 1, 0, 1, 0] [m0] ⟨[(3, .one (.arr 64)), (5, .one (.c (C.int .i64 v0))), (6, .one (.c (C.int .i64 v1)))], [(64, .arr 21 false v2)], 66, 28⟩ orielref04_Right_d
noncomputable def api_Filter_4_b (L : Lv) (k : Nat) (x0 x1_0 x1_1 x1_2 : LL) (x1_3 x1_4 x1_5 : Int) (x1_6 x1_7 : LL) (x1_8 : Int) (x1_9 x1_10 : ByteArray) (x1_11 : LL) (x1_12 : ByteArray) (x1_13 : LL) : Option Int := bodyK noEq Try.prog (orK L) kp k 70 [.v (.one (.c (C.row 50 x0))), .fnr 52 true 74 [C.row 25 x1_0, C.row 41 x1_1, C.row 3 x1_2, C.int .i64 x1_3, C.int .i64 x1_4, C.int .i64 x1_5, C.row 125 x1_6, C.row 50 x1_7, C.int .i64 x1_8, C.str x1_9, C.str x1_10, C.row 68 x1_11, C.str x1_12, C.row 5 x1_13] 0] api_Filter_4_d
noncomputable def api_Filter_4_l0 (L : Lv) (k : Nat) (x0 x1_0 x1_1 x1_2 : LL) (x1_3 x1_4 x1_5 : Int) (x1_6 x1_7 : LL) (x1_8 : Int) (x1_9 x1_10 : ByteArray) (x1_11 : LL) (x1_12 : ByteArray) (x1_13 : LL) (m0 : Nat) (v3 : Int) : Option Int := headK noEq Try.prog (orK L) kp k 70 [.v (.one (.c (C.row 50 x0))), .fnr 52 true 74 [C.row 25 x1_0, C.row 41 x1_1, C.row 3 x1_2, C.int .i64 x1_3, C.int .i64 x1_4, C.int .i64 x1_5, C.row 125 x1_6, C.row 50 x1_7, C.int .i64 x1_8, C.str x1_9, C.str x1_10, C.row 68 x1_11, C.str x1_12, C.row 5 x1_13] 0] [1, 0, 1, 0] [m0] ⟨[(0, .one (.c (C.row 50 x0))), (1, .fnr 52 true 74 [C.row 25 x1_0, C.row 41 x1_1, C.row 3 x1_2, C.int .i64 x1_3, C.int .i64 x1_4, C.int .i64 x1_5, C.row 125 x1_6, C.row 50 x1_7, C.int .i64 x1_8, C.str x1_9, C.str x1_10, C.row 68 x1_11, C.str x1_12, C.row 5 x1_13] 0), (7, .one (.c (C.int .i64 (x0.length : Int)))), (8, .one (.c (C.int .i64 v3)))], [], 129, 19⟩ api_Filter_4_d
noncomputable def api_Filter_5_b (L : Lv) (k : Nat) (x0 x1_0 x1_1 x1_2 : LL) (x1_3 x1_4 x1_5 : Int) (x1_6 x1_7 : LL) (x1_8 : Int) (x1_9 x1_10 : ByteArray) (x1_11 : LL) (x1_12 : ByteArray) (x1_13 : LL) : Option Int := bodyK noEq Try.prog (orK L) kp k 70 [.v (.one (.c (C.row 50 x0))), .fnr 33 true 74 [C.row 25 x1_0, C.row 41 x1_1, C.row 3 x1_2, C.int .i64 x1_3, C.int .i64 x1_4, C.int .i64 x1_5, C.row 125 x1_6, C.row 50 x1_7, C.int .i64 x1_8, C.str x1_9, C.str x1_10, C.row 68 x1_11, C.str x1_12, C.row 5 x1_13] 0] api_Filter_5_d
noncomputable def api_Filter_5_l0 (L : Lv) (k : Nat) (x0 x1_0 x1_1 x1_2 : LL) (x1_3 x1_4 x1_5 : Int) (x1_6 x1_7 : LL) (x1_8 : Int) (x1_9 x1_10 : ByteArray) (x1_11 : LL) (x1_12 : ByteArray) (x1_13 : LL) (m0 : Nat) (v3 : Int) : Option Int := headK noEq Try.prog (orK L) kp k 70 [.v (.one (.c (C.row 50 x0))), .fnr 33 true 74 [C.row 25 x1_0, C.row 41 x1_1, C.row 3 x1_2, C.int .i64 x1_3, C.int .i64 x1_4, C.int .i64 x1_5, C.row 125 x1_6, C.row 50 x1_7, C.int .i64 x1_8, C.str x1_9, C.str x1_10, C.row 68 x1_11, C.str x1_12, C.row 5 x1_13] 0] [1, 0, 1, 0] [m0] ⟨[(0, .one (.c (C.row 50 x0))), (1, .fnr 33 true 74 [C.row 25 x1_0, C.row 41 x1_1, C.row 3 x1_2, C.int .i64 x1_3, C.int .i64 x1_4, C.int .i64 x1_5, C.row 125 x1_6, C.row 50 x1_7, C.int .i64 x1_8, C.str x1_9, C.str x1_10, C.row 68 x1_11, C.str x1_12, C.row 5 x1_13] 0), (7, .one (.c (C.int .i64 (x0.length : Int)))), (8, .one (.c (C.int .i64 v3)))], [], 129, 19⟩ api_Filter_5_d
noncomputable def api_Path_6_b (L : Lv) (k : Nat) (x0 x1_0 x1_1 x1_2 : LL) (x1_3 x1_4 x1_5 : Int) (x1_6 x1_7 : LL) (x1_8 : Int) (x1_9 x1_10 : ByteArray) (x1_11 : LL) (x1_12 : ByteArray) (x1_13 : LL) : Option Int := bodyK noEq Try.prog (orK L) kp k 36 [.v (.one (.c (C.row 25 x0))), .fnr 54 true 74 [C.row 25 x1_0, C.row 41 x1_1, C.row 3 x1_2, C.int .i64 x1_3, C.int .i64 x1_4, C.int .i64 x1_5, C.row 125 x1_6, C.row 50 x1_7, C.int .i64 x1_8, C.str x1_9, C.str x1_10, C.row 68 x1_11, C.str x1_12, C.row 5 x1_13] 0] api_Path_6_d
noncomputable def api_Path_6_l0 (L : Lv) (k : Nat) (x0 x1_0 x1_1 x1_2 : LL) (x1_3 x1_4 x1_5 : Int) (x1_6 x1_7 : LL) (x1_8 : Int) (x1_9 x1_10 : ByteArray) (x1_11 : LL) (x1_12 : ByteArray) (x1_13 : LL) (m0 : Nat) (v3 : Int) : Option Int := headK noEq Try.prog (orK L) kp k 36 [.v (.one (.c (C.row 25 x0))), .fnr 54 true 74 [C.row 25 x1_0, C.row 41 x1_1, C.row 3 x1_2, C.int .i64 x1_3, C.int .i64 x1_4, C.int .i64 x1_5, C.row 125 x1_6, C.row 50 x1_7, C.int .i64 x1_8, C.str x1_9, C.str x1_10, C.row 68 x1_11, C.str x1_12, C.row 5 x1_13] 0] [1, 0, 1, 0] [m0] ⟨[(0, .one (.c (C.row 25 x0))), (1, .fnr 54 true 74 [C.row 25 x1_0, C.row 41 x1_1, C.row 3 x1_2, C.int .i64 x1_3, C.int .i64 x1_4, C.int .i64 x1_5, C.row 125 x1_6, C.row 50 x1_7, C.int .i64 x1_8, C.str x1_9, C.str x1_10, C.row 68 x1_11, C.str x1_12, C.row 5 x1_13] 0), (7, .one (.c (C.int .i64 (x0.length : Int)))), (8, .one (.c (C.int .i64 v3)))], [], 129, 19⟩ api_Path_6_d
noncomputable def orielref03_Plain_b (L : Lv) (k : Nat) (x0 : ByteArray) : Option Bool := bodyK noEq Try.prog (orK L) kp k 47 [.v (.one (.c (C.str x0)))] orielref03_Plain_d
noncomputable def orielref03_Plain_l0 (L : Lv) (k : Nat) (x0 : ByteArray) (m0 : Nat) (v1 : Int) : Option Bool := headK noEq Try.prog (orK L) kp k 47 [.v (.one (.c (C.str x0)))] [1, 1, 1, 0, 1, 0] [m0] ⟨[(3, .one (.c (C.row 21 (runesRow x0)))), (4, .one (.c (C.int .i64 v1)))], [], 65, 31⟩ orielref03_Plain_d
noncomputable def orielref01_All_b (L : Lv) (k : Nat) (x0 : ByteArray) : Option (LL × Int × Int) := bodyK noEq Try.prog (orK L) kp k 45 [.v (.one (.c (C.str x0)))] orielref01_All_d
noncomputable def orielref01_All_l0 (L : Lv) (k : Nat) (x0 : ByteArray) (m0 : Nat) : Option (LL × Int × Int) := headK noEq Try.prog (orK L) kp k 45 [.v (.one (.c (C.str x0)))] [1, 1, 1, 0, 0] [m0] ⟨[(0, .one (.c (C.str x0))), (5, .one (.c (C.nil 21))), (6, .one (.c (C.int .i64 0)))], [], 65, 36⟩ orielref01_All_d
noncomputable def orielref01_All_l1 (L : Lv) (k : Nat) (x0 : ByteArray) (m0 : Nat) (v1 : Int) (v2 : LL) : Option (LL × Int × Int) := headK noEq Try.prog (orK L) kp k 45 [.v (.one (.c (C.str x0)))] [1, 1, 1, 0, 0] [m0] ⟨[(0, .one (.c (C.str x0))), (5, .one (.arr 64)), (6, .one (.c (C.int .i64 v1)))], [(64, .arr 21 false v2)], 66, 36⟩ orielref01_All_d
noncomputable def strat_node_fails_b (L : Lv) (k : Nat) (x0_0 x0_1 x0_2 : LL) (x0_3 x0_4 x0_5 : Int) (x0_6 x0_7 : LL) (x0_8 : Int) (x0_9 x0_10 : ByteArray) (x0_11 : LL) (x0_12 : ByteArray) (x0_13 : LL) (x1_0 : Int) (x1_1 x1_2 x1_3 : ByteArray) (x1_4 x1_5 : LL) : Option Bool := bodyK noEq Try.prog (orK L) kp k 52 [.rop 74 [C.row 25 x0_0, C.row 41 x0_1, C.row 3 x0_2, C.int .i64 x0_3, C.int .i64 x0_4, C.int .i64 x0_5, C.row 125 x0_6, C.row 50 x0_7, C.int .i64 x0_8, C.str x0_9, C.str x0_10, C.row 68 x0_11, C.str x0_12, C.row 5 x0_13] 0, .v (.agg [.c (C.int .i64 x1_0), .c (C.str x1_1), .c (C.str x1_2), .c (C.str x1_3), .c (C.row 50 x1_4), .c (C.row 25 x1_5)])] strat_node_fails_d
noncomputable def strat_node_holds_2_b (L : Lv) (k : Nat) (x0_0 x0_1 x0_2 : LL) (x0_3 x0_4 x0_5 : Int) (x0_6 x0_7 : LL) (x0_8 : Int) (x0_9 x0_10 : ByteArray) (x0_11 : LL) (x0_12 : ByteArray) (x0_13 : LL) (x1_0 : Int) (x1_1 x1_2 x1_3 : ByteArray) (x1_4 x1_5 : LL) : Option Bool := bodyK noEq Try.prog (orK L) kp k 33 [.rop 74 [C.row 25 x0_0, C.row 41 x0_1, C.row 3 x0_2, C.int .i64 x0_3, C.int .i64 x0_4, C.int .i64 x0_5, C.row 125 x0_6, C.row 50 x0_7, C.int .i64 x0_8, C.str x0_9, C.str x0_10, C.row 68 x0_11, C.str x0_12, C.row 5 x0_13] 0, .v (.agg [.c (C.int .i64 x1_0), .c (C.str x1_1), .c (C.str x1_2), .c (C.str x1_3), .c (C.row 50 x1_4), .c (C.row 25 x1_5)])] strat_node_holds_2_d
noncomputable def strat_node_leads_b (L : Lv) (k : Nat) (x0_0 x0_1 x0_2 : LL) (x0_3 x0_4 x0_5 : Int) (x0_6 x0_7 : LL) (x0_8 : Int) (x0_9 x0_10 : ByteArray) (x0_11 : LL) (x0_12 : ByteArray) (x0_13 : LL) (x1_0 : Int) (x1_1 x1_2 : LL) : Option Bool := bodyK noEq Try.prog (orK L) kp k 54 [.rop 74 [C.row 25 x0_0, C.row 41 x0_1, C.row 3 x0_2, C.int .i64 x0_3, C.int .i64 x0_4, C.int .i64 x0_5, C.row 125 x0_6, C.row 50 x0_7, C.int .i64 x0_8, C.str x0_9, C.str x0_10, C.row 68 x0_11, C.str x0_12, C.row 5 x0_13] 0, .v (.agg [.c (C.int .i64 x1_0), .c (C.row 25 x1_1), .c (C.row 50 x1_2)])] strat_node_leads_d
noncomputable def orielref02_Start_b (L : Lv) (k : Nat) (x0 : Int) : Option Bool := bodyK noEq Try.prog (orK L) kp k 66 [.v (.one (.c (C.int .i64 x0)))] orielref02_Start_d
noncomputable def orielref01_Rune_b (L : Lv) (k : Nat) (x0 : ByteArray) (x1 : Int) : Option (Int × Int × Int) := bodyK noEq Try.prog (orK L) kp k 64 [.v (.one (.c (C.str x0))), .v (.one (.c (C.int .i64 x1)))] orielref01_Rune_d
noncomputable def orielref01_Rune_l0 (L : Lv) (k : Nat) (x0 : ByteArray) (x1 : Int) (m0 : Nat) (v2 : Int) : Option (Int × Int × Int) := headK noEq Try.prog (orK L) kp k 64 [.v (.one (.c (C.str x0))), .v (.one (.c (C.int .i64 x1)))] [1, 1, 0, 1, 0] [m0] ⟨[(0, .one (.c (C.str x0))), (1, .one (.c (C.int .i64 x1))), (7, .one (.c (C.int .i64 v2)))], [], 129, 57⟩ orielref01_Rune_d
noncomputable def strat_node_attr_2_b (L : Lv) (k : Nat) (x0_0 x0_1 x0_2 : LL) (x0_3 x0_4 x0_5 : Int) (x0_6 x0_7 : LL) (x0_8 : Int) (x0_9 x0_10 : ByteArray) (x0_11 : LL) (x0_12 : ByteArray) (x0_13 : LL) (x1_0 x1_1 : ByteArray) : Option (ByteArray × Bool) := bodyK noEq Try.prog (orK L) kp k 50 [.rop 74 [C.row 25 x0_0, C.row 41 x0_1, C.row 3 x0_2, C.int .i64 x0_3, C.int .i64 x0_4, C.int .i64 x0_5, C.row 125 x0_6, C.row 50 x0_7, C.int .i64 x0_8, C.str x0_9, C.str x0_10, C.row 68 x0_11, C.str x0_12, C.row 5 x0_13] 0, .v (.agg [.c (C.str x1_0), .c (C.str x1_1)])] strat_node_attr_2_d
noncomputable def strat_node_attr_2_l0 (L : Lv) (k : Nat) (x0_0 x0_1 x0_2 : LL) (x0_3 x0_4 x0_5 : Int) (x0_6 x0_7 : LL) (x0_8 : Int) (x0_9 x0_10 : ByteArray) (x0_11 : LL) (x0_12 : ByteArray) (x0_13 : LL) (x1_0 x1_1 : ByteArray) (m0 : Nat) (v3 : Int) : Option (ByteArray × Bool) := headK noEq Try.prog (orK L) kp k 50 [.rop 74 [C.row 25 x0_0, C.row 41 x0_1, C.row 3 x0_2, C.int .i64 x0_3, C.int .i64 x0_4, C.int .i64 x0_5, C.row 125 x0_6, C.row 50 x0_7, C.int .i64 x0_8, C.str x0_9, C.str x0_10, C.row 68 x0_11, C.str x0_12, C.row 5 x0_13] 0, .v (.agg [.c (C.str x1_0), .c (C.str x1_1)])] [1, 0, 1, 0] [m0] ⟨[(0, .one (.rop 74 [C.row 25 x0_0, C.row 41 x0_1, C.row 3 x0_2, C.int .i64 x0_3, C.int .i64 x0_4, C.int .i64 x0_5, C.row 125 x0_6, C.row 50 x0_7, C.int .i64 x0_8, C.str x0_9, C.str x0_10, C.row 68 x0_11, C.str x0_12, C.row 5 x0_13] 0)), (3, .one (.ptr 128 0)), (12, .one (.c (C.row 68 x0_11))), (13, .one (.c (C.int .i64 (x0_11.length : Int)))), (14, .one (.c (C.int .i64 v3)))], [(128, .box 27 [.c (C.str x1_0), .c (C.str x1_1)])], 130, 31⟩ strat_node_attr_2_d
noncomputable def orielref01_Put_b (L : Lv) (k : Nat) (x0 : Int) : Option LL := bodyK noEq Try.prog (orK L) kp k 81 [.v (.one (.c (C.int .i64 x0)))] orielref01_Put_d
noncomputable def orielref01_cut_b (L : Lv) (k : Nat) (x0 : ByteArray) (x1 : Int) : Option Bool := bodyK noEq Try.prog (orK L) kp k 83 [.v (.one (.c (C.str x0))), .v (.one (.c (C.int .i64 x1)))] orielref01_cut_d
noncomputable def orielref01_cut_l0 (L : Lv) (k : Nat) (x0 : ByteArray) (x1 : Int) (m0 : Nat) (v3 : Int) : Option Bool := headK noEq Try.prog (orK L) kp k 83 [.v (.one (.c (C.str x0))), .v (.one (.c (C.int .i64 x1)))] [1, 1, 1, 0, 1, 0] [m0] ⟨[(0, .one (.c (C.str x0))), (1, .one (.c (C.int .i64 x1))), (5, .one (.c (C.int .i64 (IntKind.i64.wrap ((x0.size : Int) - x1))))), (6, .one (.c (C.int .i64 v3)))], [], 129, 156⟩ orielref01_cut_d
noncomputable def orielref01_cut_l1 (L : Lv) (k : Nat) (x0 : ByteArray) (x1 : Int) (m0 m1 : Nat) (v3 : Int) (v5 v6 : ByteArray) : Option Bool := headK noEq Try.prog (orK L) kp k 83 [.v (.one (.c (C.str x0))), .v (.one (.c (C.int .i64 x1)))] [1, 1, 1, 0, 1, 0, 0, 1, 0, 0, 1, 1, 1, 0, 0] [m0, m1] ⟨[(0, .one (.c (C.str x0))), (1, .one (.c (C.int .i64 x1))), (5, .one (.c (C.int .i64 (IntKind.i64.wrap ((x0.size : Int) - x1))))), (6, .one (.c (C.int .i64 v3))), (7, .one (.c (C.str (x0.extract x1.toNat ((x0.size : Int).toNat))))), (8, .one (.c (C.str v5))), (9, .one (.c (C.str v6)))], [], 129, 156⟩ orielref01_cut_d
noncomputable def orielref01_cut_l2 (L : Lv) (k : Nat) (x0 : ByteArray) (x1 : Int) (m0 m1 : Nat) (v3 v5 v6 : Int) (v7 : Bool) (v8 : Int) : Option Bool := headK noEq Try.prog (orK L) kp k 83 [.v (.one (.c (C.str x0))), .v (.one (.c (C.int .i64 x1)))] [1, 1, 1, 0, 1, 0, 0, 1, 0, 0, 1, 1, 1, 1, 1, 1, 1, 0, 1, 0] [m0, m1] ⟨[(0, .one (.c (C.str x0))), (1, .one (.c (C.int .i64 x1))), (5, .one (.c (C.int .i64 (IntKind.i64.wrap ((x0.size : Int) - x1))))), (6, .one (.c (C.int .i64 v3))), (7, .one (.c (C.str (x0.extract x1.toNat ((x0.size : Int).toNat))))), (10, .one (.c (C.int .i64 v5))), (11, .one (.c (C.int .i64 v6))), (12, .one (.c (C.bool v7))), (13, .one (.c (C.int .i64 v8)))], [], 129, 156⟩ orielref01_cut_d
noncomputable def orielref01_cut_l3 (L : Lv) (k : Nat) (x0 : ByteArray) (x1 : Int) (m0 : Nat) (v3 v5 v6 : Int) (v7 v8 : Bool) : Option Bool := headK noEq Try.prog (orK L) kp k 83 [.v (.one (.c (C.str x0))), .v (.one (.c (C.int .i64 x1)))] [1, 1, 1, 0, 1, 0, 0, 1, 0, 0, 1, 1, 1, 1, 1, 1, 1, 1, 1, 0, 0] [m0] ⟨[(0, .one (.c (C.str x0))), (1, .one (.c (C.int .i64 x1))), (5, .one (.c (C.int .i64 (IntKind.i64.wrap ((x0.size : Int) - x1))))), (6, .one (.c (C.int .i64 v3))), (7, .one (.c (C.str (x0.extract x1.toNat ((x0.size : Int).toNat))))), (10, .one (.c (C.int .i64 v5))), (11, .one (.c (C.int .i64 v6))), (12, .one (.c (C.bool v7))), (14, .one (.c (C.bool v8)))], [], 129, 156⟩ orielref01_cut_d
noncomputable def orielref01_cut_l4 (L : Lv) (k : Nat) (x0 : ByteArray) (x1 : Int) (m0 m1 : Nat) (v3 v5 v6 v7 : Int) : Option Bool := headK noEq Try.prog (orK L) kp k 83 [.v (.one (.c (C.str x0))), .v (.one (.c (C.int .i64 x1)))] [1, 1, 1, 0, 1, 0, 0, 1, 0, 0, 1, 1, 1, 1, 1, 1, 1, 1, 1, 1, 1, 0] [m0, m1] ⟨[(0, .one (.c (C.str x0))), (1, .one (.c (C.int .i64 x1))), (5, .one (.c (C.int .i64 (IntKind.i64.wrap ((x0.size : Int) - x1))))), (6, .one (.c (C.int .i64 v3))), (7, .one (.c (C.str (x0.extract x1.toNat ((x0.size : Int).toNat))))), (10, .one (.c (C.int .i64 v5))), (11, .one (.c (C.int .i64 v6))), (15, .one (.c (C.int .i64 v7)))], [], 129, 156⟩ orielref01_cut_d
noncomputable def orielref01_value_b (L : Lv) (k : Nat) (x0 : ByteArray) (x1 x2 : Int) : Option Int := bodyK noEq Try.prog (orK L) kp k 80 [.v (.one (.c (C.str x0))), .v (.one (.c (C.int .i64 x1))), .v (.one (.c (C.int .i64 x2)))] orielref01_value_d
noncomputable def orielref01_value_l0 (L : Lv) (k : Nat) (x0 : ByteArray) (x1 x2 : Int) (m0 : Nat) (v3 v4 : Int) : Option Int := headK noEq Try.prog (orK L) kp k 80 [.v (.one (.c (C.str x0))), .v (.one (.c (C.int .i64 x1))), .v (.one (.c (C.int .i64 x2)))] [1, 1, 0, 1, 0] [m0] ⟨[(0, .one (.c (C.str x0))), (1, .one (.c (C.int .i64 x1))), (2, .one (.c (C.int .i64 x2))), (7, .one (.c (C.int .i64 v3))), (8, .one (.c (C.int .i64 v4)))], [], 193, 54⟩ orielref01_value_d
noncomputable def orielref01_value_l1 (L : Lv) (k : Nat) (x0 : ByteArray) (x1 x2 : Int) (m0 : Nat) (v3 v4 v5 : Int) : Option Int := headK noEq Try.prog (orK L) kp k 80 [.v (.one (.c (C.str x0))), .v (.one (.c (C.int .i64 x1))), .v (.one (.c (C.int .i64 x2)))] [1, 1, 0, 1, 0, 0, 1, 0, 0, 1, 1, 1, 0, 0] [m0] ⟨[(0, .one (.c (C.str x0))), (1, .one (.c (C.int .i64 x1))), (2, .one (.c (C.int .i64 x2))), (7, .one (.c (C.int .i64 v3))), (8, .one (.c (C.int .i64 v4))), (9, .one (.c (C.int .i64 v5)))], [], 193, 54⟩ orielref01_value_d
noncomputable def orielref09_Few_b (L : Lv) (k : Nat) (x0 : LL) : Option Bool := bodyK noEq Try.prog (orK L) kp k 10 [.v (.one (.c (C.row 30 x0)))] orielref09_Few_d
noncomputable def orielref09_Few_l0 (L : Lv) (k : Nat) (x0 : LL) (m0 : Nat) (v1 v2 : Int) : Option Bool := headK noEq Try.prog (orK L) kp k 10 [.v (.one (.c (C.row 30 x0)))] [1, 1, 0, 1, 0] [m0] ⟨[(0, .one (.c (C.row 30 x0))), (3, .one (.c (C.int .i64 v1))), (4, .one (.c (C.int .i64 v2)))], [], 65, 108⟩ orielref09_Few_d
noncomputable def orielref09_Few_l1 (L : Lv) (k : Nat) (x0 : LL) (m0 m1 : Nat) (v1 v2 v3 : Int) : Option Bool := headK noEq Try.prog (orK L) kp k 10 [.v (.one (.c (C.row 30 x0)))] [1, 1, 0, 1, 0, 0, 1, 0, 0, 1, 1, 1, 0] [m0, m1] ⟨[(0, .one (.c (C.row 30 x0))), (3, .one (.c (C.int .i64 v1))), (4, .one (.c (C.int .i64 v2))), (5, .one (.c (C.int .i64 v3)))], [], 65, 108⟩ orielref09_Few_d
noncomputable def orielref02_Char_b (L : Lv) (k : Nat) (x0 : Int) : Option Bool := bodyK noEq Try.prog (orK L) kp k 46 [.v (.one (.c (C.int .i64 x0)))] orielref02_Char_d
noncomputable def orielref02_Part_b (L : Lv) (k : Nat) (x0 : Int) : Option Bool := bodyK noEq Try.prog (orK L) kp k 67 [.v (.one (.c (C.int .i64 x0)))] orielref02_Part_d
noncomputable def orielref01_begins_b (L : Lv) (k : Nat) (x0 : ByteArray) (x1 : Int) (x2 : LL) : Option Bool := bodyK noEq Try.prog (orK L) kp k 82 [.v (.one (.c (C.str x0))), .v (.one (.c (C.int .i64 x1))), .v (.one (.c (C.row 5 x2)))] orielref01_begins_d
noncomputable def orielref01_begins_l0 (L : Lv) (k : Nat) (x0 : ByteArray) (x1 : Int) (x2 : LL) (m0 : Nat) (v3 : Int) : Option Bool := headK noEq Try.prog (orK L) kp k 82 [.v (.one (.c (C.str x0))), .v (.one (.c (C.int .i64 x1))), .v (.one (.c (C.row 5 x2)))] [1, 1, 0, 1, 0] [m0] ⟨[(0, .one (.c (C.str x0))), (1, .one (.c (C.int .i64 x1))), (2, .one (.c (C.row 5 x2))), (7, .one (.c (C.int .i64 v3)))], [], 193, 36⟩ orielref01_begins_d
noncomputable def orielref02_Blank_b (L : Lv) (k : Nat) (x0 : Int) : Option Bool := bodyK noEq Try.prog (orK L) kp k 65 [.v (.one (.c (C.int .i64 x0)))] orielref02_Blank_d
noncomputable def orielref10_Whole_b (L : Lv) (k : Nat) (x0 : LL) : Option Bool := bodyK noEq Try.prog (orK L) kp k 21 [.v (.one (.c (C.row 30 x0)))] orielref10_Whole_d
noncomputable def strat_Tests_b (L : Lv) (k : Nat) (x0_0 x0_1 x0_2 : LL) (x0_3 x0_4 x0_5 : Int) (x0_6 x0_7 : LL) (x1_0 x1_1 x1_2 : Int) (x1_3 x1_4 : LL) (x2_0 : Int) (x2_1 x2_2 : ByteArray) (x2_3 : LL) (x2_4 : ByteArray) (x3 : LL) : Option LL := bodyK noEq Try.prog (orK L) kp k 16 [.v (.agg [.c (C.row 25 x0_0), .c (C.row 41 x0_1), .c (C.row 3 x0_2), .c (C.int .i64 x0_3), .c (C.int .i64 x0_4), .c (C.int .i64 x0_5), .c (C.row 125 x0_6), .c (C.row 50 x0_7)]), .v (.agg [.c (C.int .i64 x1_0), .c (C.int .i64 x1_1), .c (C.int .i64 x1_2), .c (C.row 125 x1_3), .c (C.row 50 x1_4)]), .v (.agg [.c (C.int .i64 x2_0), .c (C.str x2_1), .c (C.str x2_2), .c (C.row 68 x2_3), .c (C.str x2_4)]), .v (.one (.c (C.row 5 x3)))] strat_Tests_d
noncomputable def strat_Tests_l0 (L : Lv) (k : Nat) (x0_0 x0_1 x0_2 : LL) (x0_3 x0_4 x0_5 : Int) (x0_6 x0_7 : LL) (x1_0 x1_1 x1_2 : Int) (x1_3 x1_4 : LL) (x2_0 : Int) (x2_1 x2_2 : ByteArray) (x2_3 : LL) (x2_4 : ByteArray) (x3 : LL) (m0 : Nat) : Option LL := headK noEq Try.prog (orK L) kp k 16 [.v (.agg [.c (C.row 25 x0_0), .c (C.row 41 x0_1), .c (C.row 3 x0_2), .c (C.int .i64 x0_3), .c (C.int .i64 x0_4), .c (C.int .i64 x0_5), .c (C.row 125 x0_6), .c (C.row 50 x0_7)]), .v (.agg [.c (C.int .i64 x1_0), .c (C.int .i64 x1_1), .c (C.int .i64 x1_2), .c (C.row 125 x1_3), .c (C.row 50 x1_4)]), .v (.agg [.c (C.int .i64 x2_0), .c (C.str x2_1), .c (C.str x2_2), .c (C.row 68 x2_3), .c (C.str x2_4)]), .v (.one (.c (C.row 5 x3)))] [1, 1, 1, 0, 1, 0] [m0] ⟨[(9, .one (.ptr 256 0)), (10, .one (.c (C.nil 4))), (19, .one (.c (C.row 50 x1_4))), (20, .one (.c (C.int .i64 (x1_4.length : Int)))), (21, .one (.c (C.int .i64 0)))], [(256, .box 74 [.c (C.row 25 x0_0), .c (C.row 41 x0_1), .c (C.row 3 x0_2), .c (C.int .i64 x0_3), .c (C.int .i64 x0_4), .c (C.int .i64 x0_5), .c (C.row 125 x0_6), .c (C.row 50 x0_7), .c (C.int .i64 x2_0), .c (C.str x2_1), .c (C.str x2_2), .c (C.row 68 x2_3), .c (C.str x2_4), .c (C.row 5 x3)])], 258, 33⟩ strat_Tests_d
noncomputable def strat_Tests_l1 (L : Lv) (k : Nat) (x0_0 x0_1 x0_2 : LL) (x0_3 x0_4 x0_5 : Int) (x0_6 x0_7 : LL) (x1_0 x1_1 x1_2 : Int) (x1_3 x1_4 : LL) (x2_0 : Int) (x2_1 x2_2 : ByteArray) (x2_3 : LL) (x2_4 : ByteArray) (x3 : LL) (m0 : Nat) (v2 : Int) (v3 v4 v5 : LL) (v6 v7 v8 : Int) (v9 v10 : LL) (v11 : Int) (v12 v13 : ByteArray) (v14 : LL) (v15 : ByteArray) (v16 v17 : LL) : Option LL := headK noEq Try.prog (orK L) kp k 16 [.v (.agg [.c (C.row 25 x0_0), .c (C.row 41 x0_1), .c (C.row 3 x0_2), .c (C.int .i64 x0_3), .c (C.int .i64 x0_4), .c (C.int .i64 x0_5), .c (C.row 125 x0_6), .c (C.row 50 x0_7)]), .v (.agg [.c (C.int .i64 x1_0), .c (C.int .i64 x1_1), .c (C.int .i64 x1_2), .c (C.row 125 x1_3), .c (C.row 50 x1_4)]), .v (.agg [.c (C.int .i64 x2_0), .c (C.str x2_1), .c (C.str x2_2), .c (C.row 68 x2_3), .c (C.str x2_4)]), .v (.one (.c (C.row 5 x3)))] [1, 1, 1, 0, 1, 0] [m0] ⟨[(9, .one (.ptr 256 0)), (10, .one (.arr 257)), (19, .one (.c (C.row 50 x1_4))), (20, .one (.c (C.int .i64 (x1_4.length : Int)))), (21, .one (.c (C.int .i64 v2)))], [(256, .box 74 [.c (C.row 25 v3), .c (C.row 41 v4), .c (C.row 3 v5), .c (C.int .i64 v6), .c (C.int .i64 v7), .c (C.int .i64 v8), .c (C.row 125 v9), .c (C.row 50 v10), .c (C.int .i64 v11), .c (C.str v12), .c (C.str v13), .c (C.row 68 v14), .c (C.str v15), .c (C.row 5 v16)]), (257, .arr 4 false v17)], 259, 33⟩ strat_Tests_d
noncomputable def orielref05_Find_b (L : Lv) (k : Nat) (x0 : ByteArray) (x1 : Int) (x2 : ByteArray) : Option Int := bodyK noEq Try.prog (orK L) kp k 79 [.v (.one (.c (C.str x0))), .v (.one (.c (C.int .i64 x1))), .v (.one (.c (C.str x2)))] orielref05_Find_d
noncomputable def orielref05_Find_l0 (L : Lv) (k : Nat) (x0 : ByteArray) (x1 : Int) (x2 : ByteArray) (m0 : Nat) (v2 : Int) : Option Int := headK noEq Try.prog (orK L) kp k 79 [.v (.one (.c (C.str x0))), .v (.one (.c (C.int .i64 x1))), .v (.one (.c (C.str x2)))] [1, 0, 1, 0] [m0] ⟨[(0, .one (.c (C.str x0))), (2, .one (.c (C.str x2))), (7, .one (.c (C.int .i64 v2)))], [], 193, 28⟩ orielref05_Find_d
noncomputable def orielref09_Depth_b (L : Lv) (k : Nat) (x0 : LL) : Option Int := bodyK noEq Try.prog (orK L) kp k 40 [.v (.one (.c (C.row 30 x0)))] orielref09_Depth_d
noncomputable def orielref09_Depth_l0 (L : Lv) (k : Nat) (x0 : LL) (m0 : Nat) (v1 v2 : Int) : Option Int := headK noEq Try.prog (orK L) kp k 40 [.v (.one (.c (C.row 30 x0)))] [1, 1, 0, 1, 0] [m0] ⟨[(0, .one (.c (C.row 30 x0))), (3, .one (.c (C.int .i64 v1))), (4, .one (.c (C.int .i64 v2)))], [], 65, 70⟩ orielref09_Depth_d
noncomputable def orielref09_Depth_l1 (L : Lv) (k : Nat) (x0 : LL) (m0 : Nat) (v1 v2 : Int) : Option Int := headK noEq Try.prog (orK L) kp k 40 [.v (.one (.c (C.row 30 x0)))] [1, 1, 0, 1, 0, 0, 1, 0, 0, 1, 0, 0] [m0] ⟨[(0, .one (.c (C.row 30 x0))), (3, .one (.c (C.int .i64 v1))), (4, .one (.c (C.int .i64 v2)))], [], 65, 70⟩ orielref09_Depth_d
noncomputable def orielref09_Depth_l2 (L : Lv) (k : Nat) (x0 : LL) (m0 : Nat) (v1 v2 : Int) : Option Int := headK noEq Try.prog (orK L) kp k 40 [.v (.one (.c (C.row 30 x0)))] [1, 1, 0, 1, 0, 0, 1, 0, 0, 1, 1, 0, 0] [m0] ⟨[(0, .one (.c (C.row 30 x0))), (3, .one (.c (C.int .i64 v1))), (4, .one (.c (C.int .i64 v2)))], [], 65, 70⟩ orielref09_Depth_d
noncomputable def orielref09_Right_b (L : Lv) (k : Nat) (x0_0 : Int) (x0_1 x0_2 : ByteArray) (x0_3 : LL) (x0_4 : ByteArray) : Option Bool := bodyK noEq Try.prog (orK L) kp k 9 [.v (.agg [.c (C.int .i64 x0_0), .c (C.str x0_1), .c (C.str x0_2), .c (C.row 68 x0_3), .c (C.str x0_4)])] orielref09_Right_d
noncomputable def orielref09_Right_l0 (L : Lv) (k : Nat) (x0_0 : Int) (x0_1 x0_2 : ByteArray) (x0_3 : LL) (x0_4 : ByteArray) (v0 : Bool) : Option Bool := headK noEq Try.prog (orK L) kp k 9 [.v (.agg [.c (C.int .i64 x0_0), .c (C.str x0_1), .c (C.str x0_2), .c (C.row 68 x0_3), .c (C.str x0_4)])] [1, 1, 0, 0] [] ⟨[(1, .one (.ptr 64 0)), (3, .one (.c (C.bool v0)))], [(64, .box 30 [.c (C.int .i64 x0_0), .c (C.str x0_1), .c (C.str x0_2), .c (C.row 68 x0_3), .c (C.str x0_4)])], 66, 102⟩ orielref09_Right_d
noncomputable def orielref09_Right_l1 (L : Lv) (k : Nat) (x0_0 : Int) (x0_1 x0_2 : ByteArray) (x0_3 : LL) (x0_4 : ByteArray) (m0 : Nat) (v0 : Int) : Option Bool := headK noEq Try.prog (orK L) kp k 9 [.v (.agg [.c (C.int .i64 x0_0), .c (C.str x0_1), .c (C.str x0_2), .c (C.row 68 x0_3), .c (C.str x0_4)])] [1, 1, 1, 1, 1, 0, 1, 0] [m0] ⟨[(1, .one (.ptr 64 0)), (4, .one (.c (C.int .i64 v0)))], [(64, .box 30 [.c (C.int .i64 x0_0), .c (C.str x0_1), .c (C.str x0_2), .c (C.row 68 x0_3), .c (C.str x0_4)])], 66, 102⟩ orielref09_Right_d
noncomputable def orielref09_Right_l2 (L : Lv) (k : Nat) (x0_0 : Int) (x0_1 x0_2 : ByteArray) (x0_3 : LL) (x0_4 : ByteArray) (m0 m1 : Nat) (v0 v1 : Int) : Option Bool := headK noEq Try.prog (orK L) kp k 9 [.v (.agg [.c (C.int .i64 x0_0), .c (C.str x0_1), .c (C.str x0_2), .c (C.row 68 x0_3), .c (C.str x0_4)])] [1, 1, 1, 1, 1, 0, 1, 0, 0, 1, 0, 0, 1, 1, 0] [m0, m1] ⟨[(1, .one (.ptr 64 0)), (4, .one (.c (C.int .i64 v0))), (5, .one (.c (C.int .i64 v1)))], [(64, .box 30 [.c (C.int .i64 x0_0), .c (C.str x0_1), .c (C.str x0_2), .c (C.row 68 x0_3), .c (C.str x0_4)])], 66, 102⟩ orielref09_Right_d
noncomputable def orielref09_named_b (L : Lv) (k : Nat) (x0_0 x0_1 : ByteArray) : Option Bool := bodyK noEq Try.prog (orK L) kp k 29 [.v (.agg [.c (C.str x0_0), .c (C.str x0_1)])] orielref09_named_d
noncomputable def orielref16_Make_b (L : Lv) (k : Nat) (x0 : LL) : Option (LL × LL) := bodyK noEq Try.prog (orK L) kp k 22 [.v (.one (.c (C.row 30 x0)))] orielref16_Make_d
noncomputable def orielref16_Make_l0 (L : Lv) (k : Nat) (x0 : LL) (m0 : Nat) (v1 : Int) : Option (LL × LL) := headK noEq Try.prog (orK L) kp k 22 [.v (.one (.c (C.row 30 x0)))] [1, 1, 0, 1, 0] [m0] ⟨[(0, .one (.c (C.row 30 x0))), (2, .one (.ptr 64 0)), (3, .one (.ptr 65 0)), (4, .one (.c (C.int .i64 v1)))], [(64, .box 58 [.c (C.nil 30), .c (C.nil 3)]), (65, .box 58 [.c (C.row 30 x0), .c (C.nil 3)])], 67, 26⟩ orielref16_Make_d
noncomputable def orielref16_Make_l1 (L : Lv) (k : Nat) (x0 : LL) (m0 : Nat) (v1 : Int) (v3 : LL) : Option (LL × LL) := headK noEq Try.prog (orK L) kp k 22 [.v (.one (.c (C.row 30 x0)))] [1, 1, 0, 1, 0] [m0] ⟨[(0, .one (.c (C.row 30 x0))), (2, .one (.ptr 64 0)), (3, .one (.ptr 65 0)), (4, .one (.c (C.int .i64 v1)))], [(64, .box 58 [.c (C.nil 30), .c (C.nil 3)]), (65, .box 58 [.c (C.row 30 x0), .arr 66]), (66, .arr 3 false v3)], 68, 26⟩ orielref16_Make_d
noncomputable def orielref16_From_b (L : Lv) (k : Nat) (x0_0 x0_1 : LL) (x1_0 : Int) (x1_1 x1_2 : LL) (x2 : Int) : Option LL := bodyK noEq Try.prog (orK L) kp k 23 [.v (.agg [.c (C.row 30 x0_0), .c (C.row 3 x0_1)]), .v (.agg [.c (C.int .i64 x1_0), .c (C.row 25 x1_1), .c (C.row 50 x1_2)]), .v (.one (.c (C.int .i64 x2)))] orielref16_From_d
noncomputable def orielref16_From_l0 (L : Lv) (k : Nat) (x0_0 x0_1 : LL) (x1_0 : Int) (x1_1 x1_2 : LL) (x2 : Int) (m0 : Nat) (v0 : LL) (v1 : Int) : Option LL := headK noEq Try.prog (orK L) kp k 23 [.v (.agg [.c (C.row 30 x0_0), .c (C.row 3 x0_1)]), .v (.agg [.c (C.int .i64 x1_0), .c (C.row 25 x1_1), .c (C.row 50 x1_2)]), .v (.one (.c (C.int .i64 x2)))] [1, 1, 1, 0, 1, 0] [m0] ⟨[(3, .one (.ptr 192 0)), (7, .one (.c (C.row 3 v0))), (8, .one (.c (C.nil 3))), (9, .one (.c (C.int .i64 v1)))], [(192, .box 58 [.c (C.row 30 x0_0), .c (C.row 3 x0_1)])], 194, 30⟩ orielref16_From_d
noncomputable def orielref16_From_l1 (L : Lv) (k : Nat) (x0_0 x0_1 : LL) (x1_0 : Int) (x1_1 x1_2 : LL) (x2 : Int) (m0 : Nat) (v0 : LL) (v1 : Int) (v4 : LL) : Option LL := headK noEq Try.prog (orK L) kp k 23 [.v (.agg [.c (C.row 30 x0_0), .c (C.row 3 x0_1)]), .v (.agg [.c (C.int .i64 x1_0), .c (C.row 25 x1_1), .c (C.row 50 x1_2)]), .v (.one (.c (C.int .i64 x2)))] [1, 1, 1, 0, 1, 0] [m0] ⟨[(3, .one (.ptr 192 0)), (7, .one (.c (C.row 3 v0))), (8, .one (.arr 193)), (9, .one (.c (C.int .i64 v1)))], [(192, .box 58 [.c (C.row 30 x0_0), .c (C.row 3 x0_1)]), (193, .arr 3 false v4)], 195, 30⟩ orielref16_From_d
noncomputable def orielref12_Filters_b (L : Lv) (k : Nat) (x0_0 : Int) (x0_1 x0_2 : LL) : Option LL := bodyK noEq Try.prog (orK L) kp k 13 [.v (.agg [.c (C.int .i64 x0_0), .c (C.row 25 x0_1), .c (C.row 50 x0_2)])] orielref12_Filters_d
noncomputable def orielref12_Filters_l0 (L : Lv) (k : Nat) (x0_0 : Int) (x0_1 x0_2 : LL) (m0 : Nat) : Option LL := headK noEq Try.prog (orK L) kp k 13 [.v (.agg [.c (C.int .i64 x0_0), .c (C.row 25 x0_1), .c (C.row 50 x0_2)])] [1, 1, 0, 1, 0] [m0] ⟨[(1, .one (.ptr 64 0)), (3, .one (.c (C.nil 50))), (4, .one (.c (C.int .i64 0)))], [(64, .box 25 [.c (C.int .i64 x0_0), .c (C.row 25 x0_1), .c (C.row 50 x0_2)])], 66, 37⟩ orielref12_Filters_d
noncomputable def orielref12_Filters_l1 (L : Lv) (k : Nat) (x0_0 : Int) (x0_1 x0_2 : LL) (m0 : Nat) : Option LL := headK noEq Try.prog (orK L) kp k 13 [.v (.agg [.c (C.int .i64 x0_0), .c (C.row 25 x0_1), .c (C.row 50 x0_2)])] [1, 1, 1, 0, 1, 0] [m0] ⟨[(1, .one (.ptr 64 0)), (3, .one (.c (C.nil 50))), (5, .one (.c (C.int .i64 0)))], [(64, .box 25 [.c (C.int .i64 x0_0), .c (C.row 25 x0_1), .c (C.row 50 x0_2)])], 66, 37⟩ orielref12_Filters_d
noncomputable def orielref12_Filters_l2 (L : Lv) (k : Nat) (x0_0 : Int) (x0_1 x0_2 : LL) (m0 : Nat) (v0 : Int) (v4 : LL) : Option LL := headK noEq Try.prog (orK L) kp k 13 [.v (.agg [.c (C.int .i64 x0_0), .c (C.row 25 x0_1), .c (C.row 50 x0_2)])] [1, 1, 0, 1, 0] [m0] ⟨[(1, .one (.ptr 64 0)), (3, .one (.arr 65)), (4, .one (.c (C.int .i64 v0)))], [(64, .box 25 [.c (C.int .i64 x0_0), .c (C.row 25 x0_1), .c (C.row 50 x0_2)]), (65, .arr 50 false v4)], 67, 37⟩ orielref12_Filters_d
noncomputable def orielref12_Filters_l3 (L : Lv) (k : Nat) (x0_0 : Int) (x0_1 x0_2 : LL) (m0 : Nat) (v0 : Int) (v4 : LL) : Option LL := headK noEq Try.prog (orK L) kp k 13 [.v (.agg [.c (C.int .i64 x0_0), .c (C.row 25 x0_1), .c (C.row 50 x0_2)])] [1, 1, 1, 0, 1, 0] [m0] ⟨[(1, .one (.ptr 64 0)), (3, .one (.arr 65)), (5, .one (.c (C.int .i64 v0)))], [(64, .box 25 [.c (C.int .i64 x0_0), .c (C.row 25 x0_1), .c (C.row 50 x0_2)]), (65, .arr 50 false v4)], 67, 37⟩ orielref12_Filters_d
noncomputable def orielref16_leads_b (L : Lv) (k : Nat) (x0_0 x0_1 : LL) (x1_0 : Int) (x1_1 x1_2 x2 : LL) : Option LL := bodyK noEq Try.prog (orK L) kp k 41 [.v (.agg [.c (C.row 30 x0_0), .c (C.row 3 x0_1)]), .v (.agg [.c (C.int .i64 x1_0), .c (C.row 25 x1_1), .c (C.row 50 x1_2)]), .v (.one (.c (C.row 3 x2)))] orielref16_leads_d
noncomputable def orielref16_leads_l0 (L : Lv) (k : Nat) (x0_0 x0_1 : LL) (x1_0 : Int) (x1_1 x1_2 x2 : LL) (m0 : Nat) (v0 : LL) (v1 : Int) : Option LL := headK noEq Try.prog (orK L) kp k 41 [.v (.agg [.c (C.row 30 x0_0), .c (C.row 3 x0_1)]), .v (.agg [.c (C.int .i64 x1_0), .c (C.row 25 x1_1), .c (C.row 50 x1_2)]), .v (.one (.c (C.row 3 x2)))] [1, 1, 0, 1, 0, 0, 1, 0] [m0] ⟨[(2, .one (.c (C.row 3 v0))), (3, .one (.ptr 192 0)), (4, .one (.ptr 193 0)), (7, .one (.c (C.int .i64 v1)))], [(192, .box 58 [.c (C.row 30 x0_0), .c (C.row 3 x0_1)]), (193, .box 25 [.c (C.int .i64 x1_0), .c (C.row 25 x1_1), .c (C.row 50 x1_2)])], 195, 189⟩ orielref16_leads_d
noncomputable def orielref16_leads_l1 (L : Lv) (k : Nat) (x0_0 x0_1 : LL) (x1_0 : Int) (x1_1 x1_2 x2 : LL) (m0 : Nat) : Option LL := headK noEq Try.prog (orK L) kp k 41 [.v (.agg [.c (C.row 30 x0_0), .c (C.row 3 x0_1)]), .v (.agg [.c (C.int .i64 x1_0), .c (C.row 25 x1_1), .c (C.row 50 x1_2)]), .v (.one (.c (C.row 3 x2)))] [1, 1, 1, 1, 0, 1, 0, 1, 0, 1, 0] [m0] ⟨[(3, .one (.ptr 192 0)), (4, .one (.ptr 193 0)), (8, .one (.arr 194)), (9, .one (.c (C.int .i64 0)))], [(192, .box 58 [.c (C.row 30 x0_0), .c (C.row 3 x0_1)]), (193, .box 25 [.c (C.int .i64 x1_0), .c (C.row 25 x1_1), .c (C.row 50 x1_2)]), (194, .arr 3 false x2)], 196, 189⟩ orielref16_leads_d
noncomputable def orielref16_leads_l2 (L : Lv) (k : Nat) (x0_0 x0_1 : LL) (x1_0 : Int) (x1_1 x1_2 x2 : LL) (m0 : Nat) (v1 : Int) : Option LL := headK noEq Try.prog (orK L) kp k 41 [.v (.agg [.c (C.row 30 x0_0), .c (C.row 3 x0_1)]), .v (.agg [.c (C.int .i64 x1_0), .c (C.row 25 x1_1), .c (C.row 50 x1_2)]), .v (.one (.c (C.row 3 x2)))] [1, 1, 1, 1, 1, 0, 1, 0] [m0] ⟨[(2, .one (.c (C.row 3 x2))), (3, .one (.ptr 192 0)), (4, .one (.ptr 193 0)), (8, .one (.c (C.nil 3))), (12, .one (.c (C.int .i64 v1)))], [(192, .box 58 [.c (C.row 30 x0_0), .c (C.row 3 x0_1)]), (193, .box 25 [.c (C.int .i64 x1_0), .c (C.row 25 x1_1), .c (C.row 50 x1_2)])], 195, 189⟩ orielref16_leads_d
noncomputable def orielref16_leads_l3 (L : Lv) (k : Nat) (x0_0 x0_1 : LL) (x1_0 : Int) (x1_1 x1_2 x2 : LL) (m0 m1 : Nat) (v0 : Int) (v1 : LL) (v2 : Int) (v8 : LL) : Option LL := headK noEq Try.prog (orK L) kp k 41 [.v (.agg [.c (C.row 30 x0_0), .c (C.row 3 x0_1)]), .v (.agg [.c (C.int .i64 x1_0), .c (C.row 25 x1_1), .c (C.row 50 x1_2)]), .v (.one (.c (C.row 3 x2)))] [1, 1, 1, 1, 0, 1, 0, 1, 0, 1, 0, 0, 1, 0, 0, 1, 1, 0] [m0, m1] ⟨[(3, .one (.ptr 192 0)), (4, .one (.ptr 193 0)), (8, .one (.arr 194)), (9, .one (.c (C.int .i64 v0))), (10, .one (.c (C.row 3 v1))), (11, .one (.c (C.int .i64 v2)))], [(192, .box 58 [.c (C.row 30 x0_0), .c (C.row 3 x0_1)]), (193, .box 25 [.c (C.int .i64 x1_0), .c (C.row 25 x1_1), .c (C.row 50 x1_2)]), (194, .arr 3 true v8)], 196, 189⟩ orielref16_leads_d
noncomputable def orielref16_leads_l4 (L : Lv) (k : Nat) (x0_0 x0_1 : LL) (x1_0 : Int) (x1_1 x1_2 x2 : LL) (m0 : Nat) (v1 : Int) : Option LL := headK noEq Try.prog (orK L) kp k 41 [.v (.agg [.c (C.row 30 x0_0), .c (C.row 3 x0_1)]), .v (.agg [.c (C.int .i64 x1_0), .c (C.row 25 x1_1), .c (C.row 50 x1_2)]), .v (.one (.c (C.row 3 x2)))] [1, 1, 1, 1, 1, 0, 1, 0, 0, 1, 0, 0, 1, 0, 0] [m0] ⟨[(2, .one (.c (C.row 3 x2))), (3, .one (.ptr 192 0)), (4, .one (.ptr 193 0)), (8, .one (.c (C.nil 3))), (12, .one (.c (C.int .i64 v1)))], [(192, .box 58 [.c (C.row 30 x0_0), .c (C.row 3 x0_1)]), (193, .box 25 [.c (C.int .i64 x1_0), .c (C.row 25 x1_1), .c (C.row 50 x1_2)])], 195, 189⟩ orielref16_leads_d
noncomputable def orielref16_leads_l5 (L : Lv) (k : Nat) (x0_0 x0_1 : LL) (x1_0 : Int) (x1_1 x1_2 x2 : LL) (m0 : Nat) (v1 : Int) : Option LL := headK noEq Try.prog (orK L) kp k 41 [.v (.agg [.c (C.row 30 x0_0), .c (C.row 3 x0_1)]), .v (.agg [.c (C.int .i64 x1_0), .c (C.row 25 x1_1), .c (C.row 50 x1_2)]), .v (.one (.c (C.row 3 x2)))] [1, 1, 1, 1, 1, 1, 0, 1, 0] [m0] ⟨[(2, .one (.c (C.row 3 x2))), (3, .one (.ptr 192 0)), (4, .one (.ptr 193 0)), (8, .one (.c (C.nil 3))), (13, .one (.c (C.int .i64 v1)))], [(192, .box 58 [.c (C.row 30 x0_0), .c (C.row 3 x0_1)]), (193, .box 25 [.c (C.int .i64 x1_0), .c (C.row 25 x1_1), .c (C.row 50 x1_2)])], 195, 189⟩ orielref16_leads_d
noncomputable def orielref16_leads_l6 (L : Lv) (k : Nat) (x0_0 x0_1 : LL) (x1_0 : Int) (x1_1 x1_2 x2 : LL) (m0 : Nat) (v0 : Int) (v6 : LL) : Option LL := headK noEq Try.prog (orK L) kp k 41 [.v (.agg [.c (C.row 30 x0_0), .c (C.row 3 x0_1)]), .v (.agg [.c (C.int .i64 x1_0), .c (C.row 25 x1_1), .c (C.row 50 x1_2)]), .v (.one (.c (C.row 3 x2)))] [1, 1, 1, 1, 0, 1, 0, 1, 0, 1, 0] [m0] ⟨[(3, .one (.ptr 192 0)), (4, .one (.ptr 193 0)), (8, .one (.arr 194)), (9, .one (.c (C.int .i64 v0)))], [(192, .box 58 [.c (C.row 30 x0_0), .c (C.row 3 x0_1)]), (193, .box 25 [.c (C.int .i64 x1_0), .c (C.row 25 x1_1), .c (C.row 50 x1_2)]), (194, .arr 3 true v6)], 196, 189⟩ orielref16_leads_d
noncomputable def orielref16_leads_l7 (L : Lv) (k : Nat) (x0_0 x0_1 : LL) (x1_0 : Int) (x1_1 x1_2 x2 : LL) (m0 : Nat) (v1 : Int) : Option LL := headK noEq Try.prog (orK L) kp k 41 [.v (.agg [.c (C.row 30 x0_0), .c (C.row 3 x0_1)]), .v (.agg [.c (C.int .i64 x1_0), .c (C.row 25 x1_1), .c (C.row 50 x1_2)]), .v (.one (.c (C.row 3 x2)))] [1, 1, 1, 1, 1, 0, 1, 0, 0, 1, 0, 0, 1, 1, 0] [m0] ⟨[(2, .one (.c (C.row 3 x2))), (3, .one (.ptr 192 0)), (4, .one (.ptr 193 0)), (8, .one (.c (C.nil 3))), (12, .one (.c (C.int .i64 v1)))], [(192, .box 58 [.c (C.row 30 x0_0), .c (C.row 3 x0_1)]), (193, .box 25 [.c (C.int .i64 x1_0), .c (C.row 25 x1_1), .c (C.row 50 x1_2)])], 195, 189⟩ orielref16_leads_d
noncomputable def orielref16_leads_l8 (L : Lv) (k : Nat) (x0_0 x0_1 : LL) (x1_0 : Int) (x1_1 x1_2 x2 : LL) (m0 m1 : Nat) (v1 : Int) (v2 : LL) (v3 : Int) : Option LL := headK noEq Try.prog (orK L) kp k 41 [.v (.agg [.c (C.row 30 x0_0), .c (C.row 3 x0_1)]), .v (.agg [.c (C.int .i64 x1_0), .c (C.row 25 x1_1), .c (C.row 50 x1_2)]), .v (.one (.c (C.row 3 x2)))] [1, 1, 1, 1, 1, 1, 0, 1, 0, 0, 1, 0, 0, 1, 1, 0] [m0, m1] ⟨[(2, .one (.c (C.row 3 x2))), (3, .one (.ptr 192 0)), (4, .one (.ptr 193 0)), (8, .one (.c (C.nil 3))), (13, .one (.c (C.int .i64 v1))), (14, .one (.c (C.row 3 v2))), (15, .one (.c (C.int .i64 v3)))], [(192, .box 58 [.c (C.row 30 x0_0), .c (C.row 3 x0_1)]), (193, .box 25 [.c (C.int .i64 x1_0), .c (C.row 25 x1_1), .c (C.row 50 x1_2)])], 195, 189⟩ orielref16_leads_d
noncomputable def orielref16_leads_l9 (L : Lv) (k : Nat) (x0_0 x0_1 : LL) (x1_0 : Int) (x1_1 x1_2 x2 : LL) (m0 : Nat) (v1 : Int) (v7 : LL) : Option LL := headK noEq Try.prog (orK L) kp k 41 [.v (.agg [.c (C.row 30 x0_0), .c (C.row 3 x0_1)]), .v (.agg [.c (C.int .i64 x1_0), .c (C.row 25 x1_1), .c (C.row 50 x1_2)]), .v (.one (.c (C.row 3 x2)))] [1, 1, 1, 1, 1, 0, 1, 0, 0, 1, 0, 0, 1, 0, 0] [m0] ⟨[(2, .one (.c (C.row 3 x2))), (3, .one (.ptr 192 0)), (4, .one (.ptr 193 0)), (8, .one (.arr 194)), (12, .one (.c (C.int .i64 v1)))], [(192, .box 58 [.c (C.row 30 x0_0), .c (C.row 3 x0_1)]), (193, .box 25 [.c (C.int .i64 x1_0), .c (C.row 25 x1_1), .c (C.row 50 x1_2)]), (194, .arr 3 false v7)], 196, 189⟩ orielref16_leads_d
noncomputable def orielref16_leads_l10 (L : Lv) (k : Nat) (x0_0 x0_1 : LL) (x1_0 : Int) (x1_1 x1_2 x2 : LL) (m0 : Nat) (v1 : Int) (v7 : LL) : Option LL := headK noEq Try.prog (orK L) kp k 41 [.v (.agg [.c (C.row 30 x0_0), .c (C.row 3 x0_1)]), .v (.agg [.c (C.int .i64 x1_0), .c (C.row 25 x1_1), .c (C.row 50 x1_2)]), .v (.one (.c (C.row 3 x2)))] [1, 1, 1, 1, 1, 0, 1, 0, 0, 1, 0, 0, 1, 1, 0] [m0] ⟨[(2, .one (.c (C.row 3 x2))), (3, .one (.ptr 192 0)), (4, .one (.ptr 193 0)), (8, .one (.arr 194)), (12, .one (.c (C.int .i64 v1)))], [(192, .box 58 [.c (C.row 30 x0_0), .c (C.row 3 x0_1)]), (193, .box 25 [.c (C.int .i64 x1_0), .c (C.row 25 x1_1), .c (C.row 50 x1_2)]), (194, .arr 3 false v7)], 196, 189⟩ orielref16_leads_d
noncomputable def orielref16_leads_l11 (L : Lv) (k : Nat) (x0_0 x0_1 : LL) (x1_0 : Int) (x1_1 x1_2 x2 : LL) (m0 : Nat) (v1 : Int) (v7 : LL) : Option LL := headK noEq Try.prog (orK L) kp k 41 [.v (.agg [.c (C.row 30 x0_0), .c (C.row 3 x0_1)]), .v (.agg [.c (C.int .i64 x1_0), .c (C.row 25 x1_1), .c (C.row 50 x1_2)]), .v (.one (.c (C.row 3 x2)))] [1, 1, 1, 1, 1, 0, 1, 0] [m0] ⟨[(2, .one (.c (C.row 3 x2))), (3, .one (.ptr 192 0)), (4, .one (.ptr 193 0)), (8, .one (.arr 194)), (12, .one (.c (C.int .i64 v1)))], [(192, .box 58 [.c (C.row 30 x0_0), .c (C.row 3 x0_1)]), (193, .box 25 [.c (C.int .i64 x1_0), .c (C.row 25 x1_1), .c (C.row 50 x1_2)]), (194, .arr 3 false v7)], 196, 189⟩ orielref16_leads_d
noncomputable def orielref16_leads_l12 (L : Lv) (k : Nat) (x0_0 x0_1 : LL) (x1_0 : Int) (x1_1 x1_2 x2 : LL) (m0 m1 : Nat) (v1 : Int) (v2 : LL) (v3 : Int) (v9 : LL) : Option LL := headK noEq Try.prog (orK L) kp k 41 [.v (.agg [.c (C.row 30 x0_0), .c (C.row 3 x0_1)]), .v (.agg [.c (C.int .i64 x1_0), .c (C.row 25 x1_1), .c (C.row 50 x1_2)]), .v (.one (.c (C.row 3 x2)))] [1, 1, 1, 1, 1, 1, 0, 1, 0, 0, 1, 0, 0, 1, 1, 0] [m0, m1] ⟨[(2, .one (.c (C.row 3 x2))), (3, .one (.ptr 192 0)), (4, .one (.ptr 193 0)), (8, .one (.arr 194)), (13, .one (.c (C.int .i64 v1))), (14, .one (.c (C.row 3 v2))), (15, .one (.c (C.int .i64 v3)))], [(192, .box 58 [.c (C.row 30 x0_0), .c (C.row 3 x0_1)]), (193, .box 25 [.c (C.int .i64 x1_0), .c (C.row 25 x1_1), .c (C.row 50 x1_2)]), (194, .arr 3 false v9)], 196, 189⟩ orielref16_leads_d
noncomputable def orielref16_leads_l13 (L : Lv) (k : Nat) (x0_0 x0_1 : LL) (x1_0 : Int) (x1_1 x1_2 x2 : LL) (m0 : Nat) (v1 : Int) (v7 : LL) : Option LL := headK noEq Try.prog (orK L) kp k 41 [.v (.agg [.c (C.row 30 x0_0), .c (C.row 3 x0_1)]), .v (.agg [.c (C.int .i64 x1_0), .c (C.row 25 x1_1), .c (C.row 50 x1_2)]), .v (.one (.c (C.row 3 x2)))] [1, 1, 1, 1, 1, 1, 0, 1, 0] [m0] ⟨[(2, .one (.c (C.row 3 x2))), (3, .one (.ptr 192 0)), (4, .one (.ptr 193 0)), (8, .one (.arr 194)), (13, .one (.c (C.int .i64 v1)))], [(192, .box 58 [.c (C.row 30 x0_0), .c (C.row 3 x0_1)]), (193, .box 25 [.c (C.int .i64 x1_0), .c (C.row 25 x1_1), .c (C.row 50 x1_2)]), (194, .arr 3 false v7)], 196, 189⟩ orielref16_leads_d
noncomputable def orielref12_within_b (L : Lv) (k : Nat) (x0_0 : Int) (x0_1 x0_2 x0_3 : ByteArray) (x0_4 x0_5 : LL) : Option LL := bodyK noEq Try.prog (orK L) kp k 32 [.v (.agg [.c (C.int .i64 x0_0), .c (C.str x0_1), .c (C.str x0_2), .c (C.str x0_3), .c (C.row 50 x0_4), .c (C.row 25 x0_5)])] orielref12_within_d
noncomputable def orielref12_within_l0 (L : Lv) (k : Nat) (x0_0 : Int) (x0_1 x0_2 x0_3 : ByteArray) (x0_4 x0_5 : LL) (m0 : Nat) (v0 : Int) (v7 : LL) : Option LL := headK noEq Try.prog (orK L) kp k 32 [.v (.agg [.c (C.int .i64 x0_0), .c (C.str x0_1), .c (C.str x0_2), .c (C.str x0_3), .c (C.row 50 x0_4), .c (C.row 25 x0_5)])] [1, 1, 0, 1, 0] [m0] ⟨[(1, .one (.ptr 64 0)), (3, .one (.arr 65)), (4, .one (.c (C.int .i64 v0)))], [(64, .box 50 [.c (C.int .i64 x0_0), .c (C.str x0_1), .c (C.str x0_2), .c (C.str x0_3), .c (C.row 50 x0_4), .c (C.row 25 x0_5)]), (65, .arr 50 false v7)], 67, 39⟩ orielref12_within_d
noncomputable def orielref12_within_l1 (L : Lv) (k : Nat) (x0_0 : Int) (x0_1 x0_2 x0_3 : ByteArray) (x0_4 x0_5 : LL) (m0 : Nat) (v0 : Int) (v7 : LL) : Option LL := headK noEq Try.prog (orK L) kp k 32 [.v (.agg [.c (C.int .i64 x0_0), .c (C.str x0_1), .c (C.str x0_2), .c (C.str x0_3), .c (C.row 50 x0_4), .c (C.row 25 x0_5)])] [1, 1, 1, 0, 1, 0] [m0] ⟨[(1, .one (.ptr 64 0)), (3, .one (.arr 65)), (5, .one (.c (C.int .i64 v0)))], [(64, .box 50 [.c (C.int .i64 x0_0), .c (C.str x0_1), .c (C.str x0_2), .c (C.str x0_3), .c (C.row 50 x0_4), .c (C.row 25 x0_5)]), (65, .arr 50 false v7)], 67, 39⟩ orielref12_within_d
noncomputable def orielref16_first_b (L : Lv) (k : Nat) (x0_0 x0_1 : LL) (x1 : Int) : Option Int := bodyK noEq Try.prog (orK L) kp k 60 [.v (.agg [.c (C.row 30 x0_0), .c (C.row 3 x0_1)]), .v (.one (.c (C.int .i64 x1)))] orielref16_first_d
noncomputable def orielref16_has_b (L : Lv) (k : Nat) (x0 : LL) (x1 : Int) : Option Bool := bodyK noEq Try.prog (orK L) kp k 42 [.v (.one (.c (C.row 3 x0))), .v (.one (.c (C.int .i64 x1)))] orielref16_has_d
noncomputable def orielref16_has_l0 (L : Lv) (k : Nat) (x0 : LL) (x1 : Int) (m0 : Nat) (v2 : Int) : Option Bool := headK noEq Try.prog (orK L) kp k 42 [.v (.one (.c (C.row 3 x0))), .v (.one (.c (C.int .i64 x1)))] [1, 0, 1, 0] [m0] ⟨[(0, .one (.c (C.row 3 x0))), (1, .one (.c (C.int .i64 x1))), (5, .one (.c (C.int .i64 v2)))], [], 129, 18⟩ orielref16_has_d
noncomputable def orielref16_next_b (L : Lv) (k : Nat) (x0_0 x0_1 : LL) (x1 : Int) : Option Int := bodyK noEq Try.prog (orK L) kp k 61 [.v (.agg [.c (C.row 30 x0_0), .c (C.row 3 x0_1)]), .v (.one (.c (C.int .i64 x1)))] orielref16_next_d
noncomputable def orielref16_Holds_b (L : Lv) (k : Nat) (x0_0 x0_1 : LL) (x1_0 : Int) (x1_1 x1_2 x1_3 : ByteArray) (x1_4 x1_5 : LL) (x2 : Int) : Option Bool := bodyK noEq Try.prog (orK L) kp k 24 [.v (.agg [.c (C.row 30 x0_0), .c (C.row 3 x0_1)]), .v (.agg [.c (C.int .i64 x1_0), .c (C.str x1_1), .c (C.str x1_2), .c (C.str x1_3), .c (C.row 50 x1_4), .c (C.row 25 x1_5)]), .v (.one (.c (C.int .i64 x2)))] orielref16_Holds_d
noncomputable def orielref16_Holds_l0 (L : Lv) (k : Nat) (x0_0 x0_1 : LL) (x1_0 : Int) (x1_1 x1_2 x1_3 : ByteArray) (x1_4 x1_5 : LL) (x2 : Int) (m0 : Nat) (v1 : Int) : Option Bool := headK noEq Try.prog (orK L) kp k 24 [.v (.agg [.c (C.row 30 x0_0), .c (C.row 3 x0_1)]), .v (.agg [.c (C.int .i64 x1_0), .c (C.str x1_1), .c (C.str x1_2), .c (C.str x1_3), .c (C.row 50 x1_4), .c (C.row 25 x1_5)]), .v (.one (.c (C.int .i64 x2)))] [1, 1, 1, 1, 1, 1, 1, 0, 1, 0, 0, 1, 0] [m0] ⟨[(4, .one (.ptr 192 0)), (7, .one (.ptr 193 0)), (8, .one (.c (C.bool ((gi (x0_0.getD ((gi (x0_1.getD x2.toNat []) 0).toNat) []) 0) == (1 : Int))))), (9, .one (.c (C.int .i64 v1)))], [(192, .box 50 [.c (C.int .i64 x1_0), .c (C.str x1_1), .c (C.str x1_2), .c (C.str x1_3), .c (C.row 50 x1_4), .c (C.row 25 x1_5)]), (193, .box 30 [.c (C.int .i64 (gi (x0_0.getD ((gi (x0_1.getD x2.toNat []) 0).toNat) []) 0)), .c (C.str (gs (x0_0.getD ((gi (x0_1.getD x2.toNat []) 0).toNat) []) 1)), .c (C.str (gs (x0_0.getD ((gi (x0_1.getD x2.toNat []) 0).toNat) []) 2)), .c (C.row 68 (gr (x0_0.getD ((gi (x0_1.getD x2.toNat []) 0).toNat) []) 3)), .c (C.str (gs (x0_0.getD ((gi (x0_1.getD x2.toNat []) 0).toNat) []) 4))])], 195, 150⟩ orielref16_Holds_d
noncomputable def orielref16_Holds_l1 (L : Lv) (k : Nat) (x0_0 x0_1 : LL) (x1_0 : Int) (x1_1 x1_2 x1_3 : ByteArray) (x1_4 x1_5 : LL) (x2 : Int) (m0 : Nat) (v1 : Int) : Option Bool := headK noEq Try.prog (orK L) kp k 24 [.v (.agg [.c (C.row 30 x0_0), .c (C.row 3 x0_1)]), .v (.agg [.c (C.int .i64 x1_0), .c (C.str x1_1), .c (C.str x1_2), .c (C.str x1_3), .c (C.row 50 x1_4), .c (C.row 25 x1_5)]), .v (.one (.c (C.int .i64 x2)))] [1, 1, 1, 1, 1, 1, 1, 1, 1, 1, 1, 0, 1, 0] [m0] ⟨[(2, .one (.c (C.int .i64 x2))), (3, .one (.ptr 192 0)), (4, .one (.ptr 193 0)), (10, .one (.c (C.int .i64 v1)))], [(192, .box 58 [.c (C.row 30 x0_0), .c (C.row 3 x0_1)]), (193, .box 50 [.c (C.int .i64 x1_0), .c (C.str x1_1), .c (C.str x1_2), .c (C.str x1_3), .c (C.row 50 x1_4), .c (C.row 25 x1_5)])], 195, 150⟩ orielref16_Holds_d
noncomputable def orielref16_number_b (L : Lv) (k : Nat) (x0_0 x0_1 : LL) (x1 : Int) : Option Int := bodyK noEq Try.prog (orK L) kp k 77 [.v (.agg [.c (C.row 30 x0_0), .c (C.row 3 x0_1)]), .v (.one (.c (C.int .i64 x1)))] orielref16_number_d
noncomputable def orielref16_number_l0 (L : Lv) (k : Nat) (x0_0 x0_1 : LL) (x1 : Int) (m0 : Nat) (v1 : Int) : Option Int := headK noEq Try.prog (orK L) kp k 77 [.v (.agg [.c (C.row 30 x0_0), .c (C.row 3 x0_1)]), .v (.one (.c (C.int .i64 x1)))] [1, 0, 1, 0] [m0] ⟨[(1, .one (.c (C.int .i64 x1))), (2, .one (.ptr 128 0)), (5, .one (.c (C.int .i64 v1)))], [(128, .box 58 [.c (C.row 30 x0_0), .c (C.row 3 x0_1)])], 130, 21⟩ orielref16_number_d
noncomputable def orielref10_End_b (L : Lv) (k : Nat) (x0 : LL) (x1 : Int) : Option Int := bodyK noEq Try.prog (orK L) kp k 78 [.v (.one (.c (C.row 30 x0))), .v (.one (.c (C.int .i64 x1)))] orielref10_End_d
noncomputable def orielref10_End_l0 (L : Lv) (k : Nat) (x0 : LL) (x1 : Int) (m0 : Nat) (v1 v2 : Int) : Option Int := headK noEq Try.prog (orK L) kp k 78 [.v (.one (.c (C.row 30 x0))), .v (.one (.c (C.int .i64 x1)))] [1, 1, 0, 1, 0] [m0] ⟨[(0, .one (.c (C.row 30 x0))), (5, .one (.c (C.int .i64 v1))), (6, .one (.c (C.int .i64 v2)))], [], 129, 36⟩ orielref10_End_d
end Go.Vm.T
